import Derived.Test.YtkichmnjjblodaaGreatPfA
set_option linter.unusedVariables false
set_option linter.unusedSimpArgs false
set_option maxRecDepth 20000
set_option maxHeartbeats 4000000
namespace Go.Proofs.YtkichmnjjblodaaGreat
open Go Go.RowKit Go.Proofs.Gw
variable {ln:Int->Int} {f:Int->Int->Int} {vv:Int->Value} {v:Value}
theorem ZbX:Zc Tryz.prog 184=true:=by kernel_rfl
theorem ZbV:Zc Tryz.prog 204=true:=by kernel_rfl
theorem KF:Zc Tryz.prog 225=true:=by kernel_rfl
theorem Zj2:Zc Tryz.prog 226=true:=by kernel_rfl
theorem ZjZ:Zc Tryz.prog 233=true:=by kernel_rfl
theorem ZjY:Zc Tryz.prog 234=true:=by kernel_rfl
theorem ZjX:Zc Tryz.prog 235=true:=by kernel_rfl
theorem ZjW:Zc Tryz.prog 236=true:=by kernel_rfl
theorem Z3:ZY Tryz.prog 22=some (.slice none 0 0,1,24):=by kernel_rfl
theorem fd_265_0:Zs Tryz.prog 265 0=some 0:=by kernel_rfl
theorem fd_265_1:Zs Tryz.prog 265 1=some 1:=by kernel_rfl
theorem fd_265_2:Zs Tryz.prog 265 2=some 2:=by kernel_rfl
theorem fd_265_3:Zs Tryz.prog 265 3=some 3:=by kernel_rfl
theorem fd_265_4:Zs Tryz.prog 265 4=some 4:=by kernel_rfl
theorem mx_:Tryz.prog.follows .mixedOrders=true:=by kernel_rfl
theorem ZR:ZN Tryz.prog 83=true:=by kernel_rfl
theorem Zla{n q:Int}{f:Int->Int}{a1:Addr}(w0:World)(hR:Row w0 v 1 n (ints f))(hp1:w0.cell? a1=some (.int .i64 q))(hq:0<=q/\q<=100):
    Calls Tryz.prog 236 [v,.pointer (some a1)].toArray w0 fun e w=>∃v,e= .returned v/\v=B (¬(n=q+1/\Btw f n 1073741824))/\Sat w0 w []:=by
  have hn1:=hR.slh.n1
  refine zenG Tryz.func236 Tryz.ntmps236 fun w hS=> ?_
  refine zsr<|(zP)<|zlz<|(zP)<|(zV (xln Zb hR.slh))<|(zV (xlf pl_3 hp1 hS))<|(zV (Zh (r:=q+1)))<|(zP)<|(zP)<|zlb 9 ?_ ?_<;>intro hc
  ·
   iterate 3 refine zlo ?_
   refine(zP)<|(zP)<|zx1<|zf1 ⟨_,rfl,?_⟩
   exact⟨ZX (by omega),hS⟩
  refine(zP)<|zlc (xc0 KF) (Vb (n:=n) (m:=1073741824) (f:=f) w (hR.below hS.below) (by omega)) ?_;rintro _ w ⟨rfl,hS'⟩
  replace hS:=hS.cmp hS';clear hS'
  refine(zP)<|(zP)<|(zP)<|zx1<|zf1 ⟨_,rfl,?_⟩
  exact⟨Zm (by exact⟨fun h hh=>h hh.2,fun h hh=>h ⟨by omega,hh⟩⟩),hS⟩
theorem Zlz{n q:Int}{a1:Addr}(w0:World)(hM:MAt w0 v n vv ln f)(hp1:w0.cell? a1=some (.int .i64 q))(hq:0<=q/\q<=100):
    Calls Tryz.prog 204 [v,.func (.func 236) #[] #[.pointer (some a1)]].toArray w0 fun e w=>∃v,e= .returned v/\∃r:Int,v= .int .i64 r/\((r= -1/\∀k,0<=k->k<n->¬(¬((ln k)=q+1/\Btw (f k) (ln k) 1073741824)))\/(0<=r/\r<n/\(¬((ln r)=q+1/\Btw (f r) (ln r) 1073741824))))/\Sat w0 w []:=by
  have hn:=hM.row.slh.n0;have hn1:=hM.row.slh.n1
  refine zenG Tryz.func204 Tryz.ntmps204 fun w hS=> ?_
  refine zsr<|(zP)<|zx5<|(zP)<|(zV (xln Zl hM.row.slh))<|(zP)<|zx6<|zlp (fun mm M w=>∃(i:Int),mm=((n-i).toNat)/\(0<=i)/\(i<=n)/\(∀k,0<=k->k<i->¬(¬((ln k)=q+1/\Btw (f k) (ln k) 1073741824)))/\M= [(0,v),(1,.func (.func 236) #[] #[.pointer (some a1)]),(7,.int .i64 n),(8,.int .i64 i)]/\Sat w0 w []) ⟨0,rfl,(by omega),(by omega),?_,rfl,hS⟩ ?_
  ·
   intro k h0 h1;omega
  clear hS w
  rintro mm M w ⟨i,rfl,h0,h1,qa,rfl,hS⟩
  refine zsr<|(zP)<|zx7<|Ze ?_ ?_<;>intro hc
  ·
   refine zx3<|(zP)<|(zP)<|zlz<|(zP)<|(zP)<|(zP)<|(zV (xix (kk:=i) Zl hM.row.slh))<|(zV (xlr (u:=(vv i)) pl_22 (hM.row.below hS.below)))<|zlc (xcc (vs:= [_]) ZjW) (Zla (n:=(ln i)) (q:=q) (f:=(f i)) w ((hM.p i (by omega) (by omega)).below hS.below) (hS.ref hp1) hq) ?_;rintro _ w ⟨rfl,hS'⟩
   replace hS:=hS.cmp hS';clear hS'
   refine zlt<|Ze ?_ ?_<;>intro hc
   ·
    refine zsr<|(zP)<|(zP)<|zx2<|zf1 ⟨_,rfl,?_⟩
    exact⟨i,rfl,.inr ⟨by omega,by omega,‹¬((ln i)=q+1/\Btw (f i) (ln i) 1073741824)›⟩,hS⟩
   refine zx4<|(zV (Zh (r:=i+1)))<|(zP)<|zln<|zlq ⟨i+1,rfl,(by omega),(by omega),?_,rfl,hS⟩
   ·
    intro k h0' h1';rcases Int.lt_or_eq_of_le (show k<=i by omega) with hk|hk;exact qa k h0' hk;rw [hk];assumption
  refine zx8<|(zP)<|zx1<|zf1 ⟨_,rfl,?_⟩
  exact⟨-1,rfl,.inl ⟨rfl,fun k h0 h1=>qa k h0 (by omega)⟩,hS⟩
theorem ZlL{n q:Int}{a1:Addr}(w0:World)(hM:MAt w0 v n vv ln f)(hp1:w0.cell? a1=some (.int .i64 q))(hq:0<=q/\q<=100):
    Calls Tryz.prog 184 [v,.func (.func 236) #[] #[.pointer (some a1)]].toArray w0 fun e w=>∃v,e= .returned v/\v=B (∃k,0<=k/\k<n/\(¬((ln k)=q+1/\Btw (f k) (ln k) 1073741824)))/\Sat w0 w []:=by
  refine zenG Tryz.func184 Tryz.ntmps184 fun w hS=> ?_
  refine zsr<|(zP)<|zlz<|(zP)<|(zP)<|zlc (xc0 ZbV) (Zlz w (hM.below hS.below) (hS.ref hp1) hq) ?_;rintro _ w ⟨r1,rfl,hr1,hS'⟩
  replace hS:=hS.cmp hS';clear hS'
  refine(zP)<|(zP)<|zx1<|zf1 ⟨_,rfl,?_⟩
  exact⟨Zm (by
   rcases hr1 with⟨h1,h2⟩|⟨h1,h2,h3⟩
   · exact⟨fun h=>by omega,fun⟨k,h4,h5,h6⟩=>absurd h6 (h2 k h4 h5)⟩
   · exact⟨fun _=>⟨_,h1,h2,h3⟩,fun _=>h1⟩),hS⟩
theorem Zk9{n q:Int}{f:Int->Int}{a1:Addr}(w0:World)(hR:Row w0 v 1 n (ints f))(hp1:w0.cell? a1=some (.int .i64 q))(hq:0<=q/\q<=100):
    Calls Tryz.prog 226 [v,.pointer (some a1)].toArray w0 fun e w=>∃v,e= .returned v/\v=B (¬(n=q/\Btw f n 1000000))/\Sat w0 w []:=by
  have hn1:=hR.slh.n1
  refine zenG Tryz.func226 Tryz.ntmps226 fun w hS=> ?_
  refine zsr<|(zP)<|zlz<|(zP)<|(zV (xln Zb hR.slh))<|(zV (xlf pl_3 hp1 hS))<|(zP)<|(zP)<|zlb 8 ?_ ?_<;>intro hc
  ·
   iterate 3 refine zlo ?_
   refine(zP)<|(zP)<|zx1<|zf1 ⟨_,rfl,?_⟩
   exact⟨ZX (by omega),hS⟩
  refine(zP)<|zlc (xc0 KF) (Vb (n:=n) (m:=1000000) (f:=f) w (hR.below hS.below) (by omega)) ?_;rintro _ w ⟨rfl,hS'⟩
  replace hS:=hS.cmp hS';clear hS'
  refine(zP)<|(zP)<|(zP)<|zx1<|zf1 ⟨_,rfl,?_⟩
  exact⟨Zm (by exact⟨fun h hh=>h hh.2,fun h hh=>h ⟨by omega,hh⟩⟩),hS⟩
theorem Zlx{n q:Int}{a1:Addr}(w0:World)(hM:MAt w0 v n vv ln f)(hp1:w0.cell? a1=some (.int .i64 q))(hq:0<=q/\q<=100):
    Calls Tryz.prog 204 [v,.func (.func 226) #[] #[.pointer (some a1)]].toArray w0 fun e w=>∃v,e= .returned v/\∃r:Int,v= .int .i64 r/\((r= -1/\∀k,0<=k->k<n->¬(¬((ln k)=q/\Btw (f k) (ln k) 1000000)))\/(0<=r/\r<n/\(¬((ln r)=q/\Btw (f r) (ln r) 1000000))))/\Sat w0 w []:=by
  have hn:=hM.row.slh.n0;have hn1:=hM.row.slh.n1
  refine zenG Tryz.func204 Tryz.ntmps204 fun w hS=> ?_
  refine zsr<|(zP)<|zx5<|(zP)<|(zV (xln Zl hM.row.slh))<|(zP)<|zx6<|zlp (fun mm M w=>∃(i:Int),mm=((n-i).toNat)/\(0<=i)/\(i<=n)/\(∀k,0<=k->k<i->¬(¬((ln k)=q/\Btw (f k) (ln k) 1000000)))/\M= [(0,v),(1,.func (.func 226) #[] #[.pointer (some a1)]),(7,.int .i64 n),(8,.int .i64 i)]/\Sat w0 w []) ⟨0,rfl,(by omega),(by omega),?_,rfl,hS⟩ ?_
  ·
   intro k h0 h1;omega
  clear hS w
  rintro mm M w ⟨i,rfl,h0,h1,qa,rfl,hS⟩
  refine zsr<|(zP)<|zx7<|Ze ?_ ?_<;>intro hc
  ·
   refine zx3<|(zP)<|(zP)<|zlz<|(zP)<|(zP)<|(zP)<|(zV (xix (kk:=i) Zl hM.row.slh))<|(zV (xlr (u:=(vv i)) pl_22 (hM.row.below hS.below)))<|zlc (xcc (vs:= [_]) Zj2) (Zk9 (n:=(ln i)) (q:=q) (f:=(f i)) w ((hM.p i (by omega) (by omega)).below hS.below) (hS.ref hp1) hq) ?_;rintro _ w ⟨rfl,hS'⟩
   replace hS:=hS.cmp hS';clear hS'
   refine zlt<|Ze ?_ ?_<;>intro hc
   ·
    refine zsr<|(zP)<|(zP)<|zx2<|zf1 ⟨_,rfl,?_⟩
    exact⟨i,rfl,.inr ⟨by omega,by omega,‹¬((ln i)=q/\Btw (f i) (ln i) 1000000)›⟩,hS⟩
   refine zx4<|(zV (Zh (r:=i+1)))<|(zP)<|zln<|zlq ⟨i+1,rfl,(by omega),(by omega),?_,rfl,hS⟩
   ·
    intro k h0' h1';rcases Int.lt_or_eq_of_le (show k<=i by omega) with hk|hk;exact qa k h0' hk;rw [hk];assumption
  refine zx8<|(zP)<|zx1<|zf1 ⟨_,rfl,?_⟩
  exact⟨-1,rfl,.inl ⟨rfl,fun k h0 h1=>qa k h0 (by omega)⟩,hS⟩
theorem ZlJ{n q:Int}{a1:Addr}(w0:World)(hM:MAt w0 v n vv ln f)(hp1:w0.cell? a1=some (.int .i64 q))(hq:0<=q/\q<=100):
    Calls Tryz.prog 184 [v,.func (.func 226) #[] #[.pointer (some a1)]].toArray w0 fun e w=>∃v,e= .returned v/\v=B (∃k,0<=k/\k<n/\(¬((ln k)=q/\Btw (f k) (ln k) 1000000)))/\Sat w0 w []:=by
  refine zenG Tryz.func184 Tryz.ntmps184 fun w hS=> ?_
  refine zsr<|(zP)<|zlz<|(zP)<|(zP)<|zlc (xc0 ZbV) (Zlx w (hM.below hS.below) (hS.ref hp1) hq) ?_;rintro _ w ⟨r1,rfl,hr1,hS'⟩
  replace hS:=hS.cmp hS';clear hS'
  refine(zP)<|(zP)<|zx1<|zf1 ⟨_,rfl,?_⟩
  exact⟨Zm (by
   rcases hr1 with⟨h1,h2⟩|⟨h1,h2,h3⟩
   · exact⟨fun h=>by omega,fun⟨k,h4,h5,h6⟩=>absurd h6 (h2 k h4 h5)⟩
   · exact⟨fun _=>⟨_,h1,h2,h3⟩,fun _=>h1⟩),hS⟩
theorem V1{vB vF vC:Value}{t:Tb}(w0:World)(hT:TAt w0 vB vF vC vv t):
    Calls Tryz.prog 228 [.agg #[.int .i64 t.vars,.int .i64 t.den,vB,vF,vC]].toArray w0 fun e w=>∃v,e= .returned v/\v=B (TPrp t)/\Sat w0 w []:=by
  have hn:=hT.F.slh.n0;have hn1:=hT.F.slh.n1;have hb:=hT.B.slh.n0;have hb1:=hT.B.slh.n1;have hc0:=hT.C.row.slh.n0;have hc1:=hT.C.row.slh.n1
  refine zenG Tryz.func228 Tryz.ntmps228 fun w hS=> ?_
  refine zsr<|zla (xbx (cs:= [_,_,_,_,_]) hS) ?_;rintro _ w ⟨g1,rfl,hS⟩
  refine(zP)<|zx7<|zdst [0] [0] 7 mx_ hS ?_;clear hS;intro w hS
  refine(zDw 0 (xfb 3 fd_265_3))<|(zDl 1 (fun w hS=>(xlb 0 pl_22 hS)))<|(zDw 2 (xln Zb hT.F.slh))<|(zDw 3 (xfb 2 fd_265_2))<|(zDl 4 (fun w hS=>(xlb 0 pl_22 hS)))<|(zDw 5 (xln Zb hT.B.slh))<|zda 6 (xal (cs:= [_]) Zt hS) ?_;rintro _ w ⟨g2,rfl,hS⟩
  refine⟨⟨fun _=>hS.pk [0],hS.pk [0]⟩,?_⟩
  refine zde 7 (xsb 1 pl_3 hS) ?_;clear hS;rintro w hS
  refine⟨⟨fun h=>absurd h (by decide),hS.pk [0]⟩,?_⟩
  refine(zDw 8 xas)<|zdd<|ztn<|zsq<|zsr ?_
  refine(zV (xlb 1 pl_3 hS))<|(zP)<|(zP)<|zlb 16 ?_ ?_<;>intro hc;rotate_left
  refine(zV (xlb 1 pl_3 hS))<|(zP)<|(zP)<|(zP)<|zlb 20 ?_ ?_<;>intro hc;rotate_left
  refine zs4 ?_
  refine zlb 24 ?_ ?_<;>intro hc;rotate_left
  refine(zV (xfb 0 fd_265_0))<|(zV (xlb 0 pl_3 hS))<|(zV (xlb 1 pl_3 hS))<|(zP)<|(zP)<|(zP)<|zlb 30 ?_ ?_<;>intro hc;rotate_left
  refine(zV (xfb 1 fd_265_1))<|(zV (xlb 0 pl_3 hS))<|(zP)<|(zP)<|(zP)<|zlb 35 ?_ ?_<;>intro hc;rotate_left
  refine(zV (xfb 1 fd_265_1))<|(zV (xlb 0 pl_3 hS))<|(zP)<|(zP)<|(zP)<|zlb 40 ?_ ?_<;>intro hc;rotate_left
  refine(zV (xfb 4 fd_265_4))<|(zV (xlb 0 ZR hS))<|(zV (xln Zl hT.C.row.slh))<|(zP)<|(zV (Zh (r:=t.nb+1)))<|(zP)<|(zP)<|zlt<|Ze ?_ ?_<;>intro hc
  ·
   refine zsr<|(zP)<|zx14<|zf1 ⟨_,rfl,?_⟩
   exact⟨Zf (by intro hp;have b1:=hp.n1;have b2:=hp.n2;have b3:=hp.m2;have b4:=hp.v;have b5:=hp.d1;have b6:=hp.d2;have b7:=hp.c;first|omega|(have hq1:=(XW (by omega) ye).2 (hp.perm.congr fun k k0 k1=>(RI t.nf t.nb t.F t.B k0).symm) i (by omega) (by omega);omega)),hS.nl⟩
  refine ZS<|(zV (xfb 3 fd_265_3))<|(zV (xlb 0 pl_22 hS))<|(zV (xfb 2 fd_265_2))<|(zV (xlb 0 pl_22 hS))<|zla (xli (n:=2) (len:=2) (pv:= [(0,vF),(1,vB)]) (cs:= [vF,vB]) (c:=(Z2 vF vB)) Zl Z3 hS (hf:=by obtain⟨_,_,_,_,rfl,_⟩:=hT.F.slh;obtain⟨_,_,_,_,rfl,_⟩:=hT.B.slh;kernel_rfl)) ?_;rintro v1 w ⟨hS,hv1⟩
  have hna:=Zns (w:=w) (a:=vF) (b:=vB) (n:=t.nf) (m:=t.nb) (f:=t.F) (g:=t.B) (hS.rowN 2 rfl) (hT.F.below hS.below) (hT.B.below hS.below)
  have htt:∀k:Int,0<=k->k<=2->tot (Z2 t.nf t.nb) k.toNat<=100000:=fun k k0 k1=>by
    have:k=0\/k=1\/k=2:=by omega
    rcases this with rfl|rfl|rfl
    · simp [tot]
    · simp [tot,Z2];omega
    · have e2:=ZgH t.nf t.nb;rw [show(2:Int).toNat=2 from rfl,e2];omega
  refine zlc (xc0 ZjX) (Zgh w hna htt) ?_;rintro vq1 w ⟨_,rfl,qb,hS'⟩
  rw [show(2:Int).toNat=2 from rfl,ZgH] at qb hS'
  replace hS:Sat w0 w [.blk g1 [.int .i64 t.vars,.int .i64 t.den,vB,vF,vC],.blk g2 [.int .i64 t.nf],.own v1 1 22 2 (Z2 vF vB),.own vq1 1 3 (t.nf+t.nb) (ints (Vg (Z2 t.nf t.nb) (Z2 t.F t.B) 2))]:=hS.comp hS'
  clear hS'
  refine zlc (xc0 ZjY) (ZfH (n:=(t.nf+t.nb)) w qb) ?_;rintro _ w ⟨gv1,rfl,hS'⟩
  replace hS:=(hS.comp hS').n5;clear hS'
  refine zlc (xc0 ZjZ) (ZfO (n:=(t.nf+t.nb)) (f:=(Vg (Z2 t.nf t.nb) (Z2 t.F t.B) 2)) w (hS.cellN 4 rfl rfl) (hS.holds _ (List.mem_of_getElem? (i:=3) rfl)) (by omega)) ?_;rintro vq2 w ⟨_,cc,rfl,qg,ye,hS'⟩
  replace hS:=(hS.comp hS').n6;clear hS'
  refine(zP)<|zx5<|(zP)<|(zV (xln Zb qg))<|(zP)<|zx6<|zlp (fun mm M w=>∃(i:Int),mm=((t.nf+t.nb-i).toNat)/\(0<=i)/\(i<=t.nf+t.nb)/\(∀k,0<=k->k<i->cc k=k)/\M= [(1,.pointer (some ⟨g1,0,none⟩)),(3,.pointer (some ⟨g2,0,none⟩)),(56,vq2),(57,.int .i64 (t.nf+t.nb)),(58,.int .i64 i)]/\Sat w0 w [.blk g1 [.int .i64 t.vars,.int .i64 t.den,vB,vF,vC],.blk g2 [.int .i64 t.nf],.own v1 1 22 2 (Z2 vF vB),.own vq1 1 3 (t.nf+t.nb) (ints (Vg (Z2 t.nf t.nb) (Z2 t.F t.B) 2)),.blk gv1 [vq1],.own vq2 1 3 (t.nf+t.nb) (ints cc)]) ⟨0,rfl,(by omega),(by omega),?_,rfl,hS⟩ ?_
  ·
   intro k h0 h1;omega
  clear hS w
  rintro mm M w ⟨i,rfl,h0,h1,qa,rfl,hS⟩
  refine zsr<|(zP)<|zx7<|Ze ?_ ?_<;>intro hc
  ·
   refine zx3<|(zP)<|(zV (xix (kk:=i) Zb qg))<|(zV (xlr (u:= .int .i64 (cc i)) pl_3 (hS.rowN 5 rfl)))<|(zP)<|(zP)<|zlz<|(zP)<|(zP)<|(zP)<|zlt<|Ze ?_ ?_<;>intro hc
   ·
    refine zsr<|(zP)<|zx2<|zf1 ⟨_,rfl,?_⟩
    exact⟨Zf (by intro hp;have b1:=hp.n1;have b2:=hp.n2;have b3:=hp.m2;have b4:=hp.v;have b5:=hp.d1;have b6:=hp.d2;have b7:=hp.c;first|omega|(have hq1:=(XW (by omega) ye).2 (hp.perm.congr fun k k0 k1=>(RI t.nf t.nb t.F t.B k0).symm) i (by omega) (by omega);omega)),hS.nl⟩
   refine zx4<|(zV (Zh (r:=i+1)))<|(zP)<|zln<|zlq ⟨i+1,rfl,(by omega),(by omega),?_,rfl,hS⟩
   ·
    intro k h0' h1';rcases Int.lt_or_eq_of_le (show k<=i by omega) with hk|hk;exact qa k h0' hk;rw [hk];omega
  refine zx8<|(zV (xfb 4 fd_265_4))<|(zV (xlb 0 ZR hS))<|(zV xmf)<|zlc (xc0 ZbX) (ZlL (n:=t.nc) (q:=t.nf) (vv:=vv) (ln:=t.ln) (f:=t.C) w (hT.C.below hS.below) (hS.cellN 1 rfl rfl) (by omega)) ?_;rintro _ w ⟨rfl,hS'⟩
  replace hS:=hS.cmp hS';clear hS'
  refine(zP)<|(zP)<|zx1<|zf1 ⟨_,rfl,?_⟩
  refine⟨Zm ⟨fun hx=> ?_,fun hp hx=> ?_⟩,hS.nl⟩
  · refine⟨by omega,by omega,by omega,by omega,by omega,by omega,by omega,((XW (by omega) ye).1 fun k k0 k1=>qa k k0 (by omega)).congr fun k k0 k1=>RI t.nf t.nb t.F t.B k0,fun k k0 k1=> ?_⟩
    have hy:=Classical.not_not.1 fun hh=>hx ⟨k,k0,k1,hh⟩
    exact⟨hy.1,hy.2⟩
  · obtain⟨k,k0,k1,hh⟩:=hx
    have hr:=hp.rows k k0 k1
    exact hh ⟨hr.1,hr.2⟩
  all_goals
   refine zOps ?_
   refine zlt<|zct<|zsr ?_
   refine zOps ?_
   refine zx14<|zf1 ⟨_,rfl,?_⟩
   exact⟨Zf (by intro hp;have b1:=hp.n1;have b2:=hp.n2;have b3:=hp.m2;have b4:=hp.v;have b5:=hp.d1;have b6:=hp.d2;have b7:=hp.c;first|omega|(have hq1:=(XW (by omega) ye).2 (hp.perm.congr fun k k0 k1=>(RI t.nf t.nb t.F t.B k0).symm) i (by omega) (by omega);omega)),hS.nl⟩
end Go.Proofs.YtkichmnjjblodaaGreat
namespace Go.Proofs.YtkichmnjjblodaaGreat
open Go Go.RowKit Go.Proofs.Gw
theorem Zfl:Zc Tryz.prog 227=true:=by kernel_rfl
theorem KE:Zc Tryz.prog 228=true:=by kernel_rfl
theorem Zr:Zz Tryz.prog 265=some 5:=by kernel_rfl
theorem V3{v:Value}{n:Int}{vv:Int->Value}{ln:Int->Int}{f:Int->Int->Int}(w0:World)(hM:MAt w0 v n vv ln f)(hn2:n<=1000)(hll:∀k,0<=k->k<n->ln k<=1000):
    Calls Tryz.prog 229 [v].toArray w0 fun e w=>∃v,e= .returned v/\∃vo vw,v=vo/\Slh vo n/\Sat w0 w [.own vo 1 22 n vw,.sem (Frame.rows 3 n vw ln f)]:=by
  have hn:=hM.row.slh.n0;have hn1:=hM.row.slh.n1
  refine zenG Tryz.func229 Tryz.ntmps229 fun w hS=> ?_
  refine zsr<|(zP)<|zlz<|(zP)<|(zV (xln Zl hM.row.slh))<|zla (xmk Zl Z3 hS) ?_;rintro v1 w ⟨hS,hv1⟩
  refine(zP)<|zx5<|(zP)<|(zV (xln Zl hM.row.slh))<|(zP)<|zx6 ?_
  replace hS:=hS.addrows 3 (fun _=>Value.slice none 0 0) ln f
  refine zlp (fun mm M w=>∃(c:Int->Value) (i:Int),mm=((n-i).toNat)/\(0<=i)/\(i<=n)/\M= [(2,.slice none 0 0),(3,v1),(9,v),(10,.int .i64 n),(11,.int .i64 i)]/\Sat w0 w [.own v1 1 22 n c,.sem (Frame.rows 3 i c ln f)]) ⟨(fun _=>Value.slice none 0 0),0,rfl,(by omega),(by omega),rfl,hS⟩ ?_
  clear hS w
  rintro mm M w ⟨c,i,rfl,h0,h1,rfl,hS⟩
  have qW:=fun k (k0:0<=k) (k1:k<i)=>hS.slhIn 1 rfl k0 k1
  refine zsr<|(zP)<|zx7<|Ze ?_ ?_<;>intro hc
  ·
   refine zx3<|(zP)<|(zV (xix (kk:=i) Zl hM.row.slh))<|zlv (xlr (u:=(vv i)) pl_22 (hM.row.below hS.below)) ?_
   have hli:=hll i h0 (by omega);have hl0:=(hM.p i h0 (by omega)).slh.n0
   refine(zP)<|(zP)<|zlz<|(zP)<|(zP)<|(zP)<|(zV (xln Zb (hM.p i (by omega) (by omega)).slh))<|zla (xmk Zb Zt hS) ?_;rintro v2 w ⟨hS,hv2⟩
   refine(zV (xix (kk:=i) Zl hv1))<|zle (xso 0 pl_22 hS rfl (hv:=hv2.one)) ?_;clear hS;rintro w hS
   refine zlt<|zrg<|(zP)<|(zP)<|(zV (xix (kk:=i) Zl hv1))<|(zV (xlr (u:=v2) pl_22 (hS.rowN 0 rfl) (e:=(gu_self _ _ _))))<|(zP)<|R2 rfl rfl rfl (VZ 2 rfl Zb rfl rfl hS rfl ((hM.p i (by omega) (by omega)).below hS.below) (fun _ _ _=>rfl)) ?_;rintro _ w ⟨rfl,hS⟩
   replace hS:=Sat.merge (l1:= [.own v1 1 22 n (upd c i (v2))]) (l2:= []) (l3:= []) hS (by omega)
   replace hS:=hS.rerows (vv':=upd c i (v2)) (ln':=ln) (f':=f) 1 rfl (fun k k0 k1=>by
     by_cases e:k<i
     · rw [Zv e,Zv e,Zv e];exact⟨(gu_ne (by omega)).symm,rfl,fun _ _ _=>rfl⟩
     · obtain rfl:i=k:=(by omega);rw [Ym,Ym,Ym];exact⟨(gu_self _ _ _).symm,rfl,fun _ _ _=>rfl⟩)
   refine zx10<|(zV (Zh (r:=i+1)))<|(zP)<|zln<|zlq ⟨upd c i (v2),i+1,rfl,(by omega),(by omega),rfl,hS⟩
  refine zx8<|(zP)<|(zP)<|zx1<|zf1 ⟨_,rfl,?_⟩
  obtain rfl:i=n:=by omega
  exact⟨_,_,rfl,hv1,hS⟩
theorem Zlp{vB vF vC:Value}{vv:Int->Value}{t:Tb}(w0:World)(hT:TAt w0 vB vF vC vv t):
    Calls Tryz.prog 217 [.agg #[.int .i64 t.vars,.int .i64 t.den,vB,vF,vC]].toArray w0 fun e w=>∃v,e= .returned v/\∃r c d e,v= .tuple #[.int .i64 r,.int .i64 c,.bool d,.int .i64 e]/\NextR t r c d e/\Sat w0 w []:=by
  have hn:=hT.F.slh.n0;have hn1:=hT.F.slh.n1;have hb:=hT.B.slh.n0;have hb1:=hT.B.slh.n1;have hc0:=hT.C.row.slh.n0;have hc1:=hT.C.row.slh.n1
  refine zenG Tryz.func217 Tryz.ntmps217 fun w hS=> ?_
  refine zsr<|zla (xbx (cs:= [_,_,_,_,_]) hS) ?_;rintro _ w ⟨g1,rfl,hS⟩
  refine zs4 ?_
  refine zx5<|(zV (xls 0 Zr hS))<|zlc (xc0 KE) (V1 (t:=t) w (hT.below hS.below)) ?_;rintro _ w ⟨rfl,hS'⟩
  replace hS:=hS.cmp hS';clear hS'
  refine(zP)<|(zP)<|zlb 17 ?_ ?_<;>intro hc
  ·
   iterate 7 refine zlo ?_
   refine(zP)<|zlt<|zct<|zsr ?_
   refine zs4 ?_
   refine zx14<|zf4 ⟨_,rfl,?_⟩
   refine⟨_,_,_,_,rfl,.inl ⟨?_,rfl,rfl,rfl,rfl⟩,hS.nl⟩
   first|exact fun hh=>absurd hh.1 ‹_›|(rintro⟨_,hco⟩;obtain⟨k,k0,k1,k2⟩:=yc;have:=hco (k+1) (by omega) (by omega);omega)
  refine zlv (xfb 4 fd_265_4) ?_
  have hp:=(Classical.not_not.1 ‹¬¬(TPrp t)›)
  have b1:=hp.n1
  have b2:=hp.n2
  have b3:=hp.m2
  have b4:=hp.v
  have b5:=hp.d1
  have b6:=hp.d2
  have b7:=hp.c
  have hl0:=hp.len (i:=0) (by omega) (by omega)
  refine(zV (xlb 0 ZR hS))<|(zV (xix (kk:=0) Zl hT.C.row.slh))<|(zV (xlr (u:=(vv 0)) pl_22 (hT.C.row.below hS.below)))<|R0 rfl rfl rfl (YD (q:=1) rfl Zb rfl rfl rfl (hT.C.p 0 (by omega) (by omega)).slh rfl (by omega) (by omega)) ?_
  refine zlc (xc0 Zfl) (ZiX (n:=((t.ln 0)-1)) (f:=(fun k=>(t.C 0) (k+1))) w ((YM (q:=1) (hT.C.p 0 (by omega) (by omega)).slh (hT.C.room 0 (by omega) (by omega)) (by omega)).row (by omega) ((hT.C.p 0 (by omega) (by omega)).below hS.below)) (by omega)) ?_;rintro _ w ⟨x1,rfl,yc,yx,hS'⟩
  replace hS:=hS.cmp hS';clear hS'
  refine(zP)<|(zP)<|zlt<|Ze ?_ ?_<;>intro hc
  ·
   refine zsr<|zs4 ?_
   refine zx14<|zf4 ⟨_,rfl,?_⟩
   refine⟨_,_,_,_,rfl,.inl ⟨?_,rfl,rfl,rfl,rfl⟩,hS.nl⟩
   first|exact fun hh=>absurd hh.1 ‹_›|(rintro⟨_,hco⟩;obtain⟨k,k0,k1,k2⟩:=yc;have:=hco (k+1) (by omega) (by omega);omega)
  refine ZS<|(zP)<|zx5<|(zV (xfb 2 fd_265_2))<|(zV (xlb 0 pl_22 hS))<|(zV (xln Zb hT.B.slh))<|(zP)<|zx6<|zlp (fun mm M w=>∃(r:Int) (i:Int),mm=((t.nb-i).toNat)/\(0<=i)/\(i<=t.nb)/\(r=YH t i.toNat)/\M= [(1,.pointer (some ⟨g1,0,none⟩)),(2,.int .i64 r),(3,.int .i64 0),(4,.bool false),(5,.int .i64 0),(27,vB),(28,.int .i64 t.nb),(29,.int .i64 i)]/\Sat w0 w [.blk g1 [.int .i64 t.vars,.int .i64 t.den,vB,vF,vC]]) ⟨(-1),0,rfl,(by omega),(by omega),?_,rfl,hS⟩ ?_
  ·
   rfl
  clear hS w
  rintro mm M w ⟨r,i,rfl,h0,h1,hr,rfl,hS⟩
  have hrr:=Xq t i.toNat;rw [<-hr] at hrr
  refine zsr<|(zP)<|zx7<|Ze ?_ ?_<;>intro hc
  ·
   refine zx3<|(zP)<|(zV (xix (kk:=i) Zb hT.B.slh))<|(zV (xlr (u:= .int .i64 (t.B i)) pl_3 (hT.B.below hS.below)))<|(zP)<|(zP)<|zlz<|(zV (xfb 4 fd_265_4))<|(zV (xlb 0 ZR hS))<|(zP)<|(zV (Zh (r:=i+1)))<|(zV (xix (kk:=i+1) Zl hT.C.row.slh))<|zlv (xlr (u:=(vv (i+1))) pl_22 (hT.C.row.below hS.below)) ?_
   have xH:=hp.len (i:=i+1) (by omega) (by omega)
   refine(zV (xix (kk:=0) Zb (hT.C.p (i+1) (by omega) (by omega)).slh))<|(zV (xlr (u:= .int .i64 ((t.C (i+1)) 0)) pl_3 ((hT.C.p (i+1) (by omega) (by omega)).below hS.below)))<|(zP)<|(zP)<|zlb 43 ?_ ?_<;>intro hc
   ·
    refine zs3 ?_
    have hrr:=Xq t i.toNat;rw [<-hr] at hrr
    refine zlb 46 ?_ ?_<;>intro hc
    ·
     iterate 7 refine zlo ?_
     refine(zP)<|(zP)<|zlt<|zct<|zrg ?_
     refine(zP)<|(zP)<|zx10<|(zV (Zh (r:=i+1)))<|(zP)<|zln<|zlq ⟨i,i+1,rfl,(by omega),(by omega),?_,rfl,hS⟩
     ·
      rw [W5 t h0,<-hr];split<;>omega
    refine(zP)<|(zV (xfb 2 fd_265_2))<|(zV (xlb 0 pl_22 hS))<|(zP)<|(zV (xix (kk:=r) Zb hT.B.slh))<|(zV (xlr (u:= .int .i64 (t.B r)) pl_3 (hT.B.below hS.below)))<|(zP)<|(zP)<|(zP)<|zlt<|Ze ?_ ?_<;>intro hc
    ·
     refine zrg<|(zP)<|(zP)<|zx10<|(zV (Zh (r:=i+1)))<|(zP)<|zln<|zlq ⟨i,i+1,rfl,(by omega),(by omega),?_,rfl,hS⟩
     ·
      rw [W5 t h0,<-hr];split<;>omega
    refine zx4<|(zV (Zh (r:=i+1)))<|(zP)<|zln<|zlq ⟨r,i+1,rfl,(by omega),(by omega),?_,rfl,hS⟩
    ·
     rw [W5 t h0,<-hr];split<;>omega
   iterate 11 refine zlo ?_
   refine(zP)<|zlt<|zcf<|zsk<|zbn<|ztn<|zrg ?_
   refine(zV (Zh (r:=i+1)))<|(zP)<|zln<|zlq ⟨r,i+1,rfl,(by omega),(by omega),?_,rfl,hS⟩
   ·
    rw [W5 t h0,<-hr];split<;>omega
  refine zx18<|(zP)<|(zP)<|zlt<|Ze ?_ ?_<;>intro hc
  ·
   refine zsr<|zs4 ?_
   refine zx14<|zf4 ⟨_,rfl,?_⟩
   obtain rfl:i=t.nb:=by omega
   exact⟨_,_,_,_,rfl,.inr (.inl ⟨hp,(fun j j0 j1=>by have:=yx (j-1) (by omega) (by omega);rw [show j-1+1=j by omega] at this;omega),by omega,rfl,rfl,rfl,rfl⟩),hS.nl⟩
  refine ZS<|(zP)<|zx7<|zdst [0] [0] 1000 mx_ hS ?_;clear hS;intro w hS
  refine zDrv 0 (xfb 4 fd_265_4) ?_
  have hin:i=t.nb:=by omega
  have hrr:=Xq t i.toNat;rw [<-hr] at hrr;have hlr:=hp.len (i:=r+1) (by omega) (by omega)
  refine(zDl 1 (fun w hS=>(xlb 0 ZR hS)))<|(zDw 2 (xix (kk:=0) Zl hT.C.row.slh))<|(zDl 3 (fun w hS=>(xlr (u:=(vv 0)) pl_22 (hT.C.row.below hS.below))))<|ZgF 4 rfl rfl rfl rfl (by kernel_rfl) rfl (fun w=>(YD (q:=1) rfl Zb rfl rfl rfl (hT.C.p 0 (by omega) (by omega)).slh rfl (by omega) (by omega))) ?_
  refine(zDw 5 (xfb 4 fd_265_4))<|(zDl 6 (fun w hS=>(xlb 0 ZR hS)))<|(zDw 7 xmv)<|(zDw 8 (Zh (r:=r+1)))<|(zDw 9 (xix (kk:=r+1) Zl hT.C.row.slh))<|(zDl 10 (fun w hS=>(xlr (u:=(vv (r+1))) pl_22 (hT.C.row.below hS.below))))<|ZgF 11 rfl rfl rfl rfl (by kernel_rfl) rfl (fun w=>(YD (q:=1) rfl Zb rfl rfl rfl (hT.C.p (r+1) (by omega) (by omega)).slh rfl (by omega) (by omega))) ?_
  refine(zDw 12 xas)<|(zDw 13 xas)<|zdd<|ztn<|zsq<|zsr ?_
  refine(zP)<|(zV (xln Zb (YM (q:=1) (hT.C.p (r+1) (by omega) (by omega)).slh (hT.C.room (r+1) (by omega) (by omega)) (by omega)).slh))<|(zP)<|zx6<|zlp (fun mm M w=>∃(c:Int) (j:Int),mm=((t.nf-j).toNat)/\(0<=j)/\(j<=t.nf)/\(c=Y0 t r j.toNat)/\M= [(1,.pointer (some ⟨g1,0,none⟩)),(2,.int .i64 r),(3,.int .i64 c),(4,.bool false),(5,.int .i64 0),(8,(Xd (vv 0) 1)),(9,(Xd (vv (r+1)) 1)),(72,(Xd (vv (r+1)) 1)),(73,.int .i64 ((t.ln (r+1))-1)),(74,.int .i64 j)]/\Sat w0 w [.blk g1 [.int .i64 t.vars,.int .i64 t.den,vB,vF,vC]]) ⟨(-1),0,rfl,(by omega),(by omega),?_,rfl,hS⟩ ?_
  ·
   rfl
  clear hS w
  rintro mm M w ⟨c,j,rfl,j0,j1,hcc,rfl,hS⟩
  have hcr:=V0 t r j.toNat;rw [<-hcc] at hcr
  refine zsr<|(zP)<|zx7<|Ze ?_ ?_<;>intro hc
  ·
   refine zx3<|(zP)<|(zV (xix (kk:=j) Zb (YM (q:=1) (hT.C.p (r+1) (by omega) (by omega)).slh (hT.C.room (r+1) (by omega) (by omega)) (by omega)).slh))<|(zV (xlr (u:= .int .i64 ((t.C (r+1)) (j+1))) pl_3 ((YM (q:=1) (hT.C.p (r+1) (by omega) (by omega)).slh (hT.C.room (r+1) (by omega) (by omega)) (by omega)).row (by omega) ((hT.C.p (r+1) (by omega) (by omega)).below hS.below))))<|(zP)<|(zP)<|zx5<|(zP)<|(zP)<|zlt<|Ze ?_ ?_<;>intro hc
   ·
    refine zxt<|ztx<|zbh<|ztn<|zrg<|(zV (Zh (r:=j+1)))<|(zP)<|zln<|zlq ⟨c,j+1,rfl,(by omega),(by omega),?_,rfl,hS⟩
    ·
     rw [XB t r j0,<-hcc];(repeat' split)<;>omega
   refine YJ<|zs2 ?_
   have hcr:=V0 t r j.toNat;rw [<-hcc] at hcr
   refine zlt<|Ze ?_ ?_<;>intro hc
   ·
    refine zsq<|zdst [0] [0] 1000 mx_ hS ?_;clear hS;intro w hS
    refine zDrv 0 xmv ?_
    have hm1:=Wq (hp.cell (i:=0) (j:=j+1) (by omega) (by omega) (by omega) (by omega)) (hp.cell (i:=r+1) (j:=c+1) (by omega) (by omega) (by omega) (by omega));have hm2:=Wq (hp.cell (i:=0) (j:=c+1) (by omega) (by omega) (by omega) (by omega)) (hp.cell (i:=r+1) (j:=j+1) (by omega) (by omega) (by omega) (by omega))
    have hne:t.F j≠t.F c:=fun hh=>by have:=hp.injF (i:=j) (j:=c) (by omega) (by omega) (by omega) (by omega) (by omega) hh;omega
    refine(zDw 1 xmv)<|(zDw 2 (xix (kk:=j) Zb (YM (q:=1) (hT.C.p 0 (by omega) (by omega)).slh (hT.C.room 0 (by omega) (by omega)) (by omega)).slh))<|(zDl 3 (fun w hS=>(xlr (u:= .int .i64 ((t.C 0) (j+1))) pl_3 ((YM (q:=1) (hT.C.p 0 (by omega) (by omega)).slh (hT.C.room 0 (by omega) (by omega)) (by omega)).row (by omega) ((hT.C.p 0 (by omega) (by omega)).below hS.below)))))<|(zDw 4 xmv)<|(zDw 5 xmv)<|(zDw 6 (xix (kk:=c) Zb (YM (q:=1) (hT.C.p (r+1) (by omega) (by omega)).slh (hT.C.room (r+1) (by omega) (by omega)) (by omega)).slh))<|(zDl 7 (fun w hS=>(xlr (u:= .int .i64 ((t.C (r+1)) (c+1))) pl_3 ((YM (q:=1) (hT.C.p (r+1) (by omega) (by omega)).slh (hT.C.room (r+1) (by omega) (by omega)) (by omega)).row (by omega) ((hT.C.p (r+1) (by omega) (by omega)).below hS.below)))))<|zdv 8 (fun _=>(Z7 (r:=(((t.C 0) (j+1))*((t.C (r+1)) (c+1)))) (e:=rfl) (hr:=(by unfold I64;omega)))) ?_
    refine(zDw 9 xmv)<|(zDw 10 xmv)<|(zDw 11 (xix (kk:=c) Zb (YM (q:=1) (hT.C.p 0 (by omega) (by omega)).slh (hT.C.room 0 (by omega) (by omega)) (by omega)).slh))<|(zDl 12 (fun w hS=>(xlr (u:= .int .i64 ((t.C 0) (c+1))) pl_3 ((YM (q:=1) (hT.C.p 0 (by omega) (by omega)).slh (hT.C.room 0 (by omega) (by omega)) (by omega)).row (by omega) ((hT.C.p 0 (by omega) (by omega)).below hS.below)))))<|(zDw 13 xmv)<|zdv 14 (fun _=>(Z7 (r:=(((t.C 0) (c+1))*((t.C (r+1)) (j+1)))) (e:=rfl) (hr:=(by unfold I64;omega)))) ?_
    refine(zDw 15 xas)<|(zDw 16 xas)<|zdd<|ztn<|zsq ?_
    refine zdst [0] [0] 1000 mx_ hS ?_;clear hS;intro w hS
    refine(zDw 0 xmv)<|(zDw 1 xmv)<|(zDw 2 Ys)<|(zDw 3 xmv)<|zdb 101 ?_ ?_<;>intro hc
    ·
     refine(zDo 4)<|(zDo 5)<|(zDo 6)<|(zDo 7)<|(zDo 8)<|(zDo 9)<|(zDo 10)<|(zDo 11)<|(zDo 12)<|(zDo 13)<|(zDo 14)<|(zDo 15)<|(zDo 16)<|(zDo 17)<|Zdd 18 ?_
     refine(zDo 19)<|(zDw 20 xpt)<|zdd<|ztn<|zct<|zxt<|ztx<|zbh<|ztn<|zrg ?_
     refine(zV (Zh (r:=j+1)))<|(zP)<|zln<|zlq ⟨c,j+1,rfl,(by omega),(by omega),?_,rfl,hS⟩
     ·
      rw [XB t r j0,<-hcc];(repeat' split)<;>omega
    refine(zDw 4 xmv)<|(zDw 5 xmv)<|(zDw 6 YL)<|(zDw 7 xmv)<|zdb 105 ?_ ?_<;>intro hc
    ·
     refine(zDw 8 (xfb 3 fd_265_3))<|(zDl 9 (fun w hS=>(xlb 0 pl_22 hS)))<|(zDw 10 xmv)<|(zDw 11 (xix (kk:=j) Zb hT.F.slh))<|(zDl 12 (fun w hS=>(xlr (u:= .int .i64 (t.F j)) pl_3 (hT.F.below hS.below))))<|(zDw 13 (xfb 3 fd_265_3))<|(zDl 14 (fun w hS=>(xlb 0 pl_22 hS)))<|(zDw 15 xmv)<|(zDw 16 (xix (kk:=c) Zb hT.F.slh))<|(zDl 17 (fun w hS=>(xlr (u:= .int .i64 (t.F c)) pl_3 (hT.F.below hS.below))))<|(zDw 18 Ys)<|(zDw 19 xpt)<|(zDw 20 xpf)<|zdd<|ztn ?_
     refine Ze ?_ ?_<;>intro hc
     ·
      refine zxt<|ztx<|zbh<|ztn<|zrg<|(zV (Zh (r:=j+1)))<|(zP)<|zln<|zlq ⟨c,j+1,rfl,(by omega),(by omega),?_,rfl,hS⟩
      ·
       rw [XB t r j0,<-hcc];(repeat' split)<;>omega
     refine zsk<|ztn<|zrg<|(zP)<|(zP)<|zx10<|(zV (Zh (r:=j+1)))<|(zP)<|zln<|zlq ⟨j,j+1,rfl,(by omega),(by omega),?_,rfl,hS⟩
     ·
      rw [XB t r j0,<-hcc];(repeat' split)<;>omega
    refine(zDo 8)<|(zDo 9)<|(zDo 10)<|(zDo 11)<|(zDo 12)<|(zDo 13)<|(zDo 14)<|(zDo 15)<|(zDo 16)<|(zDo 17)<|(zDo 18)<|(zDw 19 xpf)<|(zDw 20 xpf)<|zdd<|ztn<|zcf<|zsk<|ztn<|zrg ?_
    refine(zP)<|(zP)<|zx10<|(zV (Zh (r:=j+1)))<|(zP)<|zln<|zlq ⟨j,j+1,rfl,(by omega),(by omega),?_,rfl,hS⟩
    ·
     rw [XB t r j0,<-hcc];(repeat' split)<;>omega
   refine zsk<|ztn<|zrg<|(zP)<|(zP)<|zx10<|(zV (Zh (r:=j+1)))<|(zP)<|zln<|zlq ⟨j,j+1,rfl,(by omega),(by omega),?_,rfl,hS⟩
   ·
    rw [XB t r j0,<-hcc];(repeat' split)<;>omega
  refine zx18<|(zP)<|(zP)<|zlt<|Ze ?_ ?_<;>intro hc
  ·
   refine zsr<|zs4 ?_
   refine zx14<|zf4 ⟨_,rfl,?_⟩
   obtain rfl:i=t.nb:=by omega
   obtain rfl:j=t.nf:=by omega
   subst hr;exact⟨_,_,_,_,rfl,.inr (.inr (.inl ⟨hp,(fun j j0 j1=>by have:=yx (j-1) (by omega) (by omega);rw [show j-1+1=j by omega] at this;omega),by omega,by omega,rfl,rfl,rfl,rfl⟩)),hS.nl⟩
  refine ZS<|zs6 ?_
  refine zx1<|zf4 ⟨_,rfl,?_⟩
  obtain rfl:i=t.nb:=by omega
  obtain rfl:j=t.nf:=by omega
  subst hr;exact⟨_,_,_,_,rfl,.inr (.inr (.inr ⟨hp,(fun j j0 j1=>by have:=yx (j-1) (by omega) (by omega);rw [show j-1+1=j by omega] at this;omega),by omega,by omega,rfl,hcc,rfl,rfl⟩)),hS.nl⟩
end Go.Proofs.YtkichmnjjblodaaGreat
namespace Go.Proofs.YtkichmnjjblodaaGreat
open Go Go.RowKit Go.Proofs.Gw
theorem KD:Zc Tryz.prog 229=true:=by kernel_rfl
theorem cl_65:Zc Tryz.prog 65=true:=by kernel_rfl
theorem Xi:ZY Tryz.prog 265=some (.agg #[.int .i64 0,.int .i64 0,.slice none 0 0,.slice none 0 0,.slice none 0 0],5,88):=by kernel_rfl
theorem ZhX{vB vF vC:Value}{vv:Int->Value}{t:Tb}{row col:Int}(w0:World)(hT:TAt w0 vB vF vC vv t)(gZ: -9223372036854775808<=row/\row<=9223372036854775807)(ji: -9223372036854775808<=col/\col<=9223372036854775807):
    Calls Tryz.prog 218 [.agg #[.int .i64 t.vars,.int .i64 t.den,vB,vF,vC],.int .i64 row,.int .i64 col].toArray w0 fun e w=>∃v,e= .returned v/\∃vB vF vC vv t' e,v= .tuple #[.agg #[.int .i64 t'.vars,.int .i64 t'.den,vB,vF,vC],.int .i64 e]/\ZlV t row col t' e/\Slh vB t'.nb/\Slh vF t'.nf/\Slh vC t'.nc/\Sat w0 w [.own vB 1 3 t'.nb (ints t'.B),.own vF 1 3 t'.nf (ints t'.F),.own vC 1 22 t'.nc vv,.sem (Frame.rows 3 t'.nc vv t'.ln t'.C)]:=by
  have hn:=hT.F.slh.n0;have hn1:=hT.F.slh.n1;have hb:=hT.B.slh.n0;have hb1:=hT.B.slh.n1;have hc0:=hT.C.row.slh.n0;have hc1:=hT.C.row.slh.n1
  refine zenG Tryz.func218 Tryz.ntmps218 fun w hS=> ?_
  refine zsr<|zla (xbx (cs:= [_,_,_,_,_]) hS) ?_;rintro _ w ⟨g1,rfl,hS⟩
  refine zla (xal (cs:= [_,_,_,_,_]) Xi hS) ?_;rintro _ w ⟨g2,rfl,hS⟩
  refine(zP)<|zx5<|(zV (xls 0 Zr hS))<|zlc (xc0 KE) (V1 (t:=t) w (hT.below hS.below)) ?_;rintro _ w ⟨rfl,hS'⟩
  replace hS:=hS.cmp hS';clear hS'
  refine(zP)<|(zP)<|zlb 23 ?_ ?_<;>intro hc;rotate_left
  refine zlv xmv ?_
  have hp:=(Classical.not_not.1 ‹¬¬(TPrp t)›)
  have b1:=hp.n1
  have b2:=hp.n2
  have b3:=hp.m2
  have b4:=hp.v
  have b5:=hp.d1
  have b6:=hp.d2
  have b7:=hp.c
  refine(zP)<|(zP)<|(zP)<|zlb 27 ?_ ?_<;>intro hc;rotate_left
  refine(zP)<|(zV (xfb 2 fd_265_2))<|(zV (xlb 0 pl_22 hS))<|(zV (xln Zb hT.B.slh))<|(zP)<|(zP)<|(zP)<|zlb 34 ?_ ?_<;>intro hc;rotate_left
  refine zs4 ?_
  refine zlb 38 ?_ ?_<;>intro hc;rotate_left
  refine(zP)<|(zV (xfb 3 fd_265_3))<|(zV (xlb 0 pl_22 hS))<|(zV (xln Zb hT.F.slh))<|(zP)<|(zP)<|(zP)<|zlb 45 ?_ ?_<;>intro hc;rotate_left
  refine(zV (xfb 4 fd_265_4))<|(zV (xlb 0 ZR hS))<|(zP)<|(zV (Zh (r:=row+1)))<|(zV (xix (kk:=row+1) Zl hT.C.row.slh))<|zlv (xlr (u:=(vv (row+1))) pl_22 (hT.C.row.below hS.below)) ?_
  have hlr:=hp.len (i:=row+1) (by omega) (by omega)
  refine(zP)<|(zV (Zh (r:=col+1)))<|(zV (xix (kk:=col+1) Zb (hT.C.p (row+1) (by omega) (by omega)).slh))<|(zV (xlr (u:= .int .i64 ((t.C (row+1)) (col+1))) pl_3 ((hT.C.p (row+1) (by omega) (by omega)).below hS.below)))<|(zP)<|(zP)<|zlt<|Ze ?_ ?_<;>intro hc
  ·
   refine zsr<|(zV (xany (v:= .agg #[.int .i64 0,.int .i64 0,.slice none 0 0,.slice none 0 0,.slice none 0 0])))<|zle (xsw 1 Zr hS) ?_;clear hS;rintro w hS
   refine(zP)<|zx14<|Yp 1 Zr hS ⟨_,rfl,?_⟩
   exact⟨_,_,_,fun _=>undef,Tb.zero,1,rfl,.inl ⟨by first|exact fun hh=>absurd hh.1 ‹_›|(rintro⟨_,p1,p2,p3,p4,p5⟩;omega),rfl,rfl⟩,slh_nil,slh_nil,slh_nil,((((hS.sub (.cons _ (.cons _ .slnil))).addnil 1 3 (ints Tb.zero.B)).addnil 1 3 (ints Tb.zero.F)).addnil 1 22 (fun _=>undef)).addrows 3 (fun _=>undef) Tb.zero.ln Tb.zero.C⟩
  refine ZS<|(zP)<|zlv (Zh (r:=row+1)) ?_
  have hnz:t.C (row+1) (col+1)≠0:=by omega
  have hpb:=hp.cell (i:=row+1) (j:=col+1) (by omega) (by omega) (by omega) (by omega)
  refine(zP)<|(zV (Zh (r:=col+1)))<|(zP)<|(zP)<|zx7<|zdst [0,1] [0,1] 1000 mx_ hS ?_;clear hS;intro w hS
  refine(zDw 0 (xfb 4 fd_265_4))<|(zDl 1 (fun w hS=>(xlb 0 ZR hS)))<|(zDw 2 xmv)<|(zDw 3 (xix (kk:=row+1) Zl hT.C.row.slh))<|(zDl 4 (fun w hS=>(xlr (u:=(vv (row+1))) pl_22 (hT.C.row.below hS.below))))<|(zDw 5 xmv)<|(zDw 6 (xix (kk:=col+1) Zb (hT.C.p (row+1) (by omega) (by omega)).slh))<|(zDl 7 (fun w hS=>(xlr (u:= .int .i64 ((t.C (row+1)) (col+1))) pl_3 ((hT.C.p (row+1) (by omega) (by omega)).below hS.below))))<|(zDw 8 (xfb 1 fd_265_1))<|(zDl 9 (fun w hS=>(xlb 0 pl_3 hS)))<|(zDw 10 xas)<|(zDw 11 xas)<|zdd<|ztn<|zsq<| ?_
  refine Vw (fun M w=>∃(g3:Nat) (vq1:Value) (vq2:Value) (qk:Value) (qm:Int->Value),(Slh vq1 t.nb)/\(Slh vq2 t.nf)/\(Slh qk t.nc)/\(∀k,0<=k->k<t.nc->Slh (qm k) (t.ln k))/\M= [(0,.agg #[.int .i64 t.vars,.int .i64 t.den,vB,vF,vC]),(1,.int .i64 row),(2,.int .i64 col),(3,.pointer (some ⟨g1,0,none⟩)),(6,.pointer (some ⟨g2,0,none⟩)),(7,.int .i64 0),(20,.agg #[.int .i64 t.vars,.int .i64 t.den,vB,vF,vC]),(21,B (TPrp t)),(22,B (¬(TPrp t))),(23,.bool false),(24,.int .i64 row),(25,B (row<0)),(26,B (row<0)),(27,.bool false),(28,.int .i64 row),(29,.pointer (some ⟨g1,2,none⟩)),(30,vB),(31,.int .i64 t.nb),(32,B (t.nb<=row)),(33,B (t.nb<=row)),(34,.bool false),(35,.int .i64 col),(36,B (col<0)),(37,B (col<0)),(38,.bool false),(39,.int .i64 col),(40,.pointer (some ⟨g1,3,none⟩)),(41,vF),(42,.int .i64 t.nf),(43,B (t.nf<=col)),(44,B (t.nf<=col)),(45,.bool false),(46,.pointer (some ⟨g1,4,none⟩)),(47,vC),(48,.int .i64 row),(49,.int .i64 (row+1)),(50,.pointer (some (cad vC (row+1)))),(51,(vv (row+1))),(52,.int .i64 col),(53,.int .i64 (col+1)),(54,.pointer (some (cad (vv (row+1)) (col+1)))),(55,.int .i64 ((t.C (row+1)) (col+1))),(56,B (((t.C (row+1)) (col+1))=0)),(57,B (((t.C (row+1)) (col+1))=0)),(59,.int .i64 row),(60,.int .i64 (row+1)),(61,.int .i64 col),(62,.int .i64 (col+1)),(8,.int .i64 (row+1)),(9,.int .i64 (col+1)),(63,.pointer (some ⟨g1,4,none⟩)),(64,vC),(65,.int .i64 (row+1)),(66,.pointer (some (cad vC (row+1)))),(67,(vv (row+1))),(68,.int .i64 (col+1)),(69,.pointer (some (cad (vv (row+1)) (col+1)))),(70,.int .i64 ((t.C (row+1)) (col+1))),(71,.pointer (some ⟨g1,1,none⟩)),(72,.int .i64 t.den),(10,.int .i64 ((t.C (row+1)) (col+1))),(11,.int .i64 t.den),(73,.pointer (some ⟨g1,0,none⟩)),(74,.int .i64 t.vars),(75,.int .i64 ((t.C (row+1)) (col+1))),(76,.pointer (some ⟨g1,2,none⟩)),(77,vB),(79,.pointer (some ⟨g1,3,none⟩)),(80,vF),(82,.pointer (some ⟨g1,4,none⟩)),(83,vC),(78,vq1),(81,vq2),(84,qk),(85,.agg #[.int .i64 t.vars,.int .i64 ((t.C (row+1)) (col+1)),vq1,vq2,qk]),(12,.pointer (some ⟨g3,0,none⟩))]/\Sat w0 w [.blk g1 [.int .i64 t.vars,.int .i64 t.den,vB,vF,vC],.blk g2 [.int .i64 0,.int .i64 0,.slice none 0 0,.slice none 0 0,.slice none 0 0],.own vq1 1 3 t.nb (ints t.B),.own vq2 1 3 t.nf (ints t.F),.own qk 1 22 t.nc qm,.sem (Frame.rows 3 t.nc qm t.ln t.C),.blk g3 [.int .i64 t.vars,.int .i64 ((t.C (row+1)) (col+1)),vq1,vq2,qk]]) ?_ ?_
  ·
   refine zdst [0,1] [0,1] 14 mx_ hS ?_;clear hS;intro w hS
   refine(zDw 0 (xfb 0 fd_265_0))<|(zDl 1 (fun w hS=>(xlb 0 pl_3 hS)))<|(zDw 2 xmv)<|(zDw 3 (xfb 2 fd_265_2))<|(zDl 4 (fun w hS=>(xlb 0 pl_22 hS)))<|(zDw 6 (xfb 3 fd_265_3))<|(zDl 7 (fun w hS=>(xlb 0 pl_22 hS)))<|(zDw 9 (xfb 4 fd_265_4))<|(zDl 10 (fun w hS=>(xlb 0 ZR hS)))<|Vd (r:= [5,13]) ((YK ?_ (YK ?_ Vc)))
   ·
    refine zkc (xc0 cl_65) (c_clone (n:=t.nb) (f:=t.B) w (hT.B.below hS.below) (by omega)) ?_;rintro vq1 w ⟨_,rfl,qb,hS'⟩
    replace hS:=(hS.comp hS').n3;clear hS'
    refine⟨⟨fun _=>hS.pk [0,1],hS.pk [0,1]⟩,?_⟩
    refine Vd (r:= [8,13]) ((YK ?_ (YK ?_ Vc)))
    ·
     refine zkc (xc0 cl_65) (c_clone (n:=t.nf) (f:=t.F) w (hT.F.below hS.below) (by omega)) ?_;rintro vq2 w ⟨_,rfl,qg,hS'⟩
     replace hS:=(hS.comp hS').n4;clear hS'
     refine⟨⟨fun _=>hS.pk [0,1],hS.pk [0,1]⟩,?_⟩
     refine Vd (r:= [11,13]) ((YK ?_ (YK ?_ Vc)))
     ·
      refine zkc (xc0 KD) (V3 (n:=t.nc) (vv:=vv) (ln:=t.ln) (f:=t.C) w (hT.C.below hS.below) (by omega) (fun k k0 k1=>by have:=hp.len (i:=k) (by omega) (by omega);omega)) ?_;rintro qk w ⟨_,qm,rfl,ql,hS'⟩
      replace hS:=(hS.comp hS').n6;clear hS'
      have qM:=fun k (k0:0<=k) (k1:k<t.nc)=>hS.slhIn 5 rfl k0 k1
      refine⟨⟨fun _=>hS.pk [0,1],hS.pk [0,1]⟩,?_⟩
      refine zdv 12 (fun _=>(xany (v:= .agg #[.int .i64 t.vars,.int .i64 ((t.C (row+1)) (col+1)),vq1,vq2,qk]) (hr:=by obtain⟨_,_,_,_,rfl,_⟩:=qb;obtain⟨_,_,_,_,rfl,_⟩:=qg;obtain⟨_,_,_,_,rfl,_⟩:=ql;kernel_rfl))) ?_
      refine zda 13 (xal (cs:= [_,_,_,_,_]) Xi hS) ?_;rintro _ w ⟨g3,rfl,hS⟩
      refine⟨⟨fun _=>hS.pk [0,1],hS.pk [0,1]⟩,?_⟩
      refine zde 14 (xsw 6 Zr hS (hd:=(Za rfl (Za rfl (Za qb.one (Za qg.one (Za ql.one Zi))))))) ?_;clear hS;rintro w hS
      refine⟨⟨fun h=>absurd h (by decide),hS.pk [0,1]⟩,?_⟩
      refine zdd<|zgj ⟨g3,vq1,vq2,qk,qm,qb,qg,ql,qM,rfl,hS⟩
     refine zka (xal (cs:= [_,_,_,_,_]) Xi hS) ?_;rintro _ w ⟨g3,rfl,hS⟩
     refine⟨⟨fun _=>hS.pk [0,1],hS.pk [0,1]⟩,?_⟩
     refine zdc 11 (xc0 KD) (V3 (n:=t.nc) (vv:=vv) (ln:=t.ln) (f:=t.C) w (hT.C.below hS.below) (by omega) (fun k k0 k1=>by have:=hp.len (i:=k) (by omega) (by omega);omega)) ?_;rintro qk w ⟨_,qm,rfl,ql,hS'⟩
     replace hS:=(hS.comp hS').n7;clear hS'
     have qM:=fun k (k0:0<=k) (k1:k<t.nc)=>hS.slhIn 6 rfl k0 k1
     refine⟨⟨fun _=>hS.pk [0,1],hS.pk [0,1]⟩,?_⟩
     refine zdv 12 (fun _=>(xany (v:= .agg #[.int .i64 t.vars,.int .i64 ((t.C (row+1)) (col+1)),vq1,vq2,qk]) (hr:=by obtain⟨_,_,_,_,rfl,_⟩:=qb;obtain⟨_,_,_,_,rfl,_⟩:=qg;obtain⟨_,_,_,_,rfl,_⟩:=ql;kernel_rfl))) ?_
     refine zde 14 (xsw 4 Zr hS (hd:=(Za rfl (Za rfl (Za qb.one (Za qg.one (Za ql.one Zi))))))) ?_;clear hS;rintro w hS
     refine⟨⟨fun h=>absurd h (by decide),hS.pk [0,1]⟩,?_⟩
     refine zdd<|zgj ⟨g3,vq1,vq2,qk,qm,qb,qg,ql,qM,rfl,hS.pk [0,1,2,3,5,6,4]⟩
    refine zka (xal (cs:= [_,_,_,_,_]) Xi hS) ?_;rintro _ w ⟨g3,rfl,hS⟩
    refine⟨⟨fun _=>hS.pk [0,1],hS.pk [0,1]⟩,?_⟩
    refine zdc 8 (xc0 cl_65) (c_clone (n:=t.nf) (f:=t.F) w (hT.F.below hS.below) (by omega)) ?_;rintro vq2 w ⟨_,rfl,qg,hS'⟩
    replace hS:=(hS.comp hS').n5;clear hS'
    refine⟨⟨fun _=>hS.pk [0,1],hS.pk [0,1]⟩,?_⟩
    refine zdc 11 (xc0 KD) (V3 (n:=t.nc) (vv:=vv) (ln:=t.ln) (f:=t.C) w (hT.C.below hS.below) (by omega) (fun k k0 k1=>by have:=hp.len (i:=k) (by omega) (by omega);omega)) ?_;rintro qk w ⟨_,qm,rfl,ql,hS'⟩
    replace hS:=(hS.comp hS').n7;clear hS'
    have qM:=fun k (k0:0<=k) (k1:k<t.nc)=>hS.slhIn 6 rfl k0 k1
    refine⟨⟨fun _=>hS.pk [0,1],hS.pk [0,1]⟩,?_⟩
    refine zdv 12 (fun _=>(xany (v:= .agg #[.int .i64 t.vars,.int .i64 ((t.C (row+1)) (col+1)),vq1,vq2,qk]) (hr:=by obtain⟨_,_,_,_,rfl,_⟩:=qb;obtain⟨_,_,_,_,rfl,_⟩:=qg;obtain⟨_,_,_,_,rfl,_⟩:=ql;kernel_rfl))) ?_
    refine zde 14 (xsw 3 Zr hS (hd:=(Za rfl (Za rfl (Za qb.one (Za qg.one (Za ql.one Zi))))))) ?_;clear hS;rintro w hS
    refine⟨⟨fun h=>absurd h (by decide),hS.pk [0,1]⟩,?_⟩
    refine zdd<|zgj ⟨g3,vq1,vq2,qk,qm,qb,qg,ql,qM,rfl,hS.pk [0,1,2,4,5,6,3]⟩
   refine zka (xal (cs:= [_,_,_,_,_]) Xi hS) ?_;rintro _ w ⟨g3,rfl,hS⟩
   refine⟨⟨fun _=>hS.pk [0,1],hS.pk [0,1]⟩,?_⟩
   refine zdc 5 (xc0 cl_65) (c_clone (n:=t.nb) (f:=t.B) w (hT.B.below hS.below) (by omega)) ?_;rintro vq1 w ⟨_,rfl,qb,hS'⟩
   replace hS:=(hS.comp hS').n4;clear hS'
   refine⟨⟨fun _=>hS.pk [0,1],hS.pk [0,1]⟩,?_⟩
   refine zdc 8 (xc0 cl_65) (c_clone (n:=t.nf) (f:=t.F) w (hT.F.below hS.below) (by omega)) ?_;rintro vq2 w ⟨_,rfl,qg,hS'⟩
   replace hS:=(hS.comp hS').n5;clear hS'
   refine⟨⟨fun _=>hS.pk [0,1],hS.pk [0,1]⟩,?_⟩
   refine zdc 11 (xc0 KD) (V3 (n:=t.nc) (vv:=vv) (ln:=t.ln) (f:=t.C) w (hT.C.below hS.below) (by omega) (fun k k0 k1=>by have:=hp.len (i:=k) (by omega) (by omega);omega)) ?_;rintro qk w ⟨_,qm,rfl,ql,hS'⟩
   replace hS:=(hS.comp hS').n7;clear hS'
   have qM:=fun k (k0:0<=k) (k1:k<t.nc)=>hS.slhIn 6 rfl k0 k1
   refine⟨⟨fun _=>hS.pk [0,1],hS.pk [0,1]⟩,?_⟩
   refine zdv 12 (fun _=>(xany (v:= .agg #[.int .i64 t.vars,.int .i64 ((t.C (row+1)) (col+1)),vq1,vq2,qk]) (hr:=by obtain⟨_,_,_,_,rfl,_⟩:=qb;obtain⟨_,_,_,_,rfl,_⟩:=qg;obtain⟨_,_,_,_,rfl,_⟩:=ql;kernel_rfl))) ?_
   refine zde 14 (xsw 2 Zr hS (hd:=(Za rfl (Za rfl (Za qb.one (Za qg.one (Za ql.one Zi))))))) ?_;clear hS;rintro w hS
   refine⟨⟨fun h=>absurd h (by decide),hS.pk [0,1]⟩,?_⟩
   refine zdd<|zgj ⟨g3,vq1,vq2,qk,qm,qb,qg,ql,qM,rfl,hS.pk [0,1,3,4,5,6,2]⟩
  clear hS w;rintro M w ⟨g3,vq1,vq2,qk,qm,qb,qg,ql,qM,rfl,hS⟩
  refine ztn<|zsq<|zdst [0,1,2,3,4,5,6] [0,1,4,5,6] 17 mx_ hS ?_;clear hS;intro w hS
  refine(zDw 0 (xfb 2 fd_265_2))<|(zDl 1 (fun w hS=>(xlb 4 pl_22 hS)))<|(zDw 2 xmv)<|(zDw 3 (xfb 3 fd_265_3))<|(zDl 4 (fun w hS=>(xlb 4 pl_22 hS)))<|(zDw 5 xmv)<|(zDw 6 (xfb 3 fd_265_3))<|(zDl 7 (fun w hS=>(xlb 0 pl_22 hS)))<|(zDw 8 xmv)<|(zDw 9 (xix (kk:=col) Zb hT.F.slh))<|(zDl 10 (fun w hS=>(xlr (u:= .int .i64 (t.F col)) pl_3 (hT.F.below hS.below))))<|(zDw 11 (xfb 2 fd_265_2))<|(zDl 12 (fun w hS=>(xlb 0 pl_22 hS)))<|(zDw 13 xmv)<|zDrv 14 (xix (kk:=row) Zb hT.B.slh) ?_
  refine(zDl 15 (fun w hS=>(xlr (u:= .int .i64 (t.B row)) pl_3 (hT.B.below hS.below))))<|(zDw 16 (xix (kk:=row) Zb qb))<|zde 17 (xso 2 pl_3 hS (Zq _ _ _)) ?_;clear hS;rintro w hS
  refine⟨⟨fun h=>absurd h (by decide),hS.pk [0,1,4,5,6]⟩,?_⟩
  refine(zDw 18 (xix (kk:=col) Zb qg))<|zde 19 (xso 3 pl_3 hS (Zq _ _ _)) ?_;clear hS;rintro w hS
  refine⟨⟨fun h=>absurd h (by decide),hS.pk [0,1,4,5,6]⟩,?_⟩
  refine zdd<|ztn<|zsq<|zsr ?_
  refine(zV (xfb 4 fd_265_4))<|(zV (xlb 0 ZR hS))<|(zV (xln Zl hT.C.row.slh))<|(zP)<|zx6<|zlp (fun mm M w=>∃(cf:Int->Int->Int) (i:Int),mm=((t.nc-i).toNat)/\(0<=i)/\(i<=t.nc)/\(∀a b,0<=a->a<i->0<=b->b<=t.nf->cf a b=Yu t (row+1) (col+1) a b)/\(∀a b,0<=a->a<i->0<=b->b<=t.nf->ZjP t (row+1) (col+1) a b)/\M= [(3,.pointer (some ⟨g1,0,none⟩)),(6,.pointer (some ⟨g2,0,none⟩)),(8,.int .i64 (row+1)),(9,.int .i64 (col+1)),(10,.int .i64 ((t.C (row+1)) (col+1))),(11,.int .i64 t.den),(12,.pointer (some ⟨g3,0,none⟩)),(105,vC),(106,.int .i64 t.nc),(107,.int .i64 i)]/\Sat w0 w [.blk g1 [.int .i64 t.vars,.int .i64 t.den,vB,vF,vC],.blk g2 [.int .i64 0,.int .i64 0,.slice none 0 0,.slice none 0 0,.slice none 0 0],.own vq1 1 3 t.nb (ints (upd t.B row (t.F col))),.own vq2 1 3 t.nf (ints (upd t.F col (t.B row))),.own qk 1 22 t.nc qm,.sem (Frame.rows 3 t.nc qm t.ln cf),.blk g3 [.int .i64 t.vars,.int .i64 ((t.C (row+1)) (col+1)),vq1,vq2,qk]]) ⟨t.C,0,rfl,(by omega),(by omega),?_,?_,rfl,hS⟩ ?_
  ·
   intro a b a0 a1;omega
  ·
   intro a b a0 a1;omega
  clear hS w
  rintro mm M w ⟨cf,i,rfl,h0,h1,hcf,hdv,rfl,hS⟩
  refine zsr<|(zP)<|zx7<|Ze ?_ ?_<;>intro hc
  ·
   refine zx3<|(zP)<|(zV (xix (kk:=i) Zl hT.C.row.slh))<|zlv (xlr (u:=(vv i)) pl_22 (hT.C.row.below hS.below)) ?_
   have hli:=hp.len (i:=i) (by omega) (by omega)
   refine(zP)<|(zP)<|zlz<|(zP)<|(zV (xln Zb (hT.C.p i (by omega) (by omega)).slh))<|(zP)<|zx6<|zlp (fun mm M w=>∃(cf:Int->Int->Int) (j:Int),mm=((t.nf+1-j).toNat)/\(0<=j)/\(j<=t.nf+1)/\(∀a b,0<=a->a<i->0<=b->b<=t.nf->cf a b=Yu t (row+1) (col+1) a b)/\(∀b,0<=b->b<j->cf i b=Yu t (row+1) (col+1) i b)/\(∀b,0<=b->b<j->ZjP t (row+1) (col+1) i b)/\M= [(3,.pointer (some ⟨g1,0,none⟩)),(6,.pointer (some ⟨g2,0,none⟩)),(8,.int .i64 (row+1)),(9,.int .i64 (col+1)),(10,.int .i64 ((t.C (row+1)) (col+1))),(11,.int .i64 t.den),(12,.pointer (some ⟨g3,0,none⟩)),(13,.int .i64 i),(14,(vv i)),(105,vC),(106,.int .i64 t.nc),(107,.int .i64 i),(112,(vv i)),(113,.int .i64 (t.ln i)),(114,.int .i64 j)]/\Sat w0 w [.blk g1 [.int .i64 t.vars,.int .i64 t.den,vB,vF,vC],.blk g2 [.int .i64 0,.int .i64 0,.slice none 0 0,.slice none 0 0,.slice none 0 0],.own vq1 1 3 t.nb (ints (upd t.B row (t.F col))),.own vq2 1 3 t.nf (ints (upd t.F col (t.B row))),.own qk 1 22 t.nc qm,.sem (Frame.rows 3 t.nc qm t.ln cf),.blk g3 [.int .i64 t.vars,.int .i64 ((t.C (row+1)) (col+1)),vq1,vq2,qk]]) ⟨cf,0,rfl,(by omega),(by omega),?_,?_,?_,rfl,hS⟩ ?_
   ·
    exact hcf
   ·
    intro b b0 b1;omega
   ·
    intro b b0 b1;omega
   clear hS w
   rintro mm M w ⟨cf,j,rfl,j0,j1,aK,qt,hdr,rfl,hS⟩
   refine zsr<|(zP)<|zx7<|Ze ?_ ?_<;>intro hc
   ·
    refine zx3<|(zP)<|(zV (xix (kk:=j) Zb (hT.C.p i (by omega) (by omega)).slh))<|zlv (xlr (u:= .int .i64 ((t.C i) j)) pl_3 ((hT.C.p i (by omega) (by omega)).below hS.below)) ?_
    have hcb:=hp.cell (i:=i) (j:=j) (by omega) (by omega) (by omega) (by omega)
    refine(zP)<|(zP)<|zlt<|zsq<|zbk<|zsr<|zs4 ?_
    refine zlb 123 ?_ ?_<;>intro hc
    ·
     refine zs5 ?_
     refine zlt<|Ze ?_ ?_<;>intro hc
     ·
      refine zrg<|(zP)<|(zP)<|zx10<|(zV (xfb 4 fd_265_4))<|(zV (xlb 6 ZR hS))<|(zP)<|(zV (xix (kk:=i) Zl ql))<|zlv (xlr (u:=(qm i)) pl_22 (hS.rowN 4 rfl)) ?_
      skip
      refine(zP)<|(zP)<|(zV (xix (kk:=j) Zb (qM i (by omega) (by omega))))<|zle (xsr 5 pl_3 hS rfl) ?_;clear hS;rintro w hS
      refine zx10<|(zV (Zh (r:=j+1)))<|(zP)<|zln<|zlq ⟨upd cf i (upd (cf i) j t.den),j+1,rfl,(by omega),(by omega),?_,?_,?_,rfl,hS⟩
      ·
       intro a b a0 a1 b0 b1;rw [gu_ne (by omega)];exact aK a b a0 a1 b0 b1
      ·
       intro b b0 b1
       by_cases e:b=j
       · subst e;rw [gu_self,gu_self];unfold Yu;(repeat' split)<;>first|rfl|omega|(exfalso;omega)
       · rw [gu_self,gu_ne e];exact qt b b0 (by omega)
      ·
       intro b b0 b1
       by_cases e:b=j
       · subst e;intro e1 e2;first|omega|exact Classical.not_not.1 ‹_›
       · exact hdr b b0 (by omega)
     refine zsr<|(zP)<|(zP)<|(zV (xkt YL))<|(zP)<|zlt<|zct<|zrg ?_
     refine(zP)<|zlv (Zd5 (r:= -(((t.C i) j))) (hr:=(by unfold I64;omega))) ?_
     refine(zP)<|zx10<|(zV (xfb 4 fd_265_4))<|(zV (xlb 6 ZR hS))<|(zP)<|(zV (xix (kk:=i) Zl ql))<|zlv (xlr (u:=(qm i)) pl_22 (hS.rowN 4 rfl)) ?_
     skip
     refine(zP)<|(zP)<|(zV (xix (kk:=j) Zb (qM i (by omega) (by omega))))<|zle (xsr 5 pl_3 hS rfl) ?_;clear hS;rintro w hS
     refine zx10<|(zV (Zh (r:=j+1)))<|(zP)<|zln<|zlq ⟨upd cf i (upd (cf i) j (-(((t.C i) j)))),j+1,rfl,(by omega),(by omega),?_,?_,?_,rfl,hS⟩
     ·
      intro a b a0 a1 b0 b1;rw [gu_ne (by omega)];exact aK a b a0 a1 b0 b1
     ·
      intro b b0 b1
      by_cases e:b=j
      · subst e;rw [gu_self,gu_self];unfold Yu;(repeat' split)<;>first|rfl|omega|(exfalso;omega)
      · rw [gu_self,gu_ne e];exact qt b b0 (by omega)
     ·
      intro b b0 b1
      by_cases e:b=j
      · subst e;intro e1 e2;first|omega|exact Classical.not_not.1 ‹_›
      · exact hdr b b0 (by omega)
    iterate 3 refine zlo ?_
    refine(zP)<|(zP)<|zlt<|zcf<|zsr ?_
    refine zs4 ?_
    refine zlt<|Ze ?_ ?_<;>intro hc
    ·
     exfalso;omega
    refine zsr<|zs4 ?_
    refine zlt<|Ze ?_ ?_<;>intro hc
    ·
     refine zsq<|zdst [0,1,2,3,4,5,6] [0,1,2,3,4,5,6] 1000 mx_ hS ?_;clear hS;intro w hS
     refine zDrv 0 xmv ?_
     have hm1:=Wq hpb hcb;have hm2:=Wq (hp.cell (i:=i) (j:=col+1) (by omega) (by omega) (by omega) (by omega)) (hp.cell (i:=row+1) (j:=j) (by omega) (by omega) (by omega) (by omega))
     have hqd:=Xo (a:=t.C (row+1) (col+1)*t.C i j-t.C i (col+1)*t.C (row+1) j) (d:=t.den) (A:=2305843009213693952) (by omega) (by omega)
     refine(zDw 1 xmv)<|zdv 2 (fun _=>(Z7 (r:=(((t.C (row+1)) (col+1))*((t.C i) j))) (e:=rfl) (hr:=(by unfold I64;omega)))) ?_
     refine(zDw 3 xmv)<|(zDw 4 xmv)<|(zDw 5 (xix (kk:=col+1) Zb (hT.C.p i (by omega) (by omega)).slh))<|(zDl 6 (fun w hS=>(xlr (u:= .int .i64 ((t.C i) (col+1))) pl_3 ((hT.C.p i (by omega) (by omega)).below hS.below))))<|(zDw 7 (xfb 4 fd_265_4))<|(zDl 8 (fun w hS=>(xlb 0 ZR hS)))<|(zDw 9 xmv)<|(zDw 10 (xix (kk:=row+1) Zl hT.C.row.slh))<|(zDl 11 (fun w hS=>(xlr (u:=(vv (row+1))) pl_22 (hT.C.row.below hS.below))))<|(zDw 12 xmv)<|(zDw 13 (xix (kk:=j) Zb (hT.C.p (row+1) (by omega) (by omega)).slh))<|(zDl 14 (fun w hS=>(xlr (u:= .int .i64 ((t.C (row+1)) j)) pl_3 ((hT.C.p (row+1) (by omega) (by omega)).below hS.below))))<|zdv 15 (fun _=>(Z7 (r:=(((t.C i) (col+1))*((t.C (row+1)) j))) (e:=rfl) (hr:=(by unfold I64;omega)))) ?_
     refine zdv 16 (fun _=>(Zp (r:=(((t.C (row+1)) (col+1))*((t.C i) j))-(((t.C i) (col+1))*((t.C (row+1)) j))) (hr:=(by unfold I64;omega)))) ?_
     refine(zDw 17 xas)<|zdd<|ztn<|zsq<|zsr ?_
     refine(zP)<|(zP)<|(zV (Zd4 (r:=(Int.tmod ((((t.C (row+1)) (col+1))*((t.C i) j))-(((t.C i) (col+1))*((t.C (row+1)) j))) t.den)) (hn:=(by omega))))<|(zP)<|zlt<|Ze ?_ ?_<;>intro hc
     ·
      refine zsr<|(zV (xany (v:= .agg #[.int .i64 0,.int .i64 0,.slice none 0 0,.slice none 0 0,.slice none 0 0])))<|zle (xsw 1 Zr hS) ?_;clear hS;rintro w hS
      refine(zP)<|zlt<|zrt<|ztr<|zbr<|ztr<|zbr<|ztr<|ztr<|zbr<|zbr<|ztr<|ztr<|zbr<|ztr<|Yp 1 Zr hS ⟨_,rfl,?_⟩
      exact⟨_,_,_,fun _=>undef,Tb.zero,4,rfl,.inr (.inl ⟨⟨hp,by omega,by omega,by omega,by omega,hnz⟩,fun hd=>by have:=hd i j h0 (by omega) j0 (by omega) (by omega) (by omega);omega,rfl,rfl⟩),slh_nil,slh_nil,slh_nil,((((hS.sub (.cons _ (.cons _ (.cons _ (.cons _ (.cons _ (.cons _ (.cons _ .slnil)))))))).addnil 1 3 (ints Tb.zero.B)).addnil 1 3 (ints Tb.zero.F)).addnil 1 22 (fun _=>undef)).addrows 3 (fun _=>undef) Tb.zero.ln Tb.zero.C⟩
     refine zsk<|ztn<|zrg<|(zP)<|(zP)<|zlv (Vx (r:=(Int.tdiv ((((t.C (row+1)) (col+1))*((t.C i) j))-(((t.C i) (col+1))*((t.C (row+1)) j))) t.den)) (hn:=(by omega)) (hr:=(by unfold I64;omega))) ?_
     refine(zP)<|zx10<|(zV (xfb 4 fd_265_4))<|(zV (xlb 6 ZR hS))<|(zP)<|(zV (xix (kk:=i) Zl ql))<|zlv (xlr (u:=(qm i)) pl_22 (hS.rowN 4 rfl)) ?_
     skip
     refine(zP)<|(zP)<|(zV (xix (kk:=j) Zb (qM i (by omega) (by omega))))<|zle (xsr 5 pl_3 hS rfl) ?_;clear hS;rintro w hS
     refine zx10<|(zV (Zh (r:=j+1)))<|(zP)<|zln<|zlq ⟨upd cf i (upd (cf i) j (Int.tdiv ((((t.C (row+1)) (col+1))*((t.C i) j))-(((t.C i) (col+1))*((t.C (row+1)) j))) t.den)),j+1,rfl,(by omega),(by omega),?_,?_,?_,rfl,hS⟩
     ·
      intro a b a0 a1 b0 b1;rw [gu_ne (by omega)];exact aK a b a0 a1 b0 b1
     ·
      intro b b0 b1
      by_cases e:b=j
      · subst e;rw [gu_self,gu_self];unfold Yu;(repeat' split)<;>first|rfl|omega|(exfalso;omega)
      · rw [gu_self,gu_ne e];exact qt b b0 (by omega)
     ·
      intro b b0 b1
      by_cases e:b=j
      · subst e;intro e1 e2;first|omega|exact Classical.not_not.1 ‹_›
      · exact hdr b b0 (by omega)
    refine zx4<|(zV (xfb 4 fd_265_4))<|(zV (xlb 6 ZR hS))<|(zP)<|(zV (xix (kk:=i) Zl ql))<|zlv (xlr (u:=(qm i)) pl_22 (hS.rowN 4 rfl)) ?_
    skip
    refine(zP)<|(zP)<|(zV (xix (kk:=j) Zb (qM i (by omega) (by omega))))<|zle (xsr 5 pl_3 hS rfl) ?_;clear hS;rintro w hS
    refine zx10<|(zV (Zh (r:=j+1)))<|(zP)<|zln<|zlq ⟨upd cf i (upd (cf i) j ((t.C i) j)),j+1,rfl,(by omega),(by omega),?_,?_,?_,rfl,hS⟩
    ·
     intro a b a0 a1 b0 b1;rw [gu_ne (by omega)];exact aK a b a0 a1 b0 b1
    ·
     intro b b0 b1
     by_cases e:b=j
     · subst e;rw [gu_self,gu_self];unfold Yu;(repeat' split)<;>first|rfl|omega|(exfalso;omega)
     · rw [gu_self,gu_ne e];exact qt b b0 (by omega)
    ·
     intro b b0 b1
     by_cases e:b=j
     · subst e;intro e1 e2;first|omega|exact Classical.not_not.1 ‹_›
     · exact hdr b b0 (by omega)
   refine zx21<|(zV (Zh (r:=i+1)))<|(zP)<|zln<|zlq ⟨cf,i+1,rfl,(by omega),(by omega),?_,?_,rfl,hS⟩
   ·
    intro a b a0 a1 b0 b1
    by_cases e:a=i
    · subst e;exact qt b b0 (by omega)
    · exact aK a b a0 (by omega) b0 b1
   ·
    intro a b a0 a1 b0 b1
    by_cases e:a=i
    · subst e;exact hdr b b0 (by omega)
    · exact hdv a b a0 (by omega) b0 b1
  refine zx18<|zlv xmv ?_
  have hin:i=t.nc:=by omega
  have bq:Zdp t row col:=fun a b a0 a1 b0 b1=>hdv a b a0 (by omega) b0 b1
  refine(zP)<|zlt<|Ze ?_ ?_<;>intro hc
  ·
   refine zsr<|(zP)<|zlv (Zd5 (r:= -(((t.C (row+1)) (col+1)))) (hr:=(by unfold I64;omega))) ?_
   refine(zV (xfb 1 fd_265_1))<|zle (xsb 6 pl_3 hS) ?_;clear hS;rintro w hS
   refine zlz<|(zV (xfb 4 fd_265_4))<|(zV (xlb 6 ZR hS))<|(zV (xln Zl ql))<|(zP)<|zx6<|zlp (fun mm M w=>∃(cf:Int->Int->Int) (k:Int),mm=((t.nc-k).toNat)/\(0<=k)/\(k<=t.nc)/\(∀a b,0<=a->a<k->0<=b->b<=t.nf->cf a b= -Yu t (row+1) (col+1) a b)/\(∀a b,k<=a->a<t.nc->0<=b->b<=t.nf->cf a b=Yu t (row+1) (col+1) a b)/\M= [(6,.pointer (some ⟨g2,0,none⟩)),(12,.pointer (some ⟨g3,0,none⟩)),(180,qk),(181,.int .i64 t.nc),(182,.int .i64 k)]/\Sat w0 w [.blk g1 [.int .i64 t.vars,.int .i64 t.den,vB,vF,vC],.blk g2 [.int .i64 0,.int .i64 0,.slice none 0 0,.slice none 0 0,.slice none 0 0],.own vq1 1 3 t.nb (ints (upd t.B row (t.F col))),.own vq2 1 3 t.nf (ints (upd t.F col (t.B row))),.own qk 1 22 t.nc qm,.sem (Frame.rows 3 t.nc qm t.ln cf),.blk g3 [.int .i64 t.vars,.int .i64 (-(((t.C (row+1)) (col+1)))),vq1,vq2,qk]]) ⟨cf,0,rfl,(by omega),(by omega),?_,?_,rfl,hS⟩ ?_
   ·
    intro a b a0 a1;omega
   ·
    intro a b a0 a1 b0 b1;exact hcf a b (by omega) (by omega) b0 b1
   clear hS w
   rintro mm M w ⟨cf,k,rfl,k0,k1,hng,hps,rfl,hS⟩
   refine zsr<|(zP)<|zx7<|Ze ?_ ?_<;>intro hc
   ·
    refine zx3<|(zV (xix (kk:=k) Zl ql))<|zlv (xlr (u:=(qm k)) pl_22 (hS.rowN 4 rfl)) ?_
    have hlk:=hp.len (i:=k) (by omega) (by omega)
    refine(zP)<|zlz<|(zP)<|(zV (xln Zb (qM k (by omega) (by omega))))<|(zP)<|zx6<|zlp (fun mm M w=>∃(cf:Int->Int->Int) (q:Int),mm=((t.nf+1-q).toNat)/\(0<=q)/\(q<=t.nf+1)/\(∀a b,0<=a->a<k->0<=b->b<=t.nf->cf a b= -Yu t (row+1) (col+1) a b)/\(∀a b,k+1<=a->a<t.nc->0<=b->b<=t.nf->cf a b=Yu t (row+1) (col+1) a b)/\(∀b,0<=b->b<q->cf k b= -Yu t (row+1) (col+1) k b)/\(∀b,q<=b->b<=t.nf->cf k b=Yu t (row+1) (col+1) k b)/\M= [(6,.pointer (some ⟨g2,0,none⟩)),(12,.pointer (some ⟨g3,0,none⟩)),(18,(qm k)),(180,qk),(181,.int .i64 t.nc),(182,.int .i64 k),(187,.int .i64 (t.ln k)),(188,.int .i64 q)]/\Sat w0 w [.blk g1 [.int .i64 t.vars,.int .i64 t.den,vB,vF,vC],.blk g2 [.int .i64 0,.int .i64 0,.slice none 0 0,.slice none 0 0,.slice none 0 0],.own vq1 1 3 t.nb (ints (upd t.B row (t.F col))),.own vq2 1 3 t.nf (ints (upd t.F col (t.B row))),.own qk 1 22 t.nc qm,.sem (Frame.rows 3 t.nc qm t.ln cf),.blk g3 [.int .i64 t.vars,.int .i64 (-(((t.C (row+1)) (col+1)))),vq1,vq2,qk]]) ⟨cf,0,rfl,(by omega),(by omega),?_,?_,?_,?_,rfl,hS⟩ ?_
    ·
     exact hng
    ·
     intro a b a0 a1 b0 b1;exact hps a b (by omega) a1 b0 b1
    ·
     intro b b0 b1;omega
    ·
     intro b b0 b1;exact hps k b (Int.le_refl _) (by omega) (by omega) b1
    clear hS w
    rintro mm M w ⟨cf,q,rfl,q0,q1,hng,hps,d7,d8,rfl,hS⟩
    refine zsr<|(zP)<|zx7<|Ze ?_ ?_<;>intro hc
    ·
     refine zx3<|(zP)<|(zP)<|zlt<|zrg<|zs4 ?_
     refine(zV (xix (kk:=q) Zb (qM k (by omega) (by omega))))<|zlv (xlr (u:= .int .i64 (cf k q)) pl_3 (hS.rowIn (k:=k) 5 rfl (by omega) (by omega))) ?_
     have d9:=d8 q (Int.le_refl _) (by omega)
     have hpc: -9223372036854775807<=cf k q/\cf k q<=9223372036854775807:=by rw [d9];exact Zer hp (by omega) (by omega) (by omega) (by omega) (by omega) (by omega) (by omega) (by omega)
     refine zlv (Zd5 (r:= -((cf k q))) (hr:=(by unfold I64;omega))) ?_
     refine(zV (xix (kk:=q) Zb (qM k (by omega) (by omega))))<|zle (xsr 5 pl_3 hS rfl) ?_;clear hS;rintro w hS
     refine zx10<|(zV (Zh (r:=q+1)))<|(zP)<|zln<|zlq ⟨upd cf k (upd (cf k) q (-((cf k q)))),q+1,rfl,(by omega),(by omega),?_,?_,?_,?_,rfl,hS⟩
     ·
      intro a b a0 a1 b0 b1;rw [gu_ne (by omega)];exact hng a b a0 a1 b0 b1
     ·
      intro a b a0 a1 b0 b1;rw [gu_ne (by omega)];exact hps a b a0 a1 b0 b1
     ·
      intro b b0 b1
      by_cases e:b=q
      · subst e;rw [gu_self,gu_self,d9]
      · rw [gu_self,gu_ne e];exact d7 b b0 (by omega)
     ·
      intro b b0 b1;rw [gu_self,gu_ne (by omega)];exact d8 b (by omega) b1
    refine zx21<|(zV (Zh (r:=k+1)))<|(zP)<|zln<|zlq ⟨cf,k+1,rfl,(by omega),(by omega),?_,?_,rfl,hS⟩
    ·
     intro a b a0 a1 b0 b1
     by_cases e:a=k
     · subst e;exact d7 b b0 (by omega)
     · exact hng a b a0 (by omega) b0 b1
    ·
     intro a b a0 a1 b0 b1;exact hps a b (by omega) a1 b0 b1
   refine zx18<|zlv (xls 6 Zr hS) ?_
   have y7: -(((t.C (row+1)) (col+1)))=(piv t row col).den:=(if_pos (by omega)).symm
   replace hS:=hS.rerows (vv':=qm) (ln':=(piv t row col).ln) (f':=(piv t row col).C) 5 rfl (fun k k0 k1=>⟨rfl,rfl,fun j j0 j1=>by
     have hlk:=hp.len (i:=k) (by omega) (by omega)
     exact(hng k j k0 (by omega) j0 (by omega)).trans (if_pos (by omega)).symm⟩)
   rw [y7] at hS⊢
   obtain⟨u,huu⟩:∃u,u=piv t row col:=⟨_,rfl⟩
   have yo:Slh vq1 u.nb:=by subst huu;exact qb
   have ym:Slh vq2 u.nf:=by subst huu;exact qg
   have yn:Slh qk u.nc:=by subst huu;exact ql
   replace hS:Sat w0 w [.blk g1 [.int .i64 t.vars,.int .i64 t.den,vB,vF,vC],.blk g2 [.int .i64 0,.int .i64 0,.slice none 0 0,.slice none 0 0,.slice none 0 0],.own vq1 1 3 u.nb (ints u.B),.own vq2 1 3 u.nf (ints u.F),.own qk 1 22 u.nc qm,.sem (Frame.rows 3 u.nc qm u.ln u.C),.blk g3 [.int .i64 u.vars,.int .i64 u.den,vq1,vq2,qk]]:=by subst huu;exact hS
   have fp:=fun k (k0:0<=k) (k1:k<u.nc)=>hS.slhIn 5 rfl k0 k1
   refine R1 201 (u:= .agg #[.int .i64 u.vars,.int .i64 u.den,vq1,vq2,qk]) (by subst huu;first|rfl|(congr 1)) ?_
   refine zlc (xc0 KE) (V1 (t:=u) w (⟨(hS.rowN 2 rfl),(hS.rowN 3 rfl),(⟨(hS.rowN 4 rfl),fun k k0 k1=>hS.rowIn 5 rfl k0 k1,fun k k0 k1=>hS.roomIn 5 rfl k0 k1⟩:MAt _ qk u.nc qm u.ln u.C)⟩:TAt _ vq1 vq2 qk qm u)) ?_;rintro _ w ⟨rfl,hS'⟩
   replace hS:=hS.cmp hS';clear hS'
   refine(zP)<|zlt<|Ze ?_ ?_<;>intro hc
   ·
    refine zsr<|(zV (xany (v:= .agg #[.int .i64 0,.int .i64 0,.slice none 0 0,.slice none 0 0,.slice none 0 0])))<|zle (xsw 1 Zr hS) ?_;clear hS;rintro w hS
    refine(zP)<|zx14<|Yp 1 Zr hS ⟨_,rfl,?_⟩
    exact⟨_,_,_,fun _=>undef,Tb.zero,2,rfl,.inr (.inr (.inl ⟨⟨hp,by omega,by omega,by omega,by omega,hnz⟩,bq,huu▸‹¬TPrp u›,rfl,rfl⟩)),slh_nil,slh_nil,slh_nil,((((hS.sub (.cons _ (.cons _ (.cons _ (.cons _ (.cons _ (.cons _ (.cons _ .slnil)))))))).addnil 1 3 (ints Tb.zero.B)).addnil 1 3 (ints Tb.zero.F)).addnil 1 22 (fun _=>undef)).addrows 3 (fun _=>undef) Tb.zero.ln Tb.zero.C⟩
   refine ZS<|(zV (xls 6 Zr hS))<|zle (xsw 1 Zr hS (hd:=(Za rfl (Za rfl (Za yo.one (Za ym.one (Za yn.one Zi))))))) ?_;clear hS;rintro w hS
   refine(zP)<|zx1<|Yp 1 Zr hS ⟨_,rfl,?_⟩
   exact⟨_,_,_,_,u,0,rfl,.inr (.inr (.inr ⟨⟨hp,by omega,by omega,by omega,by omega,hnz⟩,bq,huu▸(Classical.not_not.1 ‹¬¬(TPrp u)›),huu,rfl⟩)),yo,ym,yn,hS.pk [2,3,4,5]⟩
  refine YJ<|zlv (xls 6 Zr hS) ?_
  have y7:((t.C (row+1)) (col+1))=(piv t row col).den:=(if_neg (by omega)).symm
  replace hS:=hS.rerows (vv':=qm) (ln':=(piv t row col).ln) (f':=(piv t row col).C) 5 rfl (fun k k0 k1=>⟨rfl,rfl,fun j j0 j1=>by
    have hlk:=hp.len (i:=k) (by omega) (by omega)
    exact(hcf k j k0 (by omega) j0 (by omega)).trans (if_neg (by omega)).symm⟩)
  rw [y7] at hS⊢
  obtain⟨u,huu⟩:∃u,u=piv t row col:=⟨_,rfl⟩
  have yo:Slh vq1 u.nb:=by subst huu;exact qb
  have ym:Slh vq2 u.nf:=by subst huu;exact qg
  have yn:Slh qk u.nc:=by subst huu;exact ql
  replace hS:Sat w0 w [.blk g1 [.int .i64 t.vars,.int .i64 t.den,vB,vF,vC],.blk g2 [.int .i64 0,.int .i64 0,.slice none 0 0,.slice none 0 0,.slice none 0 0],.own vq1 1 3 u.nb (ints u.B),.own vq2 1 3 u.nf (ints u.F),.own qk 1 22 u.nc qm,.sem (Frame.rows 3 u.nc qm u.ln u.C),.blk g3 [.int .i64 u.vars,.int .i64 u.den,vq1,vq2,qk]]:=by subst huu;exact hS
  have fp:=fun k (k0:0<=k) (k1:k<u.nc)=>hS.slhIn 5 rfl k0 k1
  refine R1 201 (u:= .agg #[.int .i64 u.vars,.int .i64 u.den,vq1,vq2,qk]) (by subst huu;first|rfl|(congr 1)) ?_
  refine zlc (xc0 KE) (V1 (t:=u) w (⟨(hS.rowN 2 rfl),(hS.rowN 3 rfl),(⟨(hS.rowN 4 rfl),fun k k0 k1=>hS.rowIn 5 rfl k0 k1,fun k k0 k1=>hS.roomIn 5 rfl k0 k1⟩:MAt _ qk u.nc qm u.ln u.C)⟩:TAt _ vq1 vq2 qk qm u)) ?_;rintro _ w ⟨rfl,hS'⟩
  replace hS:=hS.cmp hS';clear hS'
  refine(zP)<|zlt<|Ze ?_ ?_<;>intro hc
  ·
   refine zsr<|(zV (xany (v:= .agg #[.int .i64 0,.int .i64 0,.slice none 0 0,.slice none 0 0,.slice none 0 0])))<|zle (xsw 1 Zr hS) ?_;clear hS;rintro w hS
   refine(zP)<|zx14<|Yp 1 Zr hS ⟨_,rfl,?_⟩
   exact⟨_,_,_,fun _=>undef,Tb.zero,2,rfl,.inr (.inr (.inl ⟨⟨hp,by omega,by omega,by omega,by omega,hnz⟩,bq,huu▸‹¬TPrp u›,rfl,rfl⟩)),slh_nil,slh_nil,slh_nil,((((hS.sub (.cons _ (.cons _ (.cons _ (.cons _ (.cons _ (.cons _ (.cons _ .slnil)))))))).addnil 1 3 (ints Tb.zero.B)).addnil 1 3 (ints Tb.zero.F)).addnil 1 22 (fun _=>undef)).addrows 3 (fun _=>undef) Tb.zero.ln Tb.zero.C⟩
  refine ZS<|(zV (xls 6 Zr hS))<|zle (xsw 1 Zr hS (hd:=(Za rfl (Za rfl (Za yo.one (Za ym.one (Za yn.one Zi))))))) ?_;clear hS;rintro w hS
  refine(zP)<|zx1<|Yp 1 Zr hS ⟨_,rfl,?_⟩
  exact⟨_,_,_,_,u,0,rfl,.inr (.inr (.inr ⟨⟨hp,by omega,by omega,by omega,by omega,hnz⟩,bq,huu▸(Classical.not_not.1 ‹¬¬(TPrp u)›),huu,rfl⟩)),yo,ym,yn,hS.pk [2,3,4,5]⟩
  all_goals
   refine zOps ?_
   refine zlt<|zct<|zsr ?_
   refine(zV (xany (v:= .agg #[.int .i64 0,.int .i64 0,.slice none 0 0,.slice none 0 0,.slice none 0 0])))<|zle (xsw 1 Zr hS) ?_;clear hS;rintro w hS
   refine zOps ?_
   refine zx14<|Yp 1 Zr hS ⟨_,rfl,?_⟩
   exact⟨_,_,_,fun _=>undef,Tb.zero,1,rfl,.inl ⟨by first|exact fun hh=>absurd hh.1 ‹_›|(rintro⟨_,p1,p2,p3,p4,p5⟩;omega),rfl,rfl⟩,slh_nil,slh_nil,slh_nil,((((hS.sub (.cons _ (.cons _ .slnil))).addnil 1 3 (ints Tb.zero.B)).addnil 1 3 (ints Tb.zero.F)).addnil 1 22 (fun _=>undef)).addrows 3 (fun _=>undef) Tb.zero.ln Tb.zero.C⟩
end Go.Proofs.YtkichmnjjblodaaGreat
namespace Go.Proofs.YtkichmnjjblodaaGreat
open Go Go.RowKit Go.Proofs.Gw
theorem Zj8:Zc Tryz.prog 216=true:=by kernel_rfl
theorem fd_245_0:Zs Tryz.prog 245 0=some 0:=by kernel_rfl
theorem fd_245_1:Zs Tryz.prog 245 1=some 1:=by kernel_rfl
theorem fd_245_2:Zs Tryz.prog 245 2=some 2:=by kernel_rfl
theorem Zec:Zz Tryz.prog 245=some 3:=by kernel_rfl
theorem ZhK{vc vA vb:Value}{vq:Int->Value}{p:Lp}(w0:World)(hL:LAt w0 vc vA vb vq p):
    Calls Tryz.prog 216 [.agg #[vc,vA,vb]].toArray w0 fun e w=>∃v,e= .returned v/\v=B (LOk p)/\Sat w0 w []:=by
  have hn:=hL.c.slh.n0;have hn1:=hL.c.slh.n1;have hm:=hL.A.row.slh.n0;have hm1:=hL.A.row.slh.n1;have hk:=hL.b.slh.n0;have hk1:=hL.b.slh.n1
  refine zenG Tryz.func216 Tryz.ntmps216 fun w hS=> ?_
  refine zsr<|zla (xbx (cs:= [_,_,_]) hS) ?_;rintro _ w ⟨g1,rfl,hS⟩
  refine(zP)<|zlz<|(zV (xfb 0 fd_245_0))<|(zV (xlb 0 pl_22 hS))<|(zV (xln Zb hL.c.slh))<|zla (xal (cs:= [_]) Zt hS) ?_;rintro _ w ⟨g2,rfl,hS⟩
  refine zle (xsb 1 pl_3 hS) ?_;clear hS;rintro w hS
  refine zx5<|(zV (xlb 1 pl_3 hS))<|(zP)<|(zP)<|zlb 10 ?_ ?_<;>intro hc;rotate_left
  refine(zV (xlb 1 pl_3 hS))<|(zP)<|(zP)<|(zP)<|zlb 14 ?_ ?_<;>intro hc;rotate_left
  refine(zV (xfb 1 fd_245_1))<|(zV (xlb 0 ZR hS))<|(zV (xln Zl hL.A.row.slh))<|(zP)<|(zP)<|(zP)<|zlb 20 ?_ ?_<;>intro hc;rotate_left
  refine(zV (xfb 2 fd_245_2))<|(zV (xlb 0 pl_22 hS))<|(zV (xln Zb hL.b.slh))<|(zV (xfb 1 fd_245_1))<|(zV (xlb 0 ZR hS))<|(zV (xln Zl hL.A.row.slh))<|(zP)<|(zP)<|(zP)<|zlb 29 ?_ ?_<;>intro hc;rotate_left
  refine(zV (xfb 0 fd_245_0))<|(zV (xlb 0 pl_22 hS))<|zlc (xc0 KF) (Vb (n:=p.n) (m:=1000000) (f:=p.c) w (hL.c.below hS.below) (by omega)) ?_;rintro _ w ⟨rfl,hS'⟩
  replace hS:=hS.cmp hS';clear hS'
  refine(zP)<|(zP)<|(zP)<|zlb 35 ?_ ?_<;>intro hc;rotate_left
  refine(zV (xfb 2 fd_245_2))<|(zV (xlb 0 pl_22 hS))<|zlc (xc0 KF) (Vb (n:=p.k) (m:=1000000) (f:=p.b) w (hL.b.below hS.below) (by omega)) ?_;rintro _ w ⟨rfl,hS'⟩
  replace hS:=hS.cmp hS';clear hS'
  refine(zP)<|(zP)<|zlt<|Ze ?_ ?_<;>intro hc
  ·
   refine zsr<|(zP)<|zx14<|zf1 ⟨_,rfl,?_⟩
   exact⟨Zf (by intro hl;have b1:=hl.n1;have b2:=hl.n2;have b3:=hl.m2;have b4:=hl.k;first|omega|exact absurd (fun j j0 j1=>by have:=hl.c j j0 j1;omega) ‹¬Btw p.c p.n 1000000›|exact absurd (fun j j0 j1=>hl.b j j0 (by omega)) ‹¬Btw p.b p.k 1000000›|(obtain⟨j,j0,j1,j2⟩:=yc;have:=hl.c j j0 j1;omega)),hS.nl⟩
  refine ZS<|(zV xmf)<|(zP)<|zlz<|(zV (xfb 0 fd_245_0))<|(zV (xlb 0 pl_22 hS))<|zlc (xc0 Zfl) (ZiX (n:=p.n) (f:=p.c) w (hL.c.below hS.below) (by omega)) ?_;rintro _ w ⟨x1,rfl,yc,yx,hS'⟩
  replace hS:=hS.cmp hS';clear hS'
  refine(zP)<|(zP)<|zlb 46 ?_ ?_<;>intro hc
  ·
   refine(zV (xfb 1 fd_245_1))<|(zV (xlb 0 ZR hS))<|(zP)<|zlc (xc0 ZbX) (ZlJ (n:=p.m) (q:=p.n) (vv:=vq) (ln:=p.ln) (f:=p.A) w (hL.A.below hS.below) (hS.cellN 1 rfl rfl) (by omega)) ?_;rintro _ w ⟨rfl,hS'⟩
   replace hS:=hS.cmp hS';clear hS'
   refine(zP)<|(zP)<|(zP)<|zx1<|zf1 ⟨_,rfl,?_⟩
   refine⟨Zm ⟨fun hx=> ?_,fun hl hx=> ?_⟩,hS.nl⟩
   · have hc1:=(Classical.not_not.1 ‹¬¬(Btw p.c p.n 1000000)›);have hc2:=(Classical.not_not.1 ‹¬¬(Btw p.b p.k 1000000)›)
     refine⟨by omega,by omega,by omega,by omega,fun j j0 j1=>⟨by have:=yx j j0 j1;omega,(hc1 j j0 j1).2⟩,fun i i0 i1=>hc2 i i0 (by omega),fun i i0 i1=> ?_⟩
     have hy:=Classical.not_not.1 fun hh=>hx ⟨i,i0,i1,hh⟩
     exact⟨hy.1,fun j j0 j1=>hy.2 j j0 (by have:=hy.1;omega)⟩
   · obtain⟨k,k0,k1,hh⟩:=hx
     have hr:=hl.rows k k0 k1
     exact hh ⟨hr.1,fun j j0 j1=>hr.2 j j0 (by have:=hr.1;omega)⟩
  iterate 5 refine zlo ?_
  refine(zP)<|(zP)<|zx1<|zf1 ⟨_,rfl,?_⟩
  exact⟨Zf (by intro hl;have b1:=hl.n1;have b2:=hl.n2;have b3:=hl.m2;have b4:=hl.k;first|omega|exact absurd (fun j j0 j1=>by have:=hl.c j j0 j1;omega) ‹¬Btw p.c p.n 1000000›|exact absurd (fun j j0 j1=>hl.b j j0 (by omega)) ‹¬Btw p.b p.k 1000000›|(obtain⟨j,j0,j1,j2⟩:=yc;have:=hl.c j j0 j1;omega)),hS.nl⟩
  all_goals
   refine zOps ?_
   refine zlt<|zct<|zsr ?_
   refine zOps ?_
   refine zx14<|zf1 ⟨_,rfl,?_⟩
   exact⟨Zf (by intro hl;have b1:=hl.n1;have b2:=hl.n2;have b3:=hl.m2;have b4:=hl.k;first|omega|exact absurd (fun j j0 j1=>by have:=hl.c j j0 j1;omega) ‹¬Btw p.c p.n 1000000›|exact absurd (fun j j0 j1=>hl.b j j0 (by omega)) ‹¬Btw p.b p.k 1000000›|(obtain⟨j,j0,j1,j2⟩:=yc;have:=hl.c j j0 j1;omega)),hS.nl⟩
theorem ZhO{vc vA vb:Value}{vq:Int->Value}{p:Lp}(w0:World)(hL:LAt w0 vc vA vb vq p):
    Calls Tryz.prog 205 [.agg #[vc,vA,vb]].toArray w0 fun e w=>∃v,e= .returned v/\∃vB vF vC vv t' e,v= .tuple #[.agg #[.int .i64 t'.vars,.int .i64 t'.den,vB,vF,vC],.int .i64 e]/\StartR p t' e/\Slh vB t'.nb/\Slh vF t'.nf/\Slh vC t'.nc/\Sat w0 w [.own vB 1 3 t'.nb (ints t'.B),.own vF 1 3 t'.nf (ints t'.F),.own vC 1 22 t'.nc vv,.sem (Frame.rows 3 t'.nc vv t'.ln t'.C)]:=by
  have hn:=hL.c.slh.n0;have hn1:=hL.c.slh.n1;have hm:=hL.A.row.slh.n0;have hm1:=hL.A.row.slh.n1;have hk:=hL.b.slh.n0;have hk1:=hL.b.slh.n1
  refine zenG Tryz.func205 Tryz.ntmps205 fun w hS=> ?_
  refine zsr<|zla (xbx (cs:= [_,_,_]) hS) ?_;rintro _ w ⟨g1,rfl,hS⟩
  refine zla (xal (cs:= [_,_,_,_,_]) Xi hS) ?_;rintro _ w ⟨g2,rfl,hS⟩
  refine(zP)<|zx5<|(zV (xls 0 Zec hS))<|zlc (xc0 Zj8) (ZhK (p:=p) w (hL.below hS.below)) ?_;rintro _ w ⟨rfl,hS'⟩
  replace hS:=hS.cmp hS';clear hS'
  refine(zP)<|zlt<|Ze ?_ ?_<;>intro hc
  ·
   refine zsr<|(zV (xany (v:= .agg #[.int .i64 0,.int .i64 0,.slice none 0 0,.slice none 0 0,.slice none 0 0])))<|zle (xsw 1 Zr hS) ?_;clear hS;rintro w hS
   refine(zP)<|zx14<|Yp 1 Zr hS ⟨_,rfl,?_⟩
   exact⟨_,_,_,fun _=>undef,Tb.zero,1,rfl,.inl ⟨‹_›,rfl,rfl⟩,slh_nil,slh_nil,slh_nil,((((hS.sub (.cons _ (.cons _ .slnil))).addnil 1 3 (ints Tb.zero.B)).addnil 1 3 (ints Tb.zero.F)).addnil 1 22 (fun _=>undef)).addrows 3 (fun _=>undef) Tb.zero.ln Tb.zero.C⟩
  refine zsk<|ztn<|zsq<| ?_
  refine Vw (fun M w=>∃(g3:Nat) (v1:Value) (v2:Value) (v3:Value),(Slh v2 (p.n+1))/\(Slh v3 1)/\M= [(0,.agg #[vc,vA,vb]),(1,.pointer (some ⟨g1,0,none⟩)),(2,.pointer (some ⟨g2,0,none⟩)),(3,.int .i64 0),(8,.agg #[vc,vA,vb]),(9,B (LOk p)),(10,B (¬(LOk p))),(12,.pointer (some ⟨g1,0,none⟩)),(13,vc),(14,.int .i64 p.n),(16,.pointer (some ⟨g1,0,none⟩)),(17,vc),(15,v1),(18,v2),(19,v3),(20,.agg #[.int .i64 p.n,.int .i64 1,.slice none 0 0,.slice none 0 0,v3]),(4,.pointer (some ⟨g3,0,none⟩))]/\Sat w0 w [.blk g1 [vc,vA,vb],.blk g2 [.int .i64 0,.int .i64 0,.slice none 0 0,.slice none 0 0,.slice none 0 0],.own v2 1 3 (p.n+1) (ints (cat 1 (fun _=>0) p.c)),.own v3 1 22 1 (fun _=>v2),.blk g3 [.int .i64 p.n,.int .i64 1,.slice none 0 0,.slice none 0 0,v3]]) ?_ ?_
  ·
   refine zdst [0,1] [0,1] 10 mx_ hS ?_;clear hS;intro w hS
   refine zDrv 0 (xfb 0 fd_245_0) ?_
   have hl:=(Classical.not_not.1 ‹¬¬(LOk p)›)
   have b1:=hl.n1
   have b2:=hl.n2
   have b3:=hl.m2
   have b4:=hl.k
   refine(zDl 1 (fun w hS=>(xlb 0 pl_22 hS)))<|(zDw 2 (xln Zb hL.c.slh))<|(zDw 4 (xfb 0 fd_245_0))<|(zDl 5 (fun w hS=>(xlb 0 pl_22 hS)))<|Vd (r:= [3,9]) ((YK ?_ (YK ?_ Vc)))
   ·
    refine zka (xli (n:=1) (len:=1) (pv:= [(0,.int .i64 0)]) (cs:= [.int .i64 0]) (c:=ints (fun _=>0)) Zb Zt hS) ?_;rintro v1 w ⟨hS,hv1⟩
    refine⟨⟨fun _=>hS.pk [0,1],hS.pk [0,1]⟩,?_⟩
    refine Vd (r:= [6,9]) ((YK ?_ (YK ?_ Vc)))
    ·
     refine zka (xap 2 (r:=p.n+1) (f:=ints (cat 1 (fun _=>0) p.c)) Zb Zt hS (hL.c.below hS.below) (by exact Xk _ _ _)) ?_;rintro v2 w ⟨hS,hv2⟩
     refine⟨⟨fun _=>hS.pk [0,1],hS.pk [0,1]⟩,?_⟩
     refine Vd (r:= [7,9]) ((YK ?_ (YK ?_ Vc)))
     ·
      refine zka (xli (n:=1) (len:=1) (pv:= [(0,v2)]) (cs:= [v2]) (c:=(fun _=>v2)) Zl Z3 hS (hf:=by obtain⟨_,_,_,_,rfl,_⟩:=hv2;kernel_rfl)) ?_;rintro v3 w ⟨hS,hv3⟩
      refine⟨⟨fun _=>hS.pk [0,1],hS.pk [0,1]⟩,?_⟩
      refine zDrv 8 (xany (v:= .agg #[.int .i64 p.n,.int .i64 1,.slice none 0 0,.slice none 0 0,v3]) (hr:=by obtain⟨_,_,_,_,rfl,_⟩:=hv3;kernel_rfl)) ?_
      refine zda 9 (xal (cs:= [_,_,_,_,_]) Xi hS) ?_;rintro _ w ⟨g3,rfl,hS⟩
      refine⟨⟨fun _=>hS.pk [0,1],hS.pk [0,1]⟩,?_⟩
      refine zde 10 (xsw 4 Zr hS (hd:=(Za rfl (Za rfl (Za rfl (Za rfl (Za hv3.one Zi))))))) ?_;clear hS;rintro w hS
      refine⟨⟨fun h=>absurd h (by decide),hS.pk [0,1]⟩,?_⟩
      refine zdd<|zgj ⟨g3,v1,v2,v3,hv2,hv3,rfl,hS⟩
     refine zka (xal (cs:= [_,_,_,_,_]) Xi hS) ?_;rintro _ w ⟨g3,rfl,hS⟩
     refine⟨⟨fun _=>hS.pk [0,1],hS.pk [0,1]⟩,?_⟩
     refine zda 7 (xli (n:=1) (len:=1) (pv:= [(0,v2)]) (cs:= [v2]) (c:=(fun _=>v2)) Zl Z3 hS (hf:=by obtain⟨_,_,_,_,rfl,_⟩:=hv2;kernel_rfl)) ?_;rintro v3 w ⟨hS,hv3⟩
     refine⟨⟨fun _=>hS.pk [0,1],hS.pk [0,1]⟩,?_⟩
     refine zDrv 8 (xany (v:= .agg #[.int .i64 p.n,.int .i64 1,.slice none 0 0,.slice none 0 0,v3]) (hr:=by obtain⟨_,_,_,_,rfl,_⟩:=hv3;kernel_rfl)) ?_
     refine zde 10 (xsw 3 Zr hS (hd:=(Za rfl (Za rfl (Za rfl (Za rfl (Za hv3.one Zi))))))) ?_;clear hS;rintro w hS
     refine⟨⟨fun h=>absurd h (by decide),hS.pk [0,1]⟩,?_⟩
     refine zdd<|zgj ⟨g3,v1,v2,v3,hv2,hv3,rfl,hS.pk [0,1,2,4,3]⟩
    refine zka (xal (cs:= [_,_,_,_,_]) Xi hS) ?_;rintro _ w ⟨g3,rfl,hS⟩
    refine⟨⟨fun _=>hS.pk [0,1],hS.pk [0,1]⟩,?_⟩
    refine zda 6 (xap 2 (r:=p.n+1) (f:=ints (cat 1 (fun _=>0) p.c)) Zb Zt hS (hL.c.below hS.below) (by exact Xk _ _ _)) ?_;rintro v2 w ⟨hS,hv2⟩
    refine⟨⟨fun _=>hS.pk [0,1],hS.pk [0,1]⟩,?_⟩
    refine zda 7 (xli (n:=1) (len:=1) (pv:= [(0,v2)]) (cs:= [v2]) (c:=(fun _=>v2)) Zl Z3 hS (hf:=by obtain⟨_,_,_,_,rfl,_⟩:=hv2;kernel_rfl)) ?_;rintro v3 w ⟨hS,hv3⟩
    refine⟨⟨fun _=>hS.pk [0,1],hS.pk [0,1]⟩,?_⟩
    refine zDrv 8 (xany (v:= .agg #[.int .i64 p.n,.int .i64 1,.slice none 0 0,.slice none 0 0,v3]) (hr:=by obtain⟨_,_,_,_,rfl,_⟩:=hv3;kernel_rfl)) ?_
    refine zde 10 (xsw 3 Zr hS (hd:=(Za rfl (Za rfl (Za rfl (Za rfl (Za hv3.one Zi))))))) ?_;clear hS;rintro w hS
    refine⟨⟨fun h=>absurd h (by decide),hS.pk [0,1]⟩,?_⟩
    refine zdd<|zgj ⟨g3,v1,v2,v3,hv2,hv3,rfl,hS.pk [0,1,2,4,3]⟩
   refine zka (xal (cs:= [_,_,_,_,_]) Xi hS) ?_;rintro _ w ⟨g3,rfl,hS⟩
   refine⟨⟨fun _=>hS.pk [0,1],hS.pk [0,1]⟩,?_⟩
   refine zda 3 (xli (n:=1) (len:=1) (pv:= [(0,.int .i64 0)]) (cs:= [.int .i64 0]) (c:=ints (fun _=>0)) Zb Zt hS) ?_;rintro v1 w ⟨hS,hv1⟩
   refine⟨⟨fun _=>hS.pk [0,1],hS.pk [0,1]⟩,?_⟩
   refine zda 6 (xap 3 (r:=p.n+1) (f:=ints (cat 1 (fun _=>0) p.c)) Zb Zt hS (hL.c.below hS.below) (by exact Xk _ _ _)) ?_;rintro v2 w ⟨hS,hv2⟩
   refine⟨⟨fun _=>hS.pk [0,1],hS.pk [0,1]⟩,?_⟩
   refine zda 7 (xli (n:=1) (len:=1) (pv:= [(0,v2)]) (cs:= [v2]) (c:=(fun _=>v2)) Zl Z3 hS (hf:=by obtain⟨_,_,_,_,rfl,_⟩:=hv2;kernel_rfl)) ?_;rintro v3 w ⟨hS,hv3⟩
   refine⟨⟨fun _=>hS.pk [0,1],hS.pk [0,1]⟩,?_⟩
   refine zDrv 8 (xany (v:= .agg #[.int .i64 p.n,.int .i64 1,.slice none 0 0,.slice none 0 0,v3]) (hr:=by obtain⟨_,_,_,_,rfl,_⟩:=hv3;kernel_rfl)) ?_
   refine zde 10 (xsw 2 Zr hS (hd:=(Za rfl (Za rfl (Za rfl (Za rfl (Za hv3.one Zi))))))) ?_;clear hS;rintro w hS
   refine⟨⟨fun h=>absurd h (by decide),hS.pk [0,1]⟩,?_⟩
   refine zdd<|zgj ⟨g3,v1,v2,v3,hv2,hv3,rfl,hS.pk [0,1,3,4,2]⟩
  clear hS w;rintro M w ⟨g3,v1,v2,v3,hv2,hv3,rfl,hS⟩
  refine ztn<|zsq<|zsr<|(zV (xfb 0 fd_245_0))<|(zV (xlb 0 pl_22 hS))<|zlv (xln Zb hL.c.slh) ?_
  have hl:=(Classical.not_not.1 ‹¬¬(LOk p)›)
  have b1:=hl.n1
  have b2:=hl.n2
  have b3:=hl.m2
  have b4:=hl.k
  refine(zP)<|zx6 ?_
  replace hS:=hS.addrows 3 (fun _=>Value.slice none 0 0) (fun _=>0) (fun _ _=>0)
  replace hS:=Sat.merge2 (l1:= [.blk g1 [vc,vA,vb],.blk g2 [.int .i64 0,.int .i64 0,.slice none 0 0,.slice none 0 0,.slice none 0 0]]) (l2:= [.own v3 1 22 1 (fun _=>v2),.blk g3 [.int .i64 p.n,.int .i64 1,.slice none 0 0,.slice none 0 0,v3]]) (l3:= []) hS (by omega)
  replace hS:=hS.rerows (vv':=(fun _=>v2)) (ln':=(ZQ p).ln) (f':=(ZQ p).C) 4 rfl (fun k k0 k1=>by
    obtain rfl:k=0:=by omega
    refine⟨Ym _ _ _,?_,fun j j0 j1=> ?_⟩
    · rw [Ym];show _=p.n+1;omega
    · rw [Ym];unfold ZQ cat;dsimp only;(repeat' split)<;>first|rfl|omega)
  have aF:=fun k (k0:0<=k) (k1:k<1)=>hS.slhIn 4 rfl k0 k1
  replace hS:=hS.addnil 1 3 (ints (fun _=>0))
  replace hS:=hS.addnil 1 3 (ints (fun _=>0))
  refine zlp (fun mm M w=>∃(nF:Int) (j:Int) (wF:Value) (fF:Int->Int),mm=((p.n-j).toNat)/\(0<=j)/\(j<=p.n)/\(nF=j)/\(∀k,0<=k->k<j->fF k=k)/\(Slh wF nF)/\M= [(1,.pointer (some ⟨g1,0,none⟩)),(2,.pointer (some ⟨g2,0,none⟩)),(3,.int .i64 0),(4,.pointer (some ⟨g3,0,none⟩)),(23,.int .i64 p.n),(24,.int .i64 j)]/\Sat w0 w [.blk g1 [vc,vA,vb],.blk g2 [.int .i64 0,.int .i64 0,.slice none 0 0,.slice none 0 0,.slice none 0 0],.own v3 1 22 1 (fun _=>v2),.blk g3 [.int .i64 p.n,.int .i64 1,(.slice none 0 0),wF,v3],.sem (Frame.rows 3 1 (fun _=>v2) ((ZQ p).ln) ((ZQ p).C)),.own wF 1 3 nF (ints fF),.own (.slice none 0 0) 1 3 0 (ints (fun _=>0))]) ⟨0,0,(.slice none 0 0),(fun _=>0),rfl,(by omega),(by omega),(by omega),?_,?_,rfl,hS⟩ ?_
  ·
   intro k k0 k1;omega
  ·
   exact slh_nil
  clear hS w
  rintro mm M w ⟨nF,j,wF,fF,rfl,j0,j1,hnF,hfF,hwF,rfl,hS⟩
  refine zsr<|(zP)<|zx7<|Ze ?_ ?_<;>intro hc
  ·
   refine zx3<|(zP)<|(zP)<|zlt<|zrg<|(zV (xfb 3 fd_265_3))<|(zV (xlb 3 pl_22 hS))<|(zP)<|zla (xli (n:=1) (len:=1) (pv:= [(0,.int .i64 j)]) (cs:= [.int .i64 j]) (c:=ints (fun _=>j)) Zb Zt hS) ?_;rintro v4 w ⟨hS,hv4⟩
   refine zla (xap 5 (r:=nF+1) Zb Zt hS (hS.rowN 7 rfl) (Yv _ _ _)) ?_;rintro v5 w ⟨hS,hv5⟩
   refine(zV (xfb 3 fd_265_3))<|zle (xsb 3 pl_22 hS (hv:=hv5.one)) ?_;clear hS;rintro w hS
   refine zx10<|(zV (Zh (r:=j+1)))<|(zP)<|zln<|zlq ⟨nF+1,j+1,v5,(snoc fF nF j),rfl,(by omega),(by omega),(by omega),?_,?_,rfl,hS.pk [0,1,2,3,4,5,6]⟩
   ·
    intro k k0 k1;by_cases e:k<nF
    · rw [ZA e];exact hfF k k0 (by omega)
    · rw [ZB e];omega
   ·
    exact hv5
  refine zx18<|(zV (xfb 1 fd_245_1))<|(zV (xlb 0 ZR hS))<|(zV (xln Zl hL.A.row.slh))<|(zP)<|zx6<|zlp (fun mm M w=>∃(mB:Int) (nC:Int) (wv:Int->Value) (i:Int) (wB:Value) (fB:Int->Int) (wC:Value),mm=((p.m-i).toNat)/\(0<=i)/\(i<=p.m)/\(mB=i)/\(nC=i+1)/\(∀k,0<=k->k<i->fB k=p.n+k)/\(Slh wB mB)/\(Slh wC nC)/\M= [(1,.pointer (some ⟨g1,0,none⟩)),(2,.pointer (some ⟨g2,0,none⟩)),(3,.int .i64 0),(4,.pointer (some ⟨g3,0,none⟩)),(35,vA),(36,.int .i64 p.m),(37,.int .i64 i)]/\Sat w0 w [.blk g1 [vc,vA,vb],.blk g2 [.int .i64 0,.int .i64 0,.slice none 0 0,.slice none 0 0,.slice none 0 0],.own wC 1 22 nC wv,.blk g3 [.int .i64 p.n,.int .i64 1,wB,wF,wC],.sem (Frame.rows 3 nC wv ((ZQ p).ln) ((ZQ p).C)),.own wF 1 3 nF (ints fF),.own wB 1 3 mB (ints fB)]) ⟨0,1,(fun _=>v2),0,(.slice none 0 0),(fun _=>0),v3,rfl,(by omega),(by omega),(by omega),(by omega),?_,?_,?_,rfl,hS⟩ ?_
  ·
   intro k k0 k1;omega
  ·
   exact slh_nil
  ·
   exact hv3
  clear hS w
  rintro mm M w ⟨mB,nC,wv,i,wB,fB,wC,rfl,i0,i1,hmB,hnC,hfB,hwB,hwC,rfl,hS⟩
  have qW:=fun k (k0:0<=k) (k1:k<nC)=>hS.slhIn 4 rfl k0 k1
  refine zsr<|(zP)<|zx7<|Ze ?_ ?_<;>intro hc
  ·
   refine zx3<|(zP)<|(zV (xix (kk:=i) Zl hL.A.row.slh))<|zlv (xlr (u:=(vq i)) pl_22 (hL.A.row.below hS.below)) ?_
   have hri:=hl.rows i i0 (by omega)
   refine(zP)<|(zP)<|zlz<|(zV (xfb 2 fd_265_2))<|(zV (xlb 3 pl_22 hS))<|(zV (xfb 0 fd_265_0))<|(zV (xlb 3 pl_3 hS))<|(zP)<|(zV (Zh (r:=p.n+i)))<|zla (xli (n:=1) (len:=1) (pv:= [(0,.int .i64 (p.n+i))]) (cs:= [.int .i64 (p.n+i)]) (c:=ints (fun _=>p.n+i)) Zb Zt hS) ?_;rintro v6 w ⟨hS,hv6⟩
   refine zla (xap 6 (r:=mB+1) Zb Zt hS (hS.rowN 7 rfl) (Yv _ _ _)) ?_;rintro v7 w ⟨hS,hv7⟩
   refine(zV (xfb 2 fd_265_2))<|zle (xsb 3 pl_22 hS (hv:=hv7.one)) ?_;clear hS;rintro w hS
   refine zlt<|zdst [0,1,3] [0,1] 14 mx_ hS ?_;clear hS;intro w hS
   refine(zDw 0 (xfb 4 fd_265_4))<|zdl 1 (fun w hS=>(xlb 2 ZR hS)) ?_
   refine(zDw 2 (xfb 2 fd_245_2))<|(zDl 3 (fun w hS=>(xlb 0 pl_22 hS)))<|(zDw 4 xmv)<|(zDw 5 (xix (kk:=i) Zb hL.b.slh))<|zdla 6 (fun w hS=>(xlr (u:= .int .i64 (p.b i)) pl_3 (hL.b.below hS.below))) ?_
   have hbi:=hl.b i i0 (by omega)
   refine(zDw 7 (Zd5 (r:= -((p.b i)))))<|(zDw 9 xmv)<|zda 8 (xli (n:=1) (len:=1) (pv:= [(0,.int .i64 (-((p.b i))))]) (cs:= [.int .i64 (-((p.b i)))]) (c:=ints (fun _=> -((p.b i)))) Zb Zt hS) ?_;rintro v8 w ⟨hS,hv8⟩
   refine⟨⟨fun _=>hS.pk [0,1,3],hS.pk [0,1]⟩,?_⟩
   refine zda 10 (xap 8 (r:=(p.ln i)+1) (f:=ints (cat 1 (fun _=> -(p.b i)) (p.A i))) Zb Zt hS ((hL.A.p i (by omega) (by omega)).below hS.below) (by exact Xk _ _ _)) ?_;rintro v9 w ⟨hS,hv9⟩
   refine⟨⟨fun _=>hS.pk [0,1,3],hS.pk [0,1]⟩,?_⟩
   refine zda 11 (xli (n:=1) (len:=1) (pv:= [(0,v9)]) (cs:= [v9]) (c:=(fun _=>v9)) Zl Z3 hS (hf:=by obtain⟨_,_,_,_,rfl,_⟩:=hv9;kernel_rfl)) ?_;rintro v10 w ⟨hS,jE⟩
   refine⟨⟨fun _=>hS.pk [0,1,3],hS.pk [0,1]⟩,?_⟩
   refine zda 12 (xap 2 (r:=nC+1) Zl Z3 hS (hS.rowN 9 rfl) (Xu _ _ _) (h1:=fun _ _ _=>hv9.one)) ?_;rintro v11 w ⟨hS,dI⟩
   replace hS:=Sat.merge (l1:= [_,_,_,_]) (l2:= [_,_,_]) (l3:= [_]) hS (by omega)
   have yz:=fun k (k0:0<=k) (k1:k<nC+1)=>hS.slhIn 4 rfl k0 k1
   refine⟨⟨fun _=>hS.pk [0,1,3],hS.pk [0,1]⟩,?_⟩
   refine(zDw 13 (xfb 4 fd_265_4))<|zde 14 (xsb 3 ZR hS (hv:=dI.one)) ?_;clear hS;rintro w hS
   refine⟨⟨fun h=>absurd h (by decide),hS.pk [0,1]⟩,?_⟩
   refine zdd<|zbn<|ztn<|zrg ?_
   refine zlv (Zh (r:=i+1)) ?_
   replace hS:=hS.rerows (vv':=gsn wv nC v9) (ln':=(ZQ p).ln) (f':=(ZQ p).C) 4 rfl (fun k k0 k1=>by
     by_cases e:k<i+1
     · exact⟨rfl,Zv (by omega),fun j _ _=>by rw [Zv (by omega)]⟩
     · have hki:k=i+1:=by omega
       refine⟨rfl,?_,fun j j0 j1=> ?_⟩
       · rw [ZL (by omega)];show _=p.n+1;omega
       · rw [ZL (by omega)];unfold ZQ cat;dsimp only;(repeat' split)<;>first|rfl|omega|(congr 2;omega)|(congr 1;omega))
   have dS:=fun k (k0:0<=k) (k1:k<nC+1)=>hS.slhIn 4 rfl k0 k1
   refine(zP)<|zln<|zlq ⟨mB+1,nC+1,gsn wv nC v9,i+1,v7,(snoc fB mB (p.n+i)),v11,rfl,(by omega),(by omega),(by omega),(by omega),?_,?_,?_,rfl,hS.pk [0,1,2,3,4,5,6]⟩
   ·
    intro k k0 k1;by_cases e:k<mB
    · rw [ZA e];exact hfB k k0 (by omega)
    · rw [ZB e];omega
   ·
    exact hv7
   ·
    exact dI
  refine zx8<|(zV (xls 3 Zr hS))<|zle (xsw 1 Zr hS (hd:=(Za rfl (Za rfl (Za hwB.one (Za hwF.one (Za hwC.one Zi))))))) ?_;clear hS;rintro w hS
  refine(zP)<|zx1<|Yp 1 Zr hS ⟨_,rfl,?_⟩
  obtain rfl:i=p.m:=by omega
  obtain rfl:mB=p.m:=by omega
  obtain rfl:nC=p.m+1:=by omega
  obtain rfl:nF=p.n:=by omega
  replace hS:=hS.recont 6 rfl (d:=ints (ZQ p).B) (fun k k0 k1=>by unfold ints;rw [hfB k k0 (by simp at k1;omega)];rfl)
  replace hS:=hS.recont 5 rfl (d:=ints (ZQ p).F) (fun k k0 k1=>by unfold ints;rw [hfF k k0 (by simp at k1;omega)];rfl)
  exact⟨_,_,_,_,ZQ p,0,rfl,.inr ⟨hl,rfl,rfl⟩,hwB,hwF,hwC,(hS.pk [2,4,5,6]).perm (Rk (l1:= [_,_,_]) (l2:= []) (Rk (l1:= [_,_]) (l2:= []) (List.Perm.refl _)))⟩
end Go.Proofs.YtkichmnjjblodaaGreat
namespace Go.Proofs.YtkichmnjjblodaaGreat
open Go Go.RowKit Go.Proofs.Gw
theorem Zj7:Zc Tryz.prog 217=true:=by kernel_rfl
theorem Zj6:Zc Tryz.prog 218=true:=by kernel_rfl
theorem Zh0{vB vF vC:Value}{vv:Int->Value}{t:Tb}(w0:World)(hT:TAt w0 vB vF vC vv t):Calls Tryz.prog 217 [.agg #[.int .i64 t.vars,.int .i64 t.den,vB,vF,vC]].toArray w0 fun e w=>∃v,e= .returned v/\∃r c d e,v= .tuple #[.int .i64 r,.int .i64 c,B (d=true),.int .i64 e]/\NextR t r c d e/\Sat w0 w []:=
  (Zlp w0 hT).mono fun e w h=>by
    obtain⟨v,he,r,c,d,e',hv,hn,hS⟩:=h
    exact⟨v,he,r,c,d,e',by rw [hv,ZlT],hn,hS⟩
theorem Zb7{vB vF vC:Value}{vv:Int->Value}{t:Tb}(w0:World)(hT:TAt w0 vB vF vC vv t):
    Calls Tryz.prog 206 [.agg #[.int .i64 t.vars,.int .i64 t.den,vB,vF,vC]].toArray w0 fun e w=>∃v,e= .returned v/\∃xB xF xC xv u e,v= .tuple #[.agg #[.int .i64 u.vars,.int .i64 u.den,xB,xF,xC],.int .i64 e]/\Run 1000 t u e/\Slh xB u.nb/\Slh xF u.nf/\Slh xC u.nc/\Sat w0 w [.sem (Frame.alt (u=t/\xB=vB/\xF=vF/\xC=vC/\xv=vv) (Frame.bun [.own xB 1 3 u.nb (ints u.B),.own xF 1 3 u.nf (ints u.F),.own xC 1 22 u.nc xv,.sem (Frame.rows 3 u.nc xv u.ln u.C)]))]:=by
  refine zenG Tryz.func206 Tryz.ntmps206 fun w hS=> ?_
  refine zsr<|zla (xbx (cs:= [_,_,_,_,_]) hS) ?_;rintro _ w ⟨g1,rfl,hS⟩
  refine zla (xal (cs:= [_,_,_,_,_]) Xi hS) ?_;rintro _ w ⟨g2,rfl,hS⟩
  refine(zP)<|zlz<|(zP)<|zx6 ?_
  replace hS:=hS.altL (Frame.bun [.own vB 1 3 t.nb (ints t.B),.own vF 1 3 t.nf (ints t.F),.own vC 1 22 t.nc vv,.sem (Frame.rows 3 t.nc vv t.ln t.C)]) (p:=t=t/\vB=vB/\vF=vF/\vC=vC/\vv=vv) ⟨rfl,rfl,rfl,rfl,rfl⟩
  refine zlp (fun mm M w=>∃(u:Tb) (xB:Value) (xF:Value) (xC:Value) (xv:Int->Value) (n:Int),mm=(((1001:Int)-n).toNat)/\(0<=n)/\(n<=1000)/\(Slh xB u.nb)/\(Slh xF u.nf)/\(Slh xC u.nc)/\(∀z e,Run (1000-n).toNat u z e->Run 1000 t z e)/\M= [(1,.pointer (some ⟨g1,0,none⟩)),(2,.pointer (some ⟨g2,0,none⟩)),(4,.int .i64 n)]/\Sat w0 w [.blk g1 [.int .i64 u.vars,.int .i64 u.den,xB,xF,xC],.blk g2 [.int .i64 0,.int .i64 0,.slice none 0 0,.slice none 0 0,.slice none 0 0],.sem (Frame.alt (u=t/\xB=vB/\xF=vF/\xC=vC/\xv=vv) (Frame.bun [.own xB 1 3 u.nb (ints u.B),.own xF 1 3 u.nf (ints u.F),.own xC 1 22 u.nc xv,.sem (Frame.rows 3 u.nc xv u.ln u.C)]))]) ⟨t,vB,vF,vC,vv,0,rfl,(by omega),(by omega),?_,?_,?_,?_,rfl,hS.sub (List.Sublist.refl _)⟩ ?_
  ·
   exact hT.B.slh
  ·
   exact hT.F.slh
  ·
   exact hT.C.row.slh
  ·
   exact fun z e h=>h
  clear hS w
  rintro mm M w ⟨u,xB,xF,xC,xv,n,rfl,n0,n1,hxB,hxF,hxC,zk,rfl,hS⟩
  have htu:=YO (hT.below hS.below) hS 2 rfl
  have hub:=htu.B.slh.n0;have jG:=htu.B.slh.n1;have huf:=htu.F.slh.n0;have jF:=htu.F.slh.n1
  refine zsq<|zbk<|zsr<|(zV (xls 0 Zr hS))<|zlc (xc0 Zj7) (Zh0 (t:=u) w (YO (hT.below hS.below) hS 2 rfl)) ?_;rintro _ w ⟨rn1,cn1,dn1,en1,rfl,bm,hS'⟩
  replace hS:=hS.cmp hS';clear hS'
  have hrc:=bm.rng
  refine zs6 ?_
  refine(zP)<|(zP)<|(zP)<|zx5<|(zP)<|(zP)<|zlb 20 ?_ ?_<;>intro hc
  ·
   refine(zO)<|(zO)<|(zP)<|zlt<|zct<|zsr ?_
   refine(zV (xls 0 Zr hS))<|(zP)<|zle (xsw 1 Zr hS (hd:=(Za rfl (Za rfl (Za hxB.one (Za hxF.one (Za hxC.one Zi))))))) ?_;clear hS;rintro w hS
   refine(zP)<|zlt<|zrt<|ztr<|zbr<|ztr<|ztr<|zbr<|Yp 1 Zr hS ⟨_,rfl,?_⟩
   exact⟨xB,xF,xC,xv,u,_,rfl,zk _ _ (.stop bm (by first|exact .inl hc|exact .inr (by omega))),hxB,hxF,hxC,hS.pk [2]⟩
  refine(zP)<|(zP)<|(zP)<|zlt<|Ze ?_ ?_<;>intro hc
  ·
   refine zsr<|(zV (xls 0 Zr hS))<|(zP)<|zle (xsw 1 Zr hS (hd:=(Za rfl (Za rfl (Za hxB.one (Za hxF.one (Za hxC.one Zi))))))) ?_;clear hS;rintro w hS
   refine(zP)<|zlt<|zrt<|ztr<|zbr<|ztr<|ztr<|zbr<|Yp 1 Zr hS ⟨_,rfl,?_⟩
   exact⟨xB,xF,xC,xv,u,_,rfl,zk _ _ (.stop bm (by first|exact .inl hc|exact .inr (by omega))),hxB,hxF,hxC,hS.pk [2]⟩
  refine YJ<|zlv xmv ?_
  have hn0:NextR u rn1 cn1 false 0:=by have h1:dn1=false:=(by simpa using‹¬(dn1=true)›);have h2:en1=0:=(by omega);have h3:=bm;rw [h1,h2] at h3;exact h3
  have hpu:=(hn0.prp (by omega)).1;have hq1:=hpu.n2;have hq2:=hpu.m2
  refine(zP)<|zlt<|Ze ?_ ?_<;>intro hc
  ·
   refine zsr<|(zV (xls 0 Zr hS))<|zle (xsw 1 Zr hS (hd:=(Za rfl (Za rfl (Za hxB.one (Za hxF.one (Za hxC.one Zi))))))) ?_;clear hS;rintro w hS
   refine(zP)<|zlt<|zrt<|ztr<|zbr<|ztr<|ztr<|zbr<|Yp 1 Zr hS ⟨_,rfl,?_⟩
   exact⟨xB,xF,xC,xv,u,_,rfl,zk _ _ (by rw [show(1000-n).toNat=0 by omega];exact .lim hn0),hxB,hxF,hxC,hS.pk [2]⟩
  refine ZS<|(zV (xls 0 Zr hS))<|(zP)<|(zP)<|zlc (xc0 Zj6) (ZhX (t:=u) (row:=rn1) (col:=cn1) w (YO (hT.below hS.below) hS 2 rfl) (by omega) (by omega)) ?_;rintro _ w ⟨qF,qE,qn,qp,tk1,ek1,rfl,aI,y6,y4,y5,hS'⟩
  replace hS:=(hS.comp hS').n7;clear hS'
  have dQ:=fun k (k0:0<=k) (k1:k<tk1.nc)=>hS.slhIn 6 rfl k0 k1
  refine(zP)<|(zP)<|(zP)<|zla (xal (cs:= [_,_,_,_,_]) Xi hS) ?_;rintro _ w ⟨g3,rfl,hS⟩
  refine zle (xsw 7 Zr hS (hd:=(Za rfl (Za rfl (Za y6.one (Za y4.one (Za y5.one Zi))))))) ?_;clear hS;rintro w hS
  refine(zP)<|zx5<|(zP)<|(zP)<|zlt<|Ze ?_ ?_<;>intro hc
  ·
   refine zsr<|(zV (xls 0 Zr hS))<|(zP)<|zle (xsw 1 Zr hS (hd:=(Za rfl (Za rfl (Za hxB.one (Za hxF.one (Za hxC.one Zi))))))) ?_;clear hS;rintro w hS
   refine(zP)<|zlt<|zrt<|ztr<|zbr<|ztr<|ztr<|zbr<|Yp 1 Zr hS ⟨_,rfl,?_⟩
   exact⟨xB,xF,xC,xv,u,_,rfl,zk _ _ (by rw [show(1000-n).toNat=(1000-(n+1)).toNat+1 by omega];exact .bad hn0 aI (by omega)),hxB,hxF,hxC,hS.pk [2]⟩
  refine zsk<|ztn<|zrg<|(zV (xls 7 Zr hS))<|zle (xsw 0 Zr hS (hd:=(Za rfl (Za rfl (Za y6.one (Za y4.one (Za y5.one Zi))))))) ?_;clear hS;rintro w hS
  refine zx10<|zlv xmv ?_
  replace hS:=hS.sub (.cons_cons _ (.cons_cons _ (.cons _ (.cons_cons _ (.cons_cons _ (.cons_cons _ (.cons_cons _ (.cons _ .slnil))))))))
  replace hS:=Sat.altR (tk1=t/\qF=vB/\qE=vF/\qn=vC/\qp=vv) (l1:= [.blk g1 [.int .i64 tk1.vars,.int .i64 tk1.den,qF,qE,qn],.blk g2 [.int .i64 0,.int .i64 0,.slice none 0 0,.slice none 0 0,.slice none 0 0]]) (l2:= []) (Sat.bundle (l1:= [.blk g1 [.int .i64 tk1.vars,.int .i64 tk1.den,qF,qE,qn],.blk g2 [.int .i64 0,.int .i64 0,.slice none 0 0,.slice none 0 0,.slice none 0 0]]) (l2:= [.own qF 1 3 tk1.nb (ints tk1.B),.own qE 1 3 tk1.nf (ints tk1.F),.own qn 1 22 tk1.nc qp,.sem (Frame.rows 3 tk1.nc qp tk1.ln tk1.C)]) hS)
  refine(zV (Zh (r:=n+1)))<|(zP)<|zln<|zlq ⟨tk1,qF,qE,qn,qp,n+1,rfl,(by omega),(by omega),?_,?_,?_,?_,rfl,hS.sub (List.Sublist.refl _)⟩
  ·
   exact y6
  ·
   exact y4
  ·
   exact y5
  ·
   intro z e hz;have he0:ek1=0:=(by omega);rw [he0] at aI;exact zk z e (by rw [show(1000-n).toNat=(1000-(n+1)).toNat+1 by omega];exact .go hn0 aI hz)
end Go.Proofs.YtkichmnjjblodaaGreat
namespace Go.Proofs.Gw
open Go Go.RowKit
variable {i:Int} {a f y:Int->Int}
def Zd(f:Int->Int):Nat->Int
  |0=>0
  |k+1=>Zd f k+f k
theorem ZJ(f:Int->Int)(h:0<=i):Zd f (i+1).toNat=Zd f i.toNat+f i:=by
  rw [show(i+1).toNat=i.toNat+1 by omega]
  simp only [Zd]
  rw [show((i.toNat:Nat):Int)=i by omega]
theorem Z5{f g:Int->Int}:∀{n:Nat},(∀i,0<=i->i<(n:Int)->f i<=g i)->Zd f n<=Zd g n
  |0,_=>Int.le_refl _
  | n+1,h=>by
    have h1:=Z5 (n:=n) (fun i h0 h1=>h i h0 (by omega))
    have h2:=h n (by omega) (by omega)
    simp only [Zd];omega
theorem Zj{g:Int->Int}{n:Nat}(h:∀i,0<=i->i<(n:Int)->f i=g i):Zd f n=Zd g n:=
  Int.le_antisymm (Z5 fun i h0 h1=>Int.le_of_eq (h i h0 h1)) (Z5 fun i h0 h1=>Int.le_of_eq (h i h0 h1).symm)
theorem ZP:∀n:Nat,Zd (fun _=>0) n=0
  |0=>rfl
  |n+1=>by simp only [Zd,ZP n];rfl
theorem Z8{n:Nat}(h:∀i,0<=i->i<(n:Int)->0<=f i):0<=Zd f n:=by
  have:=Z5 (f:=fun _=>0) h
  rw [ZP] at this;exact this
theorem XR(c:Int):∀n:Nat,Zd (fun _=>c) n=n*c
  |0=>by simp [Zd]
  |n+1=>by simp only [Zd,XR c n];rw [Int.natCast_add,Int.add_mul];simp
theorem WJ{A:Int}{n:Nat}(h:∀i,0<=i->i<(n:Int)->0<=f i/\f i<=A):0<=Zd f n/\Zd f n<=n*A:=by
  refine⟨Z8 fun i h0 h1=>(h i h0 h1).1,?_⟩
  rw [<-XR];exact Z5 fun i h0 h1=>(h i h0 h1).2
theorem X7(f g:Int->Int):∀n:Nat,Zd (fun i=>f i+g i) n=Zd f n+Zd g n
  |0=>rfl
  |n+1=>by simp only [Zd,X7 f g n];omega
theorem YF(f:Int->Int)(c:Int):∀n:Nat,Zd (fun i=>f i*c) n=Zd f n*c
  |0=>by simp [Zd]
  |n+1=>by simp only [Zd,YF f c n];rw [Int.add_mul]
theorem Vo(f:Int->Int->Int)(n:Nat):∀m:Nat,Zd (fun k=>Zd (fun i=>f i k) n) m=Zd (fun i=>Zd (fun k=>f i k) m) n
  |0=>(ZP n).symm
  | m+1=>by
    simp only [Zd,Vo f n m]
    rw [<-X7]
theorem Xc{n:Nat}{j:Int}(h0:0<=j)(h1:j<(n:Int))(h:∀i,0<=i->i<(n:Int)->0<=f i):f j<=Zd f n:=by
  induction n with
  |zero=>omega
  | succ n ih=>
    simp only [Zd]
    have h2:=h n (by omega) (by omega)
    have h3:=Z8 (n:=n) (fun i a b=>h i a (by omega))
    by_cases e:j=n
    · subst e;omega
    · have:=ih (by omega) (fun i a b=>h i a (by omega));omega
theorem V7(D y:Int->Int):∀n:Nat,Tot D y n=Zd (fun i=>D i*y i) n
  |0=>rfl
  |n+1=>by simp only [Tot,Zd,V7 D y n]
def Zx(p:Prob)(a:Int->Int)(n:Nat):Int:=Zd (fun i=>a i*(p.L i+p.kerf)) n
structure FitsP (p:Prob) (n:Int) (a:Int->Int):Prop where
  ok:p.Ok
  eq:n=p.m
  all:∀i,0<=i->i<p.m->0<=a i/\a i<=2000
  used:Zx p a p.m.toNat<=p.stock+p.kerf
structure SoundP (p:Prob) (n:Int) (len:Int->Int) (pt:Int->Int->Int) (cnt:Int->Int):Prop where
  ok:p.Ok
  few:n<=1000
  all:∀i,0<=i->i<n->FitsP p (len i) (pt i)/\1<=cnt i/\cnt i<=1000
def Xr(pt:Int->Int->Int)(cnt:Int->Int)(n:Nat)(k:Int):Int:=Zd (fun i=>pt i k*cnt i) n
structure MeetsP (p:Prob) (n:Int) (len:Int->Int) (pt:Int->Int->Int) (cnt:Int->Int):Prop where
  s:SoundP p n len pt cnt
  all:∀k,0<=k->k<p.m->p.D k<=Xr pt cnt n.toNat k
theorem TX{p:Prob}(hp:p.Ok)(h0:0<=i)(h1:i<p.m)(ha:0<=a i/\a i<=2000):0<=a i*(p.L i+p.kerf)/\a i*(p.L i+p.kerf)<=4200000:=by
  have h2:=hp.all i h0 h1
  unfold Prob.each at h2
  have:=hp.k1;have:=hp.k2;have:=hp.s2
  have:=Kq (a:=a i) (b:=p.L i+p.kerf) (A:=2000) (B:=2100) ha.1 ha.2 (by omega) (by omega)
  omega
theorem U3{p:Prob}(hp:p.Ok)(ha:∀i,0<=i->i<p.m->0<=a i/\a i<=2000){n:Int}(h0:0<=n)(h1:n<=p.m):0<=Zx p a n.toNat/\Zx p a n.toNat<=84000000:=by
  have h:=WJ (f:=fun i=>a i*(p.L i+p.kerf)) (A:=4200000) (n:=n.toNat) (fun i a0 a1=>TX hp a0 (by omega) (ha i a0 (by omega)))
  have:=hp.m2
  unfold Zx;omega
theorem Zab{p:Prob}(hp:p.Ok){y x:Int->Int}(hx:∀i,0<=i->i<p.m->0<=x i/\x i<=p.D i):∀(j:Nat),(j:Int)<=p.m->∀c,Zd (fun i=>x i*(p.L i+p.kerf)) j<=c->Zd (fun i=>x i*y i) j<=Tab p y j c
  |0,_,c,_=>Int.le_refl _
  | j +1,hj,c,hc=>by
    have h1:=hx j (by omega) (by omega)
    have h2:=hp.all j (by omega) (by omega)
    unfold Prob.each at h2
    have hk:=hp.k1
    simp only [Zd] at hc⊢
    have h3:=Zab hp hx (y:=y) j (by omega) (c-x j*(p.L j+p.kerf)) (by omega)
    have e:(((x j).toNat:Nat):Int)=x j:=by omega
    have h4:0<=Zd (fun i=>x i*(p.L i+p.kerf)) j:=Z8 fun i a0 a1=>by
      have:=hx i a0 (by omega)
      have h5:=hp.all i a0 (by omega)
      unfold Prob.each at h5
      exact Int.mul_nonneg this.1 (by omega)
    have h5:=Zb9 (Tab p y j) (p.L j+p.kerf) (y j) (p.D j).toNat (x j).toNat c (by omega) (by rw [e];omega)
    rw [e] at h5
    simp only [Tab];omega
theorem Zg5{n:Nat}{c:Int->Int}{D:Int}(hD:0<=D)(ha:∀i,0<=i->i<(n:Int)->0<=a i)(hc:∀i,0<=i->i<(n:Int)->1<=c i)(h:D<=Zd (fun i=>a i*c i) n):D<=Zd (fun i=>min (a i) D*c i) n:=by
  have hnn:∀i,0<=i->i<(n:Int)->0<=min (a i) D*c i:=fun i h0 h1=>by
    have:=ha i h0 h1;have:=hc i h0 h1
    exact Int.mul_nonneg (by omega) (by omega)
  by_cases hex:∃i,0<=i/\i<(n:Int)/\D<=a i
  · obtain⟨i,h0,h1,h2⟩:=hex
    have h3:=Xc (f:=fun i=>min (a i) D*c i) h0 h1 hnn
    have h4:min (a i) D=D:=by omega
    simp only [h4] at h3
    have h5:D*1<=D*c i:=Int.mul_le_mul_of_nonneg_left (hc i h0 h1) hD
    omega
  · have:Zd (fun i=>min (a i) D*c i) n=Zd (fun i=>a i*c i) n:=Zj fun i h0 h1=>by
      have h2:¬D<=a i:=fun h2=>hex ⟨i,h0,h1,h2⟩
      rw [show min (a i) D=a i by omega]
    omega
theorem TQ{p:Prob}{n:Int}(h:FitsP p n a):Zd (fun k=>min (a k) (p.D k)*y k) p.m.toNat<=WR p y:=by
  have hp:=h.ok
  have hm:=hp.m1;have hk:=hp.k1
  refine Zab hp (fun i h0 h1=> ?_) p.m.toNat (by omega) _ ?_
  · have:=h.all i h0 h1
    have h2:=hp.all i h0 h1
    unfold Prob.each at h2
    omega
  · refine Int.le_trans (Z5 fun i h0 h1=> ?_) h.used
    have:=h.all i h0 (by omega)
    have h2:=hp.all i h0 (by omega)
    unfold Prob.each at h2
    exact Int.mul_le_mul_of_nonneg_right (by omega) (by omega)
theorem Zdk{p:Prob}{n:Int}{q:Int}(h:Chk p n y q=0){l:Int}{len:Int->Int}{pt:Int->Int->Int}{cnt:Int->Int}(hl:0<=l)(hM:MeetsP p l len pt cnt):
    YU p n y q<=Zd cnt l.toNat:=by
  obtain⟨hp,hfm,hn,hw⟩:=Xj h
  have hm:=hp.m1;have hq:=hfm.1
  have hpr:=hfm.priced hn
  rw [Vu h]
  have bl:Tot p.D y p.m.toNat<=Zd cnt l.toNat*q:=by
    rw [V7]
    have s1:Zd (fun k=>p.D k*y k) p.m.toNat<=Zd (fun k=>Zd (fun i=>min (pt i k) (p.D k)*cnt i*y k) l.toNat) p.m.toNat:=Z5 fun k k0 k1=>by
      have h1:=hM.all k k0 (by omega)
      have h2:=hp.all k k0 (by omega)
      unfold Prob.each at h2
      have h3:=Zg5 (n:=l.toNat) (a:=fun i=>pt i k) (c:=cnt) (D:=p.D k) (by omega) (fun i a0 a1=>((hM.s.all i a0 (by omega)).1.all k k0 (by omega)).1) (fun i a0 a1=>(hM.s.all i a0 (by omega)).2.1) h1
      have h4:=hpr k k0 (by omega)
      rw [YF (fun i=>min (pt i k) (p.D k)*cnt i) (y k)]
      exact Int.mul_le_mul_of_nonneg_right h3 h4.1
    rw [Vo (fun i k=>min (pt i k) (p.D k)*cnt i*y k)] at s1
    refine Int.le_trans s1 ?_
    rw [<-YF]
    refine Z5 fun i a0 a1=> ?_
    have h5:=hM.s.all i a0 (by omega)
    have h6:=TQ (y:=y) h5.1
    have e:Zd (fun k=>min (pt i k) (p.D k)*cnt i*y k) p.m.toNat=Zd (fun k=>min (pt i k) (p.D k)*y k) p.m.toNat*cnt i:=by
      rw [<-YF]
      exact Zj fun k _ _=>by rw [Int.mul_assoc,Int.mul_comm (cnt i),<-Int.mul_assoc]
    rw [e,Int.mul_comm (cnt i)]
    exact Int.mul_le_mul_of_nonneg_right (by omega) (by omega)
  have h0:=(U4 hp hpr p.m (by omega) (by omega)).1
  unfold Bnd
  rw [Int.tdiv_eq_ediv_of_nonneg (by omega)]
  have h7:(Tot p.D y p.m.toNat+q-1)/q<Zd cnt l.toNat+1:=Int.ediv_lt_of_lt_mul (by omega) (by rw [Int.add_mul];omega)
  omega
def Zg(pv:Int->Value)(cnt:Int->Int):Int->Value:=fun k=>if k%2=0 then pv (k/2) else .int .i64 (cnt (k/2))
theorem R9(pv:Int->Value)(cnt:Int->Int){k:Int}(h:k=2*i):Zg pv cnt k=pv i:=by
  subst h;unfold Zg;rw [if_pos (by omega)];congr 1;omega
theorem WV(pv:Int->Value)(cnt:Int->Int){k:Int}(h:k=2*i+1):Zg pv cnt k= .int .i64 (cnt i):=by
  subst h;unfold Zg;rw [if_neg (by omega)];congr 2;omega
structure UAt (w:World) (v:Value) (n:Int) (pv:Int->Value) (len:Int->Int) (pt:Int->Int->Int) (cnt:Int->Int):Prop where
  row:Row w v 2 n (Zg pv cnt)
  p:∀i,0<=i->i<n->IAt w (pv i) (len i) (pt i)
  c:∀i,-9223372036854775808<=cnt i/\cnt i<=9223372036854775807
theorem UAt.below{w w':World}{v:Value}{n:Int}{pv:Int->Value}{len:Int->Int}{pt:Int->Int->Int}{cnt:Int->Int}(h:UAt w v n pv len pt cnt)(hb:Below w.heap.size w w'):UAt w' v n pv len pt cnt:=
  ⟨h.row.below hb,fun i h0 h1=>(h.p i h0 h1).below hb,h.c⟩
end Go.Proofs.Gw
namespace Go.Proofs.Gw
open Go Go.RowKit
theorem StartR.ok{p:Lp}{t:Tb}{e:Int}(h:StartR p t e)(he:e=0):LOk p/\t=ZQ p:=by
  rcases h with⟨_,_,h⟩|⟨h1,h2,_⟩
  · omega
  · exact⟨h1,h2⟩
theorem StartR.err{p:Lp}{t:Tb}{e:Int}(h:StartR p t e)(he:e≠0):¬LOk p/\e=1:=by
  rcases h with⟨h1,_,h⟩|⟨h1,h2,h⟩
  · exact⟨h1,h⟩
  · exact absurd h he
def ZT(f g:Int->Int)(n:Nat):Int:=Zd (fun k=>f k*g k) n
def wgt(A:Int->Int->Int)(y:Int->Int)(n:Nat)(j:Int):Int:=Zd (fun i=>A i j*y i) n
structure ChkS (p:Lp) (s:So):Prop where
  ok:LOk p
  d1:1<=s.den
  d2:s.den<=1073741824
  v: -1073741824<=s.val/\s.val<=1073741824
  n:s.n=p.n
  m:s.m=p.m
  X:∀j,0<=j->j<p.n->0<=s.X j/\s.X j<=1073741824
  Y:∀i,0<=i->i<p.m->0<=s.Y i/\s.Y i<=1073741824
  rows:∀i,0<=i->i<p.m->p.b i*s.den<=ZT (p.A i) s.X p.n.toNat
  cols:∀j,0<=j->j<p.n->wgt p.A s.Y p.m.toNat j<=p.c j*s.den
  cX:ZT p.c s.X p.n.toNat=s.val
  bY:ZT p.b s.Y p.m.toNat=s.val
end Go.Proofs.Gw
namespace Go.Proofs.YtkichmnjjblodaaGreat
open Go Go.RowKit Go.Proofs.Gw
theorem Zki:Zc Tryz.prog 205=true:=by kernel_rfl
theorem Zkh:Zc Tryz.prog 206=true:=by kernel_rfl
theorem Wu:ZY Tryz.prog 139=some (.agg #[.slice none 0 0,.slice none 0 0,.int .i64 0,.int .i64 0],4,64):=by kernel_rfl
theorem fd_139_0:Zs Tryz.prog 139 0=some 0:=by kernel_rfl
theorem fd_139_1:Zs Tryz.prog 139 1=some 1:=by kernel_rfl
theorem ZM:Zz Tryz.prog 139=some 4:=by kernel_rfl
theorem ZhQ{vc vA vb:Value}{vq:Int->Value}{p:Lp}(w0:World)(hL:LAt w0 vc vA vb vq p):
    Calls Tryz.prog 188 [.agg #[vc,vA,vb]].toArray w0 fun e w=>∃v,e= .returned v/\∃vX vY s e,v= .tuple #[.agg #[vX,vY,.int .i64 s.val,.int .i64 s.den],.int .i64 e]/\SolveR p s e/\Slh vX s.n/\Slh vY s.m/\Sat w0 w [.own vX 1 3 s.n (ints s.X),.own vY 1 3 s.m (ints s.Y)]:=by
  have hn:=hL.c.slh.n0;have hn1:=hL.c.slh.n1;have hm:=hL.A.row.slh.n0;have hm1:=hL.A.row.slh.n1;have hk:=hL.b.slh.n0;have hk1:=hL.b.slh.n1
  refine zenG Tryz.func188 Tryz.ntmps188 fun w hS=> ?_
  refine zsr<|zla (xbx (cs:= [_,_,_]) hS) ?_;rintro _ w ⟨g1,rfl,hS⟩
  refine zla (xal (cs:= [_,_,_,_]) Wu hS) ?_;rintro _ w ⟨g2,rfl,hS⟩
  refine(zP)<|zlz<|(zV (xls 0 Zec hS))<|zlc (xc0 Zki) (ZhO (p:=p) w (hL.below hS.below)) ?_;rintro _ w ⟨qF,qE,qn,qp,tk1,ek1,rfl,zF,y6,y4,y5,hS'⟩
  replace hS:=(hS.comp hS').n6;clear hS'
  have dQ:=fun k (k0:0<=k) (k1:k<tk1.nc)=>hS.slhIn 5 rfl k0 k1
  refine(zP)<|(zP)<|(zP)<|zla (xal (cs:= [_,_,_,_,_]) Xi hS) ?_;rintro _ w ⟨g3,rfl,hS⟩
  refine zle (xsw 6 Zr hS (hd:=(Za rfl (Za rfl (Za y6.one (Za y4.one (Za y5.one Zi))))))) ?_;clear hS;rintro w hS
  refine(zP)<|zx5<|(zP)<|(zP)<|zlt<|Ze ?_ ?_<;>intro hc
  ·
   refine zsr<|(zV (xany (v:= .agg #[.slice none 0 0,.slice none 0 0,.int .i64 0,.int .i64 0])))<|(zP)<|zle (xsw 1 ZM hS) ?_;clear hS;rintro w hS
   refine(zP)<|zx14<|Yp 1 ZM hS ⟨_,rfl,?_⟩
   obtain⟨hl0,hl1⟩:=zF.err (by omega)
   exact⟨_,_,So.zero,_,rfl,.inl ⟨hl0,rfl,hl1⟩,slh_nil,slh_nil,((hS.sub (.cons _ (.cons _ (.cons _ (.cons _ (.cons _ (.cons _ (.cons _ .slnil)))))))).addnil 1 3 (ints So.zero.X)).addnil 1 3 (ints So.zero.Y)⟩
  refine YJ<|(zV (xls 6 Zr hS))<|zlc (xc0 Zkh) (Zb7 (t:=tk1) w (⟨(hS.rowN 2 rfl),(hS.rowN 3 rfl),(⟨(hS.rowN 4 rfl),fun k k0 k1=>hS.rowIn 5 rfl k0 k1,fun k k0 k1=>hS.roomIn 5 rfl k0 k1⟩:MAt _ qn tk1.nc qp tk1.ln tk1.C)⟩:TAt _ qF qE qn qp tk1)) ?_;rintro _ w ⟨xQ,xP,xK,xJ,uu1,zt,rfl,xm,av,au,zD,hS'⟩
  replace hS:=(hS.comp hS').n8;clear hS'
  have ar:=fun k (k0:0<=k) (k1:k<uu1.nc)=>((YO (⟨(hS.rowN 2 rfl),(hS.rowN 3 rfl),(⟨(hS.rowN 4 rfl),fun k k0 k1=>hS.rowIn 5 rfl k0 k1,fun k k0 k1=>hS.roomIn 5 rfl k0 k1⟩:MAt _ qn tk1.nc qp tk1.ln tk1.C)⟩:TAt _ qF qE qn qp tk1) hS 7 rfl).C.p k k0 k1).slh
  refine(zP)<|(zP)<|(zP)<|zle (xsw 6 Zr hS (hd:=(Za rfl (Za rfl (Za av.one (Za au.one (Za zD.one Zi))))))) ?_;clear hS;rintro w hS
  refine(zP)<|zlz<|(zP)<|(zP)<|zlt<|Ze ?_ ?_<;>intro hc
  ·
   refine zsr<|(zV (xany (v:= .agg #[.slice none 0 0,.slice none 0 0,.int .i64 0,.int .i64 0])))<|(zP)<|zle (xsw 1 ZM hS) ?_;clear hS;rintro w hS
   refine(zP)<|zx14<|Yp 1 ZM hS ⟨_,rfl,?_⟩
   obtain⟨hl,hts⟩:=zF.ok (by omega);rw [hts] at xm
   exact⟨_,_,So.zero,_,rfl,.inr ⟨hl,_,xm,.inl ⟨by omega,rfl⟩⟩,slh_nil,slh_nil,((hS.sub (.cons _ (.cons _ (.cons _ (.cons _ (.cons _ (.cons _ (.cons _ (.cons _ .slnil))))))))).addnil 1 3 (ints So.zero.X)).addnil 1 3 (ints So.zero.Y)⟩
  refine zsk<|ztn<|zsq<| ?_
  refine Vw (fun M w=>∃(v1:Value) (v2:Value) (g4:Nat),(Slh v1 p.n)/\(Slh v2 p.m)/\M= [(0,.agg #[vc,vA,vb]),(1,.pointer (some ⟨g1,0,none⟩)),(2,.pointer (some ⟨g2,0,none⟩)),(3,.int .i64 0),(12,.agg #[vc,vA,vb]),(13,.tuple #[.agg #[.int .i64 tk1.vars,.int .i64 tk1.den,qF,qE,qn],.int .i64 ek1]),(11,.tuple #[.agg #[.int .i64 tk1.vars,.int .i64 tk1.den,qF,qE,qn],.int .i64 ek1]),(14,.agg #[.int .i64 tk1.vars,.int .i64 tk1.den,qF,qE,qn]),(15,.int .i64 ek1),(4,.pointer (some ⟨g3,0,none⟩)),(5,.int .i64 zt),(16,.int .i64 ek1),(17,B (ek1≠0)),(21,.agg #[.int .i64 tk1.vars,.int .i64 tk1.den,qF,qE,qn]),(22,.tuple #[.agg #[.int .i64 uu1.vars,.int .i64 uu1.den,xQ,xP,xK],.int .i64 zt]),(20,.tuple #[.agg #[.int .i64 uu1.vars,.int .i64 uu1.den,xQ,xP,xK],.int .i64 zt]),(23,.agg #[.int .i64 uu1.vars,.int .i64 uu1.den,xQ,xP,xK]),(24,.int .i64 zt),(25,.int .i64 zt),(26,B (zt≠0)),(29,.pointer (some ⟨g1,0,none⟩)),(30,vc),(31,.int .i64 p.n),(33,.pointer (some ⟨g1,1,none⟩)),(34,vA),(35,.int .i64 p.m),(37,.pointer (some ⟨g3,4,none⟩)),(38,xK),(39,.pointer (some (cad xK 0))),(40,(xJ 0)),(41,.pointer (some (cad (xJ 0) 0))),(42,.int .i64 (uu1.C 0 0)),(43,.pointer (some ⟨g3,1,none⟩)),(44,.int .i64 uu1.den),(32,v1),(36,v2),(45,.agg #[v1,v2,.int .i64 (uu1.C 0 0),.int .i64 uu1.den]),(6,.pointer (some ⟨g4,0,none⟩))]/\Sat w0 w [.blk g1 [vc,vA,vb],.blk g2 [.slice none 0 0,.slice none 0 0,.int .i64 0,.int .i64 0],.own qF 1 3 tk1.nb (ints tk1.B),.own qE 1 3 tk1.nf (ints tk1.F),.own qn 1 22 tk1.nc qp,.sem (Frame.rows 3 tk1.nc qp tk1.ln tk1.C),.blk g3 [.int .i64 uu1.vars,.int .i64 uu1.den,xQ,xP,xK],.sem (Frame.alt (uu1=tk1/\xQ=qF/\xP=qE/\xK=qn/\xJ=qp) (Frame.bun [.own xQ 1 3 uu1.nb (ints uu1.B),.own xP 1 3 uu1.nf (ints uu1.F),.own xK 1 22 uu1.nc xJ,.sem (Frame.rows 3 uu1.nc xJ uu1.ln uu1.C)])),.own v1 1 3 p.n (ints (fun _=>0)),.own v2 1 3 p.m (ints (fun _=>0)),.blk g4 [v1,v2,.int .i64 (uu1.C 0 0),.int .i64 uu1.den]]) ?_ ?_
  ·
   refine zdst [0,1,2,3,4,5,6,7] [0,1,2,3,4,5,6,7] 18 mx_ hS ?_;clear hS;intro w hS
   refine zDrv 0 (xfb 0 fd_245_0) ?_
   obtain⟨hl,hts⟩:=zF.ok (by omega)
   have b1:=hl.n1
   have b2:=hl.n2
   have b3:=hl.m2
   have b4:=hl.k
   have hdm:=xm.dims
   obtain⟨hp,hco,hlv,_⟩:=xm.fin (.inl (by omega))
   have hd1:uu1.nb=p.m:=by rw [hdm.1,hts];rfl
   have hd2:uu1.nf=p.n:=by rw [hdm.2.1,hts];rfl
   have hd3:uu1.vars=p.n:=by rw [hdm.2.2.2,hts];rfl
   have hd4:=hp.c;have hl0:=hp.len (i:=0) (by omega) (by omega)
   refine(zDl 1 (fun w hS=>(xlb 0 pl_22 hS)))<|(zDw 2 (xln Zb hL.c.slh))<|(zDw 4 (xfb 1 fd_245_1))<|(zDl 5 (fun w hS=>(xlb 0 ZR hS)))<|(zDw 6 (xln Zl hL.A.row.slh))<|(zDw 8 (xfb 4 fd_265_4))<|(zDl 9 (fun w hS=>(xlb 6 ZR hS)))<|(zDw 10 (xix (kk:=0) Zl zD))<|(zDl 11 (fun w hS=>(xlr (u:=(xJ 0)) pl_22 (YO (⟨(hS.rowN 2 rfl),(hS.rowN 3 rfl),(⟨(hS.rowN 4 rfl),fun k k0 k1=>hS.rowIn 5 rfl k0 k1,fun k k0 k1=>hS.roomIn 5 rfl k0 k1⟩:MAt _ qn tk1.nc qp tk1.ln tk1.C)⟩:TAt _ qF qE qn qp tk1) hS 7 rfl).C.row)))<|(zDw 12 (xix (kk:=0) Zb (ar 0 (by omega) (by omega))))<|(zDl 13 (fun w hS=>(xlr (u:= .int .i64 (uu1.C 0 0)) pl_3 ((YO (⟨(hS.rowN 2 rfl),(hS.rowN 3 rfl),(⟨(hS.rowN 4 rfl),fun k k0 k1=>hS.rowIn 5 rfl k0 k1,fun k k0 k1=>hS.roomIn 5 rfl k0 k1⟩:MAt _ qn tk1.nc qp tk1.ln tk1.C)⟩:TAt _ qF qE qn qp tk1) hS 7 rfl).C.p 0 (by omega) (by omega)))))<|(zDw 14 (xfb 1 fd_265_1))<|(zDl 15 (fun w hS=>(xlb 6 pl_3 hS)))<|Vd (r:= [3,7,17]) ((YK ?_ (YK ?_ (YK ?_ Vc))))
   ·
    refine zka (xmk Zb Zt hS) ?_;rintro v1 w ⟨hS,hv1⟩
    refine⟨⟨fun _=>hS.pk [0,1,2,3,4,5,6,7],hS.pk [0,1,2,3,4,5,6,7]⟩,?_⟩
    refine Vd (r:= [7,17]) ((YK ?_ (YK ?_ Vc)))
    ·
     refine zka (xmk Zb Zt hS) ?_;rintro v2 w ⟨hS,hv2⟩
     refine⟨⟨fun _=>hS.pk [0,1,2,3,4,5,6,7],hS.pk [0,1,2,3,4,5,6,7]⟩,?_⟩
     refine zDrv 16 (xany (v:= .agg #[v1,v2,.int .i64 (uu1.C 0 0),.int .i64 uu1.den]) (hr:=by obtain⟨_,_,_,_,rfl,_⟩:=hv1;obtain⟨_,_,_,_,rfl,_⟩:=hv2;kernel_rfl)) ?_
     refine zda 17 (xal (cs:= [_,_,_,_]) Wu hS) ?_;rintro _ w ⟨g4,rfl,hS⟩
     refine⟨⟨fun _=>hS.pk [0,1,2,3,4,5,6,7],hS.pk [0,1,2,3,4,5,6,7]⟩,?_⟩
     refine zde 18 (xsw 10 ZM hS (hd:=(Za hv1.one (Za hv2.one (Za rfl (Za rfl Zi)))))) ?_;clear hS;rintro w hS
     refine⟨⟨fun h=>absurd h (by decide),hS.pk [0,1,2,3,4,5,6,7]⟩,?_⟩
     refine zdd<|zgj ⟨v1,v2,g4,hv1,hv2,rfl,hS⟩
    refine zka (xal (cs:= [_,_,_,_]) Wu hS) ?_;rintro _ w ⟨g4,rfl,hS⟩
    refine⟨⟨fun _=>hS.pk [0,1,2,3,4,5,6,7],hS.pk [0,1,2,3,4,5,6,7]⟩,?_⟩
    refine zda 7 (xmk Zb Zt hS) ?_;rintro v2 w ⟨hS,hv2⟩
    refine⟨⟨fun _=>hS.pk [0,1,2,3,4,5,6,7],hS.pk [0,1,2,3,4,5,6,7]⟩,?_⟩
    refine zDrv 16 (xany (v:= .agg #[v1,v2,.int .i64 (uu1.C 0 0),.int .i64 uu1.den]) (hr:=by obtain⟨_,_,_,_,rfl,_⟩:=hv1;obtain⟨_,_,_,_,rfl,_⟩:=hv2;kernel_rfl)) ?_
    refine zde 18 (xsw 9 ZM hS (hd:=(Za hv1.one (Za hv2.one (Za rfl (Za rfl Zi)))))) ?_;clear hS;rintro w hS
    refine⟨⟨fun h=>absurd h (by decide),hS.pk [0,1,2,3,4,5,6,7]⟩,?_⟩
    refine zdd<|zgj ⟨v1,v2,g4,hv1,hv2,rfl,hS.pk [0,1,2,3,4,5,6,7,8,10,9]⟩
   ·
    refine zka (xmk Zb Zt hS) ?_;rintro v1 w ⟨hS,hv1⟩
    refine⟨⟨fun _=>hS.pk [0,1,2,3,4,5,6,7],hS.pk [0,1,2,3,4,5,6,7]⟩,?_⟩
    refine Vd (r:= [3,17]) ((YK ?_ (YK ?_ Vc)))
    ·
     refine zka (xmk Zb Zt hS) ?_;rintro v2 w ⟨hS,hv2⟩
     refine⟨⟨fun _=>hS.pk [0,1,2,3,4,5,6,7],hS.pk [0,1,2,3,4,5,6,7]⟩,?_⟩
     refine zDrv 16 (xany (v:= .agg #[v2,v1,.int .i64 (uu1.C 0 0),.int .i64 uu1.den]) (hr:=by obtain⟨_,_,_,_,rfl,_⟩:=hv2;obtain⟨_,_,_,_,rfl,_⟩:=hv1;kernel_rfl)) ?_
     refine zda 17 (xal (cs:= [_,_,_,_]) Wu hS) ?_;rintro _ w ⟨g4,rfl,hS⟩
     refine⟨⟨fun _=>hS.pk [0,1,2,3,4,5,6,7],hS.pk [0,1,2,3,4,5,6,7]⟩,?_⟩
     refine zde 18 (xsw 10 ZM hS (hd:=(Za hv2.one (Za hv1.one (Za rfl (Za rfl Zi)))))) ?_;clear hS;rintro w hS
     refine⟨⟨fun h=>absurd h (by decide),hS.pk [0,1,2,3,4,5,6,7]⟩,?_⟩
     refine zdd<|zgj ⟨v2,v1,g4,hv2,hv1,rfl,hS.pk [0,1,2,3,4,5,6,7,9,8,10]⟩
    refine zka (xal (cs:= [_,_,_,_]) Wu hS) ?_;rintro _ w ⟨g4,rfl,hS⟩
    refine⟨⟨fun _=>hS.pk [0,1,2,3,4,5,6,7],hS.pk [0,1,2,3,4,5,6,7]⟩,?_⟩
    refine zda 3 (xmk Zb Zt hS) ?_;rintro v2 w ⟨hS,hv2⟩
    refine⟨⟨fun _=>hS.pk [0,1,2,3,4,5,6,7],hS.pk [0,1,2,3,4,5,6,7]⟩,?_⟩
    refine zDrv 16 (xany (v:= .agg #[v2,v1,.int .i64 (uu1.C 0 0),.int .i64 uu1.den]) (hr:=by obtain⟨_,_,_,_,rfl,_⟩:=hv2;obtain⟨_,_,_,_,rfl,_⟩:=hv1;kernel_rfl)) ?_
    refine zde 18 (xsw 9 ZM hS (hd:=(Za hv2.one (Za hv1.one (Za rfl (Za rfl Zi)))))) ?_;clear hS;rintro w hS
    refine⟨⟨fun h=>absurd h (by decide),hS.pk [0,1,2,3,4,5,6,7]⟩,?_⟩
    refine zdd<|zgj ⟨v2,v1,g4,hv2,hv1,rfl,hS.pk [0,1,2,3,4,5,6,7,10,8,9]⟩
   refine zka (xal (cs:= [_,_,_,_]) Wu hS) ?_;rintro _ w ⟨g4,rfl,hS⟩
   refine⟨⟨fun _=>hS.pk [0,1,2,3,4,5,6,7],hS.pk [0,1,2,3,4,5,6,7]⟩,?_⟩
   refine Vd (r:= [3,7]) ((YK ?_ (YK ?_ Vc)))
   ·
    refine zka (xmk Zb Zt hS) ?_;rintro v1 w ⟨hS,hv1⟩
    refine⟨⟨fun _=>hS.pk [0,1,2,3,4,5,6,7],hS.pk [0,1,2,3,4,5,6,7]⟩,?_⟩
    refine zda 7 (xmk Zb Zt hS) ?_;rintro v2 w ⟨hS,hv2⟩
    refine⟨⟨fun _=>hS.pk [0,1,2,3,4,5,6,7],hS.pk [0,1,2,3,4,5,6,7]⟩,?_⟩
    refine zDrv 16 (xany (v:= .agg #[v1,v2,.int .i64 (uu1.C 0 0),.int .i64 uu1.den]) (hr:=by obtain⟨_,_,_,_,rfl,_⟩:=hv1;obtain⟨_,_,_,_,rfl,_⟩:=hv2;kernel_rfl)) ?_
    refine zde 18 (xsw 8 ZM hS (hd:=(Za hv1.one (Za hv2.one (Za rfl (Za rfl Zi)))))) ?_;clear hS;rintro w hS
    refine⟨⟨fun h=>absurd h (by decide),hS.pk [0,1,2,3,4,5,6,7]⟩,?_⟩
    refine zdd<|zgj ⟨v1,v2,g4,hv1,hv2,rfl,hS.pk [0,1,2,3,4,5,6,7,9,10,8]⟩
   refine zka (xmk Zb Zt hS) ?_;rintro v1 w ⟨hS,hv1⟩
   refine⟨⟨fun _=>hS.pk [0,1,2,3,4,5,6,7],hS.pk [0,1,2,3,4,5,6,7]⟩,?_⟩
   refine zda 3 (xmk Zb Zt hS) ?_;rintro v2 w ⟨hS,hv2⟩
   refine⟨⟨fun _=>hS.pk [0,1,2,3,4,5,6,7],hS.pk [0,1,2,3,4,5,6,7]⟩,?_⟩
   refine zDrv 16 (xany (v:= .agg #[v2,v1,.int .i64 (uu1.C 0 0),.int .i64 uu1.den]) (hr:=by obtain⟨_,_,_,_,rfl,_⟩:=hv2;obtain⟨_,_,_,_,rfl,_⟩:=hv1;kernel_rfl)) ?_
   refine zde 18 (xsw 8 ZM hS (hd:=(Za hv2.one (Za hv1.one (Za rfl (Za rfl Zi)))))) ?_;clear hS;rintro w hS
   refine⟨⟨fun h=>absurd h (by decide),hS.pk [0,1,2,3,4,5,6,7]⟩,?_⟩
   refine zdd<|zgj ⟨v2,v1,g4,hv2,hv1,rfl,hS.pk [0,1,2,3,4,5,6,7,10,9,8]⟩
  clear hS w;rintro M w ⟨v1,v2,g4,hv1,hv2,rfl,hS⟩
  refine ztn<|zsq<|zsr<|zlv (xfb 2 fd_265_2) ?_
  obtain⟨hl,hts⟩:=zF.ok (by omega)
  have b1:=hl.n1
  have b2:=hl.n2
  have b3:=hl.m2
  have b4:=hl.k
  have hdm:=xm.dims
  obtain⟨hp,hco,hlv,_⟩:=xm.fin (.inl (by omega))
  have hd1:uu1.nb=p.m:=by rw [hdm.1,hts];rfl
  have hd2:uu1.nf=p.n:=by rw [hdm.2.1,hts];rfl
  have hd3:uu1.vars=p.n:=by rw [hdm.2.2.2,hts];rfl
  have hd4:=hp.c;have hl0:=hp.len (i:=0) (by omega) (by omega)
  refine(zV (xlb 6 pl_22 hS))<|(zV (xln Zb av))<|(zP)<|zx6<|zlp (fun mm M w=>∃(i:Int) (fX:Int->Int),mm=((uu1.nb-i).toNat)/\(0<=i)/\(i<=uu1.nb)/\(fX=rdX uu1 i.toNat)/\M= [(2,.pointer (some ⟨g2,0,none⟩)),(3,.int .i64 0),(4,.pointer (some ⟨g3,0,none⟩)),(6,.pointer (some ⟨g4,0,none⟩)),(47,xQ),(48,.int .i64 uu1.nb),(49,.int .i64 i)]/\Sat w0 w [.blk g1 [vc,vA,vb],.blk g2 [.slice none 0 0,.slice none 0 0,.int .i64 0,.int .i64 0],.own qF 1 3 tk1.nb (ints tk1.B),.own qE 1 3 tk1.nf (ints tk1.F),.own qn 1 22 tk1.nc qp,.sem (Frame.rows 3 tk1.nc qp tk1.ln tk1.C),.blk g3 [.int .i64 uu1.vars,.int .i64 uu1.den,xQ,xP,xK],.sem (Frame.alt (uu1=tk1/\xQ=qF/\xP=qE/\xK=qn/\xJ=qp) (Frame.bun [.own xQ 1 3 uu1.nb (ints uu1.B),.own xP 1 3 uu1.nf (ints uu1.F),.own xK 1 22 uu1.nc xJ,.sem (Frame.rows 3 uu1.nc xJ uu1.ln uu1.C)])),.own v1 1 3 p.n (ints fX),.own v2 1 3 p.m (ints (fun _=>0)),.blk g4 [v1,v2,.int .i64 (uu1.C 0 0),.int .i64 uu1.den]]) ⟨0,(fun _=>0),rfl,(by omega),(by omega),?_,rfl,hS⟩ ?_
  ·
   rfl
  clear hS w
  rintro mm M w ⟨i,fX,rfl,h0,h1,hfX,rfl,hS⟩
  refine zsr<|(zP)<|zx7<|Ze ?_ ?_<;>intro hc
  ·
   refine zx3<|(zP)<|(zV (xix (kk:=i) Zb av))<|zlv (xlr (u:= .int .i64 (uu1.B i)) pl_3 (YO (⟨(hS.rowN 2 rfl),(hS.rowN 3 rfl),(⟨(hS.rowN 4 rfl),fun k k0 k1=>hS.rowIn 5 rfl k0 k1,fun k k0 k1=>hS.roomIn 5 rfl k0 k1⟩:MAt _ qn tk1.nc qp tk1.ln tk1.C)⟩:TAt _ qF qE qn qp tk1) hS 7 rfl).B) ?_
   have hrg:=hp.rngB (i:=i) h0 (by omega)
   refine(zP)<|(zP)<|zlz<|(zP)<|(zV (xfb 0 fd_265_0))<|(zV (xlb 6 pl_3 hS))<|(zP)<|zlt<|Ze ?_ ?_<;>intro hc
   ·
    refine zdst [0,1,2,3,4,5,6,7,8,9,10] [0,1,2,3,4,5,6,7,9,10] 12 mx_ hS ?_;clear hS;intro w hS
    refine zDrv 0 (xfb 0 fd_139_0) ?_
    have hli:=hp.len (i:=i+1) (by omega) (by omega)
    refine(zDl 1 (fun w hS=>(xlb 9 pl_22 hS)))<|(zDw 2 xmv)<|(zDw 3 (xfb 4 fd_265_4))<|(zDl 4 (fun w hS=>(xlb 6 ZR hS)))<|(zDw 5 xmv)<|(zDw 6 (Zh (r:=i+1)))<|(zDw 7 (xix (kk:=i+1) Zl zD))<|(zDl 8 (fun w hS=>(xlr (u:=(xJ (i+1))) pl_22 (YO (⟨(hS.rowN 2 rfl),(hS.rowN 3 rfl),(⟨(hS.rowN 4 rfl),fun k k0 k1=>hS.rowIn 5 rfl k0 k1,fun k k0 k1=>hS.roomIn 5 rfl k0 k1⟩:MAt _ qn tk1.nc qp tk1.ln tk1.C)⟩:TAt _ qF qE qn qp tk1) hS 7 rfl).C.row)))<|(zDw 9 (xix (kk:=0) Zb (ar (i+1) (by omega) (by omega))))<|(zDl 10 (fun w hS=>(xlr (u:= .int .i64 (uu1.C (i+1) 0)) pl_3 ((YO (⟨(hS.rowN 2 rfl),(hS.rowN 3 rfl),(⟨(hS.rowN 4 rfl),fun k k0 k1=>hS.rowIn 5 rfl k0 k1,fun k k0 k1=>hS.roomIn 5 rfl k0 k1⟩:MAt _ qn tk1.nc qp tk1.ln tk1.C)⟩:TAt _ qF qE qn qp tk1) hS 7 rfl).C.p (i+1) (by omega) (by omega)))))<|(zDw 11 (xix (kk:=(uu1.B i)) Zb hv1))<|zde 12 (xso 8 pl_3 hS (Zq _ _ _)) ?_;clear hS;rintro w hS
    refine⟨⟨fun h=>absurd h (by decide),hS.pk [0,1,2,3,4,5,6,7,9,10]⟩,?_⟩
    refine zdd<|zbn<|ztn<|zrg ?_
    refine(zV (Zh (r:=i+1)))<|(zP)<|zln<|zlq ⟨i+1,(upd fX (uu1.B i) (uu1.C (i+1) 0)),rfl,(by omega),(by omega),?_,rfl,hS⟩
    ·
     rw [Zau uu1 h0,<-hfX];first|rw [if_pos (by omega)]|rw [if_neg (by omega)]
   refine zx4<|(zV (Zh (r:=i+1)))<|(zP)<|zln<|zlq ⟨i+1,fX,rfl,(by omega),(by omega),?_,rfl,hS⟩
   ·
    rw [Zau uu1 h0,<-hfX];first|rw [if_pos (by omega)]|rw [if_neg (by omega)]
  refine zx18<|(zV (xfb 3 fd_265_3))<|(zV (xlb 6 pl_22 hS))<|(zV (xln Zb au))<|(zP)<|zx6<|zlp (fun mm M w=>∃(j:Int) (fY:Int->Int),mm=((uu1.nf-j).toNat)/\(0<=j)/\(j<=uu1.nf)/\(fY=rdY uu1 j.toNat)/\M= [(2,.pointer (some ⟨g2,0,none⟩)),(3,.int .i64 0),(4,.pointer (some ⟨g3,0,none⟩)),(6,.pointer (some ⟨g4,0,none⟩)),(72,xP),(73,.int .i64 uu1.nf),(74,.int .i64 j)]/\Sat w0 w [.blk g1 [vc,vA,vb],.blk g2 [.slice none 0 0,.slice none 0 0,.int .i64 0,.int .i64 0],.own qF 1 3 tk1.nb (ints tk1.B),.own qE 1 3 tk1.nf (ints tk1.F),.own qn 1 22 tk1.nc qp,.sem (Frame.rows 3 tk1.nc qp tk1.ln tk1.C),.blk g3 [.int .i64 uu1.vars,.int .i64 uu1.den,xQ,xP,xK],.sem (Frame.alt (uu1=tk1/\xQ=qF/\xP=qE/\xK=qn/\xJ=qp) (Frame.bun [.own xQ 1 3 uu1.nb (ints uu1.B),.own xP 1 3 uu1.nf (ints uu1.F),.own xK 1 22 uu1.nc xJ,.sem (Frame.rows 3 uu1.nc xJ uu1.ln uu1.C)])),.own v1 1 3 p.n (ints fX),.own v2 1 3 p.m (ints fY),.blk g4 [v1,v2,.int .i64 (uu1.C 0 0),.int .i64 uu1.den]]) ⟨0,(fun _=>0),rfl,(by omega),(by omega),?_,rfl,hS⟩ ?_
  ·
   rfl
  clear hS w
  rintro mm M w ⟨j,fY,rfl,j0,j1,hfY,rfl,hS⟩
  refine zsr<|(zP)<|zx7<|Ze ?_ ?_<;>intro hc
  ·
   refine zx3<|(zP)<|(zV (xix (kk:=j) Zb au))<|zlv (xlr (u:= .int .i64 (uu1.F j)) pl_3 (YO (⟨(hS.rowN 2 rfl),(hS.rowN 3 rfl),(⟨(hS.rowN 4 rfl),fun k k0 k1=>hS.rowIn 5 rfl k0 k1,fun k k0 k1=>hS.roomIn 5 rfl k0 k1⟩:MAt _ qn tk1.nc qp tk1.ln tk1.C)⟩:TAt _ qF qE qn qp tk1) hS 7 rfl).F) ?_
   have hrg:=hp.rngF (i:=j) j0 (by omega) (by omega)
   refine(zP)<|(zP)<|zlz<|(zP)<|(zV (xfb 0 fd_265_0))<|(zV (xlb 6 pl_3 hS))<|(zP)<|zlt<|Ze ?_ ?_<;>intro hc
   ·
    refine zdst [0,1,2,3,4,5,6,7,8,9,10] [0,1,2,3,4,5,6,7,8,10] 15 mx_ hS ?_;clear hS;intro w hS
    refine(zDw 0 (xfb 1 fd_139_1))<|(zDl 1 (fun w hS=>(xlb 9 pl_22 hS)))<|(zDw 2 xmv)<|(zDw 3 (xfb 0 fd_265_0))<|(zDl 4 (fun w hS=>(xlb 6 pl_3 hS)))<|(zDw 5 (Zp (r:=(uu1.F j)-uu1.vars)))<|(zDw 6 (xfb 4 fd_265_4))<|(zDl 7 (fun w hS=>(xlb 6 ZR hS)))<|(zDw 8 (xix (kk:=0) Zl zD))<|(zDl 9 (fun w hS=>(xlr (u:=(xJ 0)) pl_22 (YO (⟨(hS.rowN 2 rfl),(hS.rowN 3 rfl),(⟨(hS.rowN 4 rfl),fun k k0 k1=>hS.rowIn 5 rfl k0 k1,fun k k0 k1=>hS.roomIn 5 rfl k0 k1⟩:MAt _ qn tk1.nc qp tk1.ln tk1.C)⟩:TAt _ qF qE qn qp tk1) hS 7 rfl).C.row)))<|(zDw 10 xmv)<|(zDw 11 (Zh (r:=j+1)))<|(zDw 12 (xix (kk:=j+1) Zb (ar 0 (by omega) (by omega))))<|(zDl 13 (fun w hS=>(xlr (u:= .int .i64 (uu1.C 0 (j+1))) pl_3 ((YO (⟨(hS.rowN 2 rfl),(hS.rowN 3 rfl),(⟨(hS.rowN 4 rfl),fun k k0 k1=>hS.rowIn 5 rfl k0 k1,fun k k0 k1=>hS.roomIn 5 rfl k0 k1⟩:MAt _ qn tk1.nc qp tk1.ln tk1.C)⟩:TAt _ qF qE qn qp tk1) hS 7 rfl).C.p 0 (by omega) (by omega)))))<|zDrv 14 (xix (kk:=(uu1.F j)-uu1.vars) Zb hv2) ?_
    refine zde 15 (xso 9 pl_3 hS (Zq _ _ _)) ?_;clear hS;rintro w hS
    refine⟨⟨fun h=>absurd h (by decide),hS.pk [0,1,2,3,4,5,6,7,8,10]⟩,?_⟩
    refine zdd<|zbn<|ztn<|zrg ?_
    refine(zV (Zh (r:=j+1)))<|(zP)<|zln<|zlq ⟨j+1,(upd fY ((uu1.F j)-uu1.vars) (uu1.C 0 (j+1))),rfl,(by omega),(by omega),?_,rfl,hS⟩
    ·
     rw [Zat uu1 j0,<-hfY];first|rw [if_pos (by omega)]|rw [if_neg (by omega)]
   refine zx4<|(zV (Zh (r:=j+1)))<|(zP)<|zln<|zlq ⟨j+1,fY,rfl,(by omega),(by omega),?_,rfl,hS⟩
   ·
    rw [Zat uu1 j0,<-hfY];first|rw [if_pos (by omega)]|rw [if_neg (by omega)]
  refine zx8<|(zV (xls 10 ZM hS))<|zle (xsw 1 ZM hS (hd:=(Za hv1.one (Za hv2.one (Za rfl (Za rfl Zi)))))) ?_;clear hS;rintro w hS
  refine(zP)<|zx1<|Yp 1 ZM hS ⟨_,rfl,?_⟩
  obtain rfl:i=uu1.nb:=by omega
  obtain rfl:j=uu1.nf:=by omega
  have he0:zt=0:=by omega
  rw [hts,he0] at xm
  rw [<-hd2] at hv1;rw [<-hd1] at hv2;replace hS:=hS.pk [8,9];rw [<-hd2,<-hd1] at hS;subst hfX;subst hfY
  exact⟨_,_,XT uu1,0,rfl,.inr ⟨hl,uu1,xm,.inr ⟨rfl,rfl⟩⟩,hv1,hv2,hS⟩
end Go.Proofs.YtkichmnjjblodaaGreat
namespace Go.Proofs.Gw
open Go Go.RowKit
variable {e i j:Int} {g:Int->Int} {k:Nat} {t:Tb}
theorem Xp{f:Int->Int}{s:Int}:∀{n:Nat},0<=s->s<n->Zd f n=f s+Zd (fun j=>if j=s then 0 else f j) n
  |0,h0,h1=>by omega
  | n +1,h0,h1=>by
    rw [Zd,Zd]
    by_cases e:s=n
    · have:Zd (fun j=>if j=s then 0 else f j) n=Zd f n:=Zj fun i i0 i1=>by rw [if_neg (by omega)]
      rw [this,if_pos e.symm,e];omega
    · have:=Xp (f:=f) (s:=s) (n:=n) h0 (by omega)
      rw [this,if_neg (by omega)];omega
theorem Xz{f g h:Int->Int}{D A B:Int}:∀{n:Nat},(∀i,0<=i->i<(n:Int)->D*h i=A*f i-B*g i)->D*Zd h n=A*Zd f n-B*Zd g n
  |0,_=>by simp [Zd]
  | n+1,hh=>by
    have h1:=Xz (n:=n) (fun i i0 i1=>hh i i0 (by omega))
    have h2:=hh n (by omega) (by omega)
    simp only [Zd]
    grind
def Ud(t:Tb)(k0:Int)(v:Int->Int)(i:Int):Int:=t.C i 0*k0+Zd (fun j=>t.C i (j+1)*v (t.F j)) t.nf.toNat
def VR(t:Tb)(z:Int)(v:Int->Int)(i:Int):Int:=if i=0 then z else v (t.B (i-1))
def Idt(t:Tb)(k0 z:Int)(v:Int->Int):Prop:=∀i,0<=i->i<=t.nb->t.den*VR t z v i=Ud t k0 v i
def Wz(t:Tb)(k0:Int)(v:Int->Int)(s i:Int):Int:=t.C i 0*k0+Zd (fun j=>if j=s then 0 else t.C i (j+1)*v (t.F j)) t.nf.toNat
theorem Ra(t:Tb)(k0:Int)(v:Int->Int){s:Int}(i:Int)(s0:0<=s)(s1:s<t.nf):Ud t k0 v i=Wz t k0 v s i+t.C i (s+1)*v (t.F s):=by
  unfold Ud Wz
  rw [Xp (s:=s) s0 (by omega)];omega
def sg(p:Int):Int:=if p<0 then-1 else 1
theorem Zem(p:Int):sg p=1\/sg p= -1:=by unfold sg;split<;>simp
theorem Rj(t:Tb)(row col i j:Int):(piv t row col).C i j=sg (t.C (row+1) (col+1))*Yu t (row+1) (col+1) i j:=by
  show(if _ then _ else _)=_
  unfold sg;split<;>simp
theorem ZgX(t:Tb)(row col:Int):(piv t row col).den=sg (t.C (row+1) (col+1))*t.C (row+1) (col+1):=by
  show(if _ then _ else _)=_
  unfold sg;split<;>simp
theorem UC{row col:Int}(hd:Zdp t row col)(i0:0<=i)(i1:i<=t.nb)(j0:0<=j)(j1:j<=t.nf)(hi:i≠row+1)(hj:j≠col+1):
    t.den*Yu t (row+1) (col+1) i j=t.C (row+1) (col+1)*t.C i j-t.C i (col+1)*t.C (row+1) j:=by
  unfold Yu
  rw [if_neg (by omega),if_neg hi,if_neg hj]
  exact Int.mul_tdiv_cancel' (Int.dvd_of_tmod_eq_zero (hd i j i0 i1 j0 j1 hi hj))
theorem Zhf {row col:Int} (ha:ZaC t row col) (hd:Zdp t row col) (k0 z:Int) (v:Int->Int):Idt t k0 z v↔Idt (piv t row col) k0 z v:=by
  obtain⟨hp,r0,r1,c0,c1,hne⟩:=ha
  have hD:=hp.d1
  have hnf:(piv t row col).nf=t.nf:=rfl
  have hF1:(piv t row col).F col=t.B row:=by show upd t.F col (t.B row) col=_;rw [Zk]
  have hF2:∀j,j≠col->(piv t row col).F j=t.F j:=fun j h=>by show upd t.F col (t.B row) j=_;rw [upd_ne _ _ h]
  have hB1:(piv t row col).B row=t.F col:=by show upd t.B row (t.F col) row=_;rw [Zk]
  have hB2:∀j,j≠row->(piv t row col).B j=t.B j:=fun j h=>by show upd t.B row (t.F col) j=_;rw [upd_ne _ _ h]
  have qt:∀i,Ud t k0 v i=Wz t k0 v col i+t.C i (col+1)*v (t.F col):=fun i=>Ra t k0 v i c0 c1
  have zG:∀i,Ud (piv t row col) k0 v i=Wz (piv t row col) k0 v col i+(piv t row col).C i (col+1)*v (t.B row):=fun i=>by
    rw [Ra (piv t row col) k0 v i c0 c1,hF1]
  have hR :Wz (piv t row col) k0 v col (row+1)= -(sg (t.C (row+1) (col+1))*Wz t k0 v col (row+1)):=by
    unfold Wz
    have e0:(piv t row col).C (row+1) 0=sg (t.C (row+1) (col+1))* -t.C (row+1) 0:=by
      rw [Rj];unfold Yu;rw [if_neg (by omega),if_pos rfl]
    have e1:=Xz (D:=1) (A:= -sg (t.C (row+1) (col+1))) (B:=0) (n:=t.nf.toNat) (h:=fun j=>if j=col then 0 else(piv t row col).C (row+1) (j+1)*v ((piv t row col).F j))
      (f:=fun j=>if j=col then 0 else t.C (row+1) (j+1)*v (t.F j)) (g:=fun _=>0) (fun j j0 j1=>by
        by_cases e:j=col
        · simp [e]
        · simp only [if_neg e]
          rw [hF2 j e,Rj];unfold Yu;rw [if_neg (by omega),if_pos rfl];grind)
    rw [e0,hnf]
    grind
  have hQ :∀i,0<=i->i<=t.nb->i≠row+1->t.den*Wz (piv t row col) k0 v col i=sg (t.C (row+1) (col+1))*(t.C (row+1) (col+1)*Wz t k0 v col i-t.C i (col+1)*Wz t k0 v col (row+1)):=fun i i0 i1 hi=>by
    unfold Wz
    have e0:t.den*(piv t row col).C i 0=sg (t.C (row+1) (col+1))*(t.C (row+1) (col+1)*t.C i 0-t.C i (col+1)*t.C (row+1) 0):=by
      have:=UC hd i0 i1 (j:=0) (by omega) (by omega) hi (by omega)
      rw [Rj];grind
    have e1:=Xz (D:=t.den) (A:=sg (t.C (row+1) (col+1))*t.C (row+1) (col+1)) (B:=sg (t.C (row+1) (col+1))*t.C i (col+1)) (n:=t.nf.toNat) (h:=fun j=>if j=col then 0 else(piv t row col).C i (j+1)*v ((piv t row col).F j))
      (f:=fun j=>if j=col then 0 else t.C i (j+1)*v (t.F j)) (g:=fun j=>if j=col then 0 else t.C (row+1) (j+1)*v (t.F j)) (fun j j0 j1=>by
        by_cases e:j=col
        · simp [e]
        · simp only [if_neg e]
          have:=UC hd i0 i1 (j:=j+1) (by omega) (by omega) hi (by omega)
          rw [hF2 j e,Rj];grind)
    rw [hnf]
    grind
  have hr':(piv t row col).C (row+1) (col+1)=sg (t.C (row+1) (col+1))*t.den:=by rw [Rj];unfold Yu;rw [if_pos ⟨rfl,rfl⟩]
  have hc':∀i,i≠row+1->(piv t row col).C i (col+1)=sg (t.C (row+1) (col+1))*t.C i (col+1):=fun i hi=>by rw [Rj];unfold Yu;rw [if_neg (by omega),if_neg hi,if_pos rfl]
  have hl1:VR t z v (row+1)=v (t.B row):=by unfold VR;rw [if_neg (by omega)];congr 2;omega
  have eu:VR (piv t row col) z v (row+1)=v (t.F col):=by unfold VR;rw [if_neg (by omega),show row+1-1=row by omega,hB1]
  have hl2:∀i,i≠row+1->VR (piv t row col) z v i=VR t z v i:=fun i hi=>by
    unfold VR;split
    · rfl
    · rw [hB2 _ (by omega)]
  have hs:=Zem (t.C (row+1) (col+1))
  have y7:=ZgX t row col
  generalize sg (t.C (row+1) (col+1))=σ at*
  constructor
  · intro h i i0 i1
    have er:=h (row+1) (by omega) (by omega)
    rw [hl1,qt] at er
    by_cases hi:i=row+1
    · subst hi
      rw [eu,zG,hR,hr',y7]
      grind
    · have ei:=h i i0 i1
      rw [qt] at ei
      have q:=hQ i i0 i1 hi
      rw [hl2 i hi,zG,hc' i hi,y7]
      refine Int.eq_of_mul_eq_mul_left (a:=t.den) (by omega) ?_
      grind
  · intro h i i0 i1
    have er:=h (row+1) (by omega) (show row+1<=t.nb by omega)
    rw [eu,zG,hR,hr',y7] at er
    have er2:t.den*v (t.B row)=Wz t k0 v col (row+1)+t.C (row+1) (col+1)*v (t.F col):=by
      rcases hs with rfl|rfl<;>grind
    by_cases hi:i=row+1
    · subst hi
      rw [hl1,qt];exact er2
    · have ei:=h i i0 i1
      have q:=hQ i i0 i1 hi
      rw [hl2 i hi,zG,hc' i hi,y7] at ei
      rw [qt]
      refine Int.eq_of_mul_eq_mul_left (a:=t.C (row+1) (col+1)) hne ?_
      rcases hs with rfl|rfl<;>grind
theorem Zcx{u:Tb}(h:Run k t u e)(k0 z:Int)(v:Int->Int):Idt t k0 z v↔Idt u k0 z v:=by
  induction h with
  |stop=>exact Iff.rfl
  |lim=>exact Iff.rfl
  |bad=>exact Iff.rfl
  | go h hp hr ih=>
    rcases hp with⟨_,_,h⟩|⟨_,_,_,h⟩|⟨_,_,_,_,h⟩|⟨ha,hd,_,rfl,_⟩
    · omega
    · omega
    · omega
    · exact(Zhf ha hd k0 z v).trans ih
theorem Rw{p:Lp}(hl:LOk p)(hm:0<=p.m)(k0 z:Int)(v:Int->Int):Idt (ZQ p) k0 z v↔(z=ZT p.c v p.n.toNat/\∀i,0<=i->i<p.m->v (p.n+i)=ZT (p.A i) v p.n.toNat-p.b i*k0):=by
  have hn:=hl.n1
  have e00:(ZQ p).C 0 0=0:=rfl
  have e0:∀j,0<=j->(ZQ p).C 0 (j+1)=p.c j:=fun j j0=>by
    show(if(0:Int)=0 then(if j+1=0 then 0 else p.c (j+1-1)) else(if j+1=0 then-p.b (0-1) else p.A (0-1) (j+1-1)))=_
    rw [if_pos rfl,if_neg (by omega),show j+1-1=j by omega]
  have ei0:∀i,1<=i->(ZQ p).C i 0= -p.b (i-1):=fun i i0=>by
    show(if i=0 then(if(0:Int)=0 then 0 else p.c (0-1)) else(if(0:Int)=0 then-p.b (i-1) else p.A (i-1) (0-1)))=_
    rw [if_neg (by omega),if_pos rfl]
  have ei:∀i j,1<=i->0<=j->(ZQ p).C i (j+1)=p.A (i-1) j:=fun i j i0 j0=>by
    show(if i=0 then(if j+1=0 then 0 else p.c (j+1-1)) else(if j+1=0 then-p.b (i-1) else p.A (i-1) (j+1-1)))=_
    rw [if_neg (by omega),if_neg (by omega),show j+1-1=j by omega]
  have r0:Ud (ZQ p) k0 v 0=ZT p.c v p.n.toNat:=by
    unfold Ud
    rw [e00,Int.zero_mul,Int.zero_add]
    exact Zj fun j j0 j1=>by rw [e0 j j0];rfl
  have r1:∀i,1<=i->Ud (ZQ p) k0 v i=ZT (p.A (i-1)) v p.n.toNat-p.b (i-1)*k0:=fun i i0=>by
    unfold Ud
    have:Zd (fun j=>(ZQ p).C i (j+1)*v ((ZQ p).F j)) (ZQ p).nf.toNat=ZT (p.A (i-1)) v p.n.toNat:=
      Zj fun j j0 j1=>by rw [ei i j i0 j0];rfl
    rw [this,ei0 i i0,Int.neg_mul];omega
  have e:(ZQ p).den=1:=rfl
  have enb:(ZQ p).nb=p.m:=rfl
  constructor
  · intro h
    refine⟨?_,fun i i0 i1=> ?_⟩
    · have:=h 0 (by omega) (by omega)
      rw [r0] at this
      unfold VR at this
      rw [if_pos rfl,e] at this;omega
    · have:=h (i+1) (by omega) (by omega)
      rw [r1 _ (by omega),show i+1-1=i by omega] at this
      unfold VR at this
      have e2:(ZQ p).B i=p.n+i:=rfl
      rw [if_neg (by omega),show i+1-1=i by omega,e,e2] at this;omega
  · rintro⟨h0,h1⟩ i i0 i1
    rw [e,Int.one_mul]
    unfold VR
    by_cases hi:i=0
    · subst hi;rw [if_pos rfl,r0];exact h0
    · rw [if_neg hi,r1 i (by omega)]
      have e2:(ZQ p).B (i-1)=p.n+(i-1):=rfl
      rw [e2];exact h1 (i-1) (by omega) (by omega)
def bas(u:Tb):Nat->Int->Int
  |0=>fun _=>0
  |k+1=>upd (bas u k) (u.B k) (u.C (k+1) 0)
theorem Zbf(u:Tb){q:Int}:∀K:Nat,(∀i:Int,0<=i->i<K->u.B i≠q)->bas u K q=0
  |0,_=>rfl
  | k+1,h=>by
    unfold bas
    rw [upd_ne _ _ (fun e=>h k (by omega) (by omega) e.symm)]
    exact Zbf u k fun i i0 i1=>h i i0 (by omega)
theorem TPrp.injB(h:TPrp t)(i0:0<=i)(i1:i<t.nb)(j0:0<=j)(j1:j<t.nb)(e:t.B i=t.B j):i=j:=by
  have hn:=h.n1
  have:=h.perm.2 (t.nf+i) (t.nf+j) (by omega) (by omega) (by omega) (by omega) (by unfold cat;rw [if_neg (by omega),if_neg (by omega),show t.nf+i-t.nf=i by omega,show t.nf+j-t.nf=j by omega];exact e)
  omega
theorem TPrp.disj(h:TPrp t)(i0:0<=i)(i1:i<t.nb)(j0:0<=j)(j1:j<t.nf):t.B i≠t.F j:=fun e=>by
  have hn:=h.n1
  have:=h.perm.2 (t.nf+i) j (by omega) (by omega) (by omega) (by omega) (by unfold cat;rw [if_neg (by omega),if_pos j1,show t.nf+i-t.nf=i by omega];exact e)
  omega
theorem Zgp{u:Tb}(h:TPrp u):∀(K:Nat),(K:Int)<=u.nb->∀i:Int,0<=i->i<K->bas u K (u.B i)=u.C (i+1) 0
  |0,_,i,i0,i1=>by omega
  | k +1,hK,i,i0,i1=>by
    unfold bas
    by_cases e:i=k
    · subst e;rw [Zk]
    · rw [upd_ne _ _ (fun e2=>e (h.injB i0 (by omega) (by omega) (by omega) e2))]
      exact Zgp h k (by omega) i i0 (by omega)
theorem KS{u:Tb}(h:TPrp u)(zS:∀i:Int,0<=i->i<u.nb->0<=u.C (i+1) 0)(q:Int):∀(K:Nat),(K:Int)<=u.nb->0<=bas u K q/\bas u K q<=1073741824
  |0,_=>by unfold bas;omega
  | k +1,hK=>by
    unfold bas
    by_cases e:q=u.B k
    · rw [<-e,Zk]
      have h1:=zS k (by omega) (by omega)
      have hn:=h.n1
      have h2:=h.cell (i:=k+1) (j:=0) (by omega) (by omega) (by omega) (by omega)
      omega
    · rw [upd_ne _ _ e];exact KS h zS q k (by omega)
theorem Kk(u:Tb){j:Int}(hj:j<u.vars):∀K:Nat,rdX u K j=bas u K j
  |0=>rfl
  | k +1=>by
    unfold rdX bas
    by_cases h:u.B k<u.vars
    · rw [if_pos h]
      by_cases e:j=u.B k
      · rw [<-e,Zk,Zk]
      · rw [upd_ne _ _ e,upd_ne _ _ e];exact Kk u hj k
    · rw [if_neg h,upd_ne _ _ (by omega)];exact Kk u hj k
def rdG(u:Tb)(y0 g:Int->Int):Nat->Int->Int
  |0=>y0
  |k+1=>if u.vars<=u.F k then upd (rdG u y0 g k) (u.F k-u.vars) (g k) else rdG u y0 g k
theorem Zcj(u:Tb):∀K:Nat,rdY u K=rdG u (fun _=>0) (fun j=>u.C 0 (j+1)) K
  |0=>rfl
  |k+1=>by unfold rdY rdG;rw [Zcj u k]
theorem Ue(u:Tb)(y0 g:Int->Int){i:Int}:∀K:Nat,(∀k:Int,0<=k->k<K->u.F k≠u.vars+i)->rdG u y0 g K i=y0 i
  |0,_=>rfl
  | k+1,h=>by
    unfold rdG
    have hk:=h k (by omega) (by omega)
    split
    · rw [upd_ne _ _ (by omega)];exact Ue u y0 g k fun q q0 q1=>h q q0 (by omega)
    · exact Ue u y0 g k fun q q0 q1=>h q q0 (by omega)
theorem UR{u:Tb}{y0 g:Int->Int}{A:Int}(q:Int)(h0:0<=y0 q/\y0 q<=A):∀K:Nat,(∀k:Int,0<=k->k<K->0<=g k/\g k<=A)->0<=rdG u y0 g K q/\rdG u y0 g K q<=A
  |0,_=>h0
  | k +1,h=>by
    unfold rdG
    split
    · by_cases e:q=u.F k-u.vars
      · rw [<-e,Zk];exact h k (by omega) (by omega)
      · rw [upd_ne _ _ e];exact UR q h0 k fun q q0 q1=>h q q0 (by omega)
    · exact UR q h0 k fun q q0 q1=>h q q0 (by omega)
theorem Za5(w y:Int->Int){a:Int}{m:Nat}(i0:0<=i)(i1:i<m):ZT w (upd y i a) m=ZT w y m+w i*(a-y i):=by
  unfold ZT
  rw [Xp (s:=i) i0 i1,Xp (f:=fun k=>w k*y k) (s:=i) i0 i1]
  have:Zd (fun j=>if j=i then 0 else w j*upd y i a j) m=Zd (fun j=>if j=i then 0 else w j*y j) m:=Zj fun j j0 j1=>by
    by_cases e:j=i
    · rw [if_pos e,if_pos e]
    · rw [if_neg e,if_neg e,upd_ne _ _ e]
  rw [this,Zk];grind
theorem Kl {u:Tb} (h:TPrp u) (hm:0<=u.nb) {y0 g:Int->Int} (w:Int->Int) (hf:∀k:Int,0<=k->k<u.nf->u.vars<=u.F k->y0 (u.F k-u.vars)=0):∀K:Nat,(K:Int)<=u.nf->
    ZT w (rdG u y0 g K) u.nb.toNat=ZT w y0 u.nb.toNat+Zd (fun k=>if u.vars<=u.F k then g k*w (u.F k-u.vars) else 0) K
  |0,_=>by simp [rdG,Zd]
  | k + 1,hK=>by
    have ih:=Kl h hm w hf (g:=g) k (by omega)
    have hr:=h.rngF (i:=k) (by omega) (by omega) hm
    have hv:=h.v
    unfold rdG Zd
    by_cases hc:u.vars<=u.F k
    · rw [if_pos hc,if_pos hc,Za5 _ _ (by omega) (by omega),ih]
      have:rdG u y0 g k (u.F k-u.vars)=0:=by
        rw [Ue u y0 g k fun q q0 q1 e=>by
          have:=h.injF (i:=q) (j:=k) q0 (by omega) (by omega) (by omega) hm (by omega);omega]
        exact hf k (by omega) (by omega) hc
      rw [this];grind
    · rw [if_neg hc,if_neg hc,ih];omega
theorem TA(f:Int->Int){q:Int}{n:Nat}(q0:0<=q)(q1:q<n):ZT f (fun k=>if k=q then 1 else 0) n=f q:=by
  unfold ZT
  rw [Xp (s:=q) q0 q1]
  show f q*(if q=q then 1 else 0)+_=_
  rw [if_pos rfl,Int.mul_one]
  have:Zd (fun j=>if j=q then 0 else f j*(fun k=>if k=q then 1 else 0) j) n=Zd (fun _=>0) n:=Zj fun j _ _=>by split<;>simp_all
  rw [this,ZP];omega
def Vv(p:Lp)(x:Int->Int)(k0 q:Int):Int:=if q<p.n then x q else ZT (p.A (q-p.n)) x p.n.toNat-p.b (q-p.n)*k0
theorem Zcy{p:Lp}(hl:LOk p)(hm:0<=p.m){u:Tb}(h:Run k (ZQ p) u e)(x:Int->Int)(k0:Int):Idt u k0 (ZT p.c x p.n.toNat) (Vv p x k0):=by
  refine(Zcx h k0 _ _).1 ((Rw hl hm k0 _ _).2 ⟨?_,fun i i0 i1=> ?_⟩)
  · exact Zj fun j j0 j1=>by unfold Vv;rw [if_pos (by omega)]
  · have:ZT (p.A i) (Vv p x k0) p.n.toNat=ZT (p.A i) x p.n.toNat:=Zj fun j j0 j1=>by unfold Vv;rw [if_pos (by omega)]
    rw [this];unfold Vv;rw [if_neg (by omega),show p.n+i-p.n=i by omega]
theorem Zbz{p:Lp}{u:Tb}(hp:TPrp u)(hm:0<=u.nb)(hv:u.vars=p.n)(x:Int->Int)(k0 i:Int){y0:Int->Int}(hg:∀k:Int,0<=k->k<u.nf->g k=u.C i (k+1))(hf:∀k:Int,0<=k->k<u.nf->u.vars<=u.F k->y0 (u.F k-u.vars)=0):
    Ud u k0 (Vv p x k0) i=u.C i 0*k0+Zd (fun k=>if u.vars<=u.F k then 0 else g k*x (u.F k)) u.nf.toNat+
      (ZT (fun i=>ZT (p.A i) x p.n.toNat-p.b i*k0) (rdG u y0 g u.nf.toNat) u.nb.toNat-ZT (fun i=>ZT (p.A i) x p.n.toNat-p.b i*k0) y0 u.nb.toNat):=by
  have hn:=hp.n1
  have h1:=Kl hp hm (y0:=y0) (g:=g) (fun i=>ZT (p.A i) x p.n.toNat-p.b i*k0) hf u.nf.toNat (by omega)
  rw [h1]
  unfold Ud
  have h2:Zd (fun j=>u.C i (j+1)*Vv p x k0 (u.F j)) u.nf.toNat=Zd (fun k=>(if u.vars<=u.F k then 0 else g k*x (u.F k))+(if u.vars<=u.F k then g k*(ZT (p.A (u.F k-u.vars)) x p.n.toNat-p.b (u.F k-u.vars)*k0) else 0)) u.nf.toNat:=
    Zj fun j j0 j1=>by
      unfold Vv
      rw [hg j j0 (by omega)]
      by_cases hc:u.vars<=u.F j
      · rw [if_neg (by omega),if_pos hc,if_pos hc,hv];omega
      · rw [if_pos (by omega),if_neg hc,if_neg hc];omega
  rw [h2,X7];omega
theorem ZgT {p:Lp} (hl:LOk p) (hm:0<=p.m) {u:Tb} (h:Run k (ZQ p) u 0):ChkS p (XT u):=by
  obtain⟨hp,hco,hlv,_⟩:=h.fin (.inl rfl)
  have hd:=h.dims
  have d1:u.nb=p.m:=by rw [hd.1];rfl
  have d2:u.nf=p.n:=by rw [hd.2.1];rfl
  have d3:u.vars=p.n:=by rw [hd.2.2.2];rfl
  have hn:=hl.n1
  have lr:=Xq u u.nb.toNat
  have zS:∀i:Int,0<=i->i<u.nb->0<=u.C (i+1) 0:=fun i i0 i1=>(Tn u u.nb.toNat).1 (by have:=hlv rfl;omega) i i0 (by omega)
  have hg0:∀k:Int,0<=k->k<u.nf->0<=u.C 0 (k+1)/\u.C 0 (k+1)<=1073741824:=fun k k0 k1=>⟨hco (k+1) (by omega) (by omega),(hp.cell (i:=0) (by omega) (by omega) (by omega) (by omega)).2⟩
  have hid:Idt u u.den (u.C 0 0) (bas u u.nb.toNat):=fun i i0 i1=>by
    have hz:Zd (fun j=>u.C i (j+1)*bas u u.nb.toNat (u.F j)) u.nf.toNat=0:=by
      have:Zd (fun j=>u.C i (j+1)*bas u u.nb.toNat (u.F j)) u.nf.toNat=Zd (fun _=>0) u.nf.toNat:=Zj fun j j0 j1=>by
        rw [Zbf u _ fun q q0 q1=>hp.disj q0 (by omega) j0 (by omega)];omega
      rw [this,ZP]
    unfold Ud VR
    rw [hz]
    by_cases hi:i=0
    · subst hi;rw [if_pos rfl];grind
    · rw [if_neg hi,Zgp hp u.nb.toNat (by omega) (i-1) (by omega) (by omega),show i-1+1=i by omega];grind
  obtain⟨hz,hs⟩:=(Rw hl hm _ _ _).1 ((Zcx h _ _ _).2 hid)
  have hX:∀j,0<=j->j<p.n->rdX u u.nb.toNat j=bas u u.nb.toNat j:=fun j j0 j1=>Kk u (by omega) _
  have dX:∀f:Int->Int,ZT f (rdX u u.nb.toNat) p.n.toNat=ZT f (bas u u.nb.toNat) p.n.toNat:=fun f=>Zj fun j j0 j1=>by rw [hX j j0 (by omega)]
  have hY:(XT u).Y=rdG u (fun _=>0) (fun j=>u.C 0 (j+1)) u.nf.toNat:=by show rdY u _=_;rw [Zcj]
  have aT:∀w:Int->Int,ZT w (fun _=>0) u.nb.toNat=0:=fun w=>by
    have:ZT w (fun _=>0) u.nb.toNat=Zd (fun _=>0) u.nb.toNat:=Zj fun j _ _=>by simp
    rw [this,ZP]
  have key:∀(x:Int->Int) (k0:Int),u.den*ZT p.c x p.n.toNat=u.C 0 0*k0+Zd (fun k=>if u.vars<=u.F k then 0 else u.C 0 (k+1)*x (u.F k)) u.nf.toNat+ZT (fun i=>ZT (p.A i) x p.n.toNat-p.b i*k0) (XT u).Y u.nb.toNat:=fun x k0=>by
    have h1:=Zcy hl hm h x k0 0 (by omega) (by omega)
    rw [Zbz hp (by omega) d3 x k0 0 (y0:=fun _=>0) (g:=fun j=>u.C 0 (j+1)) (fun _ _ _=>rfl) (fun _ _ _ _=>rfl),aT,<-hY] at h1
    unfold VR at h1
    rw [if_pos rfl] at h1
    omega
  refine⟨hl,hp.d1,hp.d2,hp.cell (i:=0) (by omega) (by omega) (by omega) (by omega),d2,d1,fun j j0 j1=> ?_,fun i i0 i1=> ?_,fun i i0 i1=> ?_,fun j j0 j1=> ?_,?_,?_⟩
  · show 0<=rdX u u.nb.toNat j/\rdX u u.nb.toNat j<=_
    rw [hX j j0 j1];exact KS hp zS j _ (by omega)
  · rw [hY];exact UR i (by omega) _ fun k k0 k1=>hg0 k k0 (by omega)
  · show p.b i*u.den<=ZT (p.A i) (rdX u u.nb.toNat) _
    rw [dX]
    have h1:=hs i i0 i1
    have h2:=(KS hp zS (p.n+i) u.nb.toNat (by omega)).1
    omega
  · have h1:=key (fun k=>if k=j then 1 else 0) 0
    have h2:0<=Zd (fun k=>if u.vars<=u.F k then 0 else u.C 0 (k+1)*(if u.F k=j then 1 else 0)) u.nf.toNat:=Z8 fun k k0 k1=>by
      have:=(hg0 k k0 (by omega)).1
      split
      · omega
      · split<;>omega
    have h3:ZT (fun i=>ZT (p.A i) (fun k=>if k=j then 1 else 0) p.n.toNat-p.b i*0) (XT u).Y u.nb.toNat=wgt p.A (XT u).Y p.m.toNat j:=by
      rw [d1];exact Zj fun i i0 i1=>by
        show(ZT (p.A i) (fun k=>if k=j then 1 else 0) p.n.toNat-p.b i*0)*_=_
        rw [TA _ j0 (by omega)];simp
    rw [TA _ j0 (by omega),h3] at h1
    show _<=p.c j*u.den
    rw [Int.mul_comm (p.c j)];omega
  · show ZT p.c (rdX u u.nb.toNat) _=u.C 0 0
    rw [dX,<-hz]
  · show ZT p.b (XT u).Y _=u.C 0 0
    have h1:=key (fun _=>0) 1
    have z1:∀f:Int->Int,ZT f (fun _=>0) p.n.toNat=0:=fun f=>by
      have:ZT f (fun _=>0) p.n.toNat=Zd (fun _=>0) p.n.toNat:=Zj fun j _ _=>by simp
      rw [this,ZP]
    have z2:Zd (fun k=>if u.vars<=u.F k then 0 else u.C 0 (k+1)*(fun _=>(0:Int)) (u.F k)) u.nf.toNat=0:=by
      have:Zd (fun k=>if u.vars<=u.F k then 0 else u.C 0 (k+1)*(fun _=>(0:Int)) (u.F k)) u.nf.toNat=Zd (fun _=>0) u.nf.toNat:=Zj fun j _ _=>by split<;>simp
      rw [this,ZP]
    have z3:ZT (fun i=>ZT (p.A i) (fun _=>0) p.n.toNat-p.b i*1) (XT u).Y u.nb.toNat= -ZT p.b (XT u).Y p.m.toNat:=by
      have:=Xz (D:=1) (A:= -1) (B:=0) (n:=p.m.toNat) (h:=fun i=>(ZT (p.A i) (fun _=>0) p.n.toNat-p.b i*1)*(XT u).Y i) (f:=fun i=>p.b i*(XT u).Y i) (g:=fun _=>0) (fun i i0 i1=>by rw [z1];grind)
      rw [d1]
      show Zd (fun i=>(ZT (p.A i) (fun _=>0) p.n.toNat-p.b i*1)*(XT u).Y i) p.m.toNat= -Zd (fun i=>p.b i*(XT u).Y i) p.m.toNat
      omega
    rw [z1,z2,z3] at h1
    omega
theorem Za3(t:Tb)(r:Int):∀K:Nat,Y0 t r K<0->∀j:Int,0<=j->j<K->t.C (r+1) (j+1)<=0
  |0,_,j,j0,j1=>by omega
  | k +1,h,j,j0,j1=>by
    unfold Y0 at h
    split at h
    · rename_i hc
      by_cases e:j=k
      · rw [e];exact hc
      · exact Za3 t r k h j j0 (by omega)
    · split at h
      · omega
      · split at h<;>omega
structure RefS (p:Lp) (y:Int->Int):Prop where
  rng:∀i,0<=i->i<p.m->0<=y i/\y i<=1073741824
  cols:∀j,0<=j->j<p.n->wgt p.A y p.m.toNat j<=0
  pos:0<ZT p.b y p.m.toNat
def Kj(u:Tb)(r:Int):Int->Int:=if u.vars<=u.B r then upd (fun _=>0) (u.B r-u.vars) u.den else fun _=>0
def Tf(u:Tb)(r:Int):Int->Int:=rdG u (Kj u r) (fun j=> -u.C (r+1) (j+1)) u.nf.toNat
theorem ZgS {p:Lp} (hl:LOk p) (hm:0<=p.m) {u:Tb} (h:Run k (ZQ p) u 19):RefS p (Tf u (YH u u.nb.toNat)):=by
  obtain⟨hp,hco,_,hf⟩:=h.fin (.inr rfl)
  obtain⟨hr,he⟩:=hf rfl
  have hd:=h.dims
  have d1:u.nb=p.m:=by rw [hd.1];rfl
  have d2:u.nf=p.n:=by rw [hd.2.1];rfl
  have d3:u.vars=p.n:=by rw [hd.2.2.2];rfl
  have hn:=hl.n1
  have lr:=Xq u u.nb.toNat
  have zS:=(Tn u u.nb.toNat).2 hr
  have fU:=Za3 u (YH u u.nb.toNat) u.nf.toNat he
  generalize YH u u.nb.toNat=r at*
  have hd1:=hp.d1;have hd2:=hp.d2
  have hg:∀k:Int,0<=k->k<u.nf->0<= -u.C (r+1) (k+1)/\ -u.C (r+1) (k+1)<=1073741824:=fun k k0 k1=>⟨by have:=fU k k0 (by omega);omega,by have:=(hp.cell (i:=r+1) (j:=k+1) (by omega) (by omega) (by omega) (by omega)).1;omega⟩
  have hrB:=hp.rngB (i:=r) (by omega) (by omega)
  have hv:=hp.v
  have h0:∀i,0<=Kj u r i/\Kj u r i<=1073741824:=fun i=>by
    unfold Kj;split
    · by_cases e:i=u.B r-u.vars
      · rw [<-e,Zk];omega
      · rw [upd_ne _ _ e];exact⟨Int.le_refl 0,show(0:Int)<=1073741824 by decide⟩
    · exact⟨Int.le_refl 0,show(0:Int)<=1073741824 by decide⟩
  have hfr:∀k:Int,0<=k->k<u.nf->u.vars<=u.F k->Kj u r (u.F k-u.vars)=0:=fun k k0 k1 hk=>by
    unfold Kj;split
    · exact upd_ne _ _ (by have:=hp.disj (i:=r) (j:=k) (by omega) (by omega) k0 k1;omega)
    · rfl
  have aT:∀w:Int->Int,ZT w (Kj u r) u.nb.toNat=if u.vars<=u.B r then u.den*w (u.B r-u.vars) else 0:=fun w=>by
    have z:ZT w (fun _=>0) u.nb.toNat=0:=by
      have:ZT w (fun _=>0) u.nb.toNat=Zd (fun _=>0) u.nb.toNat:=Zj fun j _ _=>by simp
      rw [this,ZP]
    unfold Kj;split
    · rw [Za5 _ _ (by omega) (by omega),z];grind
    · exact z
  have key:∀(x:Int->Int) (k0:Int),(if u.vars<=u.B r then 0 else u.den*x (u.B r))+Zd (fun k=>if u.vars<=u.F k then 0 else-u.C (r+1) (k+1)*x (u.F k)) u.nf.toNat+ZT (fun i=>ZT (p.A i) x p.n.toNat-p.b i*k0) (Tf u r) u.nb.toNat=u.C (r+1) 0*k0:=fun x k0=>by
    have h1:=Zcy hl hm h x k0 (r+1) (by omega) (by omega)
    have h2:=Kl hp (by omega) (y0:=Kj u r) (g:=fun j=> -u.C (r+1) (j+1)) (fun i=>ZT (p.A i) x p.n.toNat-p.b i*k0) hfr u.nf.toNat (by omega)
    have h3:Zd (fun j=>u.C (r+1) (j+1)*Vv p x k0 (u.F j)) u.nf.toNat= -(Zd (fun k=>if u.vars<=u.F k then 0 else-u.C (r+1) (k+1)*x (u.F k)) u.nf.toNat)-Zd (fun k=>if u.vars<=u.F k then-u.C (r+1) (k+1)*(ZT (p.A (u.F k-u.vars)) x p.n.toNat-p.b (u.F k-u.vars)*k0) else 0) u.nf.toNat:=by
      have:=Xz (D:=1) (A:= -1) (B:=1) (n:=u.nf.toNat) (h:=fun j=>u.C (r+1) (j+1)*Vv p x k0 (u.F j)) (f:=fun k=>if u.vars<=u.F k then 0 else-u.C (r+1) (k+1)*x (u.F k)) (g:=fun k=>if u.vars<=u.F k then-u.C (r+1) (k+1)*(ZT (p.A (u.F k-u.vars)) x p.n.toNat-p.b (u.F k-u.vars)*k0) else 0) (fun j j0 j1=>by
        unfold Vv
        by_cases hc:u.vars<=u.F j
        · rw [if_neg (by omega),if_pos hc,if_pos hc,d3];grind
        · rw [if_pos (by omega),if_neg hc,if_neg hc];grind)
      omega
    unfold Tf
    rw [h2,aT]
    unfold Ud VR at h1
    rw [h3,if_neg (by omega),show r+1-1=r by omega] at h1
    by_cases hc:u.vars<=u.B r
    · rw [if_pos hc,if_pos hc]
      have:Vv p x k0 (u.B r)=ZT (p.A (u.B r-u.vars)) x p.n.toNat-p.b (u.B r-u.vars)*k0:=by unfold Vv;rw [if_neg (by omega),d3]
      rw [this] at h1;omega
    · rw [if_neg hc,if_neg hc]
      have:Vv p x k0 (u.B r)=x (u.B r):=by unfold Vv;rw [if_pos (by omega)]
      rw [this] at h1;omega
  refine⟨fun i i0 i1=>UR i (h0 i) _ fun k k0 k1=>hg k k0 (by omega),fun j j0 j1=> ?_,?_⟩
  · have h1:=key (fun k=>if k=j then 1 else 0) 0
    have h2:0<=Zd (fun k=>if u.vars<=u.F k then 0 else-u.C (r+1) (k+1)*(if u.F k=j then 1 else 0)) u.nf.toNat:=Z8 fun k k0 k1=>by
      have:=(hg k k0 (by omega)).1
      split
      · omega
      · split<;>omega
    have h3:ZT (fun i=>ZT (p.A i) (fun k=>if k=j then 1 else 0) p.n.toNat-p.b i*0) (Tf u r) u.nb.toNat=wgt p.A (Tf u r) p.m.toNat j:=by
      rw [d1];exact Zj fun i i0 i1=>by
        show(ZT (p.A i) (fun k=>if k=j then 1 else 0) p.n.toNat-p.b i*0)*_=_
        rw [TA _ j0 (by omega)];simp
    have h4:0<=(if u.vars<=u.B r then 0 else u.den*(if u.B r=j then 1 else 0)):=by
      split
      · omega
      · split<;>omega
    rw [h3] at h1
    omega
  · have h1:=key (fun _=>0) 1
    have z1:∀f:Int->Int,ZT f (fun _=>0) p.n.toNat=0:=fun f=>by
      have:ZT f (fun _=>0) p.n.toNat=Zd (fun _=>0) p.n.toNat:=Zj fun j _ _=>by simp
      rw [this,ZP]
    have z2:Zd (fun k=>if u.vars<=u.F k then 0 else-u.C (r+1) (k+1)*(fun _=>(0:Int)) (u.F k)) u.nf.toNat=0:=by
      have:Zd (fun k=>if u.vars<=u.F k then 0 else-u.C (r+1) (k+1)*(fun _=>(0:Int)) (u.F k)) u.nf.toNat=Zd (fun _=>0) u.nf.toNat:=Zj fun j _ _=>by split<;>simp
      rw [this,ZP]
    have z3:ZT (fun i=>ZT (p.A i) (fun _=>0) p.n.toNat-p.b i*1) (Tf u r) u.nb.toNat= -ZT p.b (Tf u r) p.m.toNat:=by
      have:=Xz (D:=1) (A:= -1) (B:=0) (n:=p.m.toNat) (h:=fun i=>(ZT (p.A i) (fun _=>0) p.n.toNat-p.b i*1)*(Tf u r) i) (f:=fun i=>p.b i*(Tf u r) i) (g:=fun _=>0) (fun i i0 i1=>by rw [z1];grind)
      rw [d1]
      show Zd (fun i=>(ZT (p.A i) (fun _=>0) p.n.toNat-p.b i*1)*(Tf u r) i) p.m.toNat= -Zd (fun i=>p.b i*(Tf u r) i) p.m.toNat
      omega
    have z4:(if u.vars<=u.B r then 0 else u.den*(fun _=>(0:Int)) (u.B r))=0:=by split<;>simp
    rw [z2,z3,z4] at h1
    omega
theorem SolveR.chk{p:Lp}(hm:0<=p.m){s:So}(h:SolveR p s e)(he:e=0):ChkS p s:=by
  rcases h with⟨_,_,h⟩|⟨hl,u,hr,⟨h,_⟩|⟨_,rfl⟩⟩
  · omega
  · exact absurd he h
  · subst he;exact ZgT hl hm hr
theorem SolveR.none{p:Lp}(hm:0<=p.m){s:So}(h:SolveR p s e)(he:e=19):∃y,RefS p y:=by
  rcases h with⟨_,_,h⟩|⟨hl,u,hr,_⟩
  · omega
  · subst he;exact⟨_,ZgS hl hm hr⟩
end Go.Proofs.Gw
namespace Go.Proofs.YtkichmnjjblodaaGreat
open Go Go.RowKit Go.Proofs.Gw
variable {i:Int} {f:Int->Int} {vA vD:Value}
theorem ZkY:Zc Tryz.prog 131=true:=by kernel_rfl
theorem XL:Zc Tryz.prog 148=true:=by kernel_rfl
theorem Zfs:Zc Tryz.prog 155=true:=by kernel_rfl
theorem Zkv:Zc Tryz.prog 181=true:=by kernel_rfl
theorem RG:Zc Tryz.prog 28=true:=by kernel_rfl
theorem XK:Zc Tryz.prog 56=true:=by kernel_rfl
theorem ZmE:Zc Tryz.prog 58=true:=by kernel_rfl
theorem Zmu:Zc Tryz.prog 89=true:=by kernel_rfl
theorem ZcP:Zc Tryz.prog 90=true:=by kernel_rfl
theorem ZaX:Zs Tryz.prog 103 0=some 0:=by kernel_rfl
theorem VW:Zs Tryz.prog 103 1=some 1:=by kernel_rfl
theorem fd_24_0:Zs Tryz.prog 24 0=some 0:=by kernel_rfl
theorem fd_24_1:Zs Tryz.prog 24 1=some 1:=by kernel_rfl
theorem fd_24_2:Zs Tryz.prog 24 2=some 2:=by kernel_rfl
theorem fd_24_3:Zs Tryz.prog 24 3=some 3:=by kernel_rfl
theorem fd_32_0:Zs Tryz.prog 32 0=some 0:=by kernel_rfl
theorem fd_32_1:Zs Tryz.prog 32 1=some 1:=by kernel_rfl
theorem fd_32_2:Zs Tryz.prog 32 2=some 2:=by kernel_rfl
theorem fd_32_3:Zs Tryz.prog 32 3=some 3:=by kernel_rfl
theorem Wy:ZK Tryz.prog 46=some (103,2):=by kernel_rfl
theorem ZV:Zz Tryz.prog 24=some 4:=by kernel_rfl
theorem st_32:Zz Tryz.prog 32=some 4:=by kernel_rfl
theorem Yc{vL:Value}{p:Prob}(w0:World)(h:PAt w0 vL vD p):
    Calls Tryz.prog 56 [.agg #[vL,vD,.int .i64 p.stock,.int .i64 p.kerf]].toArray w0 fun e w=>∃v,e= .returned v/\v=B p.Ok/\Sat w0 w []:=by
  have hm:=h.L.slh.n0;have hm1:=h.L.slh.n1;have hd:=h.D.slh.n0;have hs:=h.is;have hk:=h.ik
  refine zenG Tryz.func56 Tryz.ntmps56 fun w hS=> ?_
  refine zsr<|zla (xbx (cs:= [_,_,_,_]) hS) ?_;rintro _ w ⟨g1,rfl,hS⟩
  refine(zP)<|zx5<|(zV (xfb 0 fd_32_0))<|(zV (xlb 0 pl_22 hS))<|(zV (xln Zb h.L.slh))<|(zP)<|(zP)<|zlb 9 ?_ ?_<;>intro hc;rotate_left
  refine(zV (xfb 0 fd_32_0))<|(zV (xlb 0 pl_22 hS))<|(zV (xln Zb h.L.slh))<|(zP)<|(zP)<|(zP)<|zlb 15 ?_ ?_<;>intro hc;rotate_left
  refine(zV (xfb 1 fd_32_1))<|(zV (xlb 0 pl_22 hS))<|(zV (xln Zb h.D.slh))<|(zV (xfb 0 fd_32_0))<|(zV (xlb 0 pl_22 hS))<|(zV (xln Zb h.L.slh))<|(zP)<|(zP)<|(zP)<|zlb 24 ?_ ?_<;>intro hc;rotate_left
  refine(zV (xfb 2 fd_32_2))<|(zV (xlb 0 pl_3 hS))<|(zP)<|(zP)<|(zP)<|zlb 29 ?_ ?_<;>intro hc;rotate_left
  refine(zV (xfb 2 fd_32_2))<|(zV (xlb 0 pl_3 hS))<|(zP)<|(zP)<|(zP)<|zlb 34 ?_ ?_<;>intro hc;rotate_left
  refine(zV (xfb 3 fd_32_3))<|(zV (xlb 0 pl_3 hS))<|(zP)<|(zP)<|(zP)<|zlb 39 ?_ ?_<;>intro hc;rotate_left
  refine(zV (xfb 3 fd_32_3))<|(zV (xlb 0 pl_3 hS))<|(zP)<|(zP)<|zlt<|Ze ?_ ?_<;>intro hc
  ·
   refine zsr<|(zP)<|zx14<|zf1 ⟨_,rfl,?_⟩
   first
   |exact⟨Zf (by intro hk;have h1:=hk.m1;have h2:=hk.m2;have h3:=hk.d;have h4:=hk.s1;have h5:=hk.s2;have h6:=hk.k1;have h7:=hk.k2;omega),hS.nl⟩
   |exact⟨Zf (by intro hk;have:=hk.all i (by omega) (by omega);unfold Prob.each at this;omega),hS.nl⟩
  refine YJ<|(zV (xfb 0 fd_32_0))<|(zV (xlb 0 pl_22 hS))<|(zV (xln Zb h.L.slh))<|(zP)<|zx6<|zlp (fun mm M w=>∃(i:Int),mm=((p.m-i).toNat)/\(0<=i)/\(i<=p.m)/\(∀k,0<=k->k<i->p.each k)/\M= [(1,.pointer (some ⟨g1,0,none⟩)),(45,vL),(46,.int .i64 p.m),(47,.int .i64 i)]/\Sat w0 w [.blk g1 [vL,vD,.int .i64 p.stock,.int .i64 p.kerf]]) ⟨0,rfl,(by omega),(by omega),?_,rfl,hS⟩ ?_
  ·
   intro k h0 h1;omega
  clear hS w
  rintro mm M w ⟨i,rfl,h0,h1,qa,rfl,hS⟩
  refine zsr<|(zP)<|zx7<|Ze ?_ ?_<;>intro hc
  ·
   refine zx3<|(zP)<|(zV (xix (kk:=i) Zb h.L.slh))<|zlv (xlr (u:= .int .i64 (p.L i)) pl_3 (h.L.below hS.below)) ?_
   have hbv:=h.iL i
   refine(zP)<|(zP)<|zlz<|(zP)<|(zP)<|(zP)<|zlb 54 ?_ ?_<;>intro hc;rotate_left
   refine(zP)<|(zV (xfb 2 fd_32_2))<|(zV (xlb 0 pl_3 hS))<|(zP)<|(zP)<|(zP)<|zlb 60 ?_ ?_<;>intro hc;rotate_left
   refine(zP)<|(zP)<|(zP)<|zlb 63 ?_ ?_<;>intro hc
   ·
    refine(zP)<|(zV (xfb 0 fd_32_0))<|(zV (xlb 0 pl_22 hS))<|(zP)<|(zV (Zp (r:=i-1)))<|(zV (xix (kk:=i-1) Zb h.L.slh))<|zlv (xlr (u:= .int .i64 (p.L (i-1))) pl_3 (h.L.below hS.below)) ?_
    have hbv:=h.iL (i-1)
    refine zs4 ?_
    refine zlb 74 ?_ ?_<;>intro hc;rotate_left
    refine(zV (xfb 1 fd_32_1))<|(zV (xlb 0 pl_22 hS))<|(zP)<|(zV (xix (kk:=i) Zb h.D.slh))<|zlv (xlr (u:= .int .i64 (p.D i)) pl_3 (h.D.below hS.below)) ?_
    have hbv:=h.iD i
    refine(zP)<|(zP)<|(zP)<|zlb 82 ?_ ?_<;>intro hc;rotate_left
    refine(zV (xfb 1 fd_32_1))<|(zV (xlb 0 pl_22 hS))<|(zP)<|(zV (xix (kk:=i) Zb h.D.slh))<|zlv (xlr (u:= .int .i64 (p.D i)) pl_3 (h.D.below hS.below)) ?_
    have hbv:=h.iD i
    refine(zP)<|(zP)<|zlt<|Ze ?_ ?_<;>intro hc
    ·
     refine zsr<|(zP)<|zx2<|zf1 ⟨_,rfl,?_⟩
     first
     |exact⟨Zf (by intro hk;have h1:=hk.m1;have h2:=hk.m2;have h3:=hk.d;have h4:=hk.s1;have h5:=hk.s2;have h6:=hk.k1;have h7:=hk.k2;omega),hS.nl⟩
     |exact⟨Zf (by intro hk;have:=hk.all i (by omega) (by omega);unfold Prob.each at this;omega),hS.nl⟩
    refine zx4<|(zV (Zh (r:=i+1)))<|(zP)<|zln<|zlq ⟨i+1,rfl,(by omega),(by omega),?_,rfl,hS⟩
    ·
     intro k h0' h1';rcases Int.lt_or_eq_of_le (show k<=i by omega) with hk|hk;exact qa k h0' hk;rw [hk];unfold Prob.each;omega
    all_goals
     refine zOps ?_
     refine zlt<|zct<|zsr ?_
     refine zOps ?_
     refine zx2<|zf1 ⟨_,rfl,?_⟩
     first
     |exact⟨Zf (by intro hk;have h1:=hk.m1;have h2:=hk.m2;have h3:=hk.d;have h4:=hk.s1;have h5:=hk.s2;have h6:=hk.k1;have h7:=hk.k2;omega),hS.nl⟩
     |exact⟨Zf (by intro hk;have:=hk.all i (by omega) (by omega);unfold Prob.each at this;omega),hS.nl⟩
   iterate 8 refine zlo ?_
   refine(zP)<|(zP)<|(zP)<|(zV (xfb 1 fd_32_1))<|(zV (xlb 0 pl_22 hS))<|(zP)<|(zV (xix (kk:=i) Zb h.D.slh))<|zlv (xlr (u:= .int .i64 (p.D i)) pl_3 (h.D.below hS.below)) ?_
   have hbv:=h.iD i
   refine(zP)<|(zP)<|(zP)<|zlb 82 ?_ ?_<;>intro hc;rotate_left
   refine(zV (xfb 1 fd_32_1))<|(zV (xlb 0 pl_22 hS))<|(zP)<|(zV (xix (kk:=i) Zb h.D.slh))<|zlv (xlr (u:= .int .i64 (p.D i)) pl_3 (h.D.below hS.below)) ?_
   have hbv:=h.iD i
   refine(zP)<|(zP)<|zlt<|Ze ?_ ?_<;>intro hc
   ·
    refine zsr<|(zP)<|zx2<|zf1 ⟨_,rfl,?_⟩
    first
    |exact⟨Zf (by intro hk;have h1:=hk.m1;have h2:=hk.m2;have h3:=hk.d;have h4:=hk.s1;have h5:=hk.s2;have h6:=hk.k1;have h7:=hk.k2;omega),hS.nl⟩
    |exact⟨Zf (by intro hk;have:=hk.all i (by omega) (by omega);unfold Prob.each at this;omega),hS.nl⟩
   refine zx4<|(zV (Zh (r:=i+1)))<|(zP)<|zln<|zlq ⟨i+1,rfl,(by omega),(by omega),?_,rfl,hS⟩
   ·
    intro k h0' h1';rcases Int.lt_or_eq_of_le (show k<=i by omega) with hk|hk;exact qa k h0' hk;rw [hk];unfold Prob.each;omega
   all_goals
    refine zOps ?_
    refine zlt<|zct<|zsr ?_
    refine zOps ?_
    refine zx2<|zf1 ⟨_,rfl,?_⟩
    first
    |exact⟨Zf (by intro hk;have h1:=hk.m1;have h2:=hk.m2;have h3:=hk.d;have h4:=hk.s1;have h5:=hk.s2;have h6:=hk.k1;have h7:=hk.k2;omega),hS.nl⟩
    |exact⟨Zf (by intro hk;have:=hk.all i (by omega) (by omega);unfold Prob.each at this;omega),hS.nl⟩
  refine zx8<|(zP)<|zx1<|zf1 ⟨_,rfl,?_⟩
  exact⟨ZX ⟨by omega,by omega,by omega,by omega,by omega,by omega,by omega,fun k h0 h1=>qa k h0 (by omega)⟩,hS.nl⟩
  all_goals
   refine zOps ?_
   refine zlt<|zct<|zsr ?_
   refine zOps ?_
   refine zx14<|zf1 ⟨_,rfl,?_⟩
   first
   |exact⟨Zf (by intro hk;have h1:=hk.m1;have h2:=hk.m2;have h3:=hk.d;have h4:=hk.s1;have h5:=hk.s2;have h6:=hk.k1;have h7:=hk.k2;omega),hS.nl⟩
   |exact⟨Zf (by intro hk;have:=hk.all i (by omega) (by omega);unfold Prob.each at this;omega),hS.nl⟩
theorem Xl{vL:Value}{p:Prob}(w0:World)(h:PAt w0 vL vD p):
    Calls Tryz.prog 28 [.agg #[vL,vD,.int .i64 p.stock,.int .i64 p.kerf]].toArray w0 fun e w=>∃v,e= .returned v/\v=B p.Ok/\Sat w0 w []:=by
  have hm:=h.L.slh.n0;have hm1:=h.L.slh.n1;have hd:=h.D.slh.n0;have hs:=h.is;have hk:=h.ik
  refine zenG Tryz.func28 Tryz.ntmps28 fun w hS=> ?_
  refine zsr<|zla (xbx (cs:= [_,_,_,_]) hS) ?_;rintro _ w ⟨g1,rfl,hS⟩
  refine(zP)<|zlz<|(zV (xfb 0 fd_24_0))<|(zV (xlb 0 pl_22 hS))<|(zV (xln Zb h.L.slh))<|(zP)<|zx5<|(zP)<|(zP)<|(zP)<|zlb 10 ?_ ?_<;>intro hc;rotate_left
  refine zs4 ?_
  refine zlb 14 ?_ ?_<;>intro hc;rotate_left
  refine(zV (xfb 1 fd_24_1))<|(zV (xlb 0 pl_22 hS))<|(zV (xln Zb h.D.slh))<|zs4 ?_
  refine zlb 21 ?_ ?_<;>intro hc;rotate_left
  refine(zV (xfb 2 fd_24_2))<|(zV (xlb 0 pl_3 hS))<|(zP)<|(zP)<|(zP)<|zlb 26 ?_ ?_<;>intro hc;rotate_left
  refine(zV (xfb 2 fd_24_2))<|(zV (xlb 0 pl_3 hS))<|(zP)<|(zP)<|(zP)<|zlb 31 ?_ ?_<;>intro hc;rotate_left
  refine(zV (xfb 3 fd_24_3))<|(zV (xlb 0 pl_3 hS))<|(zP)<|(zP)<|(zP)<|zlb 36 ?_ ?_<;>intro hc;rotate_left
  refine(zV (xfb 3 fd_24_3))<|(zV (xlb 0 pl_3 hS))<|(zP)<|(zP)<|zlt<|Ze ?_ ?_<;>intro hc
  ·
   refine zsr<|(zP)<|zx14<|zf1 ⟨_,rfl,?_⟩
   first
   |exact⟨Zf (by intro hk;have h1:=hk.m1;have h2:=hk.m2;have h3:=hk.d;have h4:=hk.s1;have h5:=hk.s2;have h6:=hk.k1;have h7:=hk.k2;omega),hS.nl⟩
   |exact⟨Zf (by intro hk;have:=hk.all i (by omega) (by omega);unfold Prob.each at this;omega),hS.nl⟩
  refine YJ<|(zP)<|zx6<|zlp (fun mm M w=>∃(i:Int),mm=((p.m-i).toNat)/\(0<=i)/\(i<=p.m)/\(∀k,0<=k->k<i->p.each k)/\M= [(1,.pointer (some ⟨g1,0,none⟩)),(3,.int .i64 p.m),(4,.int .i64 i)]/\Sat w0 w [.blk g1 [vL,vD,.int .i64 p.stock,.int .i64 p.kerf]]) ⟨0,rfl,(by omega),(by omega),?_,rfl,hS⟩ ?_
  ·
   intro k h0 h1;omega
  clear hS w
  rintro mm M w ⟨i,rfl,h0,h1,qa,rfl,hS⟩
  refine zx11<|(zP)<|(zP)<|(zP)<|zlt<|Ze ?_ ?_<;>intro hc
  ·
   refine zsk<|ztn<|zsq<|zbk<|zsq<|zdst [0] [0] 1000 mx_ hS ?_;clear hS;intro w hS
   refine(zDw 0 (xfb 0 fd_24_0))<|(zDl 1 (fun w hS=>(xlb 0 pl_22 hS)))<|(zDw 2 xmv)<|(zDw 3 (xix (kk:=i) Zb h.L.slh))<|zdla 4 (fun w hS=>(xlr (u:= .int .i64 (p.L i)) pl_3 (h.L.below hS.below))) ?_
   have hbv:=h.iL i
   refine(zDw 5 Z4)<|(zDw 6 xmv)<|zdb 52 ?_ ?_<;>intro hc
   ·
    refine(zDo 7)<|(zDo 8)<|(zDo 9)<|(zDo 10)<|(zDo 11)<|(zDo 12)<|(zDo 13)<|(zDo 14)<|(zDw 15 xpt)<|(zDw 16 xmv)<|(zDo 17)<|(zDo 18)<|(zDo 19)<|(zDo 20)<|Zdd 21 ?_
    refine(zDo 22)<|(zDo 23)<|(zDo 24)<|(zDo 25)<|(zDo 26)<|(zDo 27)<|(zDo 28)<|(zDo 29)<|(zDo 30)<|(zDo 31)<|(zDo 32)<|(zDw 33 xpt)<|(zDw 34 xmv)<|(zDo 35)<|Zdd 36 ?_
    refine(zDo 37)<|(zDo 38)<|(zDo 39)<|(zDo 40)<|(zDw 41 xpt)<|(zDw 42 xmv)<|(zDo 43)<|(zDo 44)<|(zDo 45)<|(zDo 46)<|(zDo 47)<|(zDo 48)<|(zDw 49 xpt)<|zdd<|ztn<|zct<|zsr ?_
    refine(zP)<|zx2<|zf1 ⟨_,rfl,?_⟩
    first
    |exact⟨Zf (by intro hk;have h1:=hk.m1;have h2:=hk.m2;have h3:=hk.d;have h4:=hk.s1;have h5:=hk.s2;have h6:=hk.k1;have h7:=hk.k2;omega),hS.nl⟩
    |exact⟨Zf (by intro hk;have:=hk.all i (by omega) (by omega);unfold Prob.each at this;omega),hS.nl⟩
   refine(zDw 7 (xfb 0 fd_24_0))<|(zDl 8 (fun w hS=>(xlb 0 pl_22 hS)))<|(zDw 9 xmv)<|(zDw 10 (xix (kk:=i) Zb h.L.slh))<|zdla 11 (fun w hS=>(xlr (u:= .int .i64 (p.L i)) pl_3 (h.L.below hS.below))) ?_
   have hbv:=h.iL i
   refine(zDw 12 (xfb 2 fd_24_2))<|(zDl 13 (fun w hS=>(xlb 0 pl_3 hS)))<|(zDw 14 Ys)<|(zDw 15 xpf)<|(zDw 16 xmv)<|zdb 62 ?_ ?_<;>intro hc
   ·
    refine(zDo 17)<|(zDo 18)<|(zDo 19)<|(zDo 20)<|(zDo 21)<|(zDo 22)<|(zDo 23)<|(zDo 24)<|(zDo 25)<|(zDo 26)<|(zDo 27)<|(zDo 28)<|(zDo 29)<|(zDo 30)<|Zdd 31 ?_
    refine(zDo 32)<|(zDw 33 xpt)<|(zDw 34 xmv)<|(zDo 35)<|(zDo 36)<|(zDo 37)<|(zDo 38)<|(zDo 39)<|(zDo 40)<|(zDw 41 xpt)<|(zDw 42 xmv)<|(zDo 43)<|(zDo 44)<|(zDo 45)<|Zdd 46 ?_
    refine(zDo 47)<|(zDo 48)<|(zDw 49 xpt)<|zdd<|ztn<|zct<|zsr ?_
    refine(zP)<|zx2<|zf1 ⟨_,rfl,?_⟩
    first
    |exact⟨Zf (by intro hk;have h1:=hk.m1;have h2:=hk.m2;have h3:=hk.d;have h4:=hk.s1;have h5:=hk.s2;have h6:=hk.k1;have h7:=hk.k2;omega),hS.nl⟩
    |exact⟨Zf (by intro hk;have:=hk.all i (by omega) (by omega);unfold Prob.each at this;omega),hS.nl⟩
   refine(zDw 17 xmv)<|(zDw 18 Ys)<|(zDw 19 xmv)<|zdb 65 ?_ ?_<;>intro hc
   ·
    refine(zDw 20 (xfb 0 fd_24_0))<|(zDl 21 (fun w hS=>(xlb 0 pl_22 hS)))<|(zDw 22 xmv)<|(zDw 23 (xix (kk:=i) Zb h.L.slh))<|zdla 24 (fun w hS=>(xlr (u:= .int .i64 (p.L i)) pl_3 (h.L.below hS.below))) ?_
    have hbv:=h.iL i
    refine(zDw 25 (xfb 0 fd_24_0))<|(zDl 26 (fun w hS=>(xlb 0 pl_22 hS)))<|(zDw 27 xmv)<|(zDw 28 (Zp (r:=i-1)))<|(zDw 29 (xix (kk:=i-1) Zb h.L.slh))<|zdla 30 (fun w hS=>(xlr (u:= .int .i64 (p.L (i-1))) pl_3 (h.L.below hS.below))) ?_
    have hbv:=h.iL (i-1)
    refine(zDw 31 XE)<|(zDw 32 xpt)<|(zDw 33 xpf)<|(zDw 34 xmv)<|zdb 80 ?_ ?_<;>intro hc
    ·
     refine(zDo 35)<|(zDo 36)<|(zDo 37)<|(zDo 38)<|(zDo 39)<|(zDo 40)<|(zDw 41 xpt)<|(zDw 42 xmv)<|(zDo 43)<|(zDo 44)<|(zDo 45)<|(zDo 46)<|(zDo 47)<|(zDo 48)<|zDrv 49 xpt ?_
     refine zdd<|ztn<|zct<|zsr ?_
     refine(zP)<|zx2<|zf1 ⟨_,rfl,?_⟩
     first
     |exact⟨Zf (by intro hk;have h1:=hk.m1;have h2:=hk.m2;have h3:=hk.d;have h4:=hk.s1;have h5:=hk.s2;have h6:=hk.k1;have h7:=hk.k2;omega),hS.nl⟩
     |exact⟨Zf (by intro hk;have:=hk.all i (by omega) (by omega);unfold Prob.each at this;omega),hS.nl⟩
    refine(zDw 35 (xfb 1 fd_24_1))<|(zDl 36 (fun w hS=>(xlb 0 pl_22 hS)))<|(zDw 37 xmv)<|(zDw 38 (xix (kk:=i) Zb h.D.slh))<|zdla 39 (fun w hS=>(xlr (u:= .int .i64 (p.D i)) pl_3 (h.D.below hS.below))) ?_
    have hbv:=h.iD i
    refine(zDw 40 Z4)<|(zDw 41 xpf)<|(zDw 42 xmv)<|zdb 88 ?_ ?_<;>intro hc
    ·
     refine(zDo 43)<|(zDo 44)<|(zDo 45)<|(zDo 46)<|(zDo 47)<|(zDo 48)<|(zDw 49 xpt)<|zdd<|ztn<|zct<|zsr ?_
     refine(zP)<|zx2<|zf1 ⟨_,rfl,?_⟩
     first
     |exact⟨Zf (by intro hk;have h1:=hk.m1;have h2:=hk.m2;have h3:=hk.d;have h4:=hk.s1;have h5:=hk.s2;have h6:=hk.k1;have h7:=hk.k2;omega),hS.nl⟩
     |exact⟨Zf (by intro hk;have:=hk.all i (by omega) (by omega);unfold Prob.each at this;omega),hS.nl⟩
    refine(zDw 43 (xfb 1 fd_24_1))<|(zDl 44 (fun w hS=>(xlb 0 pl_22 hS)))<|(zDw 45 xmv)<|(zDw 46 (xix (kk:=i) Zb h.D.slh))<|zdla 47 (fun w hS=>(xlr (u:= .int .i64 (p.D i)) pl_3 (h.D.below hS.below))) ?_
    have hbv:=h.iD i
    refine(zDw 48 Ys)<|(zDw 49 xpf)<|zdd<|ztn ?_
    refine Ze ?_ ?_<;>intro hc
    ·
     refine zsr<|(zP)<|zx2<|zf1 ⟨_,rfl,?_⟩
     first
     |exact⟨Zf (by intro hk;have h1:=hk.m1;have h2:=hk.m2;have h3:=hk.d;have h4:=hk.s1;have h5:=hk.s2;have h6:=hk.k1;have h7:=hk.k2;omega),hS.nl⟩
     |exact⟨Zf (by intro hk;have:=hk.all i (by omega) (by omega);unfold Prob.each at this;omega),hS.nl⟩
    refine zx4<|(zP)<|(zV (Zh (r:=i+1)))<|(zP)<|zln<|zlq ⟨i+1,rfl,(by omega),(by omega),?_,rfl,hS⟩
    ·
     intro k h0' h1';rcases Int.lt_or_eq_of_le (show k<=i by omega) with hk|hk;exact qa k h0' hk;rw [hk];unfold Prob.each;omega
   refine(zDo 20)<|(zDo 21)<|(zDo 22)<|(zDo 23)<|(zDo 24)<|(zDo 25)<|(zDo 26)<|(zDo 27)<|(zDo 28)<|(zDo 29)<|(zDo 30)<|(zDo 31)<|(zDw 32 xpf)<|(zDw 33 xpf)<|zDrv 34 xmv ?_
   refine(zDw 35 (xfb 1 fd_24_1))<|(zDl 36 (fun w hS=>(xlb 0 pl_22 hS)))<|(zDw 37 xmv)<|(zDw 38 (xix (kk:=i) Zb h.D.slh))<|zdla 39 (fun w hS=>(xlr (u:= .int .i64 (p.D i)) pl_3 (h.D.below hS.below))) ?_
   have hbv:=h.iD i
   refine(zDw 40 Z4)<|(zDw 41 xpf)<|(zDw 42 xmv)<|zdb 88 ?_ ?_<;>intro hc
   ·
    refine(zDo 43)<|(zDo 44)<|(zDo 45)<|(zDo 46)<|(zDo 47)<|(zDo 48)<|(zDw 49 xpt)<|zdd<|ztn<|zct<|zsr ?_
    refine(zP)<|zx2<|zf1 ⟨_,rfl,?_⟩
    first
    |exact⟨Zf (by intro hk;have h1:=hk.m1;have h2:=hk.m2;have h3:=hk.d;have h4:=hk.s1;have h5:=hk.s2;have h6:=hk.k1;have h7:=hk.k2;omega),hS.nl⟩
    |exact⟨Zf (by intro hk;have:=hk.all i (by omega) (by omega);unfold Prob.each at this;omega),hS.nl⟩
   refine(zDw 43 (xfb 1 fd_24_1))<|(zDl 44 (fun w hS=>(xlb 0 pl_22 hS)))<|(zDw 45 xmv)<|(zDw 46 (xix (kk:=i) Zb h.D.slh))<|zdla 47 (fun w hS=>(xlr (u:= .int .i64 (p.D i)) pl_3 (h.D.below hS.below))) ?_
   have hbv:=h.iD i
   refine(zDw 48 Ys)<|(zDw 49 xpf)<|zdd<|ztn ?_
   refine Ze ?_ ?_<;>intro hc
   ·
    refine zsr<|(zP)<|zx2<|zf1 ⟨_,rfl,?_⟩
    first
    |exact⟨Zf (by intro hk;have h1:=hk.m1;have h2:=hk.m2;have h3:=hk.d;have h4:=hk.s1;have h5:=hk.s2;have h6:=hk.k1;have h7:=hk.k2;omega),hS.nl⟩
    |exact⟨Zf (by intro hk;have:=hk.all i (by omega) (by omega);unfold Prob.each at this;omega),hS.nl⟩
   refine zx4<|(zP)<|(zV (Zh (r:=i+1)))<|(zP)<|zln<|zlq ⟨i+1,rfl,(by omega),(by omega),?_,rfl,hS⟩
   ·
    intro k h0' h1';rcases Int.lt_or_eq_of_le (show k<=i by omega) with hk|hk;exact qa k h0' hk;rw [hk];unfold Prob.each;omega
  refine zx8<|(zP)<|zx1<|zf1 ⟨_,rfl,?_⟩
  exact⟨ZX ⟨by omega,by omega,by omega,by omega,by omega,by omega,by omega,fun k h0 h1=>qa k h0 (by omega)⟩,hS.nl⟩
  all_goals
   refine zOps ?_
   refine zlt<|zct<|zsr ?_
   refine zOps ?_
   refine zx14<|zf1 ⟨_,rfl,?_⟩
   first
   |exact⟨Zf (by intro hk;have h1:=hk.m1;have h2:=hk.m2;have h3:=hk.d;have h4:=hk.s1;have h5:=hk.s2;have h6:=hk.k1;have h7:=hk.k2;omega),hS.nl⟩
   |exact⟨Zf (by intro hk;have:=hk.all i (by omega) (by omega);unfold Prob.each at this;omega),hS.nl⟩
theorem Zia{vL:Value}{p:Prob}(w0:World)(h:PAt w0 vL vD p):
    Calls Tryz.prog 12 [.agg #[vL,vD,.int .i64 p.stock,.int .i64 p.kerf]].toArray w0 fun e w=>∃v,e= .returned v/\v=B (Znn p)/\Sat w0 w []:=by
  have hm:=h.L.slh.n0;have hm1:=h.L.slh.n1;have hd:=h.D.slh.n0;have hd1:=h.D.slh.n1;have hs:=h.is;have hk:=h.ik
  refine zenG Tryz.func12 Tryz.ntmps12 fun w hS=> ?_
  refine zsr<|zla (xbx (cs:= [_,_,_,_]) hS) ?_;rintro _ w ⟨g1,rfl,hS⟩
  refine(zP)<|zx5<|(zV (xfb 0 fd_24_0))<|(zV (xlb 0 pl_22 hS))<|(zV (xln Zb h.L.slh))<|(zP)<|(zP)<|zlb 8 ?_ ?_<;>intro hc
  ·
   iterate 4 refine zlo ?_
   refine(zP)<|zlt<|zct<|zsr ?_
   refine(zP)<|zx14<|zf1 ⟨_,rfl,?_⟩
   exact⟨Zf (by rintro⟨h2,h3,h4⟩;first|omega|(have h5:=(h4 (Classical.not_not.1 ‹¬¬(p.Ok)›)).1 i (by omega) (by omega);omega)|(have h5:=(h4 (Classical.not_not.1 ‹¬¬(p.Ok)›)).2;omega)),hS.nl⟩
  refine(zV (xfb 1 fd_24_1))<|(zV (xlb 0 pl_22 hS))<|(zV (xln Zb h.D.slh))<|(zP)<|(zP)<|zlt<|Ze ?_ ?_<;>intro hc
  ·
   refine zsr<|(zP)<|zx14<|zf1 ⟨_,rfl,?_⟩
   exact⟨Zf (by rintro⟨h2,h3,h4⟩;first|omega|(have h5:=(h4 (Classical.not_not.1 ‹¬¬(p.Ok)›)).1 i (by omega) (by omega);omega)|(have h5:=(h4 (Classical.not_not.1 ‹¬¬(p.Ok)›)).2;omega)),hS.nl⟩
  refine YJ<|(zV (xls 0 ZV hS))<|zlc (xc0 RG) (Xl (p:=p) w (h.below hS.below)) ?_;rintro _ w ⟨rfl,hS'⟩
  replace hS:=hS.cmp hS';clear hS'
  refine(zP)<|zlt<|Ze ?_ ?_<;>intro hc
  ·
   refine zsr<|(zP)<|zx14<|zf1 ⟨_,rfl,?_⟩
   exact⟨ZX (by first|exact⟨by omega,by omega,fun hk=>absurd hk ‹¬p.Ok›⟩),hS.nl⟩
  refine YJ<|(zP)<|zx6<|zlp (fun mm M w=>∃(i:Int),mm=((p.d-i).toNat)/\(0<=i)/\(i<=p.d)/\(∀k,0<=k->k<i->p.D k<=30)/\M= [(1,.pointer (some ⟨g1,0,none⟩)),(3,.int .i64 i)]/\Sat w0 w [.blk g1 [vL,vD,.int .i64 p.stock,.int .i64 p.kerf]]) ⟨0,rfl,(by omega),(by omega),?_,rfl,hS⟩ ?_
  ·
   intro k h0 h1;omega
  clear hS w
  rintro mm M w ⟨i,rfl,h0,h1,qa,rfl,hS⟩
  refine zx11<|(zP)<|(zV (xfb 1 fd_24_1))<|(zV (xlb 0 pl_22 hS))<|(zV (xln Zb h.D.slh))<|(zP)<|zlt<|Ze ?_ ?_<;>intro hc
  ·
   refine zx3<|(zV (xfb 1 fd_24_1))<|(zV (xlb 0 pl_22 hS))<|(zP)<|(zV (xix (kk:=i) Zb h.D.slh))<|zlv (xlr (u:= .int .i64 (p.D i)) pl_3 (h.D.below hS.below)) ?_
   have hbv:=h.iD i
   refine(zP)<|zlt<|Ze ?_ ?_<;>intro hc
   ·
    refine zsr<|(zP)<|zx2<|zf1 ⟨_,rfl,?_⟩
    exact⟨Zf (by rintro⟨h2,h3,h4⟩;first|omega|(have h5:=(h4 (Classical.not_not.1 ‹¬¬(p.Ok)›)).1 i (by omega) (by omega);omega)|(have h5:=(h4 (Classical.not_not.1 ‹¬¬(p.Ok)›)).2;omega)),hS.nl⟩
   refine zx4<|(zP)<|(zV (Zh (r:=i+1)))<|(zP)<|zln<|zlq ⟨i+1,rfl,(by omega),(by omega),?_,rfl,hS⟩
   ·
    intro k h0' h1';rcases Int.lt_or_eq_of_le (show k<=i by omega) with hk|hk;exact qa k h0' hk;rw [hk];omega
  refine zxt<|ztx<|ztx<|zbh<|ztn<|zsq<|zdst [0] [0] 1000 mx_ hS ?_;clear hS;intro w hS
  refine zDrv 0 (xfb 0 fd_24_0) ?_
  have hp:=(Classical.not_not.1 ‹¬¬(p.Ok)›);have hm2:=hp.m1;have hL:=(hp.all (p.m-1) (by omega) (by omega));unfold Prob.each at hL;have hs2:=hp.s2
  refine(zDl 1 (fun w hS=>(xlb 0 pl_22 hS)))<|(zDw 2 (xln Zb h.L.slh))<|(zDw 3 Xb)<|(zDw 4 xmv)<|zdb 34 ?_ ?_<;>intro hc
  ·
   refine(zDw 5 (xfb 2 fd_24_2))<|(zDl 6 (fun w hS=>(xlb 0 pl_3 hS)))<|(zDw 7 (xfb 0 fd_24_0))<|(zDl 8 (fun w hS=>(xlb 0 pl_22 hS)))<|(zDw 9 (xfb 0 fd_24_0))<|(zDl 10 (fun w hS=>(xlb 0 pl_22 hS)))<|(zDw 11 (xln Zb h.L.slh))<|(zDw 12 (Zp (r:=p.m-1)))<|(zDw 13 (xix (kk:=p.m-1) Zb h.L.slh))<|zdla 14 (fun w hS=>(xlr (u:= .int .i64 (p.L (p.m-1))) pl_3 (h.L.below hS.below))) ?_
   have hbv:=h.iL (p.m-1)
   refine(zDw 15 (Z7 (r:=12*p.L (p.m-1))))<|(zDw 16 Xb)<|(zDw 17 xpt)<|(zDw 18 xas)<|zdd<|ztn<|zrt<|zf1 ⟨_,rfl,?_⟩
   exact⟨Zm (by constructor;exact fun h5=>⟨by omega,by omega,fun _=>⟨fun k h6 h7=>qa k h6 (by omega),by omega,by omega⟩⟩;rintro⟨h2,h3,h4⟩;have h5:=(h4 (Classical.not_not.1 ‹¬¬(p.Ok)›)).2.2;omega),hS.nl⟩
  refine(zDo 5)<|(zDo 6)<|(zDo 7)<|(zDo 8)<|(zDo 9)<|(zDo 10)<|(zDo 11)<|(zDo 12)<|(zDo 13)<|(zDo 14)<|(zDo 15)<|(zDo 16)<|(zDw 17 xpf)<|(zDw 18 xas)<|zdd<|ztn<|zrt<|zf1 ⟨_,rfl,?_⟩
  exact⟨Zf (by rintro⟨h2,h3,h4⟩;first|omega|(have h5:=(h4 (Classical.not_not.1 ‹¬¬(p.Ok)›)).1 i (by omega) (by omega);omega)|(have h5:=(h4 (Classical.not_not.1 ‹¬¬(p.Ok)›)).2;omega)),hS.nl⟩
theorem Zlb{vL:Value}{p:Prob}{n:Int}(w0:World)(h:PAt w0 vL vD p)(hp:p.Ok)(hA:Row w0 vA 1 n (ints f))(hn:n=p.m)(ha:∀i,0<=i->i<p.m->0<=f i/\f i<=2000):
    Calls Tryz.prog 131 [.agg #[vL,vD,.int .i64 p.stock,.int .i64 p.kerf],vA].toArray w0 fun e w=>∃v,e= .returned v/\v= .int .i64 (Zx p f p.m.toNat)/\Sat w0 w []:=by
  subst hn;have hm:=hp.m1;have hm2:=hp.m2
  refine zenG Tryz.func131 Tryz.ntmps131 fun w hS=> ?_
  refine zsr<|zla (xbx (cs:= [_,_,_,_]) hS) ?_;rintro _ w ⟨g1,rfl,hS⟩
  refine(zP)<|zlz<|(zP)<|zx5<|(zP)<|zx6<|zlp (fun mm M w=>∃(s:Int) (i:Int),mm=((p.m-i).toNat)/\(0<=i)/\(i<=p.m)/\(s=Zx p f i.toNat)/\M= [(1,vA),(2,.pointer (some ⟨g1,0,none⟩)),(4,.int .i64 0),(5,.int .i64 s),(6,.int .i64 i)]/\Sat w0 w [.blk g1 [vL,vD,.int .i64 p.stock,.int .i64 p.kerf]]) ⟨0,0,rfl,(by omega),(by omega),?_,rfl,hS⟩ ?_
  ·
   rfl
  clear hS w
  rintro mm M w ⟨s,i,rfl,h0,h1,hs,rfl,hS⟩
  refine zx11<|(zP)<|(zV (xfb 0 fd_24_0))<|(zV (xlb 0 pl_22 hS))<|(zV (xln Zb h.L.slh))<|(zP)<|zlt<|Ze ?_ ?_<;>intro hc
  ·
   refine zx29<|zdst [0] [0] 1000 mx_ hS ?_;clear hS;intro w hS
   refine zDrv 0 xmv ?_
   have he:=hp.all i (by omega) (by omega);unfold Prob.each at he;have hai:=ha i (by omega) (by omega);have hk1:=hp.k1;have hk2:=hp.k2;have hs2:=hp.s2;have ht:=TX hp h0 (by omega:i<p.m) hai;have hb:=U3 hp ha h0 (by omega:i<=p.m);have hb2:=U3 hp ha (by omega:0<=i+1) (by omega:i+1<=p.m)
   refine(zDw 1 xmv)<|(zDw 2 xmv)<|(zDw 3 (xix (kk:=i) Zb hA.slh))<|(zDl 4 (fun w hS=>(xlr (u:= .int .i64 (f i)) pl_3 (hA.below hS.below))))<|(zDw 5 (xfb 0 fd_24_0))<|(zDl 6 (fun w hS=>(xlb 0 pl_22 hS)))<|(zDw 7 xmv)<|(zDw 8 (xix (kk:=i) Zb h.L.slh))<|zdla 9 (fun w hS=>(xlr (u:= .int .i64 (p.L i)) pl_3 (h.L.below hS.below))) ?_
   have hbv:=h.iL i
   refine(zDw 10 (xfb 3 fd_24_3))<|(zDl 11 (fun w hS=>(xlb 0 pl_3 hS)))<|(zDw 12 (Zh (r:=p.L i+p.kerf)))<|zDrv 13 (Z7 (r:=((f i)*(p.L i+p.kerf))) (e:=rfl) (hr:=(by unfold I64;omega))) ?_
   refine zDrv 14 (Zh (r:=s+((f i)*(p.L i+p.kerf))) (hr:=(by unfold I64;omega))) ?_
   refine(zDw 15 xas)<|zdd<|zbn<|ztn<|zrg ?_
   refine(zP)<|(zV (Zh (r:=i+1)))<|(zP)<|zln<|zlq ⟨s+((f i)*(p.L i+p.kerf)),i+1,rfl,(by omega),(by omega),?_,rfl,hS⟩
   ·
    rw [hs];exact(ZJ _ h0).symm
  refine zx8<|(zP)<|(zP)<|zx1<|zf1 ⟨_,rfl,?_⟩
  obtain rfl:i=p.m:=by omega
  exact⟨congrArg (Value.int .i64) hs,hS.nl⟩
theorem KQ{vL:Value}{p:Prob}{n:Int}(w0:World)(h:PAt w0 vL vD p)(hA:Row w0 vA 1 n (ints f)):
    Calls Tryz.prog 90 [.agg #[vL,vD,.int .i64 p.stock,.int .i64 p.kerf],vA].toArray w0 fun e w=>∃v,e= .returned v/\v=B (FitsP p n f)/\Sat w0 w []:=by
  have hm:=h.L.slh.n0;have hm1:=h.L.slh.n1;have hd:=h.D.slh.n0;have hs:=h.is;have hk:=h.ik;have hn:=hA.slh.n0;have hn1:=hA.slh.n1
  refine zenG Tryz.func90 Tryz.ntmps90 fun w hS=> ?_
  refine zsr<|zla (xbx (cs:= [_,_,_,_]) hS) ?_;rintro _ w ⟨g1,rfl,hS⟩
  refine(zP)<|zx5<|(zV (xls 0 ZV hS))<|zlc (xc0 RG) (Xl (p:=p) w (h.below hS.below)) ?_;rintro _ w ⟨rfl,hS'⟩
  replace hS:=hS.cmp hS';clear hS'
  refine(zP)<|(zP)<|zlb 9 ?_ ?_<;>intro hc
  ·
   iterate 6 refine zlo ?_
   refine(zP)<|zlt<|zct<|zsr ?_
   refine(zP)<|zx14<|zf1 ⟨_,rfl,?_⟩
   first
   |exact⟨Zf (by intro hk;exact absurd hk.ok ‹¬p.Ok›),hS.nl⟩
   |exact⟨Zf (by intro hk;have:=hk.eq;omega),hS.nl⟩
   |exact⟨Zf (by intro hk;have:=hk.all i (by omega) (by have:=hk.eq;omega);omega),hS.nl⟩
  refine(zP)<|(zV (xln Zb hA.slh))<|(zV (xfb 0 fd_24_0))<|(zV (xlb 0 pl_22 hS))<|(zV (xln Zb h.L.slh))<|(zP)<|(zP)<|zlt<|Ze ?_ ?_<;>intro hc
  ·
   refine zsr<|(zP)<|zx14<|zf1 ⟨_,rfl,?_⟩
   first
   |exact⟨Zf (by intro hk;exact absurd hk.ok ‹¬p.Ok›),hS.nl⟩
   |exact⟨Zf (by intro hk;have:=hk.eq;omega),hS.nl⟩
   |exact⟨Zf (by intro hk;have:=hk.all i (by omega) (by have:=hk.eq;omega);omega),hS.nl⟩
  refine YJ<|(zP)<|zx6<|zlp (fun mm M w=>∃(i:Int),mm=((n-i).toNat)/\(0<=i)/\(i<=n)/\(∀k,0<=k->k<i->0<=f k/\f k<=2000)/\M= [(1,vA),(2,.pointer (some ⟨g1,0,none⟩)),(5,.int .i64 i)]/\Sat w0 w [.blk g1 [vL,vD,.int .i64 p.stock,.int .i64 p.kerf]]) ⟨0,rfl,(by omega),(by omega),?_,rfl,hS⟩ ?_
  ·
   intro k h0 h1;omega
  clear hS w
  rintro mm M w ⟨i,rfl,h0,h1,qa,rfl,hS⟩
  refine zx11<|(zP)<|(zP)<|(zV (xln Zb hA.slh))<|(zP)<|zlt<|Ze ?_ ?_<;>intro hc
  ·
   refine zx3<|(zP)<|(zP)<|(zV (xix (kk:=i) Zb hA.slh))<|(zV (xlr (u:= .int .i64 (f i)) pl_3 (hA.below hS.below)))<|(zP)<|(zP)<|zlb 28 ?_ ?_<;>intro hc
   ·
    iterate 5 refine zlo ?_
    refine(zP)<|zlt<|zct<|zsr ?_
    refine(zP)<|zx2<|zf1 ⟨_,rfl,?_⟩
    first
    |exact⟨Zf (by intro hk;exact absurd hk.ok ‹¬p.Ok›),hS.nl⟩
    |exact⟨Zf (by intro hk;have:=hk.eq;omega),hS.nl⟩
    |exact⟨Zf (by intro hk;have:=hk.all i (by omega) (by have:=hk.eq;omega);omega),hS.nl⟩
   refine(zP)<|(zP)<|(zV (xix (kk:=i) Zb hA.slh))<|(zV (xlr (u:= .int .i64 (f i)) pl_3 (hA.below hS.below)))<|(zP)<|(zP)<|zlt<|Ze ?_ ?_<;>intro hc
   ·
    refine zsr<|(zP)<|zx2<|zf1 ⟨_,rfl,?_⟩
    first
    |exact⟨Zf (by intro hk;exact absurd hk.ok ‹¬p.Ok›),hS.nl⟩
    |exact⟨Zf (by intro hk;have:=hk.eq;omega),hS.nl⟩
    |exact⟨Zf (by intro hk;have:=hk.all i (by omega) (by have:=hk.eq;omega);omega),hS.nl⟩
   refine zx4<|(zP)<|(zV (Zh (r:=i+1)))<|(zP)<|zln<|zlq ⟨i+1,rfl,(by omega),(by omega),?_,rfl,hS⟩
   ·
    intro k h0' h1';rcases Int.lt_or_eq_of_le (show k<=i by omega) with hk|hk;exact qa k h0' hk;rw [hk];omega
  refine zxt<|ztx<|ztx<|zbh<|ztn<|zsq<|zdst [0] [0] 1000 mx_ hS ?_;clear hS;intro w hS
  refine zdla 0 (fun w hS=>(xls 0 ZV hS)) ?_
  have hp:=(Classical.not_not.1 ‹¬¬(p.Ok)›);have hs1:=hp.s1;have hs2:=hp.s2;have hk1:=hp.k1;have hk2:=hp.k2
  refine(zDw 1 xmv)<|(zDw 3 (xfb 2 fd_24_2))<|(zDl 4 (fun w hS=>(xlb 0 pl_3 hS)))<|(zDw 5 (xfb 3 fd_24_3))<|(zDl 6 (fun w hS=>(xlb 0 pl_3 hS)))<|(zDw 7 (Zh (r:=p.stock+p.kerf)))<|zdc 2 (xc0 ZkY) (Zlb (p:=p) w (h.below hS.below) (Classical.not_not.1 ‹¬¬(p.Ok)›) (hA.below hS.below) (by omega) (fun k k0 k1=>qa k k0 (by omega))) ?_;rintro _ w ⟨rfl,hS'⟩
  replace hS:=hS.cmp hS';clear hS'
  refine⟨⟨fun _=>hS,hS⟩,?_⟩
  refine(zDw 8 Xb)<|(zDw 9 xas)<|zdd<|ztn<|zrt<|zf1 ⟨_,rfl,?_⟩
  exact⟨Zm ⟨fun hu=>⟨(Classical.not_not.1 ‹¬¬(p.Ok)›),by omega,fun k k0 k1=>qa k k0 (by omega),hu⟩,fun hk=>hk.used⟩,hS.nl⟩
def Z9(p:Prob)(n:Int)(f:Int->Int):Prop:=FitsP p n f/\∀k,0<=k->k<n->f k<=p.D k
theorem YS {p:Prob} {n:Int} (hf:FitsP p n f) (i0:0<=i) (i1:i<n):0<=f i/\f i<=(p.stock+p.kerf-Zx p f i.toNat).tdiv (p.L i+p.kerf):=by
  have hp:=hf.ok
  have hn:=hf.eq
  have he:=hp.all i i0 (by omega)
  unfold Prob.each at he
  have hk:=hp.k1
  have hu:∀j:Nat,i.toNat+j<=n.toNat->Zx p f i.toNat<=Zx p f (i.toNat+j):=fun j=>by
    induction j with
    |zero=>intro _;exact Int.le_refl _
    | succ j ih=>
      intro hj
      have h1:=ih (by omega)
      have h2:=hf.all ((i.toNat+j:Nat):Int) (by omega) (by omega)
      have h3:=hp.all ((i.toNat+j:Nat):Int) (by omega) (by omega)
      unfold Prob.each at h3
      have h4:=Int.mul_nonneg h2.1 (show 0<=p.L ((i.toNat+j:Nat):Int)+p.kerf by omega)
      have h5:=ZJ (fun i=>f i*(p.L i+p.kerf)) (i:=((i.toNat+j:Nat):Int)) (by omega)
      have e:Zx p f (i.toNat+(j+1))=Zx p f (i.toNat+j)+f ((i.toNat+j:Nat):Int)*(p.L ((i.toNat+j:Nat):Int)+p.kerf):=by
        unfold Zx
        rw [show i.toNat+(j+1)=(((i.toNat+j:Nat):Int)+1).toNat by omega,h5];rfl
      rw [e];omega
  have h1:Zx p f (i+1).toNat=Zx p f i.toNat+f i*(p.L i+p.kerf):=ZJ _ i0
  have h2 :Zx p f (i+1).toNat<=Zx p f n.toNat:=by
    have h3:∀j:Nat,(i+1).toNat+j<=n.toNat->Zx p f (i+1).toNat<=Zx p f ((i+1).toNat+j):=fun j=>by
      induction j with
      |zero=>intro _;exact Int.le_refl _
      | succ j ih=>
        intro hj
        have h1:=ih (by omega)
        have h2:=hf.all (((i+1).toNat+j:Nat):Int) (by omega) (by omega)
        have h3:=hp.all (((i+1).toNat+j:Nat):Int) (by omega) (by omega)
        unfold Prob.each at h3
        have h4:=Int.mul_nonneg h2.1 (show 0<=p.L (((i+1).toNat+j:Nat):Int)+p.kerf by omega)
        have h5:=ZJ (fun i=>f i*(p.L i+p.kerf)) (i:=(((i+1).toNat+j:Nat):Int)) (by omega)
        have e:Zx p f ((i+1).toNat+(j+1))=Zx p f ((i+1).toNat+j)+f (((i+1).toNat+j:Nat):Int)*(p.L (((i+1).toNat+j:Nat):Int)+p.kerf):=by
          unfold Zx
          rw [show(i+1).toNat+(j+1)=((((i+1).toNat+j:Nat):Int)+1).toNat by omega,h5];rfl
        rw [e];omega
    have h4:=h3 (n.toNat-(i+1).toNat) (by omega)
    rwa [show(i+1).toNat+(n.toNat-(i+1).toNat)=n.toNat by omega] at h4
  have h3:=hf.used
  rw [<-hn] at h3
  have h0:=(hf.all i i0 (by omega)).1
  have h4:=Int.mul_nonneg h0 (show 0<=p.L i+p.kerf by omega)
  refine⟨h0,?_⟩
  rw [Int.tdiv_eq_ediv_of_nonneg (by omega)]
  exact(Int.le_ediv_iff_mul_le (by omega)).2 (by omega)
theorem ZdB{p:Prob}(hp:p.Ok){l x:Int}(i0:0<=i)(i1:i<p.m)(l0:0<=l)(l1:l<=p.stock+p.kerf)(x0:0<=x)(x1:x<=l.tdiv (p.L i+p.kerf)):0<=x*(p.L i+p.kerf)/\x*(p.L i+p.kerf)<=l/\x<=2000:=by
  have he:=hp.all i i0 i1
  unfold Prob.each at he
  have hk:=hp.k1;have hs:=hp.s2
  rw [Int.tdiv_eq_ediv_of_nonneg l0] at x1
  have h1:=(Int.le_ediv_iff_mul_le (show 0<p.L i+p.kerf by omega)).1 x1
  have h2:=Int.mul_nonneg x0 (show 0<=p.L i+p.kerf by omega)
  refine⟨h2,h1,?_⟩
  by_cases hx:x<=2000
  · exact hx
  · exfalso
    have h3:=Int.mul_le_mul_of_nonneg_left (show 1+p.kerf<=p.L i+p.kerf by omega) x0
    have h4:=Int.mul_le_mul_of_nonneg_right (show 1<=x by omega) hk
    have h5:x*(1+p.kerf)=x+x*p.kerf:=by rw [Int.mul_add,Int.mul_one]
    omega
theorem XM{vL:Value}{p:Prob}(w0:World)(h:PAt w0 vL vD p)(hok:p.Ok)(i0:0<=i)(i1:i<p.m):
    Calls Tryz.prog 148 [.agg #[vL,vD,.int .i64 p.stock,.int .i64 p.kerf],.int .i64 i].toArray w0 fun e w=>∃v,e= .returned v/\v= .int .i64 (p.L i+p.kerf)/\Sat w0 w []:=by
  have hp:=hok;have he:=hp.all i i0 i1;unfold Prob.each at he;have hs2:=hp.s2;have hk1:=hp.k1;have hk2:=hp.k2
  refine zenG Tryz.func148 Tryz.ntmps148 fun w hS=> ?_
  refine zsr<|zla (xbx (cs:= [_,_,_,_]) hS) ?_;rintro _ w ⟨g1,rfl,hS⟩
  refine(zP)<|zx7<|zdst [0] [0] 1000 mx_ hS ?_;clear hS;intro w hS
  refine(zDw 0 (xfb 0 fd_32_0))<|(zDl 1 (fun w hS=>(xlb 0 pl_22 hS)))<|(zDw 2 xmv)<|(zDw 3 (xix (kk:=i) Zb h.L.slh))<|zdla 4 (fun w hS=>(xlr (u:= .int .i64 (p.L i)) pl_3 (h.L.below hS.below))) ?_
  have hbv:=h.iL i
  refine(zDw 5 (xfb 3 fd_32_3))<|(zDl 6 (fun w hS=>(xlb 0 pl_3 hS)))<|(zDw 7 (Zh (r:=p.L i+p.kerf)))<|(zDw 8 xas)<|zdd<|ztn<|zrt<|zf1 ⟨_,rfl,?_⟩
  exact⟨rfl,hS.nl⟩
theorem ZlD{vL:Value}{p:Prob}{n:Int}(w0:World)(h:PAt w0 vL vD p)(hA:Row w0 vA 1 n (ints f)):
    Calls Tryz.prog 181 [.agg #[vL,vD,.int .i64 p.stock,.int .i64 p.kerf],vA].toArray w0 fun e w=>∃v,e= .returned v/\∃(r:Int) (ok:Prop),v= .tuple #[.int .i64 r,B ok]/\(ok↔FitsP p n f)/\Sat w0 w []:=by
  have hm:=h.L.slh.n0;have hm1:=h.L.slh.n1;have hd:=h.D.slh.n0;have hd1:=h.D.slh.n1;have hs:=h.is;have hk:=h.ik
  have hn:=hA.slh.n0;have hn1:=hA.slh.n1
  refine zenG Tryz.func181 Tryz.ntmps181 fun w hS=> ?_
  refine zsr<|zla (xbx (cs:= [_,_,_,_]) hS) ?_;rintro _ w ⟨g1,rfl,hS⟩
  refine(zP)<|(zP)<|zx5<|(zV (xls 0 st_32 hS))<|zlc (xc0 XK) (Yc (p:=p) w (h.below hS.below)) ?_;rintro _ w ⟨rfl,hS'⟩
  replace hS:=hS.cmp hS';clear hS'
  refine(zP)<|(zP)<|zlb 12 ?_ ?_<;>intro hc
  ·
   iterate 6 refine zlo ?_
   refine(zP)<|zlt<|zct<|zsr ?_
   refine(zP)<|(zP)<|zx14<|zf2 ⟨_,rfl,?_⟩
   exact⟨_,False,by rw [ZC not_false],⟨fun hh=>hh.elim,fun hf=>by
     first
     |exact absurd hf.ok ‹¬p.Ok›
     |(have:=hf.eq;omega)
     |(have h8:=YS hf h0 (by omega);rw [<-show p.stock+p.kerf-Zx p f i.toNat=l by omega] at*;omega)
     |(have h8:=YS hf h0 (by omega);omega)⟩,hS.nl⟩
  refine(zP)<|(zV (xln Zb hA.slh))<|(zV (xfb 0 fd_32_0))<|(zV (xlb 0 pl_22 hS))<|(zV (xln Zb h.L.slh))<|(zP)<|(zP)<|zlt<|Ze ?_ ?_<;>intro hc
  ·
   refine zsr<|(zP)<|(zP)<|zx14<|zf2 ⟨_,rfl,?_⟩
   exact⟨_,False,by rw [ZC not_false],⟨fun hh=>hh.elim,fun hf=>by
     first
     |exact absurd hf.ok ‹¬p.Ok›
     |(have:=hf.eq;omega)
     |(have h8:=YS hf h0 (by omega);rw [<-show p.stock+p.kerf-Zx p f i.toNat=l by omega] at*;omega)
     |(have h8:=YS hf h0 (by omega);omega)⟩,hS.nl⟩
  refine ZS<|zlv (xfb 2 fd_32_2) ?_
  have hp:p.Ok:=by first|assumption|exact Classical.not_not.1 ‹_›
  have hnm:n=p.m:=by omega
  have hs1:=hp.s1;have hs2:=hp.s2;have hk1:=hp.k1;have hk2:=hp.k2
  refine(zV (xlb 0 pl_3 hS))<|(zV (xfb 3 fd_32_3))<|(zV (xlb 0 pl_3 hS))<|(zV (Zh (r:=p.stock+p.kerf)))<|(zP)<|zx5<|(zP)<|(zV (xln Zb hA.slh))<|(zP)<|zx6<|zlp (fun mm M w=>∃(l:Int) (i:Int),mm=((n-i).toNat)/\(0<=i)/\(i<=n)/\(l=p.stock+p.kerf-Zx p f i.toNat)/\(0<=l)/\(l<=p.stock+p.kerf)/\(∀k,0<=k->k<i->0<=f k/\f k<=2000)/\M= [(2,.pointer (some ⟨g1,0,none⟩)),(6,.int .i64 l),(25,vA),(26,.int .i64 n),(27,.int .i64 i)]/\Sat w0 w [.blk g1 [vL,vD,.int .i64 p.stock,.int .i64 p.kerf]]) ⟨p.stock+p.kerf,0,rfl,(by omega),(by omega),?_,(by omega),(by omega),?_,rfl,hS⟩ ?_
  ·
   show _=_-0;omega
  ·
   intro k k0 k1;omega
  clear hS w
  rintro mm M w ⟨l,i,rfl,h0,h1,hl,hl0,hl1,qa,rfl,hS⟩
  refine zsr<|(zP)<|zx7<|Ze ?_ ?_<;>intro hc
  ·
   refine zx3<|zlv xmv ?_
   have he:=hp.all i h0 (by omega);unfold Prob.each at he
   have hqd:=Xo (a:=l) (d:=p.L i+p.kerf) (A:=2100) (by omega) (by omega)
   refine(zV (xix (kk:=i) Zb hA.slh))<|(zV (xlr (u:= .int .i64 (f i)) pl_3 (hA.below hS.below)))<|(zP)<|(zP)<|zx5<|(zP)<|(zP)<|(zP)<|zlb 34 ?_ ?_<;>intro hc
   ·
    iterate 7 refine zlo ?_
    refine(zP)<|zlt<|zct<|zsr ?_
    refine(zP)<|(zP)<|zlt<|zrt<|ztr<|zbr<|ztr<|ztr<|zbr<|ztr<|zf2 ⟨_,rfl,?_⟩
    exact⟨_,False,by rw [ZC not_false],⟨fun hh=>hh.elim,fun hf=>by
      first
      |exact absurd hf.ok ‹¬p.Ok›
      |(have:=hf.eq;omega)
      |(have h8:=YS hf h0 (by omega);rw [<-show p.stock+p.kerf-Zx p f i.toNat=l by omega] at*;omega)
      |(have h8:=YS hf h0 (by omega);omega)⟩,hS.nl⟩
   refine(zP)<|(zP)<|(zV (xls 0 st_32 hS))<|(zP)<|zlc (xc0 XL) (XM (p:=p) (i:=i) w (h.below hS.below) hp (by omega) (by omega)) ?_;rintro _ w ⟨rfl,hS'⟩
   replace hS:=hS.cmp hS';clear hS'
   refine(zV (Vx (r:=(Int.tdiv l (p.L i+p.kerf)))))<|(zP)<|(zP)<|zlt<|Ze ?_ ?_<;>intro hc
   ·
    refine zsr<|(zP)<|(zP)<|zlt<|zrt<|ztr<|zbr<|ztr<|ztr<|zbr<|ztr<|zf2 ⟨_,rfl,?_⟩
    exact⟨_,False,by rw [ZC not_false],⟨fun hh=>hh.elim,fun hf=>by
      first
      |exact absurd hf.ok ‹¬p.Ok›
      |(have:=hf.eq;omega)
      |(have h8:=YS hf h0 (by omega);rw [<-show p.stock+p.kerf-Zx p f i.toNat=l by omega] at*;omega)
      |(have h8:=YS hf h0 (by omega);omega)⟩,hS.nl⟩
   refine zsk<|ztn<|zrg<|zlv xmv ?_
   have hst:=ZdB hp h0 (by omega) hl0 hl1 (x:=f i) (by omega) (by omega)
   refine(zP)<|(zV (xls 0 st_32 hS))<|(zP)<|zlc (xc0 XL) (XM (p:=p) (i:=i) w (h.below hS.below) hp (by omega) (by omega)) ?_;rintro _ w ⟨rfl,hS'⟩
   replace hS:=hS.cmp hS';clear hS'
   refine(zV (Z7 (r:=((f i)*(p.L i+p.kerf))) (e:=rfl)))<|(zV (Zp (r:=l-((f i)*(p.L i+p.kerf)))))<|(zP)<|zx10<|(zV (Zh (r:=i+1)))<|(zP)<|zln<|zlq ⟨l-((f i)*(p.L i+p.kerf)),i+1,rfl,(by omega),(by omega),?_,(by omega),(by omega),?_,rfl,hS⟩
   ·
    have h9:Zx p f (i+1).toNat=Zx p f i.toNat+f i*(p.L i+p.kerf):=ZJ _ h0
    rw [h9];omega
   ·
    intro k h0' h1';rcases Int.lt_or_eq_of_le (show k<=i by omega) with hk|hk;exact qa k h0' hk;rw [hk];omega
  refine zx8<|(zP)<|(zP)<|(zP)<|zx1<|zf2 ⟨_,rfl,?_⟩
  exact⟨_,True,by rw [ZI trivial],⟨fun _=>⟨hp,by omega,fun k k0 k1=>(qa k k0 (by omega)),by rw [<-hnm,show n=i by omega];omega⟩,fun _=>trivial⟩,hS.nl⟩
theorem Zc0{vL:Value}{p:Prob}{n:Int}(w0:World)(h:PAt w0 vL vD p)(hA:Row w0 vA 1 n (ints f)):
    Calls Tryz.prog 155 [.agg #[vL,vD,.int .i64 p.stock,.int .i64 p.kerf],vA].toArray w0 fun e w=>∃v,e= .returned v/\v=B (FitsP p n f)/\Sat w0 w []:=by
  refine zenG Tryz.func155 Tryz.ntmps155 fun w hS=> ?_
  refine zsr<|zla (xbx (cs:= [_,_,_,_]) hS) ?_;rintro _ w ⟨g1,rfl,hS⟩
  refine(zP)<|zlz<|(zV (xls 0 st_32 hS))<|(zP)<|zlc (xc0 Zkv) (ZlD (p:=p) w (h.below hS.below) (hA.below hS.below)) ?_;rintro _ w ⟨rr1,jC,rfl,eE,hS'⟩
  replace hS:=hS.cmp hS';clear hS'
  refine zs5 ?_
  refine zlz<|(zP)<|(zP)<|zx1<|zf1 ⟨_,rfl,?_⟩
  exact⟨Zm eE,hS.nl⟩
theorem RM{vL:Value}{p:Prob}{n:Int}(w0:World)(h:PAt w0 vL vD p)(hA:Row w0 vA 1 n (ints f)):
    Calls Tryz.prog 186 [.agg #[vL,vD,.int .i64 p.stock,.int .i64 p.kerf],vA].toArray w0 fun e w=>∃v,e= .returned v/\v=B (Z9 p n f)/\Sat w0 w []:=by
  have hm:=h.L.slh.n0;have hm1:=h.L.slh.n1;have hd:=h.D.slh.n0;have hd1:=h.D.slh.n1;have hs:=h.is;have hk:=h.ik
  have hn:=hA.slh.n0;have hn1:=hA.slh.n1
  refine zenG Tryz.func186 Tryz.ntmps186 fun w hS=> ?_
  refine zsr<|zla (xbx (cs:= [_,_,_,_]) hS) ?_;rintro _ w ⟨g1,rfl,hS⟩
  refine(zP)<|zx5<|(zV (xls 0 st_32 hS))<|(zP)<|zlc (xc0 Zfs) (Zc0 (p:=p) w (h.below hS.below) (hA.below hS.below)) ?_;rintro _ w ⟨rfl,hS'⟩
  replace hS:=hS.cmp hS';clear hS'
  refine(zP)<|zlt<|Ze ?_ ?_<;>intro hc
  ·
   refine zsr<|(zP)<|zx14<|zf1 ⟨_,rfl,?_⟩
   exact⟨Zf (by intro hh;first|exact absurd hh.1 ‹_›|(have:=hh.2 i h0 (by omega);omega)),hS.nl⟩
  refine YJ<|(zP)<|(zV (xln Zb hA.slh))<|(zP)<|zx6 ?_
  have yb:FitsP p n f:=by first|assumption|exact Classical.not_not.1 ‹_›
  have hfe:=yb.eq;have hfd:=yb.ok.d
  refine zlp (fun mm M w=>∃(i:Int),mm=((n-i).toNat)/\(0<=i)/\(i<=n)/\(∀k,0<=k->k<i->f k<=p.D k)/\M= [(2,.pointer (some ⟨g1,0,none⟩)),(11,vA),(12,.int .i64 n),(13,.int .i64 i)]/\Sat w0 w [.blk g1 [vL,vD,.int .i64 p.stock,.int .i64 p.kerf]]) ⟨0,rfl,(by omega),(by omega),?_,rfl,hS⟩ ?_
  ·
   intro k k0 k1;omega
  clear hS w
  rintro mm M w ⟨i,rfl,h0,h1,qa,rfl,hS⟩
  refine zsr<|(zP)<|zx7<|Ze ?_ ?_<;>intro hc
  ·
   refine zx3<|(zP)<|(zV (xix (kk:=i) Zb hA.slh))<|(zV (xlr (u:= .int .i64 (f i)) pl_3 (hA.below hS.below)))<|(zP)<|(zP)<|zlz<|(zP)<|(zV (xfb 1 fd_32_1))<|(zV (xlb 0 pl_22 hS))<|(zP)<|(zV (xix (kk:=i) Zb h.D.slh))<|zlv (xlr (u:= .int .i64 (p.D i)) pl_3 (h.D.below hS.below)) ?_
   have hbv:=h.iD i
   refine(zP)<|zlt<|Ze ?_ ?_<;>intro hc
   ·
    refine zsr<|(zP)<|zx2<|zf1 ⟨_,rfl,?_⟩
    exact⟨Zf (by intro hh;first|exact absurd hh.1 ‹_›|(have:=hh.2 i h0 (by omega);omega)),hS.nl⟩
   refine zx4<|(zV (Zh (r:=i+1)))<|(zP)<|zln<|zlq ⟨i+1,rfl,(by omega),(by omega),?_,rfl,hS⟩
   ·
    intro k h0' h1';rcases Int.lt_or_eq_of_le (show k<=i by omega) with hk|hk;exact qa k h0' hk;rw [hk];omega
  refine zx8<|(zP)<|zx1<|zf1 ⟨_,rfl,?_⟩
  exact⟨ZX (by exact⟨yb,fun k k0 k1=>qa k k0 (by omega)⟩),hS.nl⟩
theorem UI{vL:Value}{p:Prob}{n:Int}(w0:World)(h:PAt w0 vL vD p)(hA:Row w0 vA 1 n (ints f)):
    Calls Tryz.prog 109 [.agg #[vL,vD,.int .i64 p.stock,.int .i64 p.kerf],vA].toArray w0 fun e w=>∃v,e= .returned v/\v=B (Z9 p n f)/\Sat w0 w []:=by
  have hm:=h.L.slh.n0;have hm1:=h.L.slh.n1;have hd:=h.D.slh.n0;have hd1:=h.D.slh.n1;have hs:=h.is;have hk:=h.ik
  have hn:=hA.slh.n0;have hn1:=hA.slh.n1
  refine zenG Tryz.func109 Tryz.ntmps109 fun w hS=> ?_
  refine zsr<|zla (xbx (cs:= [_,_,_,_]) hS) ?_;rintro _ w ⟨g1,rfl,hS⟩
  refine(zP)<|zx5<|(zV (xls 0 ZV hS))<|(zP)<|zlc (xc0 ZcP) (KQ (p:=p) w (h.below hS.below) (hA.below hS.below)) ?_;rintro _ w ⟨rfl,hS'⟩
  replace hS:=hS.cmp hS';clear hS'
  refine(zP)<|zlt<|Ze ?_ ?_<;>intro hc
  ·
   refine zsr<|(zP)<|zx14<|zf1 ⟨_,rfl,?_⟩
   exact⟨Zf (by intro hh;first|exact absurd hh.1 ‹_›|(have:=hh.2 i h0 (by omega);omega)),hS.nl⟩
  refine YJ<|(zP)<|zx6 ?_
  have yb:FitsP p n f:=by first|assumption|exact Classical.not_not.1 ‹_›
  have hfe:=yb.eq;have hfd:=yb.ok.d
  refine zlp (fun mm M w=>∃(i:Int),mm=((n-i).toNat)/\(0<=i)/\(i<=n)/\(∀k,0<=k->k<i->f k<=p.D k)/\M= [(1,vA),(2,.pointer (some ⟨g1,0,none⟩)),(5,.int .i64 i)]/\Sat w0 w [.blk g1 [vL,vD,.int .i64 p.stock,.int .i64 p.kerf]]) ⟨0,rfl,(by omega),(by omega),?_,rfl,hS⟩ ?_
  ·
   intro k k0 k1;omega
  clear hS w
  rintro mm M w ⟨i,rfl,h0,h1,qa,rfl,hS⟩
  refine zx11<|(zP)<|(zP)<|(zV (xln Zb hA.slh))<|(zP)<|zlt<|Ze ?_ ?_<;>intro hc
  ·
   refine zsk<|ztn<|zsq<|zbk<|zsq<|zdst [0] [0] 1000 mx_ hS ?_;clear hS;intro w hS
   refine(zDw 0 xmv)<|(zDw 1 xmv)<|(zDw 2 (xix (kk:=i) Zb hA.slh))<|(zDl 3 (fun w hS=>(xlr (u:= .int .i64 (f i)) pl_3 (hA.below hS.below))))<|(zDw 4 (xfb 1 fd_24_1))<|(zDl 5 (fun w hS=>(xlb 0 pl_22 hS)))<|(zDw 6 xmv)<|(zDw 7 (xix (kk:=i) Zb h.D.slh))<|zdla 8 (fun w hS=>(xlr (u:= .int .i64 (p.D i)) pl_3 (h.D.below hS.below))) ?_
   have hbv:=h.iD i
   refine(zDw 9 Ys)<|zdd<|ztn ?_
   refine Ze ?_ ?_<;>intro hc
   ·
    refine zsr<|(zP)<|zx2<|zf1 ⟨_,rfl,?_⟩
    exact⟨Zf (by intro hh;first|exact absurd hh.1 ‹_›|(have:=hh.2 i h0 (by omega);omega)),hS.nl⟩
   refine zx4<|(zP)<|(zV (Zh (r:=i+1)))<|(zP)<|zln<|zlq ⟨i+1,rfl,(by omega),(by omega),?_,rfl,hS⟩
   ·
    intro k h0' h1';rcases Int.lt_or_eq_of_le (show k<=i by omega) with hk|hk;exact qa k h0' hk;rw [hk];omega
  refine zx8<|(zP)<|zx1<|zf1 ⟨_,rfl,?_⟩
  exact⟨ZX (by exact⟨yb,fun k k0 k1=>qa k k0 (by omega)⟩),hS.nl⟩
end Go.Proofs.YtkichmnjjblodaaGreat
namespace Go.Proofs.YtkichmnjjblodaaGreat
open Go Go.RowKit Go.Proofs.Gw
variable {gp:Nat} {vD:Value}
theorem Zks:Zc Tryz.prog 185=true:=by kernel_rfl
theorem Zfo:Zc Tryz.prog 186=true:=by kernel_rfl
theorem Sat.oldblk{w0 w:World}{l:List Ent}{g:Nat}{cs:List Value}(hS:Sat w0 w l)(h:(Ent.blk g cs).holds w0):(Ent.blk g cs).holds w:=by
  obtain⟨T,h⟩:=h
  exact⟨T,by rw [hS.below.block g (by rw [Array.getElem?_eq_some_iff] at h;exact h.1)];exact h⟩
theorem xlfs{L:List (Nat×Value)}{w0 w:World}{l:List Ent}{o:Oper}{x:Operand}{T:TypeId}{k g:Nat}{cs:List Value}(ht:Zz Tryz.prog T=some k)(h:(Ent.blk g cs).holds w0)(hS:Sat w0 w l)(ho:o.op= .load T x:=by exact rfl)
    (hx:evL L x=some (.pointer (some ⟨g,0,none⟩)):=by exact rfl) (hk:cs.length=k:=by exact rfl):Runs Tryz.prog L w o (.value (.agg cs.toArray)) w:=VY ho (by rw [ht,hk]) hx (Sat.oldblk hS h).cells
theorem ZhP{vL:Value}{p:Prob}{vA:Value}{n:Int}{f:Int->Int}(w0:World)(hG:(Ent.blk gp [vL,vD,.int .i64 p.stock,.int .i64 p.kerf]).holds w0)(h:PAt w0 vL vD p)(hA:Row w0 vA 1 n (ints f)):
    Calls Tryz.prog 185 [vA,.pointer (some ⟨gp,0,none⟩)].toArray w0 fun e w=>∃v,e= .returned v/\v=B (¬Z9 p n f)/\Sat w0 w []:=by
  refine zenG Tryz.func185 Tryz.ntmps185 fun w hS=> ?_
  refine zsr<|(zP)<|zlz<|(zV (xlfs st_32 hG hS))<|(zP)<|zlc (xc0 Zfo) (RM (p:=p) w (h.below hS.below) (hA.below hS.below)) ?_;rintro _ w ⟨rfl,hS'⟩
  replace hS:=hS.cmp hS';clear hS'
  refine(zP)<|(zP)<|zx1<|zf1 ⟨_,rfl,?_⟩
  exact⟨rfl,hS⟩
theorem Zgb{vL:Value}{p:Prob}{vM:Value}{u:Int}{mv:Int->Value}{ml:Int->Int}{mf:Int->Int->Int}(w0:World)(hG:(Ent.blk gp [vL,vD,.int .i64 p.stock,.int .i64 p.kerf]).holds w0)(h:PAt w0 vL vD p)(hM:MAt w0 vM u mv ml mf):
    Calls Tryz.prog 204 [vM,.func (.func 185) #[] #[.pointer (some ⟨gp,0,none⟩)]].toArray w0 fun e w=>∃v,e= .returned v/\∃r:Int,v= .int .i64 r/\((r= -1/\∀k,0<=k->k<u->¬(¬Z9 p (ml k) (mf k)))\/(0<=r/\r<u/\(¬Z9 p (ml r) (mf r))))/\Sat w0 w []:=by
  have hn:=hM.row.slh.n0;have hn1:=hM.row.slh.n1
  refine zenG Tryz.func204 Tryz.ntmps204 fun w hS=> ?_
  refine zsr<|(zP)<|zx5<|(zP)<|(zV (xln Zl hM.row.slh))<|(zP)<|zx6<|zlp (fun mm M w=>∃(i:Int),mm=((u-i).toNat)/\(0<=i)/\(i<=u)/\(∀k,0<=k->k<i->¬(¬Z9 p (ml k) (mf k)))/\M= [(0,vM),(1,.func (.func 185) #[] #[.pointer (some ⟨gp,0,none⟩)]),(7,.int .i64 u),(8,.int .i64 i)]/\Sat w0 w []) ⟨0,rfl,(by omega),(by omega),?_,rfl,hS⟩ ?_
  ·
   intro k h0 h1;omega
  clear hS w
  rintro mm M w ⟨i,rfl,h0,h1,qa,rfl,hS⟩
  refine zsr<|(zP)<|zx7<|Ze ?_ ?_<;>intro hc
  ·
   refine zx3<|(zP)<|(zP)<|zlz<|(zP)<|(zP)<|(zP)<|(zV (xix (kk:=i) Zl hM.row.slh))<|(zV (xlr (u:=(mv i)) pl_22 (hM.row.below hS.below)))<|zlc (xcc (vs:= [_]) Zks) (ZhP (p:=p) w (Sat.oldblk hS hG) (h.below hS.below) ((hM.p i (by omega) (by omega)).below hS.below)) ?_;rintro _ w ⟨rfl,hS'⟩
   replace hS:=hS.cmp hS';clear hS'
   refine zlt<|Ze ?_ ?_<;>intro hc
   ·
    refine zsr<|(zP)<|(zP)<|zx2<|zf1 ⟨_,rfl,?_⟩
    exact⟨i,rfl,.inr ⟨by omega,by omega,‹¬Z9 p (ml i) (mf i)›⟩,hS⟩
   refine zx4<|(zV (Zh (r:=i+1)))<|(zP)<|zln<|zlq ⟨i+1,rfl,(by omega),(by omega),?_,rfl,hS⟩
   ·
    intro k h0' h1';rcases Int.lt_or_eq_of_le (show k<=i by omega) with hk|hk;exact qa k h0' hk;rw [hk];assumption
  refine zx8<|(zP)<|zx1<|zf1 ⟨_,rfl,?_⟩
  exact⟨-1,rfl,.inl ⟨rfl,fun k h0 h1=>qa k h0 (by omega)⟩,hS⟩
theorem Zgg{vL:Value}{p:Prob}{vM:Value}{u:Int}{mv:Int->Value}{ml:Int->Int}{mf:Int->Int->Int}(w0:World)(hG:(Ent.blk gp [vL,vD,.int .i64 p.stock,.int .i64 p.kerf]).holds w0)(h:PAt w0 vL vD p)(hM:MAt w0 vM u mv ml mf):
    Calls Tryz.prog 184 [vM,.func (.func 185) #[] #[.pointer (some ⟨gp,0,none⟩)]].toArray w0 fun e w=>∃v,e= .returned v/\v=B (∃k,0<=k/\k<u/\(¬Z9 p (ml k) (mf k)))/\Sat w0 w []:=by
  refine zenG Tryz.func184 Tryz.ntmps184 fun w hS=> ?_
  refine zsr<|(zP)<|zlz<|(zP)<|(zP)<|zlc (xc0 ZbV) (Zgb w (Sat.oldblk hS hG) (h.below hS.below) (hM.below hS.below)) ?_;rintro _ w ⟨r1,rfl,hr1,hS'⟩
  replace hS:=hS.cmp hS';clear hS'
  refine(zP)<|(zP)<|zx1<|zf1 ⟨_,rfl,?_⟩
  exact⟨Zm (by
   rcases hr1 with⟨h1,h2⟩|⟨h1,h2,h3⟩
   · exact⟨fun h=>by omega,fun⟨k,h4,h5,h6⟩=>absurd h6 (h2 k h4 h5)⟩
   · exact⟨fun _=>⟨_,h1,h2,h3⟩,fun _=>h1⟩),hS⟩
end Go.Proofs.YtkichmnjjblodaaGreat
namespace Go.Proofs.Gw
open Go Go.RowKit
def TP(v:Value)(q:Nat):Value:=match v with
  | .slice a _ cap=> .slice a q cap
  |u=>u
section
variable {P:Program} {L:List (Nat×Value)} {w w0:World} {o:Oper} {x y z:Operand} {T T':TypeId} {l:List Ent} {E:TypeId}
theorem Zcl{v:Value}{n:Int}{q:Nat}(h:Slh v n)(hq:(q:Int)<=n):Slh (TP v q) q:=by
  obtain⟨h0,h1,a,cap,rfl,hz⟩:=h
  refine⟨by omega,by omega,a,cap,rfl,?_⟩
  rcases hz with hz|hz
  · left;omega
  · exact .inr hz
theorem ZgW{v:Value}{n:Int}{q:Nat}{c:Int->Value}(h:Row w v 1 n c)(hq:(q:Int)<=n):Row w (TP v q) 1 q c:=by
  refine⟨Zcl h.slh hq,fun k hk=> ?_⟩
  have h2:=h.2 k (by omega)
  obtain⟨_,_,a,cap,rfl,_⟩:=h.slh
  cases a<;>exact h2
theorem Zd3{v:Value}{n i:Int}(q:Nat)(ht:ZK P T=some (E,1))(hv:Slh v n)(hq:(q:Int)=i:=by omega)(hn:0<n:=by omega)(h1:i<=n:=by omega)(ho:o.op= .slice T x (some y) none none:=by exact rfl)(hx:evL L x=some v:=by exact rfl)(hy:evL L y=some (.int .i64 i):=by exact rfl):
    Runs P L w o (.value (Xd v q)) w:=fun ρ h=>by
  obtain⟨hu,inf,hin,hsz⟩:=Z6 ht
  obtain⟨_,_,a,cap,rfl,hz⟩:=hv
  subst hq
  have hb:(Instr.sliceBounds true n.toNat cap (some (.int .i64 (q:Int))) none none).run P w= .ok (q,n.toNat,cap) w:=by
    simp [Instr.sliceBounds,Instr.sliceBound,asIntOf]
    omega
  have e:(Instr.sliceAt T (.slice a n.toNat cap) (some (.int .i64 (q:Int))) none none).run P w= .ok (Xd (.slice a n.toNat cap) q) w:=by
    unfold Instr.sliceAt
    simp only [Sem.run_bind,run_underlying hu,Result.andThen_ok,Instr.slice,hb]
    simp [sizeOf,typeInfo,hin,hsz,Xd]
    rcases hz with hz|⟨b,off,rfl⟩
    · omega
    · by_cases hc:cap=q
      · simp [hc]
      · simp [hc,Addr.add_eq]
  simp [execOp,ho,h _ _ hx,h _ _ hy,e]
theorem Zbs{v:Value}{n i:Int}(q:Nat)(ht:ZK P T=some (E,1))(hv:Slh v n)(hr:Wg v)(hq:(q:Int)=i:=by omega)(hn:0<n:=by omega)(h1:i<=n:=by omega)(ho:o.op= .slice T x none (some y) none:=by exact rfl)(hx:evL L x=some v:=by exact rfl)(hy:evL L y=some (.int .i64 i):=by exact rfl):
    Runs P L w o (.value (TP v q)) w:=fun ρ h=>by
  obtain⟨hu,inf,hin,hsz⟩:=Z6 ht
  obtain⟨_,_,a,cap,rfl,hz⟩:=hv
  have hc:=hr _ _ _ rfl
  subst hq
  have hb:(Instr.sliceBounds true n.toNat cap none (some (.int .i64 (q:Int))) none).run P w= .ok (0,q,cap) w:=by
    simp [Instr.sliceBounds,Instr.sliceBound,asIntOf]
    omega
  have e:(Instr.sliceAt T (.slice a n.toNat cap) none (some (.int .i64 (q:Int))) none).run P w= .ok (TP (.slice a n.toNat cap) q) w:=by
    unfold Instr.sliceAt
    simp only [Sem.run_bind,run_underlying hu,Result.andThen_ok,Instr.slice,hb]
    rcases hz with hz|⟨b,off,rfl⟩
    · omega
    · simp [sizeOf,typeInfo,hin,hsz,TP,Addr.add]
  simp [execOp,ho,h _ _ hx,h _ _ hy,e]
def cpy(q:Nat)(r:Int)(d c:Int->Value):Int->Value:=fun k=>if(q:Int)<=k/\k<q+r then d (k-q) else c k
theorem Ty{v D u:Value}{n m r:Int}{q:Nat}{c d:Int->Value}(i:Nat)(ho:o.op= .call {callee:= .builtin .copy,args:= #[x,y],argTypes:= #[T,T']})(ht:ZK P T=some (E,1))(hx:evL L x=some D)(hy:evL L y=some u)(hS:Sat w0 w l)(hi:l[i]? =some (.own v 1 E n c))(hD:D=Xd v q\/(D=v/\q=0))
    (hR:Row w u 1 m d) (hq:(q:Int)<n) (hm:0<m) (hr:r=min (n-q) m) (h1:∀k,0<=k->k<m->(d k).oneCell'=true):
    ∃rv w',Runs P L w o (.value rv) w'/\rv= .int .i64 r/\Sat w0 w' (l.set i (.own v 1 E n (cpy q r d c))):=by
  obtain⟨hu,inf,hin,hsz⟩:=Z6 ht
  have hS':=hS
  rw [Z0 hi] at hS'
  rw [YA hi]
  have x5:(P.info? E).map (·.size)=some 1:=by rw [hin];simp [hsz]
  have hg:=hS'.get
  obtain⟨_,_,a,cap,rfl,hz⟩:=hR.slh
  rcases hz with hz|⟨b,off,rfl⟩
  · omega
  obtain⟨_,_,⟨rfl,hz⟩|⟨g,cap',cur,rfl,hh,h2,h3,h4,h5⟩⟩:=hg
  · omega
  obtain⟨dCap,rfl⟩:∃dCap,D= .slice (some ⟨g,q,none⟩) (n.toNat-q) dCap:=by
    rcases hD with rfl|⟨rfl,rfl⟩
    · exact⟨cap'-q,by unfold Xd;dsimp only;rw [if_neg (by omega)];simp⟩
    · exact⟨cap',by simp⟩
  have done:∀{w':World} (r:Value),(Builtin.copy_ #[T,T'] 0 #[.slice (some ⟨g,q,none⟩) (n.toNat-q) dCap,.slice (some ⟨b,off,none⟩) m.toNat cap]).run P w= .ok r w'->Runs P L w o (.value r) w':=fun r hr ρ h=>by
    have hr':∀ty,(Builtin.copy_ #[T,T'] ty #[.slice (some ⟨g,q,none⟩) (n.toNat-q) dCap,.slice (some ⟨b,off,none⟩) m.toNat cap])=Builtin.copy_ #[T,T'] 0 #[.slice (some ⟨g,q,none⟩) (n.toNat-q) dCap,.slice (some ⟨b,off,none⟩) m.toNat cap]:=fun _=>rfl
    simp [execOp,ho,resolve,invoke,builtin,h _ _ hx,h _ _ hy,hr',hr]
  have hl:=YE d r.toNat
  have hr:=run_copy_row (P:=P) w T T' 0 E g q (n.toNat-q) dCap ⟨b,off,none⟩ m.toNat cap cur E (cellsOf d r.toNat) hu x5 hh (by rw [hl];show r.toNat=min m.toNat (n.toNat-q);omega) (fun j t hj=>by
    rw [cellsOf_get] at hj
    split at hj
    · rename_i hlt
      cases hj
      have:=hR.2 j (by omega)
      rw [Addr.add_eq _ rfl]
      simpa [cad] using this
    · cases hj) (by rw [hl,h4];omega) (fun t ht=>by
    obtain⟨j,hj⟩:=List.getElem?_of_mem ht
    rw [cellsOf_get] at hj
    split at hj
    · cases hj;exact h1 _ (by omega) (by omega)
    · cases hj)
  rw [hl] at hr
  refine⟨_,_,done _ hr,by simp [goInt];omega,?_⟩
  refine hS'.turn (fun k _ hk=> ?_) rfl rfl rfl (by simp [World.setRow]) ⟨by omega,by omega,.inr ⟨g,cap',_,rfl,setRow_heap w g cur _ E _ hh,h2,h3,?_,fun k hk=> ?_⟩⟩ (fun _ h=> .inl h)
  · have:k≠g:=fun e=>hk (by rw [e];rfl)
    simp [World.setRow,Array.getElem?_modify,Ne.symm this]
  · simp [hl,h4];omega
  · have hk':k<n.toNat:=by omega
    have h6:=h5 k hk
    have ht:(cur.toList.take q).length=q:=by simp [h4];omega
    show(cur.toList.take q++cellsOf d r.toNat++cur.toList.drop (q+r.toNat)).toArray[k]? =_
    rw [List.getElem?_toArray]
    unfold cpy
    by_cases k1:k<q
    · rw [if_neg (by omega),List.getElem?_append_left (by rw [List.length_append,ht];omega),List.getElem?_append_left (by omega),List.getElem?_take,if_pos k1,Array.getElem?_toList];exact h6
    · by_cases k2:k<q+r.toNat
      · rw [if_pos (by omega),List.getElem?_append_left (by rw [List.length_append,ht,hl];omega),List.getElem?_append_right (by omega),ht,cellsOf_get,if_pos (by omega),show(((k-q:Nat)):Int)=(k:Int)-q by omega]
      · rw [if_neg (by omega),List.getElem?_append_right (by rw [List.length_append,ht,hl];omega),List.length_append,ht,hl,List.getElem?_drop,Array.getElem?_toList,show q+r.toNat+(k-(q+r.toNat))=k by omega];exact h6
end
end Go.Proofs.Gw
namespace Go.Proofs.YtkichmnjjblodaaGreat
open Go Go.RowKit Go.Proofs.Gw
theorem Zkg:Zc Tryz.prog 207=true:=by kernel_rfl
theorem X5:Tryz.prog.underlying 259=some (.int .u64):=by kernel_rfl
theorem Ku:Tryz.prog.underlying 3=some (.int .i64):=by kernel_rfl
theorem Wl:(Tryz.prog.underlying 259).isSome=true:=by kernel_rfl
theorem TO:(Tryz.prog.underlying 3).isSome=true:=by kernel_rfl
def cpyI(q:Nat)(r:Int)(d c:Int->Int):Int->Int:=fun k=>if(q:Int)<=k/\k<q+r then d (k-q) else c k
theorem TC(q:Nat)(r:Int)(d c:Int->Int):cpy q r (ints d) (ints c)=ints (cpyI q r d c):=by
  funext k
  by_cases h:(q:Int)<=k/\k<q+r
  · simp only [cpy,ints,cpyI,if_pos h]
  · simp only [cpy,ints,cpyI,if_neg h]
theorem Zm5(n:Int)(h:0<=n/\n<=1000000)(w0:World):Calls Tryz.prog 207 [.int .u64 1,.int .u64 n].toArray w0 fun e w=>∃v,e= .returned v/\v= .tuple #[.int .u64 0,.int .u64 n]/\Sat w0 w []:=by
  obtain⟨k,rfl⟩:=Int.eq_ofNat_of_zero_le h.1
  have hm:=Tryz.bits_Mul 1 k (by decide) (by omega) w0
  refine hm.mono fun e w ⟨he,hw⟩=>⟨_,he,?_,by rw [hw];exact Sat.start _⟩
  rw [Nat.one_mul,Nat.div_eq_of_lt (by omega),Nat.mod_eq_of_lt (by omega)];rfl
theorem ZfR{v:Value}{f:Int->Int}{n:Int}(w0:World)(hR:Row w0 v 1 1 (ints f))(hn:1<=n/\n<=1000):
    Calls Tryz.prog 189 [v,.int .i64 n].toArray w0 fun e w=>∃v,e= .returned v/\∃r,v=r/\Slh r n/\Sat w0 w [.own r 1 3 n (ints fun _=>f 0)]:=by
  refine zenG Tryz.func189 Tryz.ntmps189 fun w hS=> ?_
  refine zsr<|(zP)<|zx5<|(zP)<|(zV (xkf Z4))<|zlt<|zcf<|zsk<|ztn<|zsr ?_
  refine(zP)<|(zV (xln Zb hR.slh))<|(zV (xcv TO X5))<|(zP)<|(zV (xcv TO X5))<|zlc (xc0 Zkg) (Zm5 n (by omega) w) ?_;rintro _ w ⟨rfl,hS'⟩
  replace hS:=hS.cmp hS';clear hS'
  refine zs5 ?_
  refine zx5<|(zP)<|(zV (xkf Ys))<|(zP)<|(zP)<|(zV (xkf Ys))<|(zP)<|zlt<|zcf<|zsk<|ztn<|zsr ?_
  refine(zP)<|(zV (xcv Wl Ku))<|zla (xmk Zb Zt hS) ?_;rintro v1 w ⟨hS,hv1⟩
  refine(zP)<|zlz<|(zP)<|(zP)<|R2 rfl rfl rfl (Ty (q:=0) (r:=1) 0 rfl Zb rfl rfl hS rfl (.inr ⟨rfl,rfl⟩) (hR.below hS.below) (by omega) (by omega) (by omega) (fun _ _ _=>rfl)) ?_;rintro _ w ⟨rfl,hS⟩
  replace hS:=hS.recont 0 rfl (d:=ints (cpyI 0 1 f (fun _=>0))) (fun k k0 k1=>congrFun (TC 0 1 f (fun _=>0)) k)
  refine(zP)<|zlt<|zsq<|zbk<|zlp (fun mm M w=>∃(b:Int) (g:Int->Int),mm=((n-b).toNat)/\(1<=b)/\(b<=n)/\(∀k,0<=k->k<b->g k=f 0)/\M= [(4,.slice none 0 0),(7,v1),(8,.int .i64 b)]/\Sat w0 w [.own v1 1 3 n (ints g)]) ⟨1,(cpyI 0 1 f (fun _=>0)),rfl,(by omega),(by omega),?_,rfl,hS⟩ ?_
  ·
   intro k k0 k1;obtain rfl:k=0:=by omega
   rfl
  clear hS w
  rintro mm M w ⟨b,g,rfl,h0,h1,hg,rfl,hS⟩
  refine zx11<|(zP)<|(zP)<|(zV (xln Zb hv1))<|(zP)<|zlt<|Ze ?_ ?_<;>intro hc
  ·
   refine zsk<|ztn<|zbk<|zdst [] [] 1000 mx_ hS ?_;clear hS;intro w hS
   refine zDrv 0 xmv ?_
   obtain⟨q1,hq1⟩:∃q1:Nat,(q1:Int)=b:=⟨b.toNat,by omega⟩
   obtain⟨r1,hr1⟩:∃r1:Int,r1=min (n-b) b:=⟨_,rfl⟩
   refine(zDw 1 xmv)<|(zDw 2 xmv)<|(zDw 3 (Zd3 q1 Zb hv1))<|(zDw 4 xmv)<|(zDw 5 xmv)<|(zDw 6 (Zbs q1 Zb hv1 (hS.holds _ (List.mem_of_getElem? (i:=0) rfl)).roomy))<|Znp 7 rfl rfl rfl rfl (by kernel_rfl) (Ty (q:=q1) (r:=r1) 0 rfl Zb rfl rfl hS rfl (.inl rfl) (ZgW (hS.rowN 0 rfl) (by omega)) (by omega) (by omega) (by omega) (fun _ _ _=>rfl)) ?_;rintro _ w ⟨rfl,hS⟩
   refine⟨⟨fun _=>hS.nl,hS.nl⟩,?_⟩
   refine zDrv 8 (Zh (r:=b+r1)) ?_
   replace hS:=hS.recont 0 rfl (d:=ints (cpyI q1 r1 g g)) (fun k k0 k1=>congrFun (TC q1 r1 g g) k)
   refine(zDw 9 xas)<|zdd<|zbn<|zlq ⟨b+r1,(cpyI q1 r1 g g),rfl,(by omega),(by omega),?_,rfl,hS⟩
   ·
    intro k k0 k1;unfold cpyI;split
    · exact hg _ (by omega) (by omega)
    · exact hg k k0 (by omega)
  refine zx8<|(zP)<|(zP)<|zx1<|zf1 ⟨_,rfl,?_⟩
  obtain rfl:b=n:=by omega
  exact⟨_,rfl,hv1,(hS.recont 0 rfl (d:=ints fun _=>f 0) (fun k k0 k1=>by unfold ints;rw [hg k k0 (by omega)])).pk [0]⟩
end Go.Proofs.YtkichmnjjblodaaGreat
