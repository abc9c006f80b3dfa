import Derived.Test.YtkichmnjjblodaaGreatPeA
set_option linter.unusedVariables false
set_option linter.unusedSimpArgs false
set_option maxRecDepth 20000
set_option maxHeartbeats 4000000
namespace Go.Proofs.YtkichmnjjblodaaGreat
open Go Go.RowKit Go.Proofs.Gw
variable {ln:Oe} {f:Of} {vv:Int->Value} {v:Value}
theorem Zcw:Zc Oj 184=true:=Ob
theorem Zcu:Zc Oj 204=true:=Ob
theorem Zam:Zc Oj 225=true:=Ob
theorem ZkU:Zc Oj 226=true:=Ob
theorem ZkR:Zc Oj 233=true:=Ob
theorem ZkQ:Zc Oj 234=true:=Ob
theorem ZkP:Zc Oj 235=true:=Ob
theorem ZkO:Zc Oj 236=true:=Ob
theorem Z9:ZV Oj 22=some (Og,1,24):=Ob
theorem fd_265_0:Zv Oj 265 0=some 0:=Ob
theorem fd_265_1:Zv Oj 265 1=some 1:=Ob
theorem fd_265_2:Zv Oj 265 2=some 2:=Ob
theorem fd_265_3:Zv Oj 265 3=some 3:=Ob
theorem fd_265_4:Zv Oj 265 4=some 4:=Ob
theorem mx_:Tryz.prog.follows .mixedOrders=true:=Ob
theorem Zs:ZR Oj 83=true:=Ob
theorem Zmf{n q:Int}{f:Oe}{O:Addr}(w0:World)(J:Row w0 v 1 n (ints f))(G:w0.cell? O=some (.int Oh q))(V:0<=q/\q<=100):
   Calls Oj 236 [v,.pointer (some O)].toArray w0 fun e w=>∃v,e= .returned v/\v=B (¬(n=q+1/\Btw f n 1073741824))/\Sat w0 w []:=by
 have U:=J.cf.n1
 refine zenG Tryz.func236 Tryz.ntmps236 fun w D=> ?_
 refine zsr<|(zP)<|zlz<|(zP)<|(zV (xln Zb J.cf))<|(zV (xlf pl_3 G D))<|(zV (Zg (r:=q+1)))<|(Om)<|zlb 9 ?_ ?_<;>intro hc
 ·
  iterate 3 refine zlo ?_
  refine(Om)<|zx1<|Oi ?_
  exact⟨ZT Oa,D⟩
 refine(zP)<|zlc (xc0 Zam) (VA (n:=n) (m:=1073741824) (f:=f) w (J.below D.below) Oa) ?_;rintro _ w ⟨rfl,F⟩
 replace D:=D.cmp F;clear F
 refine(On)<|zx1<|Oi ?_
 exact⟨Zn (by exact⟨fun h I=>h I.2,fun h I=>h ⟨by omega,I⟩⟩),D⟩
theorem ZmE{n q:Int}{U:Addr}(w0:World)(hM:MAt w0 v n vv ln f)(G:w0.cell? U=some (.int Oh q))(X:0<=q/\q<=100):
   Calls Oj 204 [v,.func (.func 236) #[] #[.pointer (some U)]].toArray w0 fun e w=>∃v,e= .returned v/\∃r:Int,v= .int Oh r/\((r= -1/\∀k,0<=k->k<n->¬(¬((ln k)=q+1/\Btw (f k) (ln k) 1073741824)))\/(0<=r/\r<n/\(¬((ln r)=q+1/\Btw (f r) (ln r) 1073741824))))/\Sat w0 w []:=by
 have hn:=hM.row.cf.n0;have Y:=hM.row.cf.n1
 refine zenG Tryz.func204 Tryz.ntmps204 fun w D=> ?_
 refine zsr<|(zP)<|zx5<|(zP)<|(zV (xln Zi hM.row.cf))<|(zP)<|zx6<|zlp (fun W M w=>∃(i:Int),W=((n-i).toNat)/\(0<=i)/\(i<=n)/\(∀k,0<=k->k<i->¬(¬((ln k)=q+1/\Btw (f k) (ln k) 1073741824)))/\M= [(0,v),(1,.func (.func 236) #[] #[.pointer (some U)]),(7,.int Oh n),(8,.int Oh i)]/\Sat w0 w []) ⟨0,rfl,Oa,Oa,?_,rfl,D⟩ ?_
 ·
  intro k O h1;omega
 clear D w
 rintro W M w ⟨i,rfl,O,h1,V,rfl,D⟩
 refine zsr<|(zP)<|zx7<|Ze ?_ ?_<;>intro hc
 ·
  refine zx3<|(Om)<|zlz<|(On)<|(zV (xix (kk:=i) Zi hM.row.cf))<|(zV (xlr (u:=(vv i)) pl_22 (hM.row.below D.below)))<|zlc (xcc (vs:= [_]) ZkO) (Zmf (n:=(ln i)) (q:=q) (f:=(f i)) w ((hM.p i Oa Oa).below D.below) (D.ref G) X) ?_;rintro _ w ⟨rfl,F⟩
  replace D:=D.cmp F;clear F
  refine zlt<|Ze ?_ ?_<;>intro hc
  ·
   refine zsr<|(Om)<|zx2<|Oi ?_
   exact⟨i,rfl,.inr ⟨by omega,Oa,‹¬((ln i)=q+1/\Btw (f i) (ln i) 1073741824)›⟩,D⟩
  refine zx4<|(zV (Zg (r:=i+1)))<|(zP)<|zln<|zlq ⟨i+1,rfl,Oa,Oa,?_,rfl,D⟩
  ·
   intro k J Z;rcases Int.lt_or_eq_of_le (show k<=i by omega) with I|I;exact V k J I;rw [I];assumption
 refine zx8<|(zP)<|zx1<|Oi ?_
 exact⟨-1,rfl,.inl ⟨rfl,fun k O h1=>V k O Oa⟩,D⟩
theorem ZmQ{n q:Int}{J:Addr}(w0:World)(hM:MAt w0 v n vv ln f)(I:w0.cell? J=some (.int Oh q))(O:0<=q/\q<=100):
   Calls Oj 184 [v,.func (.func 236) #[] #[.pointer (some J)]].toArray w0 fun e w=>∃v,e= .returned v/\v=B (∃k,0<=k/\k<n/\(¬((ln k)=q+1/\Btw (f k) (ln k) 1073741824)))/\Sat w0 w []:=by
 refine zenG Tryz.func184 Tryz.ntmps184 fun w F=> ?_
 refine zsr<|(zP)<|zlz<|(Om)<|zlc (xc0 Zcu) (ZmE w (hM.below F.below) (F.ref I) O) ?_;rintro _ w ⟨X,rfl,G,D⟩
 replace F:=F.cmp D;clear D
 refine(Om)<|zx1<|Oi ?_
 exact⟨Zn (by
  rcases G with⟨h1,h2⟩|⟨h1,h2,h3⟩
  · exact⟨fun h=>Oa,fun⟨k,W,V,U⟩=>absurd U (h2 k W V)⟩
  · exact⟨fun _=>⟨_,h1,h2,h3⟩,fun _=>h1⟩),F⟩
theorem Zme{n q:Int}{f:Oe}{O:Addr}(w0:World)(J:Row w0 v 1 n (ints f))(G:w0.cell? O=some (.int Oh q))(V:0<=q/\q<=100):
   Calls Oj 226 [v,.pointer (some O)].toArray w0 fun e w=>∃v,e= .returned v/\v=B (¬(n=q/\Btw f n 1000000))/\Sat w0 w []:=by
 have U:=J.cf.n1
 refine zenG Tryz.func226 Tryz.ntmps226 fun w D=> ?_
 refine zsr<|(zP)<|zlz<|(zP)<|(zV (xln Zb J.cf))<|(zV (xlf pl_3 G D))<|(Om)<|zlb 8 ?_ ?_<;>intro hc
 ·
  iterate 3 refine zlo ?_
  refine(Om)<|zx1<|Oi ?_
  exact⟨ZT Oa,D⟩
 refine(zP)<|zlc (xc0 Zam) (VA (n:=n) (m:=1000000) (f:=f) w (J.below D.below) Oa) ?_;rintro _ w ⟨rfl,F⟩
 replace D:=D.cmp F;clear F
 refine(On)<|zx1<|Oi ?_
 exact⟨Zn (by exact⟨fun h I=>h I.2,fun h I=>h ⟨by omega,I⟩⟩),D⟩
theorem ZmC{n q:Int}{U:Addr}(w0:World)(hM:MAt w0 v n vv ln f)(G:w0.cell? U=some (.int Oh q))(X:0<=q/\q<=100):
   Calls Oj 204 [v,.func (.func 226) #[] #[.pointer (some U)]].toArray w0 fun e w=>∃v,e= .returned v/\∃r:Int,v= .int Oh r/\((r= -1/\∀k,0<=k->k<n->¬(¬((ln k)=q/\Btw (f k) (ln k) 1000000)))\/(0<=r/\r<n/\(¬((ln r)=q/\Btw (f r) (ln r) 1000000))))/\Sat w0 w []:=by
 have hn:=hM.row.cf.n0;have Y:=hM.row.cf.n1
 refine zenG Tryz.func204 Tryz.ntmps204 fun w D=> ?_
 refine zsr<|(zP)<|zx5<|(zP)<|(zV (xln Zi hM.row.cf))<|(zP)<|zx6<|zlp (fun W M w=>∃(i:Int),W=((n-i).toNat)/\(0<=i)/\(i<=n)/\(∀k,0<=k->k<i->¬(¬((ln k)=q/\Btw (f k) (ln k) 1000000)))/\M= [(0,v),(1,.func (.func 226) #[] #[.pointer (some U)]),(7,.int Oh n),(8,.int Oh i)]/\Sat w0 w []) ⟨0,rfl,Oa,Oa,?_,rfl,D⟩ ?_
 ·
  intro k O h1;omega
 clear D w
 rintro W M w ⟨i,rfl,O,h1,V,rfl,D⟩
 refine zsr<|(zP)<|zx7<|Ze ?_ ?_<;>intro hc
 ·
  refine zx3<|(Om)<|zlz<|(On)<|(zV (xix (kk:=i) Zi hM.row.cf))<|(zV (xlr (u:=(vv i)) pl_22 (hM.row.below D.below)))<|zlc (xcc (vs:= [_]) ZkU) (Zme (n:=(ln i)) (q:=q) (f:=(f i)) w ((hM.p i Oa Oa).below D.below) (D.ref G) X) ?_;rintro _ w ⟨rfl,F⟩
  replace D:=D.cmp F;clear F
  refine zlt<|Ze ?_ ?_<;>intro hc
  ·
   refine zsr<|(Om)<|zx2<|Oi ?_
   exact⟨i,rfl,.inr ⟨by omega,Oa,‹¬((ln i)=q/\Btw (f i) (ln i) 1000000)›⟩,D⟩
  refine zx4<|(zV (Zg (r:=i+1)))<|(zP)<|zln<|zlq ⟨i+1,rfl,Oa,Oa,?_,rfl,D⟩
  ·
   intro k J Z;rcases Int.lt_or_eq_of_le (show k<=i by omega) with I|I;exact V k J I;rw [I];assumption
 refine zx8<|(zP)<|zx1<|Oi ?_
 exact⟨-1,rfl,.inl ⟨rfl,fun k O h1=>V k O Oa⟩,D⟩
theorem ZmO{n q:Int}{J:Addr}(w0:World)(hM:MAt w0 v n vv ln f)(I:w0.cell? J=some (.int Oh q))(O:0<=q/\q<=100):
   Calls Oj 184 [v,.func (.func 226) #[] #[.pointer (some J)]].toArray w0 fun e w=>∃v,e= .returned v/\v=B (∃k,0<=k/\k<n/\(¬((ln k)=q/\Btw (f k) (ln k) 1000000)))/\Sat w0 w []:=by
 refine zenG Tryz.func184 Tryz.ntmps184 fun w F=> ?_
 refine zsr<|(zP)<|zlz<|(Om)<|zlc (xc0 Zcu) (ZmC w (hM.below F.below) (F.ref I) O) ?_;rintro _ w ⟨X,rfl,G,D⟩
 replace F:=F.cmp D;clear D
 refine(Om)<|zx1<|Oi ?_
 exact⟨Zn (by
  rcases G with⟨h1,h2⟩|⟨h1,h2,h3⟩
  · exact⟨fun h=>Oa,fun⟨k,W,V,U⟩=>absurd U (h2 k W V)⟩
  · exact⟨fun _=>⟨_,h1,h2,h3⟩,fun _=>h1⟩),F⟩
theorem Uv{vB O Z:Value}{t:Tb}(w0:World)(J:TAt w0 vB O Z vv t):
   Calls Oj 228 [.agg #[.int Oh t.vars,.int Oh t.den,vB,O,Z]].toArray w0 fun e w=>∃v,e= .returned v/\v=B (TPrp t)/\Sat w0 w []:=by
 have hn:=J.F.cf.n0;have af:=J.F.cf.n1;have hb:=J.B.cf.n0;have ai:=J.B.cf.n1;have ah:=J.C.row.cf.n0;have ag:=J.C.row.cf.n1
 refine zenG Tryz.func228 Tryz.ntmps228 fun w D=> ?_
 refine zsr<|zla (xbx (cs:= [_,_,_,_,_]) D) ?_;rintro _ w ⟨g1,rfl,D⟩
 refine(zP)<|zx7<|zdst [0] [0] 7 mx_ D ?_;clear D;intro w D
 refine(zDw 0 (xfb 3 fd_265_3))<|(zDl 1 (fun w D=>(xlb 0 pl_22 D)))<|(zDw 2 (xln Zb J.F.cf))<|(zDw 3 (xfb 2 fd_265_2))<|(zDl 4 (fun w D=>(xlb 0 pl_22 D)))<|(zDw 5 (xln Zb J.B.cf))<|zda 6 (xal (cs:= [_]) Zm D) ?_;rintro _ w ⟨g2,rfl,D⟩
 refine⟨⟨fun _=>D.pk [0],D.pk [0]⟩,?_⟩
 refine zde 7 (xsb 1 pl_3 D) ?_;clear D;rintro w D
 refine⟨⟨fun h=>absurd h (by decide),D.pk [0]⟩,?_⟩
 refine(zDw 8 xas)<|zdd<|ztn<|zsq<|zsr ?_
 refine(zV (xlb 1 pl_3 D))<|(Om)<|zlb 16 ?_ ?_<;>intro hc;rotate_left
 refine(zV (xlb 1 pl_3 D))<|(On)<|zlb 20 ?_ ?_<;>intro hc;rotate_left
 refine zs4 ?_
 refine zlb 24 ?_ ?_<;>intro hc;rotate_left
 refine(zV (xfb 0 fd_265_0))<|(zV (xlb 0 pl_3 D))<|(zV (xlb 1 pl_3 D))<|(On)<|zlb 30 ?_ ?_<;>intro hc;rotate_left
 refine(zV (xfb 1 fd_265_1))<|(zV (xlb 0 pl_3 D))<|(On)<|zlb 35 ?_ ?_<;>intro hc;rotate_left
 refine(zV (xfb 1 fd_265_1))<|(zV (xlb 0 pl_3 D))<|(On)<|zlb 40 ?_ ?_<;>intro hc;rotate_left
 refine(zV (xfb 4 fd_265_4))<|(zV (xlb 0 Zs D))<|(zV (xln Zi J.C.row.cf))<|(zP)<|(zV (Zg (r:=t.nb+1)))<|(Om)<|zlt<|Ze ?_ ?_<;>intro hc
 ·
  refine zsr<|(zP)<|zx14<|Oi ?_
  exact⟨false_B (by intro F;have b1:=F.n1;have b2:=F.n2;have b3:=F.m2;have b4:=F.v;have b5:=F.d1;have b6:=F.d2;have b7:=F.c;first|omega|(have X:=(Wd Oa Y).2 (F.perm.congr fun k I U=>(Kj t.nf t.nb t.F t.B I).symm) i Oa Oa;omega)),D.nl⟩
 refine ZM<|(zV (xfb 3 fd_265_3))<|(zV (xlb 0 pl_22 D))<|(zV (xfb 2 fd_265_2))<|(zV (xlb 0 pl_22 D))<|zla (xli (n:=2) (len:=2) (pv:= [(0,O),(1,vB)]) (cs:= [O,vB]) (c:=(Yh O vB)) Zi Z9 D (hf:=by obtain⟨_,_,_,_,rfl,_⟩:=J.F.cf;obtain⟨_,_,_,_,rfl,_⟩:=J.B.cf;kernel_rfl)) ?_;rintro v1 w ⟨D,ae⟩
 have ab:=Zow (w:=w) (a:=O) (b:=vB) (n:=t.nf) (m:=t.nb) (f:=t.F) (g:=t.B) (D.c7 2 rfl) (J.F.below D.below) (J.B.below D.below)
 have aa:∀k:Int,0<=k->k<=2->tot (Yh t.nf t.nb) k.toNat<=100000:=fun k I U=>by
   have:k=0\/k=1\/k=2:=Oa
   rcases this with rfl|rfl|rfl
   · simp [tot]
   · simp [tot,Yh];omega
   · have e2:=ZhA t.nf t.nb;rw [show(2:Int).toNat=2 from rfl,e2];omega
 refine zlc (xc0 ZkP) (Zg9 w ab aa) ?_;rintro V w ⟨_,rfl,qb,G⟩
 rw [show(2:Int).toNat=2 from rfl,ZhA] at qb G
 replace D:Sat w0 w [.blk g1 [.int Oh t.vars,.int Oh t.den,vB,O,Z],.blk g2 [.int Oh t.nf],.own v1 1 22 2 (Yh O vB),.own V 1 3 (t.nf+t.nb) (ints (VE (Yh t.nf t.nb) (Yh t.F t.B) 2))]:=D.comp G
 clear G
 refine zlc (xc0 ZkQ) (Zgw (n:=(t.nf+t.nb)) w qb) ?_;rintro _ w ⟨ad,rfl,G⟩
 replace D:=(D.comp G).n5;clear G
 refine zlc (xc0 ZkR) (ZgC (n:=(t.nf+t.nb)) (f:=(VE (Yh t.nf t.nb) (Yh t.F t.B) 2)) w (D.gw 4 rfl rfl) (D.holds _ (List.mem_of_getElem? (i:=3) rfl)) Oa) ?_;rintro W w ⟨_,dH,rfl,qs,Y,G⟩
 replace D:=(D.comp G).n6;clear G
 refine(zP)<|zx5<|(zP)<|(zV (xln Zb qs))<|(zP)<|zx6<|zlp (fun mm M w=>∃(i:Int),mm=((t.nf+t.nb-i).toNat)/\(0<=i)/\(i<=t.nf+t.nb)/\(∀k,0<=k->k<i->dH k=k)/\M= [(1,Oq g1),(3,Oq g2),(56,W),(57,.int Oh (t.nf+t.nb)),(58,.int Oh i)]/\Sat w0 w [.blk g1 [.int Oh t.vars,.int Oh t.den,vB,O,Z],.blk g2 [.int Oh t.nf],.own v1 1 22 2 (Yh O vB),.own V 1 3 (t.nf+t.nb) (ints (VE (Yh t.nf t.nb) (Yh t.F t.B) 2)),.blk ad [V],.own W 1 3 (t.nf+t.nb) (ints dH)]) ⟨0,rfl,Oa,Oa,?_,rfl,D⟩ ?_
 ·
  intro k h0 h1;omega
 clear D w
 rintro mm M w ⟨i,rfl,h0,h1,qa,rfl,D⟩
 refine zsr<|(zP)<|zx7<|Ze ?_ ?_<;>intro hc
 ·
  refine zx3<|(zP)<|(zV (xix (kk:=i) Zb qs))<|(zV (xlr (u:= .int Oh (dH i)) pl_3 (D.c7 5 rfl)))<|(Om)<|zlz<|(On)<|zlt<|Ze ?_ ?_<;>intro hc
  ·
   refine zsr<|(zP)<|zx2<|Oi ?_
   exact⟨false_B (by intro F;have b1:=F.n1;have b2:=F.n2;have b3:=F.m2;have b4:=F.v;have b5:=F.d1;have b6:=F.d2;have b7:=F.c;first|omega|(have X:=(Wd Oa Y).2 (F.perm.congr fun k I U=>(Kj t.nf t.nb t.F t.B I).symm) i Oa Oa;omega)),D.nl⟩
  refine zx4<|(zV (Zg (r:=i+1)))<|(zP)<|zln<|zlq ⟨i+1,rfl,Oa,Oa,?_,rfl,D⟩
  ·
   intro k ac aj;rcases Int.lt_or_eq_of_le (show k<=i by omega) with hk|hk;exact qa k ac hk;rw [hk];omega
 refine zx8<|(zV (xfb 4 fd_265_4))<|(zV (xlb 0 Zs D))<|(zV xmf)<|zlc (xc0 Zcw) (ZmQ (n:=t.nc) (q:=t.nf) (vv:=vv) (ln:=t.ln) (f:=t.C) w (J.C.below D.below) (D.gw 1 rfl rfl) Oa) ?_;rintro _ w ⟨rfl,G⟩
 replace D:=D.cmp G;clear G
 refine(Om)<|zx1<|Oi ?_
 refine⟨Zn ⟨fun hx=> ?_,fun F hx=> ?_⟩,D.nl⟩
 · refine⟨by omega,Oa,Oa,Oa,Oa,Oa,Oa,((Wd Oa Y).1 fun k I U=>qa k I Oa).congr fun k I U=>Kj t.nf t.nb t.F t.B I,fun k I U=> ?_⟩
   have hy:=Oc fun hh=>hx ⟨k,I,U,hh⟩
   exact⟨hy.1,hy.2⟩
 · obtain⟨k,I,U,hh⟩:=hx
   have hr:=F.rows k I U
   exact hh ⟨hr.1,hr.2⟩
 all_goals
  refine zOps ?_
  refine zlt<|zct<|zsr ?_
  refine zOps ?_
  refine zx14<|Oi ?_
  exact⟨false_B (by intro F;have b1:=F.n1;have b2:=F.n2;have b3:=F.m2;have b4:=F.v;have b5:=F.d1;have b6:=F.d2;have b7:=F.c;first|omega|(have X:=(Wd Oa Y).2 (F.perm.congr fun k I U=>(Kj t.nf t.nb t.F t.B I).symm) i Oa Oa;omega)),D.nl⟩
end Go.Proofs.YtkichmnjjblodaaGreat
namespace Go.Proofs.YtkichmnjjblodaaGreat
open Go Go.RowKit Go.Proofs.Gw
theorem Zf3:Zc Oj 227=true:=Ob
theorem Zal:Zc Oj 228=true:=Ob
theorem Zz:ZC Oj 265=some 5:=Ob
theorem Ux{v:Value}{n:Int}{vv:Int->Value}{ln:Oe}{f:Of}(w0:World)(hM:MAt w0 v n vv ln f)(aa:n<=1000)(U:∀k,0<=k->k<n->ln k<=1000):
   Calls Oj 229 [v].toArray w0 fun e w=>∃v,e= .returned v/\∃I V,v=I/\Slh I n/\Sat w0 w [.own I 1 22 n V,.sem (Frame.rows 3 n V ln f)]:=by
 have hn:=hM.row.cf.n0;have ab:=hM.row.cf.n1
 refine zenG Tryz.func229 Tryz.ntmps229 fun w D=> ?_
 refine zsr<|(zP)<|zlz<|(zP)<|(zV (xln Zi hM.row.cf))<|zla (xmk Zi Z9 D) ?_;rintro J w ⟨D,F⟩
 refine(zP)<|zx5<|(zP)<|(zV (xln Zi hM.row.cf))<|(zP)<|zx6 ?_
 replace D:=D.fa 3 (fun _=>Og) ln f
 refine zlp (fun W M w=>∃(c:Int->Value) (i:Int),W=((n-i).toNat)/\(0<=i)/\(i<=n)/\M= [(2,Og),(3,J),(9,v),(10,.int Oh n),(11,.int Oh i)]/\Sat w0 w [.own J 1 22 n c,.sem (Frame.rows 3 i c ln f)]) ⟨(fun _=>Og),0,rfl,Oa,Oa,rfl,D⟩ ?_
 clear D w
 rintro W M w ⟨c,i,rfl,Z,h1,rfl,D⟩
 have qG:=fun k (Y:0<=k) (X:k<i)=>D.db 1 rfl Y X
 refine zsr<|(zP)<|zx7<|Ze ?_ ?_<;>intro hc
 ·
  refine zx3<|(zP)<|(zV (xix (kk:=i) Zi hM.row.cf))<|zlv (xlr (u:=(vv i)) pl_22 (hM.row.below D.below)) ?_
  have ac:=U i Z Oa;have ad:=(hM.p i Z Oa).cf.n0
  refine(Om)<|zlz<|(On)<|(zV (xln Zb (hM.p i Oa Oa).cf))<|zla (xmk Zb Zm D) ?_;rintro G w ⟨D,O⟩
  refine(zV (xix (kk:=i) Zi F))<|zle (xso 0 pl_22 D rfl (hv:=O.one)) ?_;clear D;rintro w D
  refine zlt<|zrg<|(Om)<|(zV (xix (kk:=i) Zi F))<|(zV (xlr (u:=G) pl_22 (D.c7 0 rfl) (e:=(gu_self _ _ _))))<|(zP)<|KA rfl rfl rfl (Uq 2 rfl Zb rfl rfl D rfl ((hM.p i Oa Oa).below D.below) (fun _ _ _=>rfl)) ?_;rintro _ w ⟨rfl,D⟩
  replace D:=Sat.merge (l1:= [.own J 1 22 n (upd c i (G))]) (l2:= []) (l3:= []) D Oa
  replace D:=D.gj (vv':=upd c i (G)) (ln':=ln) (f':=f) 1 rfl (fun k Y X=>by
    by_cases e:k<i
    · rw [Zp e,Zp e,Zp e];exact⟨(gu_ne Oa).symm,rfl,fun _ _ _=>rfl⟩
    · obtain rfl:i=k:=Oa;rw [YE,YE,YE];exact⟨(gu_self _ _ _).symm,rfl,fun _ _ _=>rfl⟩)
  refine zx10<|(zV (Zg (r:=i+1)))<|(zP)<|zln<|zlq ⟨upd c i (G),i+1,rfl,Oa,Oa,rfl,D⟩
 refine zx8<|(Om)<|zx1<|Oi ?_
 obtain rfl:i=n:=Oa
 exact⟨_,_,rfl,F,D⟩
theorem Zmu{vB Z vC:Value}{vv:Int->Value}{t:Tb}(w0:World)(F:TAt w0 vB Z vC vv t):
   Calls Oj 217 [.agg #[.int Oh t.vars,.int Oh t.den,vB,Z,vC]].toArray w0 fun e w=>∃v,e= .returned v/\∃r c d e,v= .tuple #[.int Oh r,.int Oh c,.bool d,.int Oh e]/\NextR t r c d e/\Sat w0 w []:=by
 have hn:=F.F.cf.n0;have ab:=F.F.cf.n1;have hb:=F.B.cf.n0;have aj:=F.B.cf.n1;have ai:=F.C.row.cf.n0;have ah:=F.C.row.cf.n1
 refine zenG Tryz.func217 Tryz.ntmps217 fun w D=> ?_
 refine zsr<|zla (xbx (cs:= [_,_,_,_,_]) D) ?_;rintro _ w ⟨g1,rfl,D⟩
 refine zs4 ?_
 refine zx5<|(zV (xls 0 Zz D))<|zlc (xc0 Zal) (Uv (t:=t) w (F.below D.below)) ?_;rintro _ w ⟨rfl,O⟩
 replace D:=D.cmp O;clear O
 refine(Om)<|zlb 17 ?_ ?_<;>intro hc
 ·
  iterate 7 refine zlo ?_
  refine(zP)<|zlt<|zct<|zsr ?_
  refine zs4 ?_
  refine zx14<|zf4 ⟨_,rfl,?_⟩
  refine⟨_,_,_,_,rfl,.inl ⟨?_,rfl,rfl,rfl,rfl⟩,D.nl⟩
  first|exact fun Y=>absurd Y.1 ‹_›|(rintro⟨_,W⟩;obtain⟨k,k0,k1,k2⟩:=yO;have:=W (k+1) Oa Oa;omega)
 refine zlv (xfb 4 fd_265_4) ?_
 have I:=(Oc ‹¬¬(TPrp t)›)
 have b1:=I.n1
 have b2:=I.n2
 have b3:=I.m2
 have b4:=I.v
 have b5:=I.d1
 have b6:=I.d2
 have b7:=I.c
 have af:=I.len (i:=0) Oa Oa
 refine(zV (xlb 0 Zs D))<|(zV (xix (kk:=0) Zi F.C.row.cf))<|(zV (xlr (u:=(vv 0)) pl_22 (F.C.row.below D.below)))<|Rk rfl rfl rfl (YR (q:=1) rfl Zb rfl rfl rfl (F.C.p 0 Oa Oa).cf rfl Oa Oa) ?_
 refine zlc (xc0 Zf3) (ZjN (n:=((t.ln 0)-1)) (f:=(fun k=>(t.C 0) (k+1))) w ((Xb (q:=1) (F.C.p 0 Oa Oa).cf (F.C.room 0 Oa Oa) Oa).row Oa ((F.C.p 0 Oa Oa).below D.below)) Oa) ?_;rintro _ w ⟨x1,rfl,yO,y8,O⟩
 replace D:=D.cmp O;clear O
 refine(Om)<|zlt<|Ze ?_ ?_<;>intro hc
 ·
  refine zsr<|zs4 ?_
  refine zx14<|zf4 ⟨_,rfl,?_⟩
  refine⟨_,_,_,_,rfl,.inl ⟨?_,rfl,rfl,rfl,rfl⟩,D.nl⟩
  first|exact fun Y=>absurd Y.1 ‹_›|(rintro⟨_,W⟩;obtain⟨k,k0,k1,k2⟩:=yO;have:=W (k+1) Oa Oa;omega)
 refine ZM<|(zP)<|zx5<|(zV (xfb 2 fd_265_2))<|(zV (xlb 0 pl_22 D))<|(zV (xln Zb F.B.cf))<|(zP)<|zx6<|zlp (fun X M w=>∃(r:Int) (i:Int),X=((t.nb-i).toNat)/\(0<=i)/\(i<=t.nb)/\(r=Z3 t i.toNat)/\M= [(1,Oq g1),(2,.int Oh r),(3,.int Oh 0),(4,.bool false),(5,.int Oh 0),(27,vB),(28,.int Oh t.nb),(29,.int Oh i)]/\Sat w0 w [.blk g1 [.int Oh t.vars,.int Oh t.den,vB,Z,vC]]) ⟨(-1),0,rfl,Oa,Oa,?_,rfl,D⟩ ?_
 ·
  rfl
 clear D w
 rintro X M w ⟨r,i,rfl,h0,h1,hr,rfl,D⟩
 have J:=YX t i.toNat;rw [<-hr] at J
 refine zsr<|(zP)<|zx7<|Ze ?_ ?_<;>intro hc
 ·
  refine zx3<|(zP)<|(zV (xix (kk:=i) Zb F.B.cf))<|(zV (xlr (u:= .int Oh (t.B i)) pl_3 (F.B.below D.below)))<|(Om)<|zlz<|(zV (xfb 4 fd_265_4))<|(zV (xlb 0 Zs D))<|(zP)<|(zV (Zg (r:=i+1)))<|(zV (xix (kk:=i+1) Zi F.C.row.cf))<|zlv (xlr (u:=(vv (i+1))) pl_22 (F.C.row.below D.below)) ?_
  have xV:=I.len (i:=i+1) Oa Oa
  refine(zV (xix (kk:=0) Zb (F.C.p (i+1) Oa Oa).cf))<|(zV (xlr (u:= .int Oh ((t.C (i+1)) 0)) pl_3 ((F.C.p (i+1) Oa Oa).below D.below)))<|(Om)<|zlb 43 ?_ ?_<;>intro hc
  ·
   refine zs3 ?_
   have J:=YX t i.toNat;rw [<-hr] at J
   refine zlb 46 ?_ ?_<;>intro hc
   ·
    iterate 7 refine zlo ?_
    refine(Om)<|zlt<|zct<|zrg ?_
    refine(Om)<|zx10<|(zV (Zg (r:=i+1)))<|(zP)<|zln<|zlq ⟨i,i+1,rfl,Oa,Oa,?_,rfl,D⟩
    ·
     rw [Xh t h0,<-hr];split<;>omega
   refine(zP)<|(zV (xfb 2 fd_265_2))<|(zV (xlb 0 pl_22 D))<|(zP)<|(zV (xix (kk:=r) Zb F.B.cf))<|(zV (xlr (u:= .int Oh (t.B r)) pl_3 (F.B.below D.below)))<|(On)<|zlt<|Ze ?_ ?_<;>intro hc
   ·
    refine zrg<|(Om)<|zx10<|(zV (Zg (r:=i+1)))<|(zP)<|zln<|zlq ⟨i,i+1,rfl,Oa,Oa,?_,rfl,D⟩
    ·
     rw [Xh t h0,<-hr];split<;>omega
   refine zx4<|(zV (Zg (r:=i+1)))<|(zP)<|zln<|zlq ⟨r,i+1,rfl,Oa,Oa,?_,rfl,D⟩
   ·
    rw [Xh t h0,<-hr];split<;>omega
  iterate 11 refine zlo ?_
  refine(zP)<|zlt<|zcf<|zsk<|zbn<|ztn<|zrg ?_
  refine(zV (Zg (r:=i+1)))<|(zP)<|zln<|zlq ⟨r,i+1,rfl,Oa,Oa,?_,rfl,D⟩
  ·
   rw [Xh t h0,<-hr];split<;>omega
 refine zx18<|(Om)<|zlt<|Ze ?_ ?_<;>intro hc
 ·
  refine zsr<|zs4 ?_
  refine zx14<|zf4 ⟨_,rfl,?_⟩
  obtain rfl:i=t.nb:=Oa
  exact⟨_,_,_,_,rfl,.inr (.inl ⟨I,(fun j U j1=>by have:=y8 (j-1) Oa Oa;rw [show j-1+1=j by omega] at this;omega),Oa,rfl,rfl,rfl,rfl⟩),D.nl⟩
 refine ZM<|(zP)<|zx7<|zdst [0] [0] 1000 mx_ D ?_;clear D;intro w D
 refine zDrv 0 (xfb 4 fd_265_4) ?_
 have ag:i=t.nb:=Oa
 have J:=YX t i.toNat;rw [<-hr] at J;have ae:=I.len (i:=r+1) Oa Oa
 refine(zDl 1 (fun w D=>(xlb 0 Zs D)))<|(zDw 2 (xix (kk:=0) Zi F.C.row.cf))<|(zDl 3 (fun w D=>(xlr (u:=(vv 0)) pl_22 (F.C.row.below D.below))))<|ZjS 4 rfl rfl rfl rfl (by kernel_rfl) rfl (fun w=>(YR (q:=1) rfl Zb rfl rfl rfl (F.C.p 0 Oa Oa).cf rfl Oa Oa)) ?_
 refine(zDw 5 (xfb 4 fd_265_4))<|(zDl 6 (fun w D=>(xlb 0 Zs D)))<|(zDw 7 xmv)<|(zDw 8 (Zg (r:=r+1)))<|(zDw 9 (xix (kk:=r+1) Zi F.C.row.cf))<|(zDl 10 (fun w D=>(xlr (u:=(vv (r+1))) pl_22 (F.C.row.below D.below))))<|ZjS 11 rfl rfl rfl rfl (by kernel_rfl) rfl (fun w=>(YR (q:=1) rfl Zb rfl rfl rfl (F.C.p (r+1) Oa Oa).cf rfl Oa Oa)) ?_
 refine(zDw 12 xas)<|(zDw 13 xas)<|zdd<|ztn<|zsq<|zsr ?_
 refine(zP)<|(zV (xln Zb (Xb (q:=1) (F.C.p (r+1) Oa Oa).cf (F.C.room (r+1) Oa Oa) Oa).cf))<|(zP)<|zx6<|zlp (fun X M w=>∃(c:Int) (j:Int),X=((t.nf-j).toNat)/\(0<=j)/\(j<=t.nf)/\(c=Xl t r j.toNat)/\M= [(1,Oq g1),(2,.int Oh r),(3,.int Oh c),(4,.bool false),(5,.int Oh 0),(8,(XF (vv 0) 1)),(9,(XF (vv (r+1)) 1)),(72,(XF (vv (r+1)) 1)),(73,.int Oh ((t.ln (r+1))-1)),(74,.int Oh j)]/\Sat w0 w [.blk g1 [.int Oh t.vars,.int Oh t.den,vB,Z,vC]]) ⟨(-1),0,rfl,Oa,Oa,?_,rfl,D⟩ ?_
 ·
  rfl
 clear D w
 rintro X M w ⟨c,j,rfl,U,j1,G,rfl,D⟩
 have V:=Ws t r j.toNat;rw [<-G] at V
 refine zsr<|(zP)<|zx7<|Ze ?_ ?_<;>intro hc
 ·
  refine zx3<|(zP)<|(zV (xix (kk:=j) Zb (Xb (q:=1) (F.C.p (r+1) Oa Oa).cf (F.C.room (r+1) Oa Oa) Oa).cf))<|(zV (xlr (u:= .int Oh ((t.C (r+1)) (j+1))) pl_3 ((Xb (q:=1) (F.C.p (r+1) Oa Oa).cf (F.C.room (r+1) Oa Oa) Oa).row Oa ((F.C.p (r+1) Oa Oa).below D.below))))<|(Om)<|zx5<|(Om)<|zlt<|Ze ?_ ?_<;>intro hc
  ·
   refine zxt<|ztx<|zbh<|ztn<|zrg<|(zV (Zg (r:=j+1)))<|(zP)<|zln<|zlq ⟨c,j+1,rfl,Oa,Oa,?_,rfl,D⟩
   ·
    rw [Yp t r U,<-G];(repeat' split)<;>omega
  refine YL<|zs2 ?_
  have V:=Ws t r j.toNat;rw [<-G] at V
  refine zlt<|Ze ?_ ?_<;>intro hc
  ·
   refine zsq<|zdst [0] [0] 1000 mx_ D ?_;clear D;intro w D
   refine zDrv 0 xmv ?_
   have ad:=Xo (I.cell (i:=0) (j:=j+1) Oa Oa Oa Oa) (I.cell (i:=r+1) (j:=c+1) Oa Oa Oa Oa);have ac:=Xo (I.cell (i:=0) (j:=c+1) Oa Oa Oa Oa) (I.cell (i:=r+1) (j:=j+1) Oa Oa Oa Oa)
   have aa:t.F j≠t.F c:=fun Y=>by have:=I.my (i:=j) (j:=c) Oa Oa Oa Oa Oa Y;omega
   refine(zDw 1 xmv)<|(zDw 2 (xix (kk:=j) Zb (Xb (q:=1) (F.C.p 0 Oa Oa).cf (F.C.room 0 Oa Oa) Oa).cf))<|(zDl 3 (fun w D=>(xlr (u:= .int Oh ((t.C 0) (j+1))) pl_3 ((Xb (q:=1) (F.C.p 0 Oa Oa).cf (F.C.room 0 Oa Oa) Oa).row Oa ((F.C.p 0 Oa Oa).below D.below)))))<|(zDw 4 xmv)<|(zDw 5 xmv)<|(zDw 6 (xix (kk:=c) Zb (Xb (q:=1) (F.C.p (r+1) Oa Oa).cf (F.C.room (r+1) Oa Oa) Oa).cf))<|(zDl 7 (fun w D=>(xlr (u:= .int Oh ((t.C (r+1)) (c+1))) pl_3 ((Xb (q:=1) (F.C.p (r+1) Oa Oa).cf (F.C.room (r+1) Oa Oa) Oa).row Oa ((F.C.p (r+1) Oa Oa).below D.below)))))<|zdv 8 (fun _=>(Z2 (r:=(((t.C 0) (j+1))*((t.C (r+1)) (c+1)))) (e:=rfl) (hr:=(by unfold I64;omega)))) ?_
   refine(zDw 9 xmv)<|(zDw 10 xmv)<|(zDw 11 (xix (kk:=c) Zb (Xb (q:=1) (F.C.p 0 Oa Oa).cf (F.C.room 0 Oa Oa) Oa).cf))<|(zDl 12 (fun w D=>(xlr (u:= .int Oh ((t.C 0) (c+1))) pl_3 ((Xb (q:=1) (F.C.p 0 Oa Oa).cf (F.C.room 0 Oa Oa) Oa).row Oa ((F.C.p 0 Oa Oa).below D.below)))))<|(zDw 13 xmv)<|zdv 14 (fun _=>(Z2 (r:=(((t.C 0) (c+1))*((t.C (r+1)) (j+1)))) (e:=rfl) (hr:=(by unfold I64;omega)))) ?_
   refine(zDw 15 xas)<|(zDw 16 xas)<|zdd<|ztn<|zsq ?_
   refine zdst [0] [0] 1000 mx_ D ?_;clear D;intro w D
   refine(zDw 0 xmv)<|(zDw 1 xmv)<|(zDw 2 Yu)<|(zDw 3 xmv)<|zdb 101 ?_ ?_<;>intro hc
   ·
    refine(zDo 4)<|(zDo 5)<|(zDo 6)<|(zDo 7)<|(zDo 8)<|(zDo 9)<|(zDo 10)<|(zDo 11)<|(zDo 12)<|(zDo 13)<|(zDo 14)<|(zDo 15)<|(zDo 16)<|(zDo 17)<|U8 18 ?_
    refine(zDo 19)<|(zDw 20 xpt)<|zdd<|ztn<|zct<|zxt<|ztx<|zbh<|ztn<|zrg ?_
    refine(zV (Zg (r:=j+1)))<|(zP)<|zln<|zlq ⟨c,j+1,rfl,Oa,Oa,?_,rfl,D⟩
    ·
     rw [Yp t r U,<-G];(repeat' split)<;>omega
   refine(zDw 4 xmv)<|(zDw 5 xmv)<|(zDw 6 YT)<|(zDw 7 xmv)<|zdb 105 ?_ ?_<;>intro hc
   ·
    refine(zDw 8 (xfb 3 fd_265_3))<|(zDl 9 (fun w D=>(xlb 0 pl_22 D)))<|(zDw 10 xmv)<|(zDw 11 (xix (kk:=j) Zb F.F.cf))<|(zDl 12 (fun w D=>(xlr (u:= .int Oh (t.F j)) pl_3 (F.F.below D.below))))<|(zDw 13 (xfb 3 fd_265_3))<|(zDl 14 (fun w D=>(xlb 0 pl_22 D)))<|(zDw 15 xmv)<|(zDw 16 (xix (kk:=c) Zb F.F.cf))<|(zDl 17 (fun w D=>(xlr (u:= .int Oh (t.F c)) pl_3 (F.F.below D.below))))<|(zDw 18 Yu)<|(zDw 19 xpt)<|(zDw 20 xpf)<|zdd<|ztn ?_
    refine Ze ?_ ?_<;>intro hc
    ·
     refine zxt<|ztx<|zbh<|ztn<|zrg<|(zV (Zg (r:=j+1)))<|(zP)<|zln<|zlq ⟨c,j+1,rfl,Oa,Oa,?_,rfl,D⟩
     ·
      rw [Yp t r U,<-G];(repeat' split)<;>omega
    refine zsk<|ztn<|zrg<|(Om)<|zx10<|(zV (Zg (r:=j+1)))<|(zP)<|zln<|zlq ⟨j,j+1,rfl,Oa,Oa,?_,rfl,D⟩
    ·
     rw [Yp t r U,<-G];(repeat' split)<;>omega
   refine(zDo 8)<|(zDo 9)<|(zDo 10)<|(zDo 11)<|(zDo 12)<|(zDo 13)<|(zDo 14)<|(zDo 15)<|(zDo 16)<|(zDo 17)<|(zDo 18)<|(zDw 19 xpf)<|(zDw 20 xpf)<|zdd<|ztn<|zcf<|zsk<|ztn<|zrg ?_
   refine(Om)<|zx10<|(zV (Zg (r:=j+1)))<|(zP)<|zln<|zlq ⟨j,j+1,rfl,Oa,Oa,?_,rfl,D⟩
   ·
    rw [Yp t r U,<-G];(repeat' split)<;>omega
  refine zsk<|ztn<|zrg<|(Om)<|zx10<|(zV (Zg (r:=j+1)))<|(zP)<|zln<|zlq ⟨j,j+1,rfl,Oa,Oa,?_,rfl,D⟩
  ·
   rw [Yp t r U,<-G];(repeat' split)<;>omega
 refine zx18<|(Om)<|zlt<|Ze ?_ ?_<;>intro hc
 ·
  refine zsr<|zs4 ?_
  refine zx14<|zf4 ⟨_,rfl,?_⟩
  obtain rfl:i=t.nb:=Oa
  obtain rfl:j=t.nf:=Oa
  subst hr;exact⟨_,_,_,_,rfl,.inr (.inr (.inl ⟨I,(fun j U j1=>by have:=y8 (j-1) Oa Oa;rw [show j-1+1=j by omega] at this;omega),Oa,Oa,rfl,rfl,rfl,rfl⟩)),D.nl⟩
 refine ZM<|zs6 ?_
 refine zx1<|zf4 ⟨_,rfl,?_⟩
 obtain rfl:i=t.nb:=Oa
 obtain rfl:j=t.nf:=Oa
 subst hr;exact⟨_,_,_,_,rfl,.inr (.inr (.inr ⟨I,(fun j U j1=>by have:=y8 (j-1) Oa Oa;rw [show j-1+1=j by omega] at this;omega),Oa,Oa,rfl,G,rfl,rfl⟩)),D.nl⟩
theorem Zak:Zc Oj 229=true:=Ob
theorem cl_65:Zc Oj 65=true:=Ob
theorem XB:ZV Oj 265=some (.agg #[.int Oh 0,.int Oh 0,Og,Og,Og],5,88):=Ob
theorem ZiS{vB vF vC:Value}{vv:Int->Value}{t:Tb}{row col:Int}(w0:World)(O:TAt w0 vB vF vC vv t)(fP: -9223372036854775808<=row/\row<=9223372036854775807)(gS: -9223372036854775808<=col/\col<=9223372036854775807):
   Calls Oj 218 [.agg #[.int Oh t.vars,.int Oh t.den,vB,vF,vC],.int Oh row,.int Oh col].toArray w0 fun e w=>∃v,e= .returned v/\∃vB vF vC vv t' e,v= .tuple #[.agg #[.int Oh t'.vars,.int Oh t'.den,vB,vF,vC],.int Oh e]/\Zjm t row col t' e/\Slh vB t'.nb/\Slh vF t'.nf/\Slh vC t'.nc/\Sat w0 w [.own vB 1 3 t'.nb (ints t'.B),.own vF 1 3 t'.nf (ints t'.F),.own vC 1 22 t'.nc vv,.sem (Frame.rows 3 t'.nc vv t'.ln t'.C)]:=by
 have hn:=O.F.cf.n0;have aj:=O.F.cf.n1;have hb:=O.B.cf.n0;have ar:=O.B.cf.n1;have aq:=O.C.row.cf.n0;have ap:=O.C.row.cf.n1
 refine zenG Tryz.func218 Tryz.ntmps218 fun w D=> ?_
 refine zsr<|zla (xbx (cs:= [_,_,_,_,_]) D) ?_;rintro _ w ⟨g1,rfl,D⟩
 refine zla (xal (cs:= [_,_,_,_,_]) XB D) ?_;rintro _ w ⟨g2,rfl,D⟩
 refine(zP)<|zx5<|(zV (xls 0 Zz D))<|zlc (xc0 Zal) (Uv (t:=t) w (O.below D.below)) ?_;rintro _ w ⟨rfl,G⟩
 replace D:=D.cmp G;clear G
 refine(Om)<|zlb 23 ?_ ?_<;>intro hc;rotate_left
 refine zlv xmv ?_
 have hp:=(Oc ‹¬¬(TPrp t)›)
 have U:=hp.n1
 have b2:=hp.n2
 have b3:=hp.m2
 have b4:=hp.v
 have b5:=hp.d1
 have b6:=hp.d2
 have b7:=hp.c
 refine(On)<|zlb 27 ?_ ?_<;>intro hc;rotate_left
 refine(zP)<|(zV (xfb 2 fd_265_2))<|(zV (xlb 0 pl_22 D))<|(zV (xln Zb O.B.cf))<|(On)<|zlb 34 ?_ ?_<;>intro hc;rotate_left
 refine zs4 ?_
 refine zlb 38 ?_ ?_<;>intro hc;rotate_left
 refine(zP)<|(zV (xfb 3 fd_265_3))<|(zV (xlb 0 pl_22 D))<|(zV (xln Zb O.F.cf))<|(On)<|zlb 45 ?_ ?_<;>intro hc;rotate_left
 refine(zV (xfb 4 fd_265_4))<|(zV (xlb 0 Zs D))<|(zP)<|(zV (Zg (r:=row+1)))<|(zV (xix (kk:=row+1) Zi O.C.row.cf))<|zlv (xlr (u:=(vv (row+1))) pl_22 (O.C.row.below D.below)) ?_
 have am:=hp.len (i:=row+1) Oa Oa
 refine(zP)<|(zV (Zg (r:=col+1)))<|(zV (xix (kk:=col+1) Zb (O.C.p (row+1) Oa Oa).cf))<|(zV (xlr (u:= .int Oh ((t.C (row+1)) (col+1))) pl_3 ((O.C.p (row+1) Oa Oa).below D.below)))<|(Om)<|zlt<|Ze ?_ ?_<;>intro hc
 ·
  refine zsr<|(zV (xany (v:= .agg #[.int Oh 0,.int Oh 0,Og,Og,Og])))<|zle (xsw 1 Zz D) ?_;clear D;rintro w D
  refine(zP)<|zx14<|ZS 1 Zz D ⟨_,rfl,?_⟩
  exact⟨_,_,_,fun _=>undef,Tb.zero,1,rfl,.inl ⟨by first|exact fun hh=>absurd hh.1 ‹_›|(rintro⟨_,p1,p2,p3,p4,p5⟩;omega),rfl,rfl⟩,slh_nil,slh_nil,slh_nil,((((D.sub (.cons _ (.cons _ .slnil))).cg 1 3 (ints Tb.zero.B)).cg 1 3 (ints Tb.zero.F)).cg 1 22 (fun _=>undef)).fa 3 (fun _=>undef) Tb.zero.ln Tb.zero.C⟩
 refine ZM<|(zP)<|zlv (Zg (r:=row+1)) ?_
 have ab:t.C (row+1) (col+1)≠0:=Oa
 have af:=hp.cell (i:=row+1) (j:=col+1) Oa Oa Oa Oa
 refine(zP)<|(zV (Zg (r:=col+1)))<|(Om)<|zx7<|zdst [0,1] [0,1] 1000 mx_ D ?_;clear D;intro w D
 refine(zDw 0 (xfb 4 fd_265_4))<|(zDl 1 (fun w D=>(xlb 0 Zs D)))<|(zDw 2 xmv)<|(zDw 3 (xix (kk:=row+1) Zi O.C.row.cf))<|(zDl 4 (fun w D=>(xlr (u:=(vv (row+1))) pl_22 (O.C.row.below D.below))))<|(zDw 5 xmv)<|(zDw 6 (xix (kk:=col+1) Zb (O.C.p (row+1) Oa Oa).cf))<|(zDl 7 (fun w D=>(xlr (u:= .int Oh ((t.C (row+1)) (col+1))) pl_3 ((O.C.p (row+1) Oa Oa).below D.below))))<|(zDw 8 (xfb 1 fd_265_1))<|(zDl 9 (fun w D=>(xlb 0 pl_3 D)))<|(zDw 10 xas)<|(zDw 11 xas)<|zdd<|ztn<|zsq<| ?_
 refine WR (fun M w=>∃(g3:Nat) (I:Value) (F:Value) (V:Value) (X:Int->Value),(Slh I t.nb)/\(Slh F t.nf)/\(Slh V t.nc)/\(∀k,0<=k->k<t.nc->Slh (X k) (t.ln k))/\M= [(0,.agg #[.int Oh t.vars,.int Oh t.den,vB,vF,vC]),(1,.int Oh row),(2,.int Oh col),(3,Oq g1),(6,Oq g2),(7,.int Oh 0),(20,.agg #[.int Oh t.vars,.int Oh t.den,vB,vF,vC]),(21,B (TPrp t)),(22,B (¬(TPrp t))),(23,.bool false),(24,.int Oh row),(25,B (row<0)),(26,B (row<0)),(27,.bool false),(28,.int Oh row),(29,.pointer (some ⟨g1,2,none⟩)),(30,vB),(31,.int Oh t.nb),(32,B (t.nb<=row)),(33,B (t.nb<=row)),(34,.bool false),(35,.int Oh col),(36,B (col<0)),(37,B (col<0)),(38,.bool false),(39,.int Oh col),(40,.pointer (some ⟨g1,3,none⟩)),(41,vF),(42,.int Oh t.nf),(43,B (t.nf<=col)),(44,B (t.nf<=col)),(45,.bool false),(46,.pointer (some ⟨g1,4,none⟩)),(47,vC),(48,.int Oh row),(49,.int Oh (row+1)),(50,.pointer (some (cad vC (row+1)))),(51,(vv (row+1))),(52,.int Oh col),(53,.int Oh (col+1)),(54,.pointer (some (cad (vv (row+1)) (col+1)))),(55,.int Oh ((t.C (row+1)) (col+1))),(56,B (((t.C (row+1)) (col+1))=0)),(57,B (((t.C (row+1)) (col+1))=0)),(59,.int Oh row),(60,.int Oh (row+1)),(61,.int Oh col),(62,.int Oh (col+1)),(8,.int Oh (row+1)),(9,.int Oh (col+1)),(63,.pointer (some ⟨g1,4,none⟩)),(64,vC),(65,.int Oh (row+1)),(66,.pointer (some (cad vC (row+1)))),(67,(vv (row+1))),(68,.int Oh (col+1)),(69,.pointer (some (cad (vv (row+1)) (col+1)))),(70,.int Oh ((t.C (row+1)) (col+1))),(71,.pointer (some ⟨g1,1,none⟩)),(72,.int Oh t.den),(10,.int Oh ((t.C (row+1)) (col+1))),(11,.int Oh t.den),(73,Oq g1),(74,.int Oh t.vars),(75,.int Oh ((t.C (row+1)) (col+1))),(76,.pointer (some ⟨g1,2,none⟩)),(77,vB),(79,.pointer (some ⟨g1,3,none⟩)),(80,vF),(82,.pointer (some ⟨g1,4,none⟩)),(83,vC),(78,I),(81,F),(84,V),(85,.agg #[.int Oh t.vars,.int Oh ((t.C (row+1)) (col+1)),I,F,V]),(12,Oq g3)]/\Sat w0 w [.blk g1 [.int Oh t.vars,.int Oh t.den,vB,vF,vC],.blk g2 [.int Oh 0,.int Oh 0,Og,Og,Og],.own I 1 3 t.nb (ints t.B),.own F 1 3 t.nf (ints t.F),.own V 1 22 t.nc X,.sem (Frame.rows 3 t.nc X t.ln t.C),.blk g3 [.int Oh t.vars,.int Oh ((t.C (row+1)) (col+1)),I,F,V]]) ?_ ?_
 ·
  refine zdst [0,1] [0,1] 14 mx_ D ?_;clear D;intro w D
  refine(zDw 0 (xfb 0 fd_265_0))<|(zDl 1 (fun w D=>(xlb 0 pl_3 D)))<|(zDw 2 xmv)<|(zDw 3 (xfb 2 fd_265_2))<|(zDl 4 (fun w D=>(xlb 0 pl_22 D)))<|(zDw 6 (xfb 3 fd_265_3))<|(zDl 7 (fun w D=>(xlb 0 pl_22 D)))<|(zDw 9 (xfb 4 fd_265_4))<|(zDl 10 (fun w D=>(xlb 0 Zs D)))<|Xk (r:= [5,13]) ((Z1 ?_ (Z1 ?_ Xj)))
  ·
   refine zkc (xc0 cl_65) (c_clone (n:=t.nb) (f:=t.B) w (O.B.below D.below) Oa) ?_;rintro I w ⟨_,rfl,qb,G⟩
   replace D:=(D.comp G).n3;clear G
   refine⟨⟨fun _=>D.pk [0,1],D.pk [0,1]⟩,?_⟩
   refine Xk (r:= [8,13]) ((Z1 ?_ (Z1 ?_ Xj)))
   ·
    refine zkc (xc0 cl_65) (c_clone (n:=t.nf) (f:=t.F) w (O.F.below D.below) Oa) ?_;rintro F w ⟨_,rfl,qs,G⟩
    replace D:=(D.comp G).n4;clear G
    refine⟨⟨fun _=>D.pk [0,1],D.pk [0,1]⟩,?_⟩
    refine Xk (r:= [11,13]) ((Z1 ?_ (Z1 ?_ Xj)))
    ·
     refine zkc (xc0 Zak) (Ux (n:=t.nc) (vv:=vv) (ln:=t.ln) (f:=t.C) w (O.C.below D.below) Oa (fun k Z k1=>by have:=hp.len (i:=k) Oa Oa;omega)) ?_;rintro V w ⟨_,X,rfl,qw,G⟩
     replace D:=(D.comp G).n6;clear G
     have xc:=fun k (Z:0<=k) (k1:k<t.nc)=>D.db 5 rfl Z k1
     refine⟨⟨fun _=>D.pk [0,1],D.pk [0,1]⟩,?_⟩
     refine zdv 12 (fun _=>(xany (v:= .agg #[.int Oh t.vars,.int Oh ((t.C (row+1)) (col+1)),I,F,V]) (hr:=by obtain⟨_,_,_,_,rfl,_⟩:=qb;obtain⟨_,_,_,_,rfl,_⟩:=qs;obtain⟨_,_,_,_,rfl,_⟩:=qw;kernel_rfl))) ?_
     refine zda 13 (xal (cs:= [_,_,_,_,_]) XB D) ?_;rintro _ w ⟨g3,rfl,D⟩
     refine⟨⟨fun _=>D.pk [0,1],D.pk [0,1]⟩,?_⟩
     refine zde 14 (xsw 6 Zz D (hd:=(Za rfl (Za rfl (Za qb.one (Za qs.one (Za qw.one Zh))))))) ?_;clear D;rintro w D
     refine⟨⟨fun h=>absurd h (by decide),D.pk [0,1]⟩,?_⟩
     refine zdd<|zgj ⟨g3,I,F,V,X,qb,qs,qw,xc,rfl,D⟩
    refine zka (xal (cs:= [_,_,_,_,_]) XB D) ?_;rintro _ w ⟨g3,rfl,D⟩
    refine⟨⟨fun _=>D.pk [0,1],D.pk [0,1]⟩,?_⟩
    refine zdc 11 (xc0 Zak) (Ux (n:=t.nc) (vv:=vv) (ln:=t.ln) (f:=t.C) w (O.C.below D.below) Oa (fun k Z k1=>by have:=hp.len (i:=k) Oa Oa;omega)) ?_;rintro V w ⟨_,X,rfl,qw,G⟩
    replace D:=(D.comp G).n7;clear G
    have xc:=fun k (Z:0<=k) (k1:k<t.nc)=>D.db 6 rfl Z k1
    refine⟨⟨fun _=>D.pk [0,1],D.pk [0,1]⟩,?_⟩
    refine zdv 12 (fun _=>(xany (v:= .agg #[.int Oh t.vars,.int Oh ((t.C (row+1)) (col+1)),I,F,V]) (hr:=by obtain⟨_,_,_,_,rfl,_⟩:=qb;obtain⟨_,_,_,_,rfl,_⟩:=qs;obtain⟨_,_,_,_,rfl,_⟩:=qw;kernel_rfl))) ?_
    refine zde 14 (xsw 4 Zz D (hd:=(Za rfl (Za rfl (Za qb.one (Za qs.one (Za qw.one Zh))))))) ?_;clear D;rintro w D
    refine⟨⟨fun h=>absurd h (by decide),D.pk [0,1]⟩,?_⟩
    refine zdd<|zgj ⟨g3,I,F,V,X,qb,qs,qw,xc,rfl,D.pk [0,1,2,3,5,6,4]⟩
   refine zka (xal (cs:= [_,_,_,_,_]) XB D) ?_;rintro _ w ⟨g3,rfl,D⟩
   refine⟨⟨fun _=>D.pk [0,1],D.pk [0,1]⟩,?_⟩
   refine zdc 8 (xc0 cl_65) (c_clone (n:=t.nf) (f:=t.F) w (O.F.below D.below) Oa) ?_;rintro F w ⟨_,rfl,qs,G⟩
   replace D:=(D.comp G).n5;clear G
   refine⟨⟨fun _=>D.pk [0,1],D.pk [0,1]⟩,?_⟩
   refine zdc 11 (xc0 Zak) (Ux (n:=t.nc) (vv:=vv) (ln:=t.ln) (f:=t.C) w (O.C.below D.below) Oa (fun k Z k1=>by have:=hp.len (i:=k) Oa Oa;omega)) ?_;rintro V w ⟨_,X,rfl,qw,G⟩
   replace D:=(D.comp G).n7;clear G
   have xc:=fun k (Z:0<=k) (k1:k<t.nc)=>D.db 6 rfl Z k1
   refine⟨⟨fun _=>D.pk [0,1],D.pk [0,1]⟩,?_⟩
   refine zdv 12 (fun _=>(xany (v:= .agg #[.int Oh t.vars,.int Oh ((t.C (row+1)) (col+1)),I,F,V]) (hr:=by obtain⟨_,_,_,_,rfl,_⟩:=qb;obtain⟨_,_,_,_,rfl,_⟩:=qs;obtain⟨_,_,_,_,rfl,_⟩:=qw;kernel_rfl))) ?_
   refine zde 14 (xsw 3 Zz D (hd:=(Za rfl (Za rfl (Za qb.one (Za qs.one (Za qw.one Zh))))))) ?_;clear D;rintro w D
   refine⟨⟨fun h=>absurd h (by decide),D.pk [0,1]⟩,?_⟩
   refine zdd<|zgj ⟨g3,I,F,V,X,qb,qs,qw,xc,rfl,D.pk [0,1,2,4,5,6,3]⟩
  refine zka (xal (cs:= [_,_,_,_,_]) XB D) ?_;rintro _ w ⟨g3,rfl,D⟩
  refine⟨⟨fun _=>D.pk [0,1],D.pk [0,1]⟩,?_⟩
  refine zdc 5 (xc0 cl_65) (c_clone (n:=t.nb) (f:=t.B) w (O.B.below D.below) Oa) ?_;rintro I w ⟨_,rfl,qb,G⟩
  replace D:=(D.comp G).n4;clear G
  refine⟨⟨fun _=>D.pk [0,1],D.pk [0,1]⟩,?_⟩
  refine zdc 8 (xc0 cl_65) (c_clone (n:=t.nf) (f:=t.F) w (O.F.below D.below) Oa) ?_;rintro F w ⟨_,rfl,qs,G⟩
  replace D:=(D.comp G).n5;clear G
  refine⟨⟨fun _=>D.pk [0,1],D.pk [0,1]⟩,?_⟩
  refine zdc 11 (xc0 Zak) (Ux (n:=t.nc) (vv:=vv) (ln:=t.ln) (f:=t.C) w (O.C.below D.below) Oa (fun k Z k1=>by have:=hp.len (i:=k) Oa Oa;omega)) ?_;rintro V w ⟨_,X,rfl,qw,G⟩
  replace D:=(D.comp G).n7;clear G
  have xc:=fun k (Z:0<=k) (k1:k<t.nc)=>D.db 6 rfl Z k1
  refine⟨⟨fun _=>D.pk [0,1],D.pk [0,1]⟩,?_⟩
  refine zdv 12 (fun _=>(xany (v:= .agg #[.int Oh t.vars,.int Oh ((t.C (row+1)) (col+1)),I,F,V]) (hr:=by obtain⟨_,_,_,_,rfl,_⟩:=qb;obtain⟨_,_,_,_,rfl,_⟩:=qs;obtain⟨_,_,_,_,rfl,_⟩:=qw;kernel_rfl))) ?_
  refine zde 14 (xsw 2 Zz D (hd:=(Za rfl (Za rfl (Za qb.one (Za qs.one (Za qw.one Zh))))))) ?_;clear D;rintro w D
  refine⟨⟨fun h=>absurd h (by decide),D.pk [0,1]⟩,?_⟩
  refine zdd<|zgj ⟨g3,I,F,V,X,qb,qs,qw,xc,rfl,D.pk [0,1,3,4,5,6,2]⟩
 clear D w;rintro M w ⟨g3,I,F,V,X,qb,qs,qw,xc,rfl,D⟩
 refine ztn<|zsq<|zdst [0,1,2,3,4,5,6] [0,1,4,5,6] 17 mx_ D ?_;clear D;intro w D
 refine(zDw 0 (xfb 2 fd_265_2))<|(zDl 1 (fun w D=>(xlb 4 pl_22 D)))<|(zDw 2 xmv)<|(zDw 3 (xfb 3 fd_265_3))<|(zDl 4 (fun w D=>(xlb 4 pl_22 D)))<|(zDw 5 xmv)<|(zDw 6 (xfb 3 fd_265_3))<|(zDl 7 (fun w D=>(xlb 0 pl_22 D)))<|(zDw 8 xmv)<|(zDw 9 (xix (kk:=col) Zb O.F.cf))<|(zDl 10 (fun w D=>(xlr (u:= .int Oh (t.F col)) pl_3 (O.F.below D.below))))<|(zDw 11 (xfb 2 fd_265_2))<|(zDl 12 (fun w D=>(xlb 0 pl_22 D)))<|(zDw 13 xmv)<|zDrv 14 (xix (kk:=row) Zb O.B.cf) ?_
 refine(zDl 15 (fun w D=>(xlr (u:= .int Oh (t.B row)) pl_3 (O.B.below D.below))))<|(zDw 16 (xix (kk:=row) Zb qb))<|zde 17 (xso 2 pl_3 D (Zy _ _ _)) ?_;clear D;rintro w D
 refine⟨⟨fun h=>absurd h (by decide),D.pk [0,1,4,5,6]⟩,?_⟩
 refine(zDw 18 (xix (kk:=col) Zb qs))<|zde 19 (xso 3 pl_3 D (Zy _ _ _)) ?_;clear D;rintro w D
 refine⟨⟨fun h=>absurd h (by decide),D.pk [0,1,4,5,6]⟩,?_⟩
 refine zdd<|ztn<|zsq<|zsr ?_
 refine(zV (xfb 4 fd_265_4))<|(zV (xlb 0 Zs D))<|(zV (xln Zi O.C.row.cf))<|(zP)<|zx6<|zlp (fun mm M w=>∃(W:Of) (i:Int),mm=((t.nc-i).toNat)/\(0<=i)/\(i<=t.nc)/\(∀a b,0<=a->a<i->0<=b->b<=t.nf->W a b=Yb t (row+1) (col+1) a b)/\(∀a b,0<=a->a<i->0<=b->b<=t.nf->Zaj t (row+1) (col+1) a b)/\M= [(3,Oq g1),(6,Oq g2),(8,.int Oh (row+1)),(9,.int Oh (col+1)),(10,.int Oh ((t.C (row+1)) (col+1))),(11,.int Oh t.den),(12,Oq g3),(105,vC),(106,.int Oh t.nc),(107,.int Oh i)]/\Sat w0 w [.blk g1 [.int Oh t.vars,.int Oh t.den,vB,vF,vC],.blk g2 [.int Oh 0,.int Oh 0,Og,Og,Og],.own I 1 3 t.nb (ints (upd t.B row (t.F col))),.own F 1 3 t.nf (ints (upd t.F col (t.B row))),.own V 1 22 t.nc X,.sem (Frame.rows 3 t.nc X t.ln W),.blk g3 [.int Oh t.vars,.int Oh ((t.C (row+1)) (col+1)),I,F,V]]) ⟨t.C,0,rfl,Oa,Oa,?_,?_,rfl,D⟩ ?_
 ·
  intro a b a0 a1;omega
 ·
  intro a b a0 a1;omega
 clear D w
 rintro mm M w ⟨W,i,rfl,h0,h1,hcf,ae,rfl,D⟩
 refine zsr<|(zP)<|zx7<|Ze ?_ ?_<;>intro hc
 ·
  refine zx3<|(zP)<|(zV (xix (kk:=i) Zi O.C.row.cf))<|zlv (xlr (u:=(vv i)) pl_22 (O.C.row.below D.below)) ?_
  have an:=hp.len (i:=i) Oa Oa
  refine(Om)<|zlz<|(zP)<|(zV (xln Zb (O.C.p i Oa Oa).cf))<|(zP)<|zx6<|zlp (fun mm M w=>∃(W:Of) (j:Int),mm=((t.nf+1-j).toNat)/\(0<=j)/\(j<=t.nf+1)/\(∀a b,0<=a->a<i->0<=b->b<=t.nf->W a b=Yb t (row+1) (col+1) a b)/\(∀b,0<=b->b<j->W i b=Yb t (row+1) (col+1) i b)/\(∀b,0<=b->b<j->Zaj t (row+1) (col+1) i b)/\M= [(3,Oq g1),(6,Oq g2),(8,.int Oh (row+1)),(9,.int Oh (col+1)),(10,.int Oh ((t.C (row+1)) (col+1))),(11,.int Oh t.den),(12,Oq g3),(13,.int Oh i),(14,(vv i)),(105,vC),(106,.int Oh t.nc),(107,.int Oh i),(112,(vv i)),(113,.int Oh (t.ln i)),(114,.int Oh j)]/\Sat w0 w [.blk g1 [.int Oh t.vars,.int Oh t.den,vB,vF,vC],.blk g2 [.int Oh 0,.int Oh 0,Og,Og,Og],.own I 1 3 t.nb (ints (upd t.B row (t.F col))),.own F 1 3 t.nf (ints (upd t.F col (t.B row))),.own V 1 22 t.nc X,.sem (Frame.rows 3 t.nc X t.ln W),.blk g3 [.int Oh t.vars,.int Oh ((t.C (row+1)) (col+1)),I,F,V]]) ⟨W,0,rfl,Oa,Oa,?_,?_,?_,rfl,D⟩ ?_
  ·
   exact hcf
  ·
   intro b J U;omega
  ·
   intro b J U;omega
  clear D w
  rintro mm M w ⟨W,j,rfl,j0,j1,cq,qK,hdr,rfl,D⟩
  refine zsr<|(zP)<|zx7<|Ze ?_ ?_<;>intro hc
  ·
   refine zx3<|(zP)<|(zV (xix (kk:=j) Zb (O.C.p i Oa Oa).cf))<|zlv (xlr (u:= .int Oh ((t.C i) j)) pl_3 ((O.C.p i Oa Oa).below D.below)) ?_
   have ag:=hp.cell (i:=i) (j:=j) Oa Oa Oa Oa
   refine(Om)<|zlt<|zsq<|zbk<|zsr<|zs4 ?_
   refine zlb 123 ?_ ?_<;>intro hc
   ·
    refine zs5 ?_
    refine zlt<|Ze ?_ ?_<;>intro hc
    ·
     refine zrg<|(Om)<|zx10<|(zV (xfb 4 fd_265_4))<|(zV (xlb 6 Zs D))<|(zP)<|(zV (xix (kk:=i) Zi qw))<|zlv (xlr (u:=(X i)) pl_22 (D.c7 4 rfl)) ?_
     skip
     refine(Om)<|(zV (xix (kk:=j) Zb (xc i Oa Oa)))<|zle (xsr 5 pl_3 D rfl) ?_;clear D;rintro w D
     refine zx10<|(zV (Zg (r:=j+1)))<|(zP)<|zln<|zlq ⟨upd W i (upd (W i) j t.den),j+1,rfl,Oa,Oa,?_,?_,?_,rfl,D⟩
     ·
      intro a b a0 a1 J U;rw [gu_ne Oa];exact cq a b a0 a1 J U
     ·
      intro b J U
      by_cases e:b=j
      · subst e;rw [gu_self,gu_self];unfold Yb;(repeat' split)<;>first|rfl|omega|(exfalso;omega)
      · rw [gu_self,gu_ne e];exact qK b J Oa
     ·
      intro b J U
      by_cases e:b=j
      · subst e;intro e1 e2;first|omega|exact Oc ‹_›
      · exact hdr b J Oa
    refine zsr<|(Om)<|(zV (xkt YT))<|(zP)<|zlt<|zct<|zrg ?_
    refine(zP)<|zlv (ZbX (r:= -(((t.C i) j))) (hr:=(by unfold I64;omega))) ?_
    refine(zP)<|zx10<|(zV (xfb 4 fd_265_4))<|(zV (xlb 6 Zs D))<|(zP)<|(zV (xix (kk:=i) Zi qw))<|zlv (xlr (u:=(X i)) pl_22 (D.c7 4 rfl)) ?_
    skip
    refine(Om)<|(zV (xix (kk:=j) Zb (xc i Oa Oa)))<|zle (xsr 5 pl_3 D rfl) ?_;clear D;rintro w D
    refine zx10<|(zV (Zg (r:=j+1)))<|(zP)<|zln<|zlq ⟨upd W i (upd (W i) j (-(((t.C i) j)))),j+1,rfl,Oa,Oa,?_,?_,?_,rfl,D⟩
    ·
     intro a b a0 a1 J U;rw [gu_ne Oa];exact cq a b a0 a1 J U
    ·
     intro b J U
     by_cases e:b=j
     · subst e;rw [gu_self,gu_self];unfold Yb;(repeat' split)<;>first|rfl|omega|(exfalso;omega)
     · rw [gu_self,gu_ne e];exact qK b J Oa
    ·
     intro b J U
     by_cases e:b=j
     · subst e;intro e1 e2;first|omega|exact Oc ‹_›
     · exact hdr b J Oa
   iterate 3 refine zlo ?_
   refine(Om)<|zlt<|zcf<|zsr ?_
   refine zs4 ?_
   refine zlt<|Ze ?_ ?_<;>intro hc
   ·
    exfalso;omega
   refine zsr<|zs4 ?_
   refine zlt<|Ze ?_ ?_<;>intro hc
   ·
    refine zsq<|zdst [0,1,2,3,4,5,6] [0,1,2,3,4,5,6] 1000 mx_ D ?_;clear D;intro w D
    refine zDrv 0 xmv ?_
    have al:=Xo af ag;have ak:=Xo (hp.cell (i:=i) (j:=col+1) Oa Oa Oa Oa) (hp.cell (i:=row+1) (j:=j) Oa Oa Oa Oa)
    have ah:=YC (a:=t.C (row+1) (col+1)*t.C i j-t.C i (col+1)*t.C (row+1) j) (d:=t.den) (A:=2305843009213693952) Oa Oa
    refine(zDw 1 xmv)<|zdv 2 (fun _=>(Z2 (r:=(((t.C (row+1)) (col+1))*((t.C i) j))) (e:=rfl) (hr:=(by unfold I64;omega)))) ?_
    refine(zDw 3 xmv)<|(zDw 4 xmv)<|(zDw 5 (xix (kk:=col+1) Zb (O.C.p i Oa Oa).cf))<|(zDl 6 (fun w D=>(xlr (u:= .int Oh ((t.C i) (col+1))) pl_3 ((O.C.p i Oa Oa).below D.below))))<|(zDw 7 (xfb 4 fd_265_4))<|(zDl 8 (fun w D=>(xlb 0 Zs D)))<|(zDw 9 xmv)<|(zDw 10 (xix (kk:=row+1) Zi O.C.row.cf))<|(zDl 11 (fun w D=>(xlr (u:=(vv (row+1))) pl_22 (O.C.row.below D.below))))<|(zDw 12 xmv)<|(zDw 13 (xix (kk:=j) Zb (O.C.p (row+1) Oa Oa).cf))<|(zDl 14 (fun w D=>(xlr (u:= .int Oh ((t.C (row+1)) j)) pl_3 ((O.C.p (row+1) Oa Oa).below D.below))))<|zdv 15 (fun _=>(Z2 (r:=(((t.C i) (col+1))*((t.C (row+1)) j))) (e:=rfl) (hr:=(by unfold I64;omega)))) ?_
    refine zdv 16 (fun _=>(Zw (r:=(((t.C (row+1)) (col+1))*((t.C i) j))-(((t.C i) (col+1))*((t.C (row+1)) j))) (hr:=(by unfold I64;omega)))) ?_
    refine(zDw 17 xas)<|zdd<|ztn<|zsq<|zsr ?_
    refine(Om)<|(zV (KD (r:=(Int.tmod ((((t.C (row+1)) (col+1))*((t.C i) j))-(((t.C i) (col+1))*((t.C (row+1)) j))) t.den)) (hn:=Oa)))<|(zP)<|zlt<|Ze ?_ ?_<;>intro hc
    ·
     refine zsr<|(zV (xany (v:= .agg #[.int Oh 0,.int Oh 0,Og,Og,Og])))<|zle (xsw 1 Zz D) ?_;clear D;rintro w D
     refine(zP)<|zlt<|zrt<|ztr<|zbr<|ztr<|zbr<|ztr<|ztr<|zbr<|zbr<|ztr<|ztr<|zbr<|ztr<|ZS 1 Zz D ⟨_,rfl,?_⟩
     exact⟨_,_,_,fun _=>undef,Tb.zero,4,rfl,.inr (.inl ⟨⟨hp,Oa,Oa,Oa,Oa,ab⟩,fun hd=>by have:=hd i j h0 Oa j0 Oa Oa Oa;omega,rfl,rfl⟩),slh_nil,slh_nil,slh_nil,((((D.sub (.cons _ (.cons _ (.cons _ (.cons _ (.cons _ (.cons _ (.cons _ .slnil)))))))).cg 1 3 (ints Tb.zero.B)).cg 1 3 (ints Tb.zero.F)).cg 1 22 (fun _=>undef)).fa 3 (fun _=>undef) Tb.zero.ln Tb.zero.C⟩
    refine zsk<|ztn<|zrg<|(Om)<|zlv (VC (r:=(Int.tdiv ((((t.C (row+1)) (col+1))*((t.C i) j))-(((t.C i) (col+1))*((t.C (row+1)) j))) t.den)) (hn:=Oa) (hr:=(by unfold I64;omega))) ?_
    refine(zP)<|zx10<|(zV (xfb 4 fd_265_4))<|(zV (xlb 6 Zs D))<|(zP)<|(zV (xix (kk:=i) Zi qw))<|zlv (xlr (u:=(X i)) pl_22 (D.c7 4 rfl)) ?_
    skip
    refine(Om)<|(zV (xix (kk:=j) Zb (xc i Oa Oa)))<|zle (xsr 5 pl_3 D rfl) ?_;clear D;rintro w D
    refine zx10<|(zV (Zg (r:=j+1)))<|(zP)<|zln<|zlq ⟨upd W i (upd (W i) j (Int.tdiv ((((t.C (row+1)) (col+1))*((t.C i) j))-(((t.C i) (col+1))*((t.C (row+1)) j))) t.den)),j+1,rfl,Oa,Oa,?_,?_,?_,rfl,D⟩
    ·
     intro a b a0 a1 J U;rw [gu_ne Oa];exact cq a b a0 a1 J U
    ·
     intro b J U
     by_cases e:b=j
     · subst e;rw [gu_self,gu_self];unfold Yb;(repeat' split)<;>first|rfl|omega|(exfalso;omega)
     · rw [gu_self,gu_ne e];exact qK b J Oa
    ·
     intro b J U
     by_cases e:b=j
     · subst e;intro e1 e2;first|omega|exact Oc ‹_›
     · exact hdr b J Oa
   refine zx4<|(zV (xfb 4 fd_265_4))<|(zV (xlb 6 Zs D))<|(zP)<|(zV (xix (kk:=i) Zi qw))<|zlv (xlr (u:=(X i)) pl_22 (D.c7 4 rfl)) ?_
   skip
   refine(Om)<|(zV (xix (kk:=j) Zb (xc i Oa Oa)))<|zle (xsr 5 pl_3 D rfl) ?_;clear D;rintro w D
   refine zx10<|(zV (Zg (r:=j+1)))<|(zP)<|zln<|zlq ⟨upd W i (upd (W i) j ((t.C i) j)),j+1,rfl,Oa,Oa,?_,?_,?_,rfl,D⟩
   ·
    intro a b a0 a1 J U;rw [gu_ne Oa];exact cq a b a0 a1 J U
   ·
    intro b J U
    by_cases e:b=j
    · subst e;rw [gu_self,gu_self];unfold Yb;(repeat' split)<;>first|rfl|omega|(exfalso;omega)
    · rw [gu_self,gu_ne e];exact qK b J Oa
   ·
    intro b J U
    by_cases e:b=j
    · subst e;intro e1 e2;first|omega|exact Oc ‹_›
    · exact hdr b J Oa
  refine zx21<|(zV (Zg (r:=i+1)))<|(zP)<|zln<|zlq ⟨W,i+1,rfl,Oa,Oa,?_,?_,rfl,D⟩
  ·
   intro a b a0 a1 J U
   by_cases e:a=i
   · subst e;exact qK b J Oa
   · exact cq a b a0 Oa J U
  ·
   intro a b a0 a1 J U
   by_cases e:a=i
   · subst e;exact hdr b J Oa
   · exact ae a b a0 Oa J U
 refine zx18<|zlv xmv ?_
 have ao:i=t.nc:=Oa
 have dc:Zd1 t row col:=fun a b a0 a1 J U=>ae a b a0 Oa J U
 refine(zP)<|zlt<|Ze ?_ ?_<;>intro hc
 ·
  refine zsr<|(zP)<|zlv (ZbX (r:= -(((t.C (row+1)) (col+1)))) (hr:=(by unfold I64;omega))) ?_
  refine(zV (xfb 1 fd_265_1))<|zle (xsb 6 pl_3 D) ?_;clear D;rintro w D
  refine zlz<|(zV (xfb 4 fd_265_4))<|(zV (xlb 6 Zs D))<|(zV (xln Zi qw))<|(zP)<|zx6<|zlp (fun mm M w=>∃(W:Of) (k:Int),mm=((t.nc-k).toNat)/\(0<=k)/\(k<=t.nc)/\(∀a b,0<=a->a<k->0<=b->b<=t.nf->W a b= -Yb t (row+1) (col+1) a b)/\(∀a b,k<=a->a<t.nc->0<=b->b<=t.nf->W a b=Yb t (row+1) (col+1) a b)/\M= [(6,Oq g2),(12,Oq g3),(180,V),(181,.int Oh t.nc),(182,.int Oh k)]/\Sat w0 w [.blk g1 [.int Oh t.vars,.int Oh t.den,vB,vF,vC],.blk g2 [.int Oh 0,.int Oh 0,Og,Og,Og],.own I 1 3 t.nb (ints (upd t.B row (t.F col))),.own F 1 3 t.nf (ints (upd t.F col (t.B row))),.own V 1 22 t.nc X,.sem (Frame.rows 3 t.nc X t.ln W),.blk g3 [.int Oh t.vars,.int Oh (-(((t.C (row+1)) (col+1)))),I,F,V]]) ⟨W,0,rfl,Oa,Oa,?_,?_,rfl,D⟩ ?_
  ·
   intro a b a0 a1;omega
  ·
   intro a b a0 a1 J U;exact hcf a b Oa Oa J U
  clear D w
  rintro mm M w ⟨W,k,rfl,Z,k1,ac,aa,rfl,D⟩
  refine zsr<|(zP)<|zx7<|Ze ?_ ?_<;>intro hc
  ·
   refine zx3<|(zV (xix (kk:=k) Zi qw))<|zlv (xlr (u:=(X k)) pl_22 (D.c7 4 rfl)) ?_
   have ad:=hp.len (i:=k) Oa Oa
   refine(zP)<|zlz<|(zP)<|(zV (xln Zb (xc k Oa Oa)))<|(zP)<|zx6<|zlp (fun mm M w=>∃(W:Of) (q:Int),mm=((t.nf+1-q).toNat)/\(0<=q)/\(q<=t.nf+1)/\(∀a b,0<=a->a<k->0<=b->b<=t.nf->W a b= -Yb t (row+1) (col+1) a b)/\(∀a b,k+1<=a->a<t.nc->0<=b->b<=t.nf->W a b=Yb t (row+1) (col+1) a b)/\(∀b,0<=b->b<q->W k b= -Yb t (row+1) (col+1) k b)/\(∀b,q<=b->b<=t.nf->W k b=Yb t (row+1) (col+1) k b)/\M= [(6,Oq g2),(12,Oq g3),(18,(X k)),(180,V),(181,.int Oh t.nc),(182,.int Oh k),(187,.int Oh (t.ln k)),(188,.int Oh q)]/\Sat w0 w [.blk g1 [.int Oh t.vars,.int Oh t.den,vB,vF,vC],.blk g2 [.int Oh 0,.int Oh 0,Og,Og,Og],.own I 1 3 t.nb (ints (upd t.B row (t.F col))),.own F 1 3 t.nf (ints (upd t.F col (t.B row))),.own V 1 22 t.nc X,.sem (Frame.rows 3 t.nc X t.ln W),.blk g3 [.int Oh t.vars,.int Oh (-(((t.C (row+1)) (col+1)))),I,F,V]]) ⟨W,0,rfl,Oa,Oa,?_,?_,?_,?_,rfl,D⟩ ?_
   ·
    exact ac
   ·
    intro a b a0 a1 J U;exact aa a b Oa a1 J U
   ·
    intro b J U;omega
   ·
    intro b J U;exact aa k b (Int.le_refl _) Oa Oa U
   clear D w
   rintro mm M w ⟨W,q,rfl,q0,q1,ac,aa,f5,f6,rfl,D⟩
   refine zsr<|(zP)<|zx7<|Ze ?_ ?_<;>intro hc
   ·
    refine zx3<|(Om)<|zlt<|zrg<|zs4 ?_
    refine(zV (xix (kk:=q) Zb (xc k Oa Oa)))<|zlv (xlr (u:= .int Oh (W k q)) pl_3 (D.fq (k:=k) 5 rfl Oa Oa)) ?_
    have f7:=f6 q (Int.le_refl _) Oa
    have ai: -9223372036854775807<=W k q/\W k q<=9223372036854775807:=by rw [f7];exact Za1 hp Oa Oa Oa Oa Oa Oa Oa Oa
    refine zlv (ZbX (r:= -((W k q))) (hr:=(by unfold I64;omega))) ?_
    refine(zV (xix (kk:=q) Zb (xc k Oa Oa)))<|zle (xsr 5 pl_3 D rfl) ?_;clear D;rintro w D
    refine zx10<|(zV (Zg (r:=q+1)))<|(zP)<|zln<|zlq ⟨upd W k (upd (W k) q (-((W k q)))),q+1,rfl,Oa,Oa,?_,?_,?_,?_,rfl,D⟩
    ·
     intro a b a0 a1 J U;rw [gu_ne Oa];exact ac a b a0 a1 J U
    ·
     intro a b a0 a1 J U;rw [gu_ne Oa];exact aa a b a0 a1 J U
    ·
     intro b J U
     by_cases e:b=q
     · subst e;rw [gu_self,gu_self,f7]
     · rw [gu_self,gu_ne e];exact f5 b J Oa
    ·
     intro b J U;rw [gu_self,gu_ne Oa];exact f6 b Oa U
   refine zx21<|(zV (Zg (r:=k+1)))<|(zP)<|zln<|zlq ⟨W,k+1,rfl,Oa,Oa,?_,?_,rfl,D⟩
   ·
    intro a b a0 a1 J U
    by_cases e:a=k
    · subst e;exact f5 b J Oa
    · exact ac a b a0 Oa J U
   ·
    intro a b a0 a1 J U;exact aa a b Oa a1 J U
  refine zx18<|zlv (xls 6 Zz D) ?_
  have yQ: -(((t.C (row+1)) (col+1)))=(piv t row col).den:=(if_pos Oa).symm
  replace D:=D.gj (vv':=X) (ln':=(piv t row col).ln) (f':=(piv t row col).C) 5 rfl (fun k Z k1=>⟨rfl,rfl,fun j j0 j1=>by
    have ad:=hp.len (i:=k) Oa Oa
    exact(ac k j Z Oa j0 Oa).trans (if_pos Oa).symm⟩)
  rw [yQ] at D⊢
  obtain⟨u,Y⟩:∃u,u=piv t row col:=⟨_,rfl⟩
  have zp:Slh I u.nb:=by subst Y;exact qb
  have zn:Slh F u.nf:=by subst Y;exact qs
  have zo:Slh V u.nc:=by subst Y;exact qw
  replace D:Sat w0 w [.blk g1 [.int Oh t.vars,.int Oh t.den,vB,vF,vC],.blk g2 [.int Oh 0,.int Oh 0,Og,Og,Og],.own I 1 3 u.nb (ints u.B),.own F 1 3 u.nf (ints u.F),.own V 1 22 u.nc X,.sem (Frame.rows 3 u.nc X u.ln u.C),.blk g3 [.int Oh u.vars,.int Oh u.den,I,F,V]]:=by subst Y;exact D
  have jC:=fun k (Z:0<=k) (k1:k<u.nc)=>D.db 5 rfl Z k1
  refine ZbV 201 (u:= .agg #[.int Oh u.vars,.int Oh u.den,I,F,V]) (by subst Y;first|rfl|(congr 1)) ?_
  refine zlc (xc0 Zal) (Uv (t:=u) w (⟨(D.c7 2 rfl),(D.c7 3 rfl),(⟨(D.c7 4 rfl),fun k Z k1=>D.fq 5 rfl Z k1,fun k Z k1=>D.gb 5 rfl Z k1⟩:MAt _ V u.nc X u.ln u.C)⟩:TAt _ I F V X u)) ?_;rintro _ w ⟨rfl,G⟩
  replace D:=D.cmp G;clear G
  refine(zP)<|zlt<|Ze ?_ ?_<;>intro hc
  ·
   refine zsr<|(zV (xany (v:= .agg #[.int Oh 0,.int Oh 0,Og,Og,Og])))<|zle (xsw 1 Zz D) ?_;clear D;rintro w D
   refine(zP)<|zx14<|ZS 1 Zz D ⟨_,rfl,?_⟩
   exact⟨_,_,_,fun _=>undef,Tb.zero,2,rfl,.inr (.inr (.inl ⟨⟨hp,Oa,Oa,Oa,Oa,ab⟩,dc,Y▸‹¬TPrp u›,rfl,rfl⟩)),slh_nil,slh_nil,slh_nil,((((D.sub (.cons _ (.cons _ (.cons _ (.cons _ (.cons _ (.cons _ (.cons _ .slnil)))))))).cg 1 3 (ints Tb.zero.B)).cg 1 3 (ints Tb.zero.F)).cg 1 22 (fun _=>undef)).fa 3 (fun _=>undef) Tb.zero.ln Tb.zero.C⟩
  refine ZM<|(zV (xls 6 Zz D))<|zle (xsw 1 Zz D (hd:=(Za rfl (Za rfl (Za zp.one (Za zn.one (Za zo.one Zh))))))) ?_;clear D;rintro w D
  refine(zP)<|zx1<|ZS 1 Zz D ⟨_,rfl,?_⟩
  exact⟨_,_,_,_,u,0,rfl,.inr (.inr (.inr ⟨⟨hp,Oa,Oa,Oa,Oa,ab⟩,dc,Y▸(Oc ‹¬¬(TPrp u)›),Y,rfl⟩)),zp,zn,zo,D.pk [2,3,4,5]⟩
 refine YL<|zlv (xls 6 Zz D) ?_
 have yQ:((t.C (row+1)) (col+1))=(piv t row col).den:=(if_neg Oa).symm
 replace D:=D.gj (vv':=X) (ln':=(piv t row col).ln) (f':=(piv t row col).C) 5 rfl (fun k Z k1=>⟨rfl,rfl,fun j j0 j1=>by
   have ad:=hp.len (i:=k) Oa Oa
   exact(hcf k j Z Oa j0 Oa).trans (if_neg Oa).symm⟩)
 rw [yQ] at D⊢
 obtain⟨u,Y⟩:∃u,u=piv t row col:=⟨_,rfl⟩
 have zp:Slh I u.nb:=by subst Y;exact qb
 have zn:Slh F u.nf:=by subst Y;exact qs
 have zo:Slh V u.nc:=by subst Y;exact qw
 replace D:Sat w0 w [.blk g1 [.int Oh t.vars,.int Oh t.den,vB,vF,vC],.blk g2 [.int Oh 0,.int Oh 0,Og,Og,Og],.own I 1 3 u.nb (ints u.B),.own F 1 3 u.nf (ints u.F),.own V 1 22 u.nc X,.sem (Frame.rows 3 u.nc X u.ln u.C),.blk g3 [.int Oh u.vars,.int Oh u.den,I,F,V]]:=by subst Y;exact D
 have jC:=fun k (Z:0<=k) (k1:k<u.nc)=>D.db 5 rfl Z k1
 refine ZbV 201 (u:= .agg #[.int Oh u.vars,.int Oh u.den,I,F,V]) (by subst Y;first|rfl|(congr 1)) ?_
 refine zlc (xc0 Zal) (Uv (t:=u) w (⟨(D.c7 2 rfl),(D.c7 3 rfl),(⟨(D.c7 4 rfl),fun k Z k1=>D.fq 5 rfl Z k1,fun k Z k1=>D.gb 5 rfl Z k1⟩:MAt _ V u.nc X u.ln u.C)⟩:TAt _ I F V X u)) ?_;rintro _ w ⟨rfl,G⟩
 replace D:=D.cmp G;clear G
 refine(zP)<|zlt<|Ze ?_ ?_<;>intro hc
 ·
  refine zsr<|(zV (xany (v:= .agg #[.int Oh 0,.int Oh 0,Og,Og,Og])))<|zle (xsw 1 Zz D) ?_;clear D;rintro w D
  refine(zP)<|zx14<|ZS 1 Zz D ⟨_,rfl,?_⟩
  exact⟨_,_,_,fun _=>undef,Tb.zero,2,rfl,.inr (.inr (.inl ⟨⟨hp,Oa,Oa,Oa,Oa,ab⟩,dc,Y▸‹¬TPrp u›,rfl,rfl⟩)),slh_nil,slh_nil,slh_nil,((((D.sub (.cons _ (.cons _ (.cons _ (.cons _ (.cons _ (.cons _ (.cons _ .slnil)))))))).cg 1 3 (ints Tb.zero.B)).cg 1 3 (ints Tb.zero.F)).cg 1 22 (fun _=>undef)).fa 3 (fun _=>undef) Tb.zero.ln Tb.zero.C⟩
 refine ZM<|(zV (xls 6 Zz D))<|zle (xsw 1 Zz D (hd:=(Za rfl (Za rfl (Za zp.one (Za zn.one (Za zo.one Zh))))))) ?_;clear D;rintro w D
 refine(zP)<|zx1<|ZS 1 Zz D ⟨_,rfl,?_⟩
 exact⟨_,_,_,_,u,0,rfl,.inr (.inr (.inr ⟨⟨hp,Oa,Oa,Oa,Oa,ab⟩,dc,Y▸(Oc ‹¬¬(TPrp u)›),Y,rfl⟩)),zp,zn,zo,D.pk [2,3,4,5]⟩
 all_goals
  refine zOps ?_
  refine zlt<|zct<|zsr ?_
  refine(zV (xany (v:= .agg #[.int Oh 0,.int Oh 0,Og,Og,Og])))<|zle (xsw 1 Zz D) ?_;clear D;rintro w D
  refine zOps ?_
  refine zx14<|ZS 1 Zz D ⟨_,rfl,?_⟩
  exact⟨_,_,_,fun _=>undef,Tb.zero,1,rfl,.inl ⟨by first|exact fun hh=>absurd hh.1 ‹_›|(rintro⟨_,p1,p2,p3,p4,p5⟩;omega),rfl,rfl⟩,slh_nil,slh_nil,slh_nil,((((D.sub (.cons _ (.cons _ .slnil))).cg 1 3 (ints Tb.zero.B)).cg 1 3 (ints Tb.zero.F)).cg 1 22 (fun _=>undef)).fa 3 (fun _=>undef) Tb.zero.ln Tb.zero.C⟩
theorem Zk0:Zc Oj 216=true:=Ob
theorem fd_245_0:Zv Oj 245 0=some 0:=Ob
theorem fd_245_1:Zv Oj 245 1=some 1:=Ob
theorem fd_245_2:Zv Oj 245 2=some 2:=Ob
theorem ZeT:ZC Oj 245=some 3:=Ob
theorem ZiE{vc vA vb:Value}{vq:Int->Value}{p:Lp}(w0:World)(O:LAt w0 vc vA vb vq p):
   Calls Oj 216 [.agg #[vc,vA,vb]].toArray w0 fun e w=>∃v,e= .returned v/\v=B (LOk p)/\Sat w0 w []:=by
 have hn:=O.c.cf.n0;have ab:=O.c.cf.n1;have hm:=O.A.row.cf.n0;have ac:=O.A.row.cf.n1;have hk:=O.b.cf.n0;have ad:=O.b.cf.n1
 refine zenG Tryz.func216 Tryz.ntmps216 fun w D=> ?_
 refine zsr<|zla (xbx (cs:= [_,_,_]) D) ?_;rintro _ w ⟨g1,rfl,D⟩
 refine(zP)<|zlz<|(zV (xfb 0 fd_245_0))<|(zV (xlb 0 pl_22 D))<|(zV (xln Zb O.c.cf))<|zla (xal (cs:= [_]) Zm D) ?_;rintro _ w ⟨g2,rfl,D⟩
 refine zle (xsb 1 pl_3 D) ?_;clear D;rintro w D
 refine zx5<|(zV (xlb 1 pl_3 D))<|(Om)<|zlb 10 ?_ ?_<;>intro hc;rotate_left
 refine(zV (xlb 1 pl_3 D))<|(On)<|zlb 14 ?_ ?_<;>intro hc;rotate_left
 refine(zV (xfb 1 fd_245_1))<|(zV (xlb 0 Zs D))<|(zV (xln Zi O.A.row.cf))<|(On)<|zlb 20 ?_ ?_<;>intro hc;rotate_left
 refine(zV (xfb 2 fd_245_2))<|(zV (xlb 0 pl_22 D))<|(zV (xln Zb O.b.cf))<|(zV (xfb 1 fd_245_1))<|(zV (xlb 0 Zs D))<|(zV (xln Zi O.A.row.cf))<|(On)<|zlb 29 ?_ ?_<;>intro hc;rotate_left
 refine(zV (xfb 0 fd_245_0))<|(zV (xlb 0 pl_22 D))<|zlc (xc0 Zam) (VA (n:=p.n) (m:=1000000) (f:=p.c) w (O.c.below D.below) Oa) ?_;rintro _ w ⟨rfl,I⟩
 replace D:=D.cmp I;clear I
 refine(On)<|zlb 35 ?_ ?_<;>intro hc;rotate_left
 refine(zV (xfb 2 fd_245_2))<|(zV (xlb 0 pl_22 D))<|zlc (xc0 Zam) (VA (n:=p.k) (m:=1000000) (f:=p.b) w (O.b.below D.below) Oa) ?_;rintro _ w ⟨rfl,I⟩
 replace D:=D.cmp I;clear I
 refine(Om)<|zlt<|Ze ?_ ?_<;>intro hc
 ·
  refine zsr<|(zP)<|zx14<|Oi ?_
  exact⟨false_B (by intro F;have b1:=F.n1;have b2:=F.n2;have b3:=F.m2;have b4:=F.k;first|omega|exact absurd (fun j G J=>by have:=F.c j G J;omega) ‹¬Btw p.c p.n 1000000›|exact absurd (fun j G J=>F.b j G Oa) ‹¬Btw p.b p.k 1000000›|(obtain⟨j,G,J,j2⟩:=U;have:=F.c j G J;omega)),D.nl⟩
 refine ZM<|(zV xmf)<|(zP)<|zlz<|(zV (xfb 0 fd_245_0))<|(zV (xlb 0 pl_22 D))<|zlc (xc0 Zf3) (ZjN (n:=p.n) (f:=p.c) w (O.c.below D.below) Oa) ?_;rintro _ w ⟨x1,rfl,U,y8,I⟩
 replace D:=D.cmp I;clear I
 refine(Om)<|zlb 46 ?_ ?_<;>intro hc
 ·
  refine(zV (xfb 1 fd_245_1))<|(zV (xlb 0 Zs D))<|(zP)<|zlc (xc0 Zcw) (ZmO (n:=p.m) (q:=p.n) (vv:=vq) (ln:=p.ln) (f:=p.A) w (O.A.below D.below) (D.gw 1 rfl rfl) Oa) ?_;rintro _ w ⟨rfl,I⟩
  replace D:=D.cmp I;clear I
  refine(On)<|zx1<|Oi ?_
  refine⟨Zn ⟨fun X=> ?_,fun F X=> ?_⟩,D.nl⟩
  · have aa:=(Oc ‹¬¬(Btw p.c p.n 1000000)›);have Z:=(Oc ‹¬¬(Btw p.b p.k 1000000)›)
    refine⟨by omega,Oa,Oa,Oa,fun j G J=>⟨by have:=y8 j G J;omega,(aa j G J).2⟩,fun i V i1=>Z i V Oa,fun i V i1=> ?_⟩
    have W:=Oc fun Y=>X ⟨i,V,i1,Y⟩
    exact⟨W.1,fun j G J=>W.2 j G (by have:=W.1;omega)⟩
  · obtain⟨k,k0,k1,Y⟩:=X
    have hr:=F.rows k k0 k1
    exact Y ⟨hr.1,fun j G J=>hr.2 j G (by have:=hr.1;omega)⟩
 iterate 5 refine zlo ?_
 refine(Om)<|zx1<|Oi ?_
 exact⟨false_B (by intro F;have b1:=F.n1;have b2:=F.n2;have b3:=F.m2;have b4:=F.k;first|omega|exact absurd (fun j G J=>by have:=F.c j G J;omega) ‹¬Btw p.c p.n 1000000›|exact absurd (fun j G J=>F.b j G Oa) ‹¬Btw p.b p.k 1000000›|(obtain⟨j,G,J,j2⟩:=U;have:=F.c j G J;omega)),D.nl⟩
 all_goals
  refine zOps ?_
  refine zlt<|zct<|zsr ?_
  refine zOps ?_
  refine zx14<|Oi ?_
  exact⟨false_B (by intro F;have b1:=F.n1;have b2:=F.n2;have b3:=F.m2;have b4:=F.k;first|omega|exact absurd (fun j G J=>by have:=F.c j G J;omega) ‹¬Btw p.c p.n 1000000›|exact absurd (fun j G J=>F.b j G Oa) ‹¬Btw p.b p.k 1000000›|(obtain⟨j,G,J,j2⟩:=U;have:=F.c j G J;omega)),D.nl⟩
theorem ZiI{vc vA vb:Value}{vq:Int->Value}{p:Lp}(w0:World)(U:LAt w0 vc vA vb vq p):
   Calls Oj 205 [.agg #[vc,vA,vb]].toArray w0 fun e w=>∃v,e= .returned v/\∃vB vF vC vv W e,v= .tuple #[.agg #[.int Oh W.vars,.int Oh W.den,vB,vF,vC],.int Oh e]/\StartR p W e/\Slh vB W.nb/\Slh vF W.nf/\Slh vC W.nc/\Sat w0 w [.own vB 1 3 W.nb (ints W.B),.own vF 1 3 W.nf (ints W.F),.own vC 1 22 W.nc vv,.sem (Frame.rows 3 W.nc vv W.ln W.C)]:=by
 have hn:=U.c.cf.n0;have au:=U.c.cf.n1;have hm:=U.A.row.cf.n0;have aw:=U.A.row.cf.n1;have hk:=U.b.cf.n0;have ay:=U.b.cf.n1
 refine zenG Tryz.func205 Tryz.ntmps205 fun w D=> ?_
 refine zsr<|zla (xbx (cs:= [_,_,_]) D) ?_;rintro _ w ⟨g1,rfl,D⟩
 refine zla (xal (cs:= [_,_,_,_,_]) XB D) ?_;rintro _ w ⟨g2,rfl,D⟩
 refine(zP)<|zx5<|(zV (xls 0 ZeT D))<|zlc (xc0 Zk0) (ZiE (p:=p) w (U.below D.below)) ?_;rintro _ w ⟨rfl,ai⟩
 replace D:=D.cmp ai;clear ai
 refine(zP)<|zlt<|Ze ?_ ?_<;>intro hc
 ·
  refine zsr<|(zV (xany (v:= .agg #[.int Oh 0,.int Oh 0,Og,Og,Og])))<|zle (xsw 1 Zz D) ?_;clear D;rintro w D
  refine(zP)<|zx14<|ZS 1 Zz D ⟨_,rfl,?_⟩
  exact⟨_,_,_,fun _=>undef,Tb.zero,1,rfl,.inl ⟨‹_›,rfl,rfl⟩,slh_nil,slh_nil,slh_nil,((((D.sub (.cons _ (.cons _ .slnil))).cg 1 3 (ints Tb.zero.B)).cg 1 3 (ints Tb.zero.F)).cg 1 22 (fun _=>undef)).fa 3 (fun _=>undef) Tb.zero.ln Tb.zero.C⟩
 refine zsk<|ztn<|zsq<| ?_
 refine WR (fun M w=>∃(g3:Nat) (v1:Value) (G:Value) (I:Value),(Slh G (p.n+1))/\(Slh I 1)/\M= [(0,.agg #[vc,vA,vb]),(1,Oq g1),(2,Oq g2),(3,.int Oh 0),(8,.agg #[vc,vA,vb]),(9,B (LOk p)),(10,B (¬(LOk p))),(12,Oq g1),(13,vc),(14,.int Oh p.n),(16,Oq g1),(17,vc),(15,v1),(18,G),(19,I),(20,.agg #[.int Oh p.n,.int Oh 1,Og,Og,I]),(4,Oq g3)]/\Sat w0 w [.blk g1 [vc,vA,vb],.blk g2 [.int Oh 0,.int Oh 0,Og,Og,Og],.own G 1 3 (p.n+1) (ints (cat 1 (fun _=>0) p.c)),.own I 1 22 1 (fun _=>G),.blk g3 [.int Oh p.n,.int Oh 1,Og,Og,I]]) ?_ ?_
 ·
  refine zdst [0,1] [0,1] 10 mx_ D ?_;clear D;intro w D
  refine zDrv 0 (xfb 0 fd_245_0) ?_
  have Y:=(Oc ‹¬¬(LOk p)›)
  have b1:=Y.n1
  have b2:=Y.n2
  have b3:=Y.m2
  have b4:=Y.k
  refine(zDl 1 (fun w D=>(xlb 0 pl_22 D)))<|(zDw 2 (xln Zb U.c.cf))<|(zDw 4 (xfb 0 fd_245_0))<|(zDl 5 (fun w D=>(xlb 0 pl_22 D)))<|Xk (r:= [3,9]) ((Z1 ?_ (Z1 ?_ Xj)))
  ·
   refine zka (xli (n:=1) (len:=1) (pv:= [(0,.int Oh 0)]) (cs:= [.int Oh 0]) (c:=ints (fun _=>0)) Zb Zm D) ?_;rintro v1 w ⟨D,ak⟩
   refine⟨⟨fun _=>D.pk [0,1],D.pk [0,1]⟩,?_⟩
   refine Xk (r:= [6,9]) ((Z1 ?_ (Z1 ?_ Xj)))
   ·
    refine zka (xap 2 (r:=p.n+1) (f:=ints (cat 1 (fun _=>0) p.c)) Zb Zm D (U.c.below D.below) (by exact Zu _ _ _)) ?_;rintro G w ⟨D,J⟩
    refine⟨⟨fun _=>D.pk [0,1],D.pk [0,1]⟩,?_⟩
    refine Xk (r:= [7,9]) ((Z1 ?_ (Z1 ?_ Xj)))
    ·
     refine zka (xli (n:=1) (len:=1) (pv:= [(0,G)]) (cs:= [G]) (c:=(fun _=>G)) Zi Z9 D (hf:=by obtain⟨_,_,_,_,rfl,_⟩:=J;kernel_rfl)) ?_;rintro I w ⟨D,F⟩
     refine⟨⟨fun _=>D.pk [0,1],D.pk [0,1]⟩,?_⟩
     refine zDrv 8 (xany (v:= .agg #[.int Oh p.n,.int Oh 1,Og,Og,I]) (hr:=by obtain⟨_,_,_,_,rfl,_⟩:=F;kernel_rfl)) ?_
     refine zda 9 (xal (cs:= [_,_,_,_,_]) XB D) ?_;rintro _ w ⟨g3,rfl,D⟩
     refine⟨⟨fun _=>D.pk [0,1],D.pk [0,1]⟩,?_⟩
     refine zde 10 (xsw 4 Zz D (hd:=(Za rfl (Za rfl (Za rfl (Za rfl (Za F.one Zh))))))) ?_;clear D;rintro w D
     refine⟨⟨fun h=>absurd h (by decide),D.pk [0,1]⟩,?_⟩
     refine zdd<|zgj ⟨g3,v1,G,I,J,F,rfl,D⟩
    refine zka (xal (cs:= [_,_,_,_,_]) XB D) ?_;rintro _ w ⟨g3,rfl,D⟩
    refine⟨⟨fun _=>D.pk [0,1],D.pk [0,1]⟩,?_⟩
    refine zda 7 (xli (n:=1) (len:=1) (pv:= [(0,G)]) (cs:= [G]) (c:=(fun _=>G)) Zi Z9 D (hf:=by obtain⟨_,_,_,_,rfl,_⟩:=J;kernel_rfl)) ?_;rintro I w ⟨D,F⟩
    refine⟨⟨fun _=>D.pk [0,1],D.pk [0,1]⟩,?_⟩
    refine zDrv 8 (xany (v:= .agg #[.int Oh p.n,.int Oh 1,Og,Og,I]) (hr:=by obtain⟨_,_,_,_,rfl,_⟩:=F;kernel_rfl)) ?_
    refine zde 10 (xsw 3 Zz D (hd:=(Za rfl (Za rfl (Za rfl (Za rfl (Za F.one Zh))))))) ?_;clear D;rintro w D
    refine⟨⟨fun h=>absurd h (by decide),D.pk [0,1]⟩,?_⟩
    refine zdd<|zgj ⟨g3,v1,G,I,J,F,rfl,D.pk [0,1,2,4,3]⟩
   refine zka (xal (cs:= [_,_,_,_,_]) XB D) ?_;rintro _ w ⟨g3,rfl,D⟩
   refine⟨⟨fun _=>D.pk [0,1],D.pk [0,1]⟩,?_⟩
   refine zda 6 (xap 2 (r:=p.n+1) (f:=ints (cat 1 (fun _=>0) p.c)) Zb Zm D (U.c.below D.below) (by exact Zu _ _ _)) ?_;rintro G w ⟨D,J⟩
   refine⟨⟨fun _=>D.pk [0,1],D.pk [0,1]⟩,?_⟩
   refine zda 7 (xli (n:=1) (len:=1) (pv:= [(0,G)]) (cs:= [G]) (c:=(fun _=>G)) Zi Z9 D (hf:=by obtain⟨_,_,_,_,rfl,_⟩:=J;kernel_rfl)) ?_;rintro I w ⟨D,F⟩
   refine⟨⟨fun _=>D.pk [0,1],D.pk [0,1]⟩,?_⟩
   refine zDrv 8 (xany (v:= .agg #[.int Oh p.n,.int Oh 1,Og,Og,I]) (hr:=by obtain⟨_,_,_,_,rfl,_⟩:=F;kernel_rfl)) ?_
   refine zde 10 (xsw 3 Zz D (hd:=(Za rfl (Za rfl (Za rfl (Za rfl (Za F.one Zh))))))) ?_;clear D;rintro w D
   refine⟨⟨fun h=>absurd h (by decide),D.pk [0,1]⟩,?_⟩
   refine zdd<|zgj ⟨g3,v1,G,I,J,F,rfl,D.pk [0,1,2,4,3]⟩
  refine zka (xal (cs:= [_,_,_,_,_]) XB D) ?_;rintro _ w ⟨g3,rfl,D⟩
  refine⟨⟨fun _=>D.pk [0,1],D.pk [0,1]⟩,?_⟩
  refine zda 3 (xli (n:=1) (len:=1) (pv:= [(0,.int Oh 0)]) (cs:= [.int Oh 0]) (c:=ints (fun _=>0)) Zb Zm D) ?_;rintro v1 w ⟨D,ak⟩
  refine⟨⟨fun _=>D.pk [0,1],D.pk [0,1]⟩,?_⟩
  refine zda 6 (xap 3 (r:=p.n+1) (f:=ints (cat 1 (fun _=>0) p.c)) Zb Zm D (U.c.below D.below) (by exact Zu _ _ _)) ?_;rintro G w ⟨D,J⟩
  refine⟨⟨fun _=>D.pk [0,1],D.pk [0,1]⟩,?_⟩
  refine zda 7 (xli (n:=1) (len:=1) (pv:= [(0,G)]) (cs:= [G]) (c:=(fun _=>G)) Zi Z9 D (hf:=by obtain⟨_,_,_,_,rfl,_⟩:=J;kernel_rfl)) ?_;rintro I w ⟨D,F⟩
  refine⟨⟨fun _=>D.pk [0,1],D.pk [0,1]⟩,?_⟩
  refine zDrv 8 (xany (v:= .agg #[.int Oh p.n,.int Oh 1,Og,Og,I]) (hr:=by obtain⟨_,_,_,_,rfl,_⟩:=F;kernel_rfl)) ?_
  refine zde 10 (xsw 2 Zz D (hd:=(Za rfl (Za rfl (Za rfl (Za rfl (Za F.one Zh))))))) ?_;clear D;rintro w D
  refine⟨⟨fun h=>absurd h (by decide),D.pk [0,1]⟩,?_⟩
  refine zdd<|zgj ⟨g3,v1,G,I,J,F,rfl,D.pk [0,1,3,4,2]⟩
 clear D w;rintro M w ⟨g3,v1,G,I,J,F,rfl,D⟩
 refine ztn<|zsq<|zsr<|(zV (xfb 0 fd_245_0))<|(zV (xlb 0 pl_22 D))<|zlv (xln Zb U.c.cf) ?_
 have Y:=(Oc ‹¬¬(LOk p)›)
 have b1:=Y.n1
 have b2:=Y.n2
 have b3:=Y.m2
 have b4:=Y.k
 refine(zP)<|zx6 ?_
 replace D:=D.fa 3 (fun _=>Og) (fun _=>0) (fun _ _=>0)
 replace D:=Sat.iz (l1:= [.blk g1 [vc,vA,vb],.blk g2 [.int Oh 0,.int Oh 0,Og,Og,Og]]) (l2:= [.own I 1 22 1 (fun _=>G),.blk g3 [.int Oh p.n,.int Oh 1,Og,Og,I]]) (l3:= []) D Oa
 replace D:=D.gj (vv':=(fun _=>G)) (ln':=(ZD p).ln) (f':=(ZD p).C) 4 rfl (fun k O V=>by
   obtain rfl:k=0:=Oa
   refine⟨YE _ _ _,?_,fun j j0 j1=> ?_⟩
   · rw [YE];show _=p.n+1;omega
   · rw [YE];unfold ZD cat;dsimp only;(repeat' split)<;>first|rfl|omega)
 have yz:=fun k (O:0<=k) (V:k<1)=>D.db 4 rfl O V
 replace D:=D.cg 1 3 (ints (fun _=>0))
 replace D:=D.cg 1 3 (ints (fun _=>0))
 refine zlp (fun mm M w=>∃(Z:Int) (j:Int) (wF:Value) (fF:Oe),mm=((p.n-j).toNat)/\(0<=j)/\(j<=p.n)/\(Z=j)/\(∀k,0<=k->k<j->fF k=k)/\(Slh wF Z)/\M= [(1,Oq g1),(2,Oq g2),(3,.int Oh 0),(4,Oq g3),(23,.int Oh p.n),(24,.int Oh j)]/\Sat w0 w [.blk g1 [vc,vA,vb],.blk g2 [.int Oh 0,.int Oh 0,Og,Og,Og],.own I 1 22 1 (fun _=>G),.blk g3 [.int Oh p.n,.int Oh 1,Og,wF,I],.sem (Frame.rows 3 1 (fun _=>G) ((ZD p).ln) ((ZD p).C)),.own wF 1 3 Z (ints fF),.own Og 1 3 0 (ints (fun _=>0))]) ⟨0,0,Og,(fun _=>0),rfl,Oa,Oa,Oa,?_,?_,rfl,D⟩ ?_
 ·
  intro k O V;omega
 ·
  exact slh_nil
 clear D w
 rintro mm M w ⟨Z,j,wF,fF,rfl,j0,j1,aq,ag,aa,rfl,D⟩
 refine zsr<|(zP)<|zx7<|Ze ?_ ?_<;>intro hc
 ·
  refine zx3<|(Om)<|zlt<|zrg<|(zV (xfb 3 fd_265_3))<|(zV (xlb 3 pl_22 D))<|(zP)<|zla (xli (n:=1) (len:=1) (pv:= [(0,.int Oh j)]) (cs:= [.int Oh j]) (c:=ints (fun _=>j)) Zb Zm D) ?_;rintro v4 w ⟨D,ao⟩
  refine zla (xap 5 (r:=Z+1) Zb Zm D (D.c7 7 rfl) (Ya _ _ _)) ?_;rintro v5 w ⟨D,af⟩
  refine(zV (xfb 3 fd_265_3))<|zle (xsb 3 pl_22 D (hv:=af.one)) ?_;clear D;rintro w D
  refine zx10<|(zV (Zg (r:=j+1)))<|(zP)<|zln<|zlq ⟨Z+1,j+1,v5,(snoc fF Z j),rfl,Oa,Oa,Oa,?_,?_,rfl,D.pk [0,1,2,3,4,5,6]⟩
  ·
   intro k O V;by_cases e:k<Z
   · rw [Zl e];exact ag k O Oa
   · rw [Zk e];omega
  ·
   exact af
 refine zx18<|(zV (xfb 1 fd_245_1))<|(zV (xlb 0 Zs D))<|(zV (xln Zi U.A.row.cf))<|(zP)<|zx6<|zlp (fun mm M w=>∃(mB:Int) (X:Int) (wv:Int->Value) (i:Int) (wB:Value) (fB:Oe) (wC:Value),mm=((p.m-i).toNat)/\(0<=i)/\(i<=p.m)/\(mB=i)/\(X=i+1)/\(∀k,0<=k->k<i->fB k=p.n+k)/\(Slh wB mB)/\(Slh wC X)/\M= [(1,Oq g1),(2,Oq g2),(3,.int Oh 0),(4,Oq g3),(35,vA),(36,.int Oh p.m),(37,.int Oh i)]/\Sat w0 w [.blk g1 [vc,vA,vb],.blk g2 [.int Oh 0,.int Oh 0,Og,Og,Og],.own wC 1 22 X wv,.blk g3 [.int Oh p.n,.int Oh 1,wB,wF,wC],.sem (Frame.rows 3 X wv ((ZD p).ln) ((ZD p).C)),.own wF 1 3 Z (ints fF),.own wB 1 3 mB (ints fB)]) ⟨0,1,(fun _=>G),0,Og,(fun _=>0),I,rfl,Oa,Oa,Oa,Oa,?_,?_,?_,rfl,D⟩ ?_
 ·
  intro k O V;omega
 ·
  exact slh_nil
 ·
  exact F
 clear D w
 rintro mm M w ⟨mB,X,wv,i,wB,fB,wC,rfl,i0,i1,av,ar,ah,ac,ab,rfl,D⟩
 have qG:=fun k (O:0<=k) (V:k<X)=>D.db 4 rfl O V
 refine zsr<|(zP)<|zx7<|Ze ?_ ?_<;>intro hc
 ·
  refine zx3<|(zP)<|(zV (xix (kk:=i) Zi U.A.row.cf))<|zlv (xlr (u:=(vq i)) pl_22 (U.A.row.below D.below)) ?_
  have ap:=Y.rows i i0 Oa
  refine(Om)<|zlz<|(zV (xfb 2 fd_265_2))<|(zV (xlb 3 pl_22 D))<|(zV (xfb 0 fd_265_0))<|(zV (xlb 3 pl_3 D))<|(zP)<|(zV (Zg (r:=p.n+i)))<|zla (xli (n:=1) (len:=1) (pv:= [(0,.int Oh (p.n+i))]) (cs:= [.int Oh (p.n+i)]) (c:=ints (fun _=>p.n+i)) Zb Zm D) ?_;rintro v6 w ⟨D,an⟩
  refine zla (xap 6 (r:=mB+1) Zb Zm D (D.c7 7 rfl) (Ya _ _ _)) ?_;rintro v7 w ⟨D,ae⟩
  refine(zV (xfb 2 fd_265_2))<|zle (xsb 3 pl_22 D (hv:=ae.one)) ?_;clear D;rintro w D
  refine zlt<|zdst [0,1,3] [0,1] 14 mx_ D ?_;clear D;intro w D
  refine(zDw 0 (xfb 4 fd_265_4))<|zdl 1 (fun w D=>(xlb 2 Zs D)) ?_
  refine(zDw 2 (xfb 2 fd_245_2))<|(zDl 3 (fun w D=>(xlb 0 pl_22 D)))<|(zDw 4 xmv)<|(zDw 5 (xix (kk:=i) Zb U.b.cf))<|zdla 6 (fun w D=>(xlr (u:= .int Oh (p.b i)) pl_3 (U.b.below D.below))) ?_
  have az:=Y.b i i0 Oa
  refine(zDw 7 (ZbX (r:= -((p.b i)))))<|(zDw 9 xmv)<|zda 8 (xli (n:=1) (len:=1) (pv:= [(0,.int Oh (-((p.b i))))]) (cs:= [.int Oh (-((p.b i)))]) (c:=ints (fun _=> -((p.b i)))) Zb Zm D) ?_;rintro v8 w ⟨D,am⟩
  refine⟨⟨fun _=>D.pk [0,1,3],D.pk [0,1]⟩,?_⟩
  refine zda 10 (xap 8 (r:=(p.ln i)+1) (f:=ints (cat 1 (fun _=> -(p.b i)) (p.A i))) Zb Zm D ((U.A.p i Oa Oa).below D.below) (by exact Zu _ _ _)) ?_;rintro v9 w ⟨D,ad⟩
  refine⟨⟨fun _=>D.pk [0,1,3],D.pk [0,1]⟩,?_⟩
  refine zda 11 (xli (n:=1) (len:=1) (pv:= [(0,v9)]) (cs:= [v9]) (c:=(fun _=>v9)) Zi Z9 D (hf:=by obtain⟨_,_,_,_,rfl,_⟩:=ad;kernel_rfl)) ?_;rintro al w ⟨D,ci⟩
  refine⟨⟨fun _=>D.pk [0,1,3],D.pk [0,1]⟩,?_⟩
  refine zda 12 (xap 2 (r:=X+1) Zi Z9 D (D.c7 9 rfl) (Xa _ _ _) (h1:=fun _ _ _=>ad.one)) ?_;rintro aj w ⟨D,bx⟩
  replace D:=Sat.merge (l1:= [_,_,_,_]) (l2:= [_,_,_]) (l3:= [_]) D Oa
  have xd:=fun k (O:0<=k) (V:k<X+1)=>D.db 4 rfl O V
  refine⟨⟨fun _=>D.pk [0,1,3],D.pk [0,1]⟩,?_⟩
  refine(zDw 13 (xfb 4 fd_265_4))<|zde 14 (xsb 3 Zs D (hv:=bx.one)) ?_;clear D;rintro w D
  refine⟨⟨fun h=>absurd h (by decide),D.pk [0,1]⟩,?_⟩
  refine zdd<|zbn<|ztn<|zrg ?_
  refine zlv (Zg (r:=i+1)) ?_
  replace D:=D.gj (vv':=gsn wv X v9) (ln':=(ZD p).ln) (f':=(ZD p).C) 4 rfl (fun k O V=>by
    by_cases e:k<i+1
    · exact⟨rfl,Zp Oa,fun j _ _=>by rw [Zp Oa]⟩
    · have ax:k=i+1:=Oa
      refine⟨rfl,?_,fun j j0 j1=> ?_⟩
      · rw [Zq Oa];show _=p.n+1;omega
      · rw [Zq Oa];unfold ZD cat;dsimp only;(repeat' split)<;>first|rfl|omega|(congr 2;omega)|(congr 1;omega))
  have bl:=fun k (O:0<=k) (V:k<X+1)=>D.db 4 rfl O V
  refine(zP)<|zln<|zlq ⟨mB+1,X+1,gsn wv X v9,i+1,v7,(snoc fB mB (p.n+i)),aj,rfl,Oa,Oa,Oa,Oa,?_,?_,?_,rfl,D.pk [0,1,2,3,4,5,6]⟩
  ·
   intro k O V;by_cases e:k<mB
   · rw [Zl e];exact ah k O Oa
   · rw [Zk e];omega
  ·
   exact ae
  ·
   exact bx
 refine zx8<|(zV (xls 3 Zz D))<|zle (xsw 1 Zz D (hd:=(Za rfl (Za rfl (Za ac.one (Za aa.one (Za ab.one Zh))))))) ?_;clear D;rintro w D
 refine(zP)<|zx1<|ZS 1 Zz D ⟨_,rfl,?_⟩
 obtain rfl:i=p.m:=Oa
 obtain rfl:mB=p.m:=Oa
 obtain rfl:X=p.m+1:=Oa
 obtain rfl:Z=p.n:=Oa
 replace D:=D.gi 6 rfl (d:=ints (ZD p).B) (fun k O V=>by unfold ints;rw [ah k O (by simp at V;omega)];rfl)
 replace D:=D.gi 5 rfl (d:=ints (ZD p).F) (fun k O V=>by unfold ints;rw [ag k O (by simp at V;omega)];rfl)
 exact⟨_,_,_,_,ZD p,0,rfl,.inr ⟨Y,rfl,rfl⟩,ac,aa,ab,(D.pk [2,4,5,6]).perm (Vs (l1:= [_,_,_]) (l2:= []) (Vs (l1:= [_,_]) (l2:= []) (List.Perm.refl _)))⟩
theorem ZkZ:Zc Oj 217=true:=Ob
theorem ZkY:Zc Oj 218=true:=Ob
theorem ZiU{vB D F:Value}{vv:Int->Value}{t:Tb}(w0:World)(I:TAt w0 vB D F vv t):Calls Oj 217 [.agg #[.int Oh t.vars,.int Oh t.den,vB,D,F]].toArray w0 fun e w=>∃v,e= .returned v/\∃r c d e,v= .tuple #[.int Oh r,.int Oh c,B (d=true),.int Oh e]/\NextR t r c d e/\Sat w0 w []:=
 (Zmu w0 I).mono fun e w h=>by
   obtain⟨v,G,r,c,d,O,hv,hn,J⟩:=h
   exact⟨v,G,r,c,d,O,by rw [hv,Zhg],hn,J⟩
theorem ZcG{vB Y Z:Value}{vv:Int->Value}{t:Tb}(w0:World)(hT:TAt w0 vB Y Z vv t):
   Calls Oj 206 [.agg #[.int Oh t.vars,.int Oh t.den,vB,Y,Z]].toArray w0 fun e w=>∃v,e= .returned v/\∃V O U W u e,v= .tuple #[.agg #[.int Oh u.vars,.int Oh u.den,V,O,U],.int Oh e]/\Run 1000 t u e/\Slh V u.nb/\Slh O u.nf/\Slh U u.nc/\Sat w0 w [.sem (Frame.lc (u=t/\V=vB/\O=Y/\U=Z/\W=vv) (Frame.gm [.own V 1 3 u.nb (ints u.B),.own O 1 3 u.nf (ints u.F),.own U 1 22 u.nc W,.sem (Frame.rows 3 u.nc W u.ln u.C)]))]:=by
 refine zenG Tryz.func206 Tryz.ntmps206 fun w D=> ?_
 refine zsr<|zla (xbx (cs:= [_,_,_,_,_]) D) ?_;rintro _ w ⟨g1,rfl,D⟩
 refine zla (xal (cs:= [_,_,_,_,_]) XB D) ?_;rintro _ w ⟨g2,rfl,D⟩
 refine(zP)<|zlz<|(zP)<|zx6 ?_
 replace D:=D.nk (Frame.gm [.own vB 1 3 t.nb (ints t.B),.own Y 1 3 t.nf (ints t.F),.own Z 1 22 t.nc vv,.sem (Frame.rows 3 t.nc vv t.ln t.C)]) (p:=t=t/\vB=vB/\Y=Y/\Z=Z/\vv=vv) ⟨rfl,rfl,rfl,rfl,rfl⟩
 refine zlp (fun mm M w=>∃(u:Tb) (V:Value) (O:Value) (U:Value) (W:Int->Value) (n:Int),mm=(((1001:Int)-n).toNat)/\(0<=n)/\(n<=1000)/\(Slh V u.nb)/\(Slh O u.nf)/\(Slh U u.nc)/\(∀z e,Run (1000-n).toNat u z e->Run 1000 t z e)/\M= [(1,Oq g1),(2,Oq g2),(4,.int Oh n)]/\Sat w0 w [.blk g1 [.int Oh u.vars,.int Oh u.den,V,O,U],.blk g2 [.int Oh 0,.int Oh 0,Og,Og,Og],.sem (Frame.lc (u=t/\V=vB/\O=Y/\U=Z/\W=vv) (Frame.gm [.own V 1 3 u.nb (ints u.B),.own O 1 3 u.nf (ints u.F),.own U 1 22 u.nc W,.sem (Frame.rows 3 u.nc W u.ln u.C)]))]) ⟨t,vB,Y,Z,vv,0,rfl,Oa,Oa,?_,?_,?_,?_,rfl,D.sub (List.Sublist.refl _)⟩ ?_
 ·
  exact hT.B.cf
 ·
  exact hT.F.cf
 ·
  exact hT.C.row.cf
 ·
  exact fun z e h=>h
 clear D w
 rintro mm M w ⟨u,V,O,U,W,n,rfl,n0,n1,J,G,I,yE,rfl,D⟩
 have aa:=Yq (hT.below D.below) D 2 rfl
 have ak:=aa.B.cf.n0;have jw:=aa.B.cf.n1;have aj:=aa.F.cf.n0;have jv:=aa.F.cf.n1
 refine zsq<|zbk<|zsr<|(zV (xls 0 Zz D))<|zlc (xc0 ZkZ) (ZiU (t:=u) w (Yq (hT.below D.below) D 2 rfl)) ?_;rintro _ w ⟨ac,af,ae,ah,rfl,yA,X⟩
 replace D:=D.cmp X;clear X
 have al:=yA.ia
 refine zs6 ?_
 refine(On)<|zx5<|(Om)<|zlb 20 ?_ ?_<;>intro hc
 ·
  refine(zO)<|(zO)<|(zP)<|zlt<|zct<|zsr ?_
  refine(zV (xls 0 Zz D))<|(zP)<|zle (xsw 1 Zz D (hd:=(Za rfl (Za rfl (Za J.one (Za G.one (Za I.one Zh))))))) ?_;clear D;rintro w D
  refine(zP)<|zlt<|zrt<|ztr<|zbr<|ztr<|ztr<|zbr<|ZS 1 Zz D ⟨_,rfl,?_⟩
  exact⟨V,O,U,W,u,_,rfl,yE _ _ (.stop yA (by first|exact .inl hc|exact .inr Oa)),J,G,I,D.pk [2]⟩
 refine(On)<|zlt<|Ze ?_ ?_<;>intro hc
 ·
  refine zsr<|(zV (xls 0 Zz D))<|(zP)<|zle (xsw 1 Zz D (hd:=(Za rfl (Za rfl (Za J.one (Za G.one (Za I.one Zh))))))) ?_;clear D;rintro w D
  refine(zP)<|zlt<|zrt<|ztr<|zbr<|ztr<|ztr<|zbr<|ZS 1 Zz D ⟨_,rfl,?_⟩
  exact⟨V,O,U,W,u,_,rfl,yE _ _ (.stop yA (by first|exact .inl hc|exact .inr Oa)),J,G,I,D.pk [2]⟩
 refine YL<|zlv xmv ?_
 have ab:NextR u ac af false 0:=by have h1:ae=false:=(by simpa using‹¬(ae=true)›);have h2:ah=0:=Oa;have h3:=yA;rw [h1,h2] at h3;exact h3
 have ad:=(ab.ns Oa).1;have an:=ad.n2;have am:=ad.m2
 refine(zP)<|zlt<|Ze ?_ ?_<;>intro hc
 ·
  refine zsr<|(zV (xls 0 Zz D))<|zle (xsw 1 Zz D (hd:=(Za rfl (Za rfl (Za J.one (Za G.one (Za I.one Zh))))))) ?_;clear D;rintro w D
  refine(zP)<|zlt<|zrt<|ztr<|zbr<|ztr<|ztr<|zbr<|ZS 1 Zz D ⟨_,rfl,?_⟩
  exact⟨V,O,U,W,u,_,rfl,yE _ _ (by rw [show(1000-n).toNat=0 by omega];exact .lim ab),J,G,I,D.pk [2]⟩
 refine ZM<|(zV (xls 0 Zz D))<|(Om)<|zlc (xc0 ZkY) (ZiS (t:=u) (row:=ac) (col:=af) w (Yq (hT.below D.below) D 2 rfl) Oa Oa) ?_;rintro _ w ⟨qz,qy,qn,qq,F,ai,rfl,yW,x7,x5,x6,X⟩
 replace D:=(D.comp X).n7;clear X
 have cm:=fun k (k0:0<=k) (k1:k<F.nc)=>D.db 6 rfl k0 k1
 refine(On)<|zla (xal (cs:= [_,_,_,_,_]) XB D) ?_;rintro _ w ⟨g3,rfl,D⟩
 refine zle (xsw 7 Zz D (hd:=(Za rfl (Za rfl (Za x7.one (Za x5.one (Za x6.one Zh))))))) ?_;clear D;rintro w D
 refine(zP)<|zx5<|(Om)<|zlt<|Ze ?_ ?_<;>intro hc
 ·
  refine zsr<|(zV (xls 0 Zz D))<|(zP)<|zle (xsw 1 Zz D (hd:=(Za rfl (Za rfl (Za J.one (Za G.one (Za I.one Zh))))))) ?_;clear D;rintro w D
  refine(zP)<|zlt<|zrt<|ztr<|zbr<|ztr<|ztr<|zbr<|ZS 1 Zz D ⟨_,rfl,?_⟩
  exact⟨V,O,U,W,u,_,rfl,yE _ _ (by rw [show(1000-n).toNat=(1000-(n+1)).toNat+1 by omega];exact .bad ab yW Oa),J,G,I,D.pk [2]⟩
 refine zsk<|ztn<|zrg<|(zV (xls 7 Zz D))<|zle (xsw 0 Zz D (hd:=(Za rfl (Za rfl (Za x7.one (Za x5.one (Za x6.one Zh))))))) ?_;clear D;rintro w D
 refine zx10<|zlv xmv ?_
 replace D:=D.sub (.cons_cons _ (.cons_cons _ (.cons _ (.cons_cons _ (.cons_cons _ (.cons_cons _ (.cons_cons _ (.cons _ .slnil))))))))
 replace D:=Sat.lm (F=t/\qz=vB/\qy=Y/\qn=Z/\qq=vv) (l1:= [.blk g1 [.int Oh F.vars,.int Oh F.den,qz,qy,qn],.blk g2 [.int Oh 0,.int Oh 0,Og,Og,Og]]) (l2:= []) (Sat.gg (l1:= [.blk g1 [.int Oh F.vars,.int Oh F.den,qz,qy,qn],.blk g2 [.int Oh 0,.int Oh 0,Og,Og,Og]]) (l2:= [.own qz 1 3 F.nb (ints F.B),.own qy 1 3 F.nf (ints F.F),.own qn 1 22 F.nc qq,.sem (Frame.rows 3 F.nc qq F.ln F.C)]) D)
 refine(zV (Zg (r:=n+1)))<|(zP)<|zln<|zlq ⟨F,qz,qy,qn,qq,n+1,rfl,Oa,Oa,?_,?_,?_,?_,rfl,D.sub (List.Sublist.refl _)⟩
 ·
  exact x7
 ·
  exact x5
 ·
  exact x6
 ·
  intro z e hz;have ag:ai=0:=Oa;rw [ag] at yW;exact yE z e (by rw [show(1000-n).toNat=(1000-(n+1)).toNat+1 by omega];exact .go ab yW hz)
end Go.Proofs.YtkichmnjjblodaaGreat
namespace Go.Proofs.Gw
open Go Go.RowKit
variable {i:Int} {a f y:Oe}
def Zf(f:Oe):Nat->Int
  |0=>0
  |k+1=>Zf f k+f k
theorem ZH(f:Oe)(h:0<=i):Zf f (i+1).toNat=Zf f i.toNat+f i:=by
 rw [show(i+1).toNat=i.toNat+1 by omega]
 simp only [Zf]
 rw [show((i.toNat:Nat):Int)=i by omega]
theorem Yk{f g:Oe}:∀{n:Nat},(∀i,0<=i->i<(n:Int)->f i<=g i)->Zf f n<=Zf g n
 |0,_=>Int.le_refl _
 | n+1,h=>by
   have h1:=Yk (n:=n) (fun i D h1=>h i D Oa)
   have F:=h n Oa Oa
   simp only [Zf];omega
theorem Zj{g:Oe}{n:Nat}(h:∀i,0<=i->i<(n:Int)->f i=g i):Zf f n=Zf g n:=
 Int.le_antisymm (Yk fun i D h1=>Int.le_of_eq (h i D h1)) (Yk fun i D h1=>Int.le_of_eq (h i D h1).symm)
theorem Yd:∀n:Nat,Zf (fun _=>0) n=0
 |0=>rfl
 |n+1=>by simp only [Zf,Yd n];rfl
theorem Yi{n:Nat}(h:∀i,0<=i->i<(n:Int)->0<=f i):0<=Zf f n:=by
 have:=Yk (f:=fun _=>0) h
 rw [Yd] at this;exact this
theorem W0(c:Int):∀n:Nat,Zf (fun _=>c) n=n*c
 |0=>by simp [Zf]
 |n+1=>by simp only [Zf,W0 c n];rw [Int.natCast_add,Int.add_mul];simp
theorem W4{A:Int}{n:Nat}(h:∀i,0<=i->i<(n:Int)->0<=f i/\f i<=A):0<=Zf f n/\Zf f n<=n*A:=by
 refine⟨Yi fun i D h1=>(h i D h1).1,?_⟩
 rw [<-W0];exact Yk fun i D h1=>(h i D h1).2
theorem Vm(f g:Oe):∀n:Nat,Zf (fun i=>f i+g i) n=Zf f n+Zf g n
 |0=>rfl
 |n+1=>by simp only [Zf,Vm f g n];omega
theorem YU(f:Oe)(c:Int):∀n:Nat,Zf (fun i=>f i*c) n=Zf f n*c
 |0=>by simp [Zf]
 |n+1=>by simp only [Zf,YU f c n];rw [Int.add_mul]
theorem VJ(f:Of)(n:Nat):∀m:Nat,Zf (fun k=>Zf (fun i=>f i k) n) m=Zf (fun i=>Zf (fun k=>f i k) m) n
 |0=>(Yd n).symm
 | m+1=>by
   simp only [Zf,VJ f n m]
   rw [<-Vm]
theorem Xx{n:Nat}{j:Int}(G:0<=j)(h1:j<(n:Int))(h:∀i,0<=i->i<(n:Int)->0<=f i):f j<=Zf f n:=by
 induction n with
 |zero=>omega
 | succ n ih=>
   simp only [Zf]
   have F:=h n Oa Oa
   have D:=Yi (n:=n) (fun i a b=>h i a Oa)
   by_cases e:j=n
   · subst e;omega
   · have:=ih Oa (fun i a b=>h i a Oa);omega
theorem VB(D y:Oe):∀n:Nat,Tot D y n=Zf (fun i=>D i*y i) n
 |0=>rfl
 |n+1=>by simp only [Tot,Zf,VB D y n]
def ZI(p:Prob)(a:Oe)(n:Nat):Int:=Zf (fun i=>a i*(p.L i+p.bo)) n
structure FitsP (p:Prob) (n:Int) (a:Oe):Prop where
  ok:p.Ok
  eq:n=p.m
  all:∀i,0<=i->i<p.m->0<=a i/\a i<=2000
  used:ZI p a p.m.toNat<=p.b8+p.bo
structure SoundP (p:Prob) (n:Int) (len:Oe) (pt:Of) (cnt:Oe):Prop where
  ok:p.Ok
  lj:n<=1000
  all:∀i,0<=i->i<n->FitsP p (len i) (pt i)/\1<=cnt i/\cnt i<=1000
def Wl(pt:Of)(cnt:Oe)(n:Nat)(k:Int):Int:=Zf (fun i=>pt i k*cnt i) n
structure MeetsP (p:Prob) (n:Int) (len:Oe) (pt:Of) (cnt:Oe):Prop where
  s:SoundP p n len pt cnt
  all:∀k,0<=k->k<p.m->p.D k<=Wl pt cnt n.toNat k
theorem Rs{p:Prob}(D:p.Ok)(I:0<=i)(h1:i<p.m)(F:0<=a i/\a i<=2000):0<=a i*(p.L i+p.bo)/\a i*(p.L i+p.bo)<=4200000:=by
 have G:=D.all i I h1
 unfold Prob.each at G
 have:=D.k1;have:=D.k2;have:=D.s2
 have:=XI (a:=a i) (b:=p.L i+p.bo) (A:=2000) (B:=2100) F.1 F.2 Oa Oa
 omega
theorem Tv{p:Prob}(D:p.Ok)(G:∀i,0<=i->i<p.m->0<=a i/\a i<=2000){n:Int}(I:0<=n)(h1:n<=p.m):0<=ZI p a n.toNat/\ZI p a n.toNat<=84000000:=by
 have h:=W4 (f:=fun i=>a i*(p.L i+p.bo)) (A:=4200000) (n:=n.toNat) (fun i F J=>Rs D F Oa (G i F Oa))
 have:=D.m2
 unfold ZI;omega
theorem ZaL{p:Prob}(D:p.Ok){y x:Oe}(F:∀i,0<=i->i<p.m->0<=x i/\x i<=p.D i):∀(j:Nat),(j:Int)<=p.m->∀c,Zf (fun i=>x i*(p.L i+p.bo)) j<=c->Zf (fun i=>x i*y i) j<=Tab p y j c
 |0,_,c,_=>Int.le_refl _
 | j +1,hj,c,hc=>by
   have h1:=F j Oa Oa
   have J:=D.all j Oa Oa
   unfold Prob.each at J
   have O:=D.k1
   simp only [Zf] at hc⊢
   have V:=ZaL D F (y:=y) j Oa (c-x j*(p.L j+p.bo)) Oa
   have e:(((x j).toNat:Nat):Int)=x j:=Oa
   have U:0<=Zf (fun i=>x i*(p.L i+p.bo)) j:=Yi fun i I W=>by
     have:=F i I Oa
     have G:=D.all i I Oa
     unfold Prob.each at G
     exact Int.mul_nonneg this.1 Oa
   have G:=ZcJ (Tab p y j) (p.L j+p.bo) (y j) (p.D j).toNat (x j).toNat c Oa (by rw [e];omega)
   rw [e] at G
   simp only [Tab];omega
theorem Zh2{n:Nat}{c:Oe}{D:Int}(O:0<=D)(J:∀i,0<=i->i<(n:Int)->0<=a i)(hc:∀i,0<=i->i<(n:Int)->1<=c i)(h:D<=Zf (fun i=>a i*c i) n):D<=Zf (fun i=>min (a i) D*c i) n:=by
 have G:∀i,0<=i->i<(n:Int)->0<=min (a i) D*c i:=fun i F h1=>by
   have:=J i F h1;have:=hc i F h1
   exact Int.mul_nonneg Oa Oa
 by_cases hex:∃i,0<=i/\i<(n:Int)/\D<=a i
 · obtain⟨i,F,h1,I⟩:=hex
   have V:=Xx (f:=fun i=>min (a i) D*c i) F h1 G
   have U:min (a i) D=D:=Oa
   simp only [U] at V
   have W:D*1<=D*c i:=Int.mul_le_mul_of_nonneg_left (hc i F h1) O
   omega
 · have:Zf (fun i=>min (a i) D*c i) n=Zf (fun i=>a i*c i) n:=Zj fun i F h1=>by
     have I:¬D<=a i:=fun I=>hex ⟨i,F,h1,I⟩
     rw [show min (a i) D=a i by omega]
   omega
theorem Rn{p:Prob}{n:Int}(h:FitsP p n a):Zf (fun k=>min (a k) (p.D k)*y k) p.m.toNat<=WV p y:=by
 have D:=h.ok
 have I:=D.m1;have J:=D.k1
 refine ZaL D (fun i F h1=> ?_) p.m.toNat Oa _ ?_
 · have:=h.all i F h1
   have G:=D.all i F h1
   unfold Prob.each at G
   omega
 · refine Int.le_trans (Yk fun i F h1=> ?_) h.used
   have:=h.all i F Oa
   have G:=D.all i F Oa
   unfold Prob.each at G
   exact Int.mul_le_mul_of_nonneg_right Oa Oa
theorem ZdX{p:Prob}{n:Int}{q:Int}(h:Chk p n y q=0){l:Int}{len:Oe}{pt:Of}{cnt:Oe}(hl:0<=l)(hM:MeetsP p l len pt cnt):
   YZ p n y q<=Zf cnt l.toNat:=by
 obtain⟨O,G,hn,hw⟩:=WO h
 have hm:=O.m1;have hq:=G.1
 have F:=G.j8 hn
 rw [VQ h]
 have c6:Tot p.D y p.m.toNat<=Zf cnt l.toNat*q:=by
   rw [VB]
   have s1:Zf (fun k=>p.D k*y k) p.m.toNat<=Zf (fun k=>Zf (fun i=>min (pt i k) (p.D k)*cnt i*y k) l.toNat) p.m.toNat:=Yk fun k J Z=>by
     have h1:=hM.all k J Oa
     have Y:=O.all k J Oa
     unfold Prob.each at Y
     have X:=Zh2 (n:=l.toNat) (a:=fun i=>pt i k) (c:=cnt) (D:=p.D k) Oa (fun i I U=>((hM.s.all i I Oa).1.all k J Oa).1) (fun i I U=>(hM.s.all i I Oa).2.1) h1
     have W:=F k J Oa
     rw [YU (fun i=>min (pt i k) (p.D k)*cnt i) (y k)]
     exact Int.mul_le_mul_of_nonneg_right X W.1
   rw [VJ (fun i k=>min (pt i k) (p.D k)*cnt i*y k)] at s1
   refine Int.le_trans s1 ?_
   rw [<-YU]
   refine Yk fun i I U=> ?_
   have V:=hM.s.all i I Oa
   have h6:=Rn (y:=y) V.1
   have e:Zf (fun k=>min (pt i k) (p.D k)*cnt i*y k) p.m.toNat=Zf (fun k=>min (pt i k) (p.D k)*y k) p.m.toNat*cnt i:=by
     rw [<-YU]
     exact Zj fun k _ _=>by rw [Int.mul_assoc,Int.mul_comm (cnt i),<-Int.mul_assoc]
   rw [e,Int.mul_comm (cnt i)]
   exact Int.mul_le_mul_of_nonneg_right Oa Oa
 have h0:=(Zb2 O F p.m Oa Oa).1
 unfold Bnd
 rw [Int.tdiv_eq_ediv_of_nonneg Oa]
 have h7:(Tot p.D y p.m.toNat+q-1)/q<Zf cnt l.toNat+1:=Int.ediv_lt_of_lt_mul Oa (by rw [Int.add_mul];omega)
 omega
def Zd(pv:Int->Value)(cnt:Oe):Int->Value:=fun k=>if k%2=0 then pv (k/2) else .int Oh (cnt (k/2))
theorem Y9(pv:Int->Value)(cnt:Oe){k:Int}(h:k=2*i):Zd pv cnt k=pv i:=by
 subst h;unfold Zd;rw [if_pos Oa];congr 1;omega
theorem Y8(pv:Int->Value)(cnt:Oe){k:Int}(h:k=2*i+1):Zd pv cnt k= .int Oh (cnt i):=by
 subst h;unfold Zd;rw [if_neg Oa];congr 2;omega
structure UAt (w:World) (v:Value) (n:Int) (pv:Int->Value) (len:Oe) (pt:Of) (cnt:Oe):Prop where
  row:Row w v 2 n (Zd pv cnt)
  p:∀i,0<=i->i<n->IAt w (pv i) (len i) (pt i)
  c:∀i,-9223372036854775808<=cnt i/\cnt i<=9223372036854775807
theorem UAt.below{w w':World}{v:Value}{n:Int}{pv:Int->Value}{len:Oe}{pt:Of}{cnt:Oe}(h:UAt w v n pv len pt cnt)(D:Below w.heap.size w w'):UAt w' v n pv len pt cnt:=
 ⟨h.row.below D,fun i F h1=>(h.p i F h1).below D,h.c⟩
end Go.Proofs.Gw
namespace Go.Proofs.Gw
open Go Go.RowKit
theorem StartR.ok{p:Lp}{t:Tb}{e:Int}(h:StartR p t e)(D:e=0):LOk p/\t=ZD p:=by
 rcases h with⟨_,_,h⟩|⟨h1,h2,_⟩
 · omega
 · exact⟨h1,h2⟩
theorem StartR.err{p:Lp}{t:Tb}{e:Int}(h:StartR p t e)(D:e≠0):¬LOk p/\e=1:=by
 rcases h with⟨h1,_,h⟩|⟨h1,h2,h⟩
 · exact⟨h1,h⟩
 · exact absurd h D
def ZX(f g:Oe)(n:Nat):Int:=Zf (fun k=>f k*g k) n
def wgt(A:Of)(y:Oe)(n:Nat)(j:Int):Int:=Zf (fun i=>A i j*y i) n
structure ChkS (p:Lp) (s:So):Prop where
  ok:LOk p
  d1:1<=s.den
  d2:s.den<=1073741824
  v: -1073741824<=s.val/\s.val<=1073741824
  n:s.n=p.n
  m:s.m=p.m
  X:∀j,0<=j->j<p.n->0<=s.X j/\s.X j<=1073741824
  Y:∀i,0<=i->i<p.m->0<=s.Y i/\s.Y i<=1073741824
  rows:∀i,0<=i->i<p.m->p.b i*s.den<=ZX (p.A i) s.X p.n.toNat
  cols:∀j,0<=j->j<p.n->wgt p.A s.Y p.m.toNat j<=p.c j*s.den
  cX:ZX p.c s.X p.n.toNat=s.val
  bY:ZX p.b s.Y p.m.toNat=s.val
end Go.Proofs.Gw
namespace Go.Proofs.YtkichmnjjblodaaGreat
open Go Go.RowKit Go.Proofs.Gw
theorem Zla:Zc Oj 205=true:=Ob
theorem Zk9:Zc Oj 206=true:=Ob
theorem WM:ZV Oj 139=some (.agg #[Og,Og,.int Oh 0,.int Oh 0],4,64):=Ob
theorem fd_139_0:Zv Oj 139 0=some 0:=Ob
theorem fd_139_1:Zv Oj 139 1=some 1:=Ob
theorem ZN:ZC Oj 139=some 4:=Ob
theorem ZiK{vc vA vb:Value}{vq:Int->Value}{p:Lp}(w0:World)(hL:LAt w0 vc vA vb vq p):
   Calls Oj 188 [.agg #[vc,vA,vb]].toArray w0 fun e w=>∃v,e= .returned v/\∃vX vY s e,v= .tuple #[.agg #[vX,vY,.int Oh s.val,.int Oh s.den],.int Oh e]/\SolveR p s e/\Slh vX s.n/\Slh vY s.m/\Sat w0 w [.own vX 1 3 s.n (ints s.X),.own vY 1 3 s.m (ints s.Y)]:=by
 have hn:=hL.c.cf.n0;have ao:=hL.c.cf.n1;have hm:=hL.A.row.cf.n0;have ap:=hL.A.row.cf.n1;have hk:=hL.b.cf.n0;have ar:=hL.b.cf.n1
 refine zenG Tryz.func188 Tryz.ntmps188 fun w D=> ?_
 refine zsr<|zla (xbx (cs:= [_,_,_]) D) ?_;rintro _ w ⟨g1,rfl,D⟩
 refine zla (xal (cs:= [_,_,_,_]) WM D) ?_;rintro _ w ⟨g2,rfl,D⟩
 refine(zP)<|zlz<|(zV (xls 0 ZeT D))<|zlc (xc0 Zla) (ZiI (p:=p) w (hL.below D.below)) ?_;rintro _ w ⟨qz,qy,V,W,G,ad,rfl,yU,x7,x5,x6,ac⟩
 replace D:=(D.comp ac).n6;clear ac
 have cm:=fun k (U:0<=k) (O:k<G.nc)=>D.db 5 rfl U O
 refine(On)<|zla (xal (cs:= [_,_,_,_,_]) XB D) ?_;rintro _ w ⟨g3,rfl,D⟩
 refine zle (xsw 6 Zz D (hd:=(Za rfl (Za rfl (Za x7.one (Za x5.one (Za x6.one Zh))))))) ?_;clear D;rintro w D
 refine(zP)<|zx5<|(Om)<|zlt<|Ze ?_ ?_<;>intro hc
 ·
  refine zsr<|(zV (xany (v:= .agg #[Og,Og,.int Oh 0,.int Oh 0])))<|(zP)<|zle (xsw 1 ZN D) ?_;clear D;rintro w D
  refine(zP)<|zx14<|ZS 1 ZN D ⟨_,rfl,?_⟩
  obtain⟨ae,ah⟩:=yU.err Oa
  exact⟨_,_,So.zero,_,rfl,.inl ⟨ae,rfl,ah⟩,slh_nil,slh_nil,((D.sub (.cons _ (.cons _ (.cons _ (.cons _ (.cons _ (.cons _ (.cons _ .slnil)))))))).cg 1 3 (ints So.zero.X)).cg 1 3 (ints So.zero.Y)⟩
 refine YL<|(zV (xls 6 Zz D))<|zlc (xc0 Zk9) (ZcG (t:=G) w (⟨(D.c7 2 rfl),(D.c7 3 rfl),(⟨(D.c7 4 rfl),fun k U O=>D.fq 5 rfl U O,fun k U O=>D.gb 5 rfl U O⟩:MAt _ V G.nc W G.ln G.C)⟩:TAt _ qz qy V W G)) ?_;rintro _ w ⟨yw,yv,yi,yh,F,aa,rfl,qJ,ak,aj,zJ,ac⟩
 replace D:=(D.comp ac).n8;clear ac
 have bk:=fun k (U:0<=k) (O:k<F.nc)=>((Yq (⟨(D.c7 2 rfl),(D.c7 3 rfl),(⟨(D.c7 4 rfl),fun k U O=>D.fq 5 rfl U O,fun k U O=>D.gb 5 rfl U O⟩:MAt _ V G.nc W G.ln G.C)⟩:TAt _ qz qy V W G) D 7 rfl).C.p k U O).cf
 refine(On)<|zle (xsw 6 Zz D (hd:=(Za rfl (Za rfl (Za ak.one (Za aj.one (Za zJ.one Zh))))))) ?_;clear D;rintro w D
 refine(zP)<|zlz<|(Om)<|zlt<|Ze ?_ ?_<;>intro hc
 ·
  refine zsr<|(zV (xany (v:= .agg #[Og,Og,.int Oh 0,.int Oh 0])))<|(zP)<|zle (xsw 1 ZN D) ?_;clear D;rintro w D
  refine(zP)<|zx14<|ZS 1 ZN D ⟨_,rfl,?_⟩
  obtain⟨hl,Z⟩:=yU.ok Oa;rw [Z] at qJ
  exact⟨_,_,So.zero,_,rfl,.inr ⟨hl,_,qJ,.inl ⟨by omega,rfl⟩⟩,slh_nil,slh_nil,((D.sub (.cons _ (.cons _ (.cons _ (.cons _ (.cons _ (.cons _ (.cons _ (.cons _ .slnil))))))))).cg 1 3 (ints So.zero.X)).cg 1 3 (ints So.zero.Y)⟩
 refine zsk<|ztn<|zsq<| ?_
 refine WR (fun M w=>∃(Y:Value) (X:Value) (g4:Nat),(Slh Y p.n)/\(Slh X p.m)/\M= [(0,.agg #[vc,vA,vb]),(1,Oq g1),(2,Oq g2),(3,.int Oh 0),(12,.agg #[vc,vA,vb]),(13,.tuple #[.agg #[.int Oh G.vars,.int Oh G.den,qz,qy,V],.int Oh ad]),(11,.tuple #[.agg #[.int Oh G.vars,.int Oh G.den,qz,qy,V],.int Oh ad]),(14,.agg #[.int Oh G.vars,.int Oh G.den,qz,qy,V]),(15,.int Oh ad),(4,Oq g3),(5,.int Oh aa),(16,.int Oh ad),(17,B (ad≠0)),(21,.agg #[.int Oh G.vars,.int Oh G.den,qz,qy,V]),(22,.tuple #[.agg #[.int Oh F.vars,.int Oh F.den,yw,yv,yi],.int Oh aa]),(20,.tuple #[.agg #[.int Oh F.vars,.int Oh F.den,yw,yv,yi],.int Oh aa]),(23,.agg #[.int Oh F.vars,.int Oh F.den,yw,yv,yi]),(24,.int Oh aa),(25,.int Oh aa),(26,B (aa≠0)),(29,Oq g1),(30,vc),(31,.int Oh p.n),(33,.pointer (some ⟨g1,1,none⟩)),(34,vA),(35,.int Oh p.m),(37,.pointer (some ⟨g3,4,none⟩)),(38,yi),(39,.pointer (some (cad yi 0))),(40,(yh 0)),(41,.pointer (some (cad (yh 0) 0))),(42,.int Oh (F.C 0 0)),(43,.pointer (some ⟨g3,1,none⟩)),(44,.int Oh F.den),(32,Y),(36,X),(45,.agg #[Y,X,.int Oh (F.C 0 0),.int Oh F.den]),(6,Oq g4)]/\Sat w0 w [.blk g1 [vc,vA,vb],.blk g2 [Og,Og,.int Oh 0,.int Oh 0],.own qz 1 3 G.nb (ints G.B),.own qy 1 3 G.nf (ints G.F),.own V 1 22 G.nc W,.sem (Frame.rows 3 G.nc W G.ln G.C),.blk g3 [.int Oh F.vars,.int Oh F.den,yw,yv,yi],.sem (Frame.lc (F=G/\yw=qz/\yv=qy/\yi=V/\yh=W) (Frame.gm [.own yw 1 3 F.nb (ints F.B),.own yv 1 3 F.nf (ints F.F),.own yi 1 22 F.nc yh,.sem (Frame.rows 3 F.nc yh F.ln F.C)])),.own Y 1 3 p.n (ints (fun _=>0)),.own X 1 3 p.m (ints (fun _=>0)),.blk g4 [Y,X,.int Oh (F.C 0 0),.int Oh F.den]]) ?_ ?_
 ·
  refine zdst [0,1,2,3,4,5,6,7] [0,1,2,3,4,5,6,7] 18 mx_ D ?_;clear D;intro w D
  refine zDrv 0 (xfb 0 fd_245_0) ?_
  obtain⟨hl,Z⟩:=yU.ok Oa
  have b1:=hl.n1
  have b2:=hl.n2
  have b3:=hl.m2
  have b4:=hl.k
  have ab:=qJ.ll
  obtain⟨hp,an,hlv,_⟩:=qJ.fin (.inl Oa)
  have hd1:F.nb=p.m:=by rw [ab.1,Z];rfl
  have hd2:F.nf=p.n:=by rw [ab.2.1,Z];rfl
  have am:F.vars=p.n:=by rw [ab.2.2.2,Z];rfl
  have al:=hp.c;have ae:=hp.len (i:=0) Oa Oa
  refine(zDl 1 (fun w D=>(xlb 0 pl_22 D)))<|(zDw 2 (xln Zb hL.c.cf))<|(zDw 4 (xfb 1 fd_245_1))<|(zDl 5 (fun w D=>(xlb 0 Zs D)))<|(zDw 6 (xln Zi hL.A.row.cf))<|(zDw 8 (xfb 4 fd_265_4))<|(zDl 9 (fun w D=>(xlb 6 Zs D)))<|(zDw 10 (xix (kk:=0) Zi zJ))<|(zDl 11 (fun w D=>(xlr (u:=(yh 0)) pl_22 (Yq (⟨(D.c7 2 rfl),(D.c7 3 rfl),(⟨(D.c7 4 rfl),fun k U O=>D.fq 5 rfl U O,fun k U O=>D.gb 5 rfl U O⟩:MAt _ V G.nc W G.ln G.C)⟩:TAt _ qz qy V W G) D 7 rfl).C.row)))<|(zDw 12 (xix (kk:=0) Zb (bk 0 Oa Oa)))<|(zDl 13 (fun w D=>(xlr (u:= .int Oh (F.C 0 0)) pl_3 ((Yq (⟨(D.c7 2 rfl),(D.c7 3 rfl),(⟨(D.c7 4 rfl),fun k U O=>D.fq 5 rfl U O,fun k U O=>D.gb 5 rfl U O⟩:MAt _ V G.nc W G.ln G.C)⟩:TAt _ qz qy V W G) D 7 rfl).C.p 0 Oa Oa))))<|(zDw 14 (xfb 1 fd_265_1))<|(zDl 15 (fun w D=>(xlb 6 pl_3 D)))<|Xk (r:= [3,7,17]) ((Z1 ?_ (Z1 ?_ (Z1 ?_ Xj))))
  ·
   refine zka (xmk Zb Zm D) ?_;rintro Y w ⟨D,J⟩
   refine⟨⟨fun _=>D.pk [0,1,2,3,4,5,6,7],D.pk [0,1,2,3,4,5,6,7]⟩,?_⟩
   refine Xk (r:= [7,17]) ((Z1 ?_ (Z1 ?_ Xj)))
   ·
    refine zka (xmk Zb Zm D) ?_;rintro X w ⟨D,I⟩
    refine⟨⟨fun _=>D.pk [0,1,2,3,4,5,6,7],D.pk [0,1,2,3,4,5,6,7]⟩,?_⟩
    refine zDrv 16 (xany (v:= .agg #[Y,X,.int Oh (F.C 0 0),.int Oh F.den]) (hr:=by obtain⟨_,_,_,_,rfl,_⟩:=J;obtain⟨_,_,_,_,rfl,_⟩:=I;kernel_rfl)) ?_
    refine zda 17 (xal (cs:= [_,_,_,_]) WM D) ?_;rintro _ w ⟨g4,rfl,D⟩
    refine⟨⟨fun _=>D.pk [0,1,2,3,4,5,6,7],D.pk [0,1,2,3,4,5,6,7]⟩,?_⟩
    refine zde 18 (xsw 10 ZN D (hd:=(Za J.one (Za I.one (Za rfl (Za rfl Zh)))))) ?_;clear D;rintro w D
    refine⟨⟨fun h=>absurd h (by decide),D.pk [0,1,2,3,4,5,6,7]⟩,?_⟩
    refine zdd<|zgj ⟨Y,X,g4,J,I,rfl,D⟩
   refine zka (xal (cs:= [_,_,_,_]) WM D) ?_;rintro _ w ⟨g4,rfl,D⟩
   refine⟨⟨fun _=>D.pk [0,1,2,3,4,5,6,7],D.pk [0,1,2,3,4,5,6,7]⟩,?_⟩
   refine zda 7 (xmk Zb Zm D) ?_;rintro X w ⟨D,I⟩
   refine⟨⟨fun _=>D.pk [0,1,2,3,4,5,6,7],D.pk [0,1,2,3,4,5,6,7]⟩,?_⟩
   refine zDrv 16 (xany (v:= .agg #[Y,X,.int Oh (F.C 0 0),.int Oh F.den]) (hr:=by obtain⟨_,_,_,_,rfl,_⟩:=J;obtain⟨_,_,_,_,rfl,_⟩:=I;kernel_rfl)) ?_
   refine zde 18 (xsw 9 ZN D (hd:=(Za J.one (Za I.one (Za rfl (Za rfl Zh)))))) ?_;clear D;rintro w D
   refine⟨⟨fun h=>absurd h (by decide),D.pk [0,1,2,3,4,5,6,7]⟩,?_⟩
   refine zdd<|zgj ⟨Y,X,g4,J,I,rfl,D.pk [0,1,2,3,4,5,6,7,8,10,9]⟩
  ·
   refine zka (xmk Zb Zm D) ?_;rintro Y w ⟨D,J⟩
   refine⟨⟨fun _=>D.pk [0,1,2,3,4,5,6,7],D.pk [0,1,2,3,4,5,6,7]⟩,?_⟩
   refine Xk (r:= [3,17]) ((Z1 ?_ (Z1 ?_ Xj)))
   ·
    refine zka (xmk Zb Zm D) ?_;rintro X w ⟨D,I⟩
    refine⟨⟨fun _=>D.pk [0,1,2,3,4,5,6,7],D.pk [0,1,2,3,4,5,6,7]⟩,?_⟩
    refine zDrv 16 (xany (v:= .agg #[X,Y,.int Oh (F.C 0 0),.int Oh F.den]) (hr:=by obtain⟨_,_,_,_,rfl,_⟩:=I;obtain⟨_,_,_,_,rfl,_⟩:=J;kernel_rfl)) ?_
    refine zda 17 (xal (cs:= [_,_,_,_]) WM D) ?_;rintro _ w ⟨g4,rfl,D⟩
    refine⟨⟨fun _=>D.pk [0,1,2,3,4,5,6,7],D.pk [0,1,2,3,4,5,6,7]⟩,?_⟩
    refine zde 18 (xsw 10 ZN D (hd:=(Za I.one (Za J.one (Za rfl (Za rfl Zh)))))) ?_;clear D;rintro w D
    refine⟨⟨fun h=>absurd h (by decide),D.pk [0,1,2,3,4,5,6,7]⟩,?_⟩
    refine zdd<|zgj ⟨X,Y,g4,I,J,rfl,D.pk [0,1,2,3,4,5,6,7,9,8,10]⟩
   refine zka (xal (cs:= [_,_,_,_]) WM D) ?_;rintro _ w ⟨g4,rfl,D⟩
   refine⟨⟨fun _=>D.pk [0,1,2,3,4,5,6,7],D.pk [0,1,2,3,4,5,6,7]⟩,?_⟩
   refine zda 3 (xmk Zb Zm D) ?_;rintro X w ⟨D,I⟩
   refine⟨⟨fun _=>D.pk [0,1,2,3,4,5,6,7],D.pk [0,1,2,3,4,5,6,7]⟩,?_⟩
   refine zDrv 16 (xany (v:= .agg #[X,Y,.int Oh (F.C 0 0),.int Oh F.den]) (hr:=by obtain⟨_,_,_,_,rfl,_⟩:=I;obtain⟨_,_,_,_,rfl,_⟩:=J;kernel_rfl)) ?_
   refine zde 18 (xsw 9 ZN D (hd:=(Za I.one (Za J.one (Za rfl (Za rfl Zh)))))) ?_;clear D;rintro w D
   refine⟨⟨fun h=>absurd h (by decide),D.pk [0,1,2,3,4,5,6,7]⟩,?_⟩
   refine zdd<|zgj ⟨X,Y,g4,I,J,rfl,D.pk [0,1,2,3,4,5,6,7,10,8,9]⟩
  refine zka (xal (cs:= [_,_,_,_]) WM D) ?_;rintro _ w ⟨g4,rfl,D⟩
  refine⟨⟨fun _=>D.pk [0,1,2,3,4,5,6,7],D.pk [0,1,2,3,4,5,6,7]⟩,?_⟩
  refine Xk (r:= [3,7]) ((Z1 ?_ (Z1 ?_ Xj)))
  ·
   refine zka (xmk Zb Zm D) ?_;rintro Y w ⟨D,J⟩
   refine⟨⟨fun _=>D.pk [0,1,2,3,4,5,6,7],D.pk [0,1,2,3,4,5,6,7]⟩,?_⟩
   refine zda 7 (xmk Zb Zm D) ?_;rintro X w ⟨D,I⟩
   refine⟨⟨fun _=>D.pk [0,1,2,3,4,5,6,7],D.pk [0,1,2,3,4,5,6,7]⟩,?_⟩
   refine zDrv 16 (xany (v:= .agg #[Y,X,.int Oh (F.C 0 0),.int Oh F.den]) (hr:=by obtain⟨_,_,_,_,rfl,_⟩:=J;obtain⟨_,_,_,_,rfl,_⟩:=I;kernel_rfl)) ?_
   refine zde 18 (xsw 8 ZN D (hd:=(Za J.one (Za I.one (Za rfl (Za rfl Zh)))))) ?_;clear D;rintro w D
   refine⟨⟨fun h=>absurd h (by decide),D.pk [0,1,2,3,4,5,6,7]⟩,?_⟩
   refine zdd<|zgj ⟨Y,X,g4,J,I,rfl,D.pk [0,1,2,3,4,5,6,7,9,10,8]⟩
  refine zka (xmk Zb Zm D) ?_;rintro Y w ⟨D,J⟩
  refine⟨⟨fun _=>D.pk [0,1,2,3,4,5,6,7],D.pk [0,1,2,3,4,5,6,7]⟩,?_⟩
  refine zda 3 (xmk Zb Zm D) ?_;rintro X w ⟨D,I⟩
  refine⟨⟨fun _=>D.pk [0,1,2,3,4,5,6,7],D.pk [0,1,2,3,4,5,6,7]⟩,?_⟩
  refine zDrv 16 (xany (v:= .agg #[X,Y,.int Oh (F.C 0 0),.int Oh F.den]) (hr:=by obtain⟨_,_,_,_,rfl,_⟩:=I;obtain⟨_,_,_,_,rfl,_⟩:=J;kernel_rfl)) ?_
  refine zde 18 (xsw 8 ZN D (hd:=(Za I.one (Za J.one (Za rfl (Za rfl Zh)))))) ?_;clear D;rintro w D
  refine⟨⟨fun h=>absurd h (by decide),D.pk [0,1,2,3,4,5,6,7]⟩,?_⟩
  refine zdd<|zgj ⟨X,Y,g4,I,J,rfl,D.pk [0,1,2,3,4,5,6,7,10,9,8]⟩
 clear D w;rintro M w ⟨Y,X,g4,J,I,rfl,D⟩
 refine ztn<|zsq<|zsr<|zlv (xfb 2 fd_265_2) ?_
 obtain⟨hl,Z⟩:=yU.ok Oa
 have b1:=hl.n1
 have b2:=hl.n2
 have b3:=hl.m2
 have b4:=hl.k
 have ab:=qJ.ll
 obtain⟨hp,an,hlv,_⟩:=qJ.fin (.inl Oa)
 have hd1:F.nb=p.m:=by rw [ab.1,Z];rfl
 have hd2:F.nf=p.n:=by rw [ab.2.1,Z];rfl
 have am:F.vars=p.n:=by rw [ab.2.2.2,Z];rfl
 have al:=hp.c;have ae:=hp.len (i:=0) Oa Oa
 refine(zV (xlb 6 pl_22 D))<|(zV (xln Zb ak))<|(zP)<|zx6<|zlp (fun mm M w=>∃(i:Int) (fX:Oe),mm=((F.nb-i).toNat)/\(0<=i)/\(i<=F.nb)/\(fX=rdX F i.toNat)/\M= [(2,Oq g2),(3,.int Oh 0),(4,Oq g3),(6,Oq g4),(47,yw),(48,.int Oh F.nb),(49,.int Oh i)]/\Sat w0 w [.blk g1 [vc,vA,vb],.blk g2 [Og,Og,.int Oh 0,.int Oh 0],.own qz 1 3 G.nb (ints G.B),.own qy 1 3 G.nf (ints G.F),.own V 1 22 G.nc W,.sem (Frame.rows 3 G.nc W G.ln G.C),.blk g3 [.int Oh F.vars,.int Oh F.den,yw,yv,yi],.sem (Frame.lc (F=G/\yw=qz/\yv=qy/\yi=V/\yh=W) (Frame.gm [.own yw 1 3 F.nb (ints F.B),.own yv 1 3 F.nf (ints F.F),.own yi 1 22 F.nc yh,.sem (Frame.rows 3 F.nc yh F.ln F.C)])),.own Y 1 3 p.n (ints fX),.own X 1 3 p.m (ints (fun _=>0)),.blk g4 [Y,X,.int Oh (F.C 0 0),.int Oh F.den]]) ⟨0,(fun _=>0),rfl,Oa,Oa,?_,rfl,D⟩ ?_
 ·
  rfl
 clear D w
 rintro mm M w ⟨i,fX,rfl,h0,h1,ag,rfl,D⟩
 refine zsr<|(zP)<|zx7<|Ze ?_ ?_<;>intro hc
 ·
  refine zx3<|(zP)<|(zV (xix (kk:=i) Zb ak))<|zlv (xlr (u:= .int Oh (F.B i)) pl_3 (Yq (⟨(D.c7 2 rfl),(D.c7 3 rfl),(⟨(D.c7 4 rfl),fun k U O=>D.fq 5 rfl U O,fun k U O=>D.gb 5 rfl U O⟩:MAt _ V G.nc W G.ln G.C)⟩:TAt _ qz qy V W G) D 7 rfl).B) ?_
  have hrg:=hp.lz (i:=i) h0 Oa
  refine(Om)<|zlz<|(zP)<|(zV (xfb 0 fd_265_0))<|(zV (xlb 6 pl_3 D))<|(zP)<|zlt<|Ze ?_ ?_<;>intro hc
  ·
   refine zdst [0,1,2,3,4,5,6,7,8,9,10] [0,1,2,3,4,5,6,7,9,10] 12 mx_ D ?_;clear D;intro w D
   refine zDrv 0 (xfb 0 fd_139_0) ?_
   have aq:=hp.len (i:=i+1) Oa Oa
   refine(zDl 1 (fun w D=>(xlb 9 pl_22 D)))<|(zDw 2 xmv)<|(zDw 3 (xfb 4 fd_265_4))<|(zDl 4 (fun w D=>(xlb 6 Zs D)))<|(zDw 5 xmv)<|(zDw 6 (Zg (r:=i+1)))<|(zDw 7 (xix (kk:=i+1) Zi zJ))<|(zDl 8 (fun w D=>(xlr (u:=(yh (i+1))) pl_22 (Yq (⟨(D.c7 2 rfl),(D.c7 3 rfl),(⟨(D.c7 4 rfl),fun k U O=>D.fq 5 rfl U O,fun k U O=>D.gb 5 rfl U O⟩:MAt _ V G.nc W G.ln G.C)⟩:TAt _ qz qy V W G) D 7 rfl).C.row)))<|(zDw 9 (xix (kk:=0) Zb (bk (i+1) Oa Oa)))<|(zDl 10 (fun w D=>(xlr (u:= .int Oh (F.C (i+1) 0)) pl_3 ((Yq (⟨(D.c7 2 rfl),(D.c7 3 rfl),(⟨(D.c7 4 rfl),fun k U O=>D.fq 5 rfl U O,fun k U O=>D.gb 5 rfl U O⟩:MAt _ V G.nc W G.ln G.C)⟩:TAt _ qz qy V W G) D 7 rfl).C.p (i+1) Oa Oa))))<|(zDw 11 (xix (kk:=(F.B i)) Zb J))<|zde 12 (xso 8 pl_3 D (Zy _ _ _)) ?_;clear D;rintro w D
   refine⟨⟨fun h=>absurd h (by decide),D.pk [0,1,2,3,4,5,6,7,9,10]⟩,?_⟩
   refine zdd<|zbn<|ztn<|zrg ?_
   refine(zV (Zg (r:=i+1)))<|(zP)<|zln<|zlq ⟨i+1,(upd fX (F.B i) (F.C (i+1) 0)),rfl,Oa,Oa,?_,rfl,D⟩
   ·
    rw [V6 F h0,<-ag];first|rw [if_pos Oa]|rw [if_neg Oa]
  refine zx4<|(zV (Zg (r:=i+1)))<|(zP)<|zln<|zlq ⟨i+1,fX,rfl,Oa,Oa,?_,rfl,D⟩
  ·
   rw [V6 F h0,<-ag];first|rw [if_pos Oa]|rw [if_neg Oa]
 refine zx18<|(zV (xfb 3 fd_265_3))<|(zV (xlb 6 pl_22 D))<|(zV (xln Zb aj))<|(zP)<|zx6<|zlp (fun mm M w=>∃(j:Int) (fY:Oe),mm=((F.nf-j).toNat)/\(0<=j)/\(j<=F.nf)/\(fY=rdY F j.toNat)/\M= [(2,Oq g2),(3,.int Oh 0),(4,Oq g3),(6,Oq g4),(72,yv),(73,.int Oh F.nf),(74,.int Oh j)]/\Sat w0 w [.blk g1 [vc,vA,vb],.blk g2 [Og,Og,.int Oh 0,.int Oh 0],.own qz 1 3 G.nb (ints G.B),.own qy 1 3 G.nf (ints G.F),.own V 1 22 G.nc W,.sem (Frame.rows 3 G.nc W G.ln G.C),.blk g3 [.int Oh F.vars,.int Oh F.den,yw,yv,yi],.sem (Frame.lc (F=G/\yw=qz/\yv=qy/\yi=V/\yh=W) (Frame.gm [.own yw 1 3 F.nb (ints F.B),.own yv 1 3 F.nf (ints F.F),.own yi 1 22 F.nc yh,.sem (Frame.rows 3 F.nc yh F.ln F.C)])),.own Y 1 3 p.n (ints fX),.own X 1 3 p.m (ints fY),.blk g4 [Y,X,.int Oh (F.C 0 0),.int Oh F.den]]) ⟨0,(fun _=>0),rfl,Oa,Oa,?_,rfl,D⟩ ?_
 ·
  rfl
 clear D w
 rintro mm M w ⟨j,fY,rfl,j0,j1,af,rfl,D⟩
 refine zsr<|(zP)<|zx7<|Ze ?_ ?_<;>intro hc
 ·
  refine zx3<|(zP)<|(zV (xix (kk:=j) Zb aj))<|zlv (xlr (u:= .int Oh (F.F j)) pl_3 (Yq (⟨(D.c7 2 rfl),(D.c7 3 rfl),(⟨(D.c7 4 rfl),fun k U O=>D.fq 5 rfl U O,fun k U O=>D.gb 5 rfl U O⟩:MAt _ V G.nc W G.ln G.C)⟩:TAt _ qz qy V W G) D 7 rfl).F) ?_
  have hrg:=hp.ly (i:=j) j0 Oa Oa
  refine(Om)<|zlz<|(zP)<|(zV (xfb 0 fd_265_0))<|(zV (xlb 6 pl_3 D))<|(zP)<|zlt<|Ze ?_ ?_<;>intro hc
  ·
   refine zdst [0,1,2,3,4,5,6,7,8,9,10] [0,1,2,3,4,5,6,7,8,10] 15 mx_ D ?_;clear D;intro w D
   refine(zDw 0 (xfb 1 fd_139_1))<|(zDl 1 (fun w D=>(xlb 9 pl_22 D)))<|(zDw 2 xmv)<|(zDw 3 (xfb 0 fd_265_0))<|(zDl 4 (fun w D=>(xlb 6 pl_3 D)))<|(zDw 5 (Zw (r:=(F.F j)-F.vars)))<|(zDw 6 (xfb 4 fd_265_4))<|(zDl 7 (fun w D=>(xlb 6 Zs D)))<|(zDw 8 (xix (kk:=0) Zi zJ))<|(zDl 9 (fun w D=>(xlr (u:=(yh 0)) pl_22 (Yq (⟨(D.c7 2 rfl),(D.c7 3 rfl),(⟨(D.c7 4 rfl),fun k U O=>D.fq 5 rfl U O,fun k U O=>D.gb 5 rfl U O⟩:MAt _ V G.nc W G.ln G.C)⟩:TAt _ qz qy V W G) D 7 rfl).C.row)))<|(zDw 10 xmv)<|(zDw 11 (Zg (r:=j+1)))<|(zDw 12 (xix (kk:=j+1) Zb (bk 0 Oa Oa)))<|(zDl 13 (fun w D=>(xlr (u:= .int Oh (F.C 0 (j+1))) pl_3 ((Yq (⟨(D.c7 2 rfl),(D.c7 3 rfl),(⟨(D.c7 4 rfl),fun k U O=>D.fq 5 rfl U O,fun k U O=>D.gb 5 rfl U O⟩:MAt _ V G.nc W G.ln G.C)⟩:TAt _ qz qy V W G) D 7 rfl).C.p 0 Oa Oa))))<|zDrv 14 (xix (kk:=(F.F j)-F.vars) Zb I) ?_
   refine zde 15 (xso 9 pl_3 D (Zy _ _ _)) ?_;clear D;rintro w D
   refine⟨⟨fun h=>absurd h (by decide),D.pk [0,1,2,3,4,5,6,7,8,10]⟩,?_⟩
   refine zdd<|zbn<|ztn<|zrg ?_
   refine(zV (Zg (r:=j+1)))<|(zP)<|zln<|zlq ⟨j+1,(upd fY ((F.F j)-F.vars) (F.C 0 (j+1))),rfl,Oa,Oa,?_,rfl,D⟩
   ·
    rw [V5 F j0,<-af];first|rw [if_pos Oa]|rw [if_neg Oa]
  refine zx4<|(zV (Zg (r:=j+1)))<|(zP)<|zln<|zlq ⟨j+1,fY,rfl,Oa,Oa,?_,rfl,D⟩
  ·
   rw [V5 F j0,<-af];first|rw [if_pos Oa]|rw [if_neg Oa]
 refine zx8<|(zV (xls 10 ZN D))<|zle (xsw 1 ZN D (hd:=(Za J.one (Za I.one (Za rfl (Za rfl Zh)))))) ?_;clear D;rintro w D
 refine(zP)<|zx1<|ZS 1 ZN D ⟨_,rfl,?_⟩
 obtain rfl:i=F.nb:=Oa
 obtain rfl:j=F.nf:=Oa
 have ai:aa=0:=Oa
 rw [Z,ai] at qJ
 rw [<-hd2] at J;rw [<-hd1] at I;replace D:=D.pk [8,9];rw [<-hd2,<-hd1] at D;subst ag;subst af
 exact⟨_,_,XU F,0,rfl,.inr ⟨hl,F,qJ,.inr ⟨rfl,rfl⟩⟩,J,I,D⟩
theorem T5:Zc Oj 200=true:=Ob
theorem fd_166_0:Zv Oj 166 0=some 0:=Ob
theorem fd_166_1:Zv Oj 166 1=some 1:=Ob
theorem fd_166_2:Zv Oj 166 2=some 2:=Ob
theorem ZgF{vc vA vb:Value}{vq:Int->Value}{p:Lp}(w0:World)(J:LAt w0 vc vA vb vq p):
   Calls Oj 178 [.agg #[vc,vA,vb]].toArray w0 fun e w=>∃v,e= .returned v/\v=B (LOk p)/\Sat w0 w []:=by
 have hn:=J.c.cf.n0;have ab:=J.c.cf.n1;have hm:=J.A.row.cf.n0;have ac:=J.A.row.cf.n1;have hk:=J.b.cf.n0;have ad:=J.b.cf.n1
 refine zenG Tryz.func178 Tryz.ntmps178 fun w F=> ?_
 refine zsr<|zla (xbx (cs:= [_,_,_]) F) ?_;rintro _ w ⟨g1,rfl,F⟩
 refine(zP)<|zx5<|(zP)<|zx6<|zlp (fun mm M w=>∃(i:Int),mm=((p.m-i).toNat)/\(0<=i)/\(i<=p.m)/\(∀k,0<=k->k<i->p.ln k=p.n/\∀j,0<=j->j<p.n-> -1000000<=p.A k j/\p.A k j<=1000000)/\M= [(1,Oq g1),(3,.int Oh i)]/\Sat w0 w [.blk g1 [vc,vA,vb]]) ⟨0,rfl,Oa,Oa,?_,rfl,F⟩ ?_
 ·
  intro k V k1;omega
 clear F w
 rintro mm M w ⟨i,rfl,O,h1,qa,rfl,F⟩
 refine zx11<|(zP)<|(zV (xfb 1 fd_166_1))<|(zV (xlb 0 Zs F))<|(zV (xln Zi J.A.row.cf))<|(zP)<|zlt<|Ze ?_ ?_<;>intro hc
 ·
  refine zx27<|zdst [0] [0] 1000 mx_ F ?_;clear F;intro w F
  refine(zDw 0 (xfb 1 fd_166_1))<|(zDl 1 (fun w F=>(xlb 0 Zs F)))<|(zDw 2 xmv)<|(zDw 3 (xix (kk:=i) Zi J.A.row.cf))<|(zDl 4 (fun w F=>(xlr (u:=(vq i)) pl_22 (J.A.row.below F.below))))<|(zDw 5 (xln Zb (J.A.p i Oa Oa).cf))<|(zDw 6 (xfb 0 fd_166_0))<|(zDl 7 (fun w F=>(xlb 0 pl_22 F)))<|(zDw 8 (xln Zb J.c.cf))<|(zDw 9 YM)<|(zDw 10 xmv)<|zdb 21 ?_ ?_<;>intro hc
  ·
   refine(zDo 11)<|(zDo 12)<|(zDo 13)<|(zDo 14)<|(zDo 15)<|(zDo 16)<|(zDo 17)<|(zDw 18 xpt)<|zdd<|ztn<|zct<|zsr ?_
   refine(zP)<|zx2<|Oi ?_
   exact⟨false_B (by intro D;have Z:=D.n1;have Y:=D.n2;have X:=D.m2;have W:=D.k;first|omega|exact absurd (fun j G I=>by have:=D.c j G I;omega) ‹¬∀k,0<=k->k<p.n->0<=p.c k/\p.c k<=1000000›|(have:=(D.rows i O Oa).1;omega)|exact absurd (fun j G I=>(D.rows i O Oa).2 j G (by have:=(D.rows i O Oa).1;omega)) ‹¬∀k,0<=k->k<p.ln i-> -1000000<=p.A i k/\p.A i k<=1000000›),F.nl⟩
  refine(zDw 11 (xfb 1 fd_166_1))<|(zDl 12 (fun w F=>(xlb 0 Zs F)))<|(zDw 13 xmv)<|(zDw 14 (xix (kk:=i) Zi J.A.row.cf))<|(zDl 15 (fun w F=>(xlr (u:=(vq i)) pl_22 (J.A.row.below F.below))))<|zdc 16 (xc0 T5) (Ve (n:=(p.ln i)) (lo:=(-1000000)) (hi:=1000000) (f:=(p.A i)) w ((J.A.p i Oa Oa).below F.below)) ?_;rintro _ w ⟨rfl,U⟩
  replace F:=F.cmp U;clear U
  refine⟨⟨fun _=>F,F⟩,?_⟩
  refine(zDw 17 YH)<|(zDw 18 xpf)<|zdd<|ztn ?_
  refine Ze ?_ ?_<;>intro hc
  ·
   refine zsr<|(zP)<|zx2<|Oi ?_
   exact⟨false_B (by intro D;have Z:=D.n1;have Y:=D.n2;have X:=D.m2;have W:=D.k;first|omega|exact absurd (fun j G I=>by have:=D.c j G I;omega) ‹¬∀k,0<=k->k<p.n->0<=p.c k/\p.c k<=1000000›|(have:=(D.rows i O Oa).1;omega)|exact absurd (fun j G I=>(D.rows i O Oa).2 j G (by have:=(D.rows i O Oa).1;omega)) ‹¬∀k,0<=k->k<p.ln i-> -1000000<=p.A i k/\p.A i k<=1000000›),F.nl⟩
  refine zx4<|(zP)<|(zV (Zg (r:=i+1)))<|(zP)<|zln<|zlq ⟨i+1,rfl,Oa,Oa,?_,rfl,F⟩
  ·
   have hq:∀k,0<=k->k<p.ln i-> -1000000<=p.A i k/\p.A i k<=1000000:=by first|assumption|exact Oc ‹_›
   intro k aa ae;rcases Int.lt_or_eq_of_le (show k<=i by omega) with hk|hk;exact qa k aa hk;rw [hk];exact⟨by omega,fun j G I=>hq j G Oa⟩
 refine zx8<|(zV (xfb 0 fd_166_0))<|(zV (xlb 0 pl_22 F))<|(zV (xln Zb J.c.cf))<|(Om)<|zlb 34 ?_ ?_<;>intro hc
 ·
  refine(zV (xfb 0 fd_166_0))<|(zV (xlb 0 pl_22 F))<|(zV (xln Zb J.c.cf))<|(On)<|zlb 40 ?_ ?_<;>intro hc
  ·
   refine(zV (xfb 1 fd_166_1))<|(zV (xlb 0 Zs F))<|(zV (xln Zi J.A.row.cf))<|(On)<|zlb 46 ?_ ?_<;>intro hc
   ·
    refine(zV (xfb 2 fd_166_2))<|(zV (xlb 0 pl_22 F))<|(zV (xln Zb J.b.cf))<|(zV (xfb 1 fd_166_1))<|(zV (xlb 0 Zs F))<|(zV (xln Zi J.A.row.cf))<|(On)<|zlb 55 ?_ ?_<;>intro hc
    ·
     refine(zV (xfb 0 fd_166_0))<|(zV (xlb 0 pl_22 F))<|zlc (xc0 T5) (Ve (n:=p.n) (lo:=0) (hi:=1000000) (f:=p.c) w (J.c.below F.below)) ?_;rintro _ w ⟨rfl,U⟩
     replace F:=F.cmp U;clear U
     refine(Om)<|zlb 60 ?_ ?_<;>intro hc
     ·
      refine(zV (xfb 2 fd_166_2))<|(zV (xlb 0 pl_22 F))<|zlc (xc0 T5) (Ve (n:=p.k) (lo:=(-1000000)) (hi:=1000000) (f:=p.b) w (J.b.below F.below)) ?_;rintro _ w ⟨rfl,U⟩
      replace F:=F.cmp U;clear U
      refine(Om)<|zx1<|Oi ?_
      exact⟨Zn ⟨fun hx=>⟨by omega,Oa,Oa,Oa,‹∀k,0<=k->k<p.n->0<=p.c k/\p.c k<=1000000›,fun k V k1=>hx k V Oa,fun k V k1=>qa k V Oa⟩,fun D k V k1=>D.b k V (by have:=D.k;omega)⟩,F.nl⟩
     iterate 3 refine zlo ?_
     refine(Om)<|zx1<|Oi ?_
     exact⟨false_B (by intro D;have Z:=D.n1;have Y:=D.n2;have X:=D.m2;have W:=D.k;first|omega|exact absurd (fun j G I=>by have:=D.c j G I;omega) ‹¬∀k,0<=k->k<p.n->0<=p.c k/\p.c k<=1000000›|(have:=(D.rows i O Oa).1;omega)|exact absurd (fun j G I=>(D.rows i O Oa).2 j G (by have:=(D.rows i O Oa).1;omega)) ‹¬∀k,0<=k->k<p.ln i-> -1000000<=p.A i k/\p.A i k<=1000000›),F.nl⟩
    iterate 3 refine zlo ?_
    refine zs2 ?_
    iterate 3 refine zlo ?_
    refine(Om)<|zx1<|Oi ?_
    exact⟨false_B (by intro D;have Z:=D.n1;have Y:=D.n2;have X:=D.m2;have W:=D.k;first|omega|exact absurd (fun j G I=>by have:=D.c j G I;omega) ‹¬∀k,0<=k->k<p.n->0<=p.c k/\p.c k<=1000000›|(have:=(D.rows i O Oa).1;omega)|exact absurd (fun j G I=>(D.rows i O Oa).2 j G (by have:=(D.rows i O Oa).1;omega)) ‹¬∀k,0<=k->k<p.ln i-> -1000000<=p.A i k/\p.A i k<=1000000›),F.nl⟩
   iterate 7 refine zlo ?_
   refine zs2 ?_
   iterate 3 refine zlo ?_
   refine zs2 ?_
   iterate 3 refine zlo ?_
   refine(Om)<|zx1<|Oi ?_
   exact⟨false_B (by intro D;have Z:=D.n1;have Y:=D.n2;have X:=D.m2;have W:=D.k;first|omega|exact absurd (fun j G I=>by have:=D.c j G I;omega) ‹¬∀k,0<=k->k<p.n->0<=p.c k/\p.c k<=1000000›|(have:=(D.rows i O Oa).1;omega)|exact absurd (fun j G I=>(D.rows i O Oa).2 j G (by have:=(D.rows i O Oa).1;omega)) ‹¬∀k,0<=k->k<p.ln i-> -1000000<=p.A i k/\p.A i k<=1000000›),F.nl⟩
  iterate 4 refine zlo ?_
  refine zs2 ?_
  iterate 7 refine zlo ?_
  refine zs2 ?_
  iterate 3 refine zlo ?_
  refine zs2 ?_
  iterate 3 refine zlo ?_
  refine(Om)<|zx1<|Oi ?_
  exact⟨false_B (by intro D;have Z:=D.n1;have Y:=D.n2;have X:=D.m2;have W:=D.k;first|omega|exact absurd (fun j G I=>by have:=D.c j G I;omega) ‹¬∀k,0<=k->k<p.n->0<=p.c k/\p.c k<=1000000›|(have:=(D.rows i O Oa).1;omega)|exact absurd (fun j G I=>(D.rows i O Oa).2 j G (by have:=(D.rows i O Oa).1;omega)) ‹¬∀k,0<=k->k<p.ln i-> -1000000<=p.A i k/\p.A i k<=1000000›),F.nl⟩
 iterate 4 refine zlo ?_
 refine zs2 ?_
 iterate 4 refine zlo ?_
 refine zs2 ?_
 iterate 7 refine zlo ?_
 refine zs2 ?_
 iterate 3 refine zlo ?_
 refine zs2 ?_
 iterate 3 refine zlo ?_
 refine(Om)<|zx1<|Oi ?_
 exact⟨false_B (by intro D;have Z:=D.n1;have Y:=D.n2;have X:=D.m2;have W:=D.k;first|omega|exact absurd (fun j G I=>by have:=D.c j G I;omega) ‹¬∀k,0<=k->k<p.n->0<=p.c k/\p.c k<=1000000›|(have:=(D.rows i O Oa).1;omega)|exact absurd (fun j G I=>(D.rows i O Oa).2 j G (by have:=(D.rows i O Oa).1;omega)) ‹¬∀k,0<=k->k<p.ln i-> -1000000<=p.A i k/\p.A i k<=1000000›),F.nl⟩
theorem Znt:ZV Oj 4=some (.bool false,1,1):=Ob
theorem fd_200_0:Zv Oj 200 0=some 0:=Ob
theorem fd_200_1:Zv Oj 200 1=some 1:=Ob
theorem fd_200_2:Zv Oj 200 2=some 2:=Ob
theorem fd_200_3:Zv Oj 200 3=some 3:=Ob
theorem fd_200_4:Zv Oj 200 4=some 4:=Ob
theorem ZhR:ZR Oj 4=true:=Ob
theorem UF:ZJ Oj 162=some (4,1):=Ob
theorem ZdO(t:Tb){k:Int}(D:0<=k):(cat t.nb (cat 0 (fun _=>0) t.B) t.F) k=cat t.nb t.B t.F k:=by
 unfold cat;(repeat' split)<;>first|rfl|omega|(congr 1;omega)
theorem Wv{t:Tb}(D:TPrp t)(G:0<=t.nb):PermF (cat t.nb (cat 0 (fun _=>0) t.B) t.F) (t.nb+t.nf):=
 (RM (by have:=D.n1;omega) G D.perm).congr fun k F _=>(ZdO t F).symm
theorem Kn{vB vF vC:Value}{vv:Int->Value}{t:Tb}(w0:World)(J:TAt w0 vB vF vC vv t):
   Calls Oj 201 [.agg #[.int Oh t.vars,.int Oh t.den,vB,vF,vC]].toArray w0 fun e w=>∃v,e= .returned v/\v=B (TPrp t)/\Sat w0 w []:=by
 have hn:=J.F.cf.n0;have aj:=J.F.cf.n1;have hb:=J.B.cf.n0;have am:=J.B.cf.n1;have al:=J.C.row.cf.n0;have ak:=J.C.row.cf.n1
 refine zenG Tryz.func201 Tryz.ntmps201 fun w D=> ?_
 refine zsr<|zla (xbx (cs:= [_,_,_,_,_]) D) ?_;rintro _ w ⟨g1,rfl,D⟩
 refine(zP)<|zx7<|zdst [0] [0] 1000 mx_ D ?_;clear D;intro w D
 refine(zDw 0 (xfb 2 fd_200_2))<|(zDl 1 (fun w D=>(xlb 0 pl_22 D)))<|(zDw 2 (xln Zb J.B.cf))<|(zDw 3 (xfb 3 fd_200_3))<|(zDl 4 (fun w D=>(xlb 0 pl_22 D)))<|(zDw 5 (xln Zb J.F.cf))<|(zDw 6 xas)<|(zDw 7 xas)<|zdd<|ztn<|zsq<|zsr ?_
 refine(On)<|zlb 17 ?_ ?_<;>intro hc;rotate_left
 refine zs4 ?_
 refine zlb 21 ?_ ?_<;>intro hc;rotate_left
 refine zs4 ?_
 refine zlb 25 ?_ ?_<;>intro hc;rotate_left
 refine(zV (xfb 0 fd_200_0))<|(zV (xlb 0 pl_3 D))<|zs4 ?_
 refine zlb 31 ?_ ?_<;>intro hc;rotate_left
 refine(zV (xfb 4 fd_200_4))<|(zV (xlb 0 Zs D))<|(zV (xln Zi J.C.row.cf))<|(zP)<|(zV (Zg (r:=t.nb+1)))<|(On)<|zlb 39 ?_ ?_<;>intro hc;rotate_left
 refine(zV (xfb 1 fd_200_1))<|(zV (xlb 0 pl_3 D))<|(On)<|zlb 44 ?_ ?_<;>intro hc;rotate_left
 refine(zV (xfb 1 fd_200_1))<|(zV (xlb 0 pl_3 D))<|(Om)<|zlt<|Ze ?_ ?_<;>intro hc
 ·
  refine zsr<|(zP)<|zx14<|Oi ?_
  exact⟨false_B (by
   intro F;have b1:=F.n1;have b2:=F.n2;have b3:=F.m2;have b4:=F.v;have b5:=F.d1;have b6:=F.d2;have b7:=F.c;have O:=Wv F Oa
   first
   |omega
   |(have hr:=(F.rows i X Oa).1;omega)
   |exact absurd (fun j G I=>(F.rows i X Oa).2 j G I) ‹¬(∀k,0<=k->k<t.ln i-> -1073741824<=t.C i k/\t.C i k<=1073741824)›
   |(have:=O.1 q V Oa;omega)
   |(obtain⟨j,G,I,e⟩:=‹∃j,0<=j/\j<q/\(cat t.nb (cat 0 (fun _=>0) t.B) t.F) j=(cat t.nb (cat 0 (fun _=>0) t.B) t.F) q›;have:=O.2 j q G Oa V Oa e;omega)),D.nl⟩
 refine YL<|(zP)<|zx6<|zlp (fun mm M w=>∃(i:Int),mm=((t.nc-i).toNat)/\(0<=i)/\(i<=t.nc)/\(∀k,0<=k->k<i->t.rowOk k)/\M= [(1,Oq g1),(3,.int Oh t.nb),(4,.int Oh t.nf),(5,.int Oh i)]/\Sat w0 w [.blk g1 [.int Oh t.vars,.int Oh t.den,vB,vF,vC]]) ⟨0,rfl,Oa,Oa,?_,rfl,D⟩ ?_
 ·
  intro k U Z;omega
 clear D w
 rintro mm M w ⟨i,rfl,X,h1,qa,rfl,D⟩
 refine zx11<|(zP)<|(zV (xfb 4 fd_200_4))<|(zV (xlb 0 Zs D))<|(zV (xln Zi J.C.row.cf))<|(zP)<|zlt<|Ze ?_ ?_<;>intro hc
 ·
  refine zx3<|(zV (xfb 4 fd_200_4))<|(zV (xlb 0 Zs D))<|(zP)<|(zV (xix (kk:=i) Zi J.C.row.cf))<|(zV (xlr (u:=(vv i)) pl_22 (J.C.row.below D.below)))<|(zV (xln Zb (J.C.p i Oa Oa).cf))<|(zP)<|(zV (Zg (r:=t.nf+1)))<|(Om)<|zlb 65 ?_ ?_<;>intro hc
  ·
   iterate 7 refine zlo ?_
   refine(zP)<|zlt<|zct<|zsr ?_
   refine(zP)<|zx2<|Oi ?_
   exact⟨false_B (by
    intro F;have b1:=F.n1;have b2:=F.n2;have b3:=F.m2;have b4:=F.v;have b5:=F.d1;have b6:=F.d2;have b7:=F.c;have O:=Wv F Oa
    first
    |omega
    |(have hr:=(F.rows i X Oa).1;omega)
    |exact absurd (fun j G I=>(F.rows i X Oa).2 j G I) ‹¬(∀k,0<=k->k<t.ln i-> -1073741824<=t.C i k/\t.C i k<=1073741824)›
    |(have:=O.1 q V Oa;omega)
    |(obtain⟨j,G,I,e⟩:=‹∃j,0<=j/\j<q/\(cat t.nb (cat 0 (fun _=>0) t.B) t.F) j=(cat t.nb (cat 0 (fun _=>0) t.B) t.F) q›;have:=O.2 j q G Oa V Oa e;omega)),D.nl⟩
  refine(zV (xfb 4 fd_200_4))<|(zV (xlb 0 Zs D))<|(zP)<|(zV (xix (kk:=i) Zi J.C.row.cf))<|(zV (xlr (u:=(vv i)) pl_22 (J.C.row.below D.below)))<|zlc (xc0 T5) (Ve (n:=(t.ln i)) (lo:=(-1073741824)) (hi:=1073741824) (f:=(t.C i)) w ((J.C.p i Oa Oa).below D.below)) ?_;rintro _ w ⟨rfl,ae⟩
  replace D:=D.cmp ae;clear ae
  refine(Om)<|zlt<|Ze ?_ ?_<;>intro hc
  ·
   refine zsr<|(zP)<|zx2<|Oi ?_
   exact⟨false_B (by
    intro F;have b1:=F.n1;have b2:=F.n2;have b3:=F.m2;have b4:=F.v;have b5:=F.d1;have b6:=F.d2;have b7:=F.c;have O:=Wv F Oa
    first
    |omega
    |(have hr:=(F.rows i X Oa).1;omega)
    |exact absurd (fun j G I=>(F.rows i X Oa).2 j G I) ‹¬(∀k,0<=k->k<t.ln i-> -1073741824<=t.C i k/\t.C i k<=1073741824)›
    |(have:=O.1 q V Oa;omega)
    |(obtain⟨j,G,I,e⟩:=‹∃j,0<=j/\j<q/\(cat t.nb (cat 0 (fun _=>0) t.B) t.F) j=(cat t.nb (cat 0 (fun _=>0) t.B) t.F) q›;have:=O.2 j q G Oa V Oa e;omega)),D.nl⟩
  refine zx4<|(zP)<|(zV (Zg (r:=i+1)))<|(zP)<|zln<|zlq ⟨i+1,rfl,Oa,Oa,?_,rfl,D⟩
  ·
   have hq:∀k,0<=k->k<t.ln i-> -1073741824<=t.C i k/\t.C i k<=1073741824:=by first|assumption|exact Oc ‹_›
   intro k ag an;rcases Int.lt_or_eq_of_le (show k<=i by omega) with W|W;exact qa k ag W;rw [W];exact⟨by omega,fun j G I=>hq j G I⟩
 refine zxt<|ztx<|ztx<|zbh<|ztn<|zsq<|zdst [0] [0] 1000 mx_ D ?_;clear D;intro w D
 refine(zDw 1 (xfb 2 fd_200_2))<|(zDl 2 (fun w D=>(xlb 0 pl_22 D)))<|(zDw 4 (xfb 3 fd_200_3))<|(zDl 5 (fun w D=>(xlb 0 pl_22 D)))<|zda 0 (xl0 (c:=ints (fun _=>0)) Zb D) ?_;rintro v1 w ⟨D,ai⟩
 refine⟨⟨fun _=>D.pk [0],D.pk [0]⟩,?_⟩
 refine zda 3 (xap 1 (r:=t.nb) (f:=ints (cat 0 (fun _=>0) t.B)) Zb Zm D (J.B.below D.below) (by exact Zu _ _ _)) ?_;rintro v2 w ⟨D,ah⟩
 refine⟨⟨fun _=>D.pk [0],D.pk [0]⟩,?_⟩
 refine zda 6 (xap 1 (r:=t.nb+t.nf) (f:=ints (cat t.nb (cat 0 (fun _=>0) t.B) t.F)) Zb Zm D (J.F.below D.below) (by exact Zu _ _ _)) ?_;rintro v3 w ⟨D,Y⟩
 refine⟨⟨fun _=>D.pk [0],D.pk [0]⟩,?_⟩
 refine(zDw 7 xas)<|zdd<|ztn<|zsr ?_
 refine(Om)<|(zV (Zg (r:=t.nb+t.nf)))<|zla (xmk UF Znt D) ?_;rintro v4 w ⟨D,aa⟩
 refine(zP)<|zx5<|(zP)<|zx6<|zlp (fun mm M w=>∃(cS:Int->Value) (q:Int),mm=((t.nb+t.nf-q).toNat)/\(0<=q)/\(q<=t.nb+t.nf)/\(∀k,0<=k->k<t.nb+t.nf->cS k=B (∃j,0<=j/\j<q/\(cat t.nb (cat 0 (fun _=>0) t.B) t.F) j=k))/\(∀k,0<=k->k<q->0<=(cat t.nb (cat 0 (fun _=>0) t.B) t.F) k/\(cat t.nb (cat 0 (fun _=>0) t.B) t.F) k<t.nb+t.nf)/\(∀k j,0<=k->k<q->0<=j->j<q->(cat t.nb (cat 0 (fun _=>0) t.B) t.F) k=(cat t.nb (cat 0 (fun _=>0) t.B) t.F) j->k=j)/\M= [(3,.int Oh t.nb),(4,.int Oh t.nf),(6,v3),(7,v4),(8,.int Oh q)]/\Sat w0 w [.blk g1 [.int Oh t.vars,.int Oh t.den,vB,vF,vC],.own v3 1 3 (t.nb+t.nf) (ints (cat t.nb (cat 0 (fun _=>0) t.B) t.F)),.own v4 1 4 (t.nb+t.nf) cS]) ⟨(fun _=> .bool false),0,rfl,Oa,Oa,?_,?_,?_,rfl,D⟩ ?_
 ·
  intro k U Z;exact(B_false (by rintro⟨j,G,I,_⟩;omega)).symm
 ·
  intro k U Z;omega
 ·
  intro k j U Z;omega
 clear D w
 rintro mm M w ⟨cS,q,rfl,V,q1,ad,hrg,ac,rfl,D⟩
 refine zx11<|(Om)<|(zV (xln Zb Y))<|(zP)<|zlt<|Ze ?_ ?_<;>intro hc
 ·
  refine zsk<|ztn<|zsq<|zbk<|zsq<|zsr<|(Om)<|(zV (xix (kk:=q) Zb Y))<|(zV (xlr (u:= .int Oh ((cat t.nb (cat 0 (fun _=>0) t.B) t.F) q)) pl_3 (D.c7 1 rfl)))<|(Om)<|zlb 96 ?_ ?_<;>intro hc;rotate_left
  refine(Om)<|(zV (xix (kk:=q) Zb Y))<|(zV (xlr (u:= .int Oh ((cat t.nb (cat 0 (fun _=>0) t.B) t.F) q)) pl_3 (D.c7 1 rfl)))<|(Om)<|(zV (Zg (r:=t.nb+t.nf)))<|(On)<|zlb 106 ?_ ?_<;>intro hc;rotate_left
  refine(On)<|(zV (xix (kk:=q) Zb Y))<|(zV (xlr (u:= .int Oh ((cat t.nb (cat 0 (fun _=>0) t.B) t.F) q)) pl_3 (D.c7 1 rfl)))<|(zV (xix (kk:=(cat t.nb (cat 0 (fun _=>0) t.B) t.F) q) UF aa))<|(zV (xlr (u:=B (∃j,0<=j/\j<q/\(cat t.nb (cat 0 (fun _=>0) t.B) t.F) j=(cat t.nb (cat 0 (fun _=>0) t.B) t.F) q)) ZhR (D.c7 2 rfl) (e:=(ad _ Oa Oa))))<|(zP)<|zlt<|Ze ?_ ?_<;>intro hc
  ·
   refine zsr<|(zP)<|zlt<|zrt<|ztr<|zbr<|ztr<|ztr<|zbr<|ztr<|Oi ?_
   exact⟨false_B (by
    intro F;have b1:=F.n1;have b2:=F.n2;have b3:=F.m2;have b4:=F.v;have b5:=F.d1;have b6:=F.d2;have b7:=F.c;have O:=Wv F Oa
    first
    |omega
    |(have hr:=(F.rows i X Oa).1;omega)
    |exact absurd (fun j G I=>(F.rows i X Oa).2 j G I) ‹¬(∀k,0<=k->k<t.ln i-> -1073741824<=t.C i k/\t.C i k<=1073741824)›
    |(have:=O.1 q V Oa;omega)
    |(obtain⟨j,G,I,e⟩:=‹∃j,0<=j/\j<q/\(cat t.nb (cat 0 (fun _=>0) t.B) t.F) j=(cat t.nb (cat 0 (fun _=>0) t.B) t.F) q›;have:=O.2 j q G Oa V Oa e;omega)),D.nl⟩
  refine zsk<|ztn<|zrg<|(On)<|(zV (xix (kk:=q) Zb Y))<|(zV (xlr (u:= .int Oh ((cat t.nb (cat 0 (fun _=>0) t.B) t.F) q)) pl_3 (D.c7 1 rfl)))<|(zV (xix (kk:=(cat t.nb (cat 0 (fun _=>0) t.B) t.F) q) UF aa))<|zle (xso 2 ZhR D rfl) ?_;clear D;rintro w D
  refine zx10<|(zP)<|(zV (Zg (r:=q+1)))<|(zP)<|zln<|zlq ⟨upd cS ((cat t.nb (cat 0 (fun _=>0) t.B) t.F) q) (.bool true),q+1,rfl,Oa,Oa,?_,?_,?_,rfl,D⟩
  ·
   intro k U Z;by_cases e:k=(cat t.nb (cat 0 (fun _=>0) t.B) t.F) q
   · rw [e,ZA];exact(ZP ⟨q,V,Oa,rfl⟩).symm
   · rw [upd_ne _ _ e,ad k U Z];exact Zn ⟨fun⟨j,G,I,h⟩=>⟨j,G,Oa,h⟩,fun⟨j,G,I,h⟩=>⟨j,G,by rcases Int.lt_or_eq_of_le (show j<=q by omega) with hh|hh;exact hh;exact absurd (by rw [<-h,hh]) e,h⟩⟩
  ·
   intro k U Z;rcases Int.lt_or_eq_of_le (show k<=q by omega) with W|W;exact hrg k U W;rw [W];omega
  ·
   have ab:¬(∃j,0<=j/\j<q/\(cat t.nb (cat 0 (fun _=>0) t.B) t.F) j=(cat t.nb (cat 0 (fun _=>0) t.B) t.F) q):=‹_›
   intro k j U Z G I e;rcases Int.lt_or_eq_of_le (show k<=q by omega) with W|W<;>rcases Int.lt_or_eq_of_le (show j<=q by omega) with hj|hj
   · exact ac k j U W G hj e
   · exact absurd ⟨k,U,W,by rw [e,hj]⟩ ab
   · exact absurd ⟨j,G,hj,by rw [<-e,W]⟩ ab
   · omega
  all_goals
   refine zOps ?_
   refine zlt<|zct<|zsr ?_
   refine zOps ?_
   refine zlt<|zrt<|ztr<|zbr<|ztr<|ztr<|zbr<|ztr<|Oi ?_
   exact⟨false_B (by
    intro F;have b1:=F.n1;have b2:=F.n2;have b3:=F.m2;have b4:=F.v;have b5:=F.d1;have b6:=F.d2;have b7:=F.c;have O:=Wv F Oa
    first
    |omega
    |(have hr:=(F.rows i X Oa).1;omega)
    |exact absurd (fun j G I=>(F.rows i X Oa).2 j G I) ‹¬(∀k,0<=k->k<t.ln i-> -1073741824<=t.C i k/\t.C i k<=1073741824)›
    |(have:=O.1 q V Oa;omega)
    |(obtain⟨j,G,I,e⟩:=‹∃j,0<=j/\j<q/\(cat t.nb (cat 0 (fun _=>0) t.B) t.F) j=(cat t.nb (cat 0 (fun _=>0) t.B) t.F) q›;have:=O.2 j q G Oa V Oa e;omega)),D.nl⟩
 refine zx8<|(zP)<|zx1<|Oi ?_
 obtain rfl:q=t.nb+t.nf:=Oa
 have af:PermF (cat t.nb (cat 0 (fun _=>0) t.B) t.F) (t.nb+t.nf):=⟨hrg,ac⟩
 exact⟨ZT ⟨by omega,Oa,Oa,Oa,Oa,Oa,Oa,RM Oa Oa (af.congr fun k U _=>ZdO t U),fun k U Z=>qa k U Oa⟩,D.nl⟩
 all_goals
  refine zOps ?_
  refine zlt<|zct<|zsr ?_
  refine zOps ?_
  refine zx14<|Oi ?_
  exact⟨false_B (by
   intro F;have b1:=F.n1;have b2:=F.n2;have b3:=F.m2;have b4:=F.v;have b5:=F.d1;have b6:=F.d2;have b7:=F.c;have O:=Wv F Oa
   first
   |omega
   |(have hr:=(F.rows i X Oa).1;omega)
   |exact absurd (fun j G I=>(F.rows i X Oa).2 j G I) ‹¬(∀k,0<=k->k<t.ln i-> -1073741824<=t.C i k/\t.C i k<=1073741824)›
   |(have:=O.1 q V Oa;omega)
   |(obtain⟨j,G,I,e⟩:=‹∃j,0<=j/\j<q/\(cat t.nb (cat 0 (fun _=>0) t.B) t.F) j=(cat t.nb (cat 0 (fun _=>0) t.B) t.F) q›;have:=O.2 j q G Oa V Oa e;omega)),D.nl⟩
theorem Zf4:Zc Oj 201=true:=Ob
theorem Zlc:Zc Oj 202=true:=Ob
theorem Zx:ZC Oj 200=some 5:=Ob
theorem Zey{vB J O:Value}{vv:Int->Value}{t:Tb}(w0:World)(F:TAt w0 vB J O vv t)(G:TPrp t):
   Calls Oj 202 [.agg #[.int Oh t.vars,.int Oh t.den,vB,J,O]].toArray w0 fun e w=>∃v,e= .returned v/\v= .int Oh (Z3 t t.nb.toNat)/\Sat w0 w []:=by
 have hn:=F.F.cf.n0;have X:=F.F.cf.n1;have hb:=F.B.cf.n0;have aa:=F.B.cf.n1;have Z:=F.C.row.cf.n0;have Y:=F.C.row.cf.n1
 have b1:=G.n1;have b2:=G.n2;have b3:=G.m2;have b4:=G.v;have b5:=G.d1;have b6:=G.d2;have b7:=G.c
 refine zenG Tryz.func202 Tryz.ntmps202 fun w D=> ?_
 refine zsr<|zla (xbx (cs:= [_,_,_,_,_]) D) ?_;rintro _ w ⟨W,rfl,D⟩
 refine(zP)<|zlz<|(zP)<|zx5<|(zP)<|zx6<|zlp (fun V M w=>∃(r:Int) (i:Int),V=((t.nb-i).toNat)/\(0<=i)/\(i<=t.nb)/\(r=Z3 t i.toNat)/\M= [(1,Oq W),(2,.int Oh 0),(3,.int Oh r),(4,.int Oh i)]/\Sat w0 w [.blk W [.int Oh t.vars,.int Oh t.den,vB,J,O]]) ⟨(-1),0,rfl,Oa,Oa,?_,rfl,D⟩ ?_
 ·
  rfl
 clear D w
 rintro V M w ⟨r,i,rfl,I,h1,hr,rfl,D⟩
 have U:=YX t i.toNat;rw [<-hr] at U
 refine zx11<|(zP)<|(zV (xfb 2 fd_200_2))<|(zV (xlb 0 pl_22 D))<|(zV (xln Zb F.B.cf))<|(zP)<|zlt<|Ze ?_ ?_<;>intro hc
 ·
  refine zx27<|zdst [0] [0] 1000 mx_ D ?_;clear D;intro w D
  refine zDrv 0 (xfb 4 fd_200_4) ?_
  have xV:=G.len (i:=i+1) Oa Oa
  refine(zDl 1 (fun w D=>(xlb 0 Zs D)))<|(zDw 2 xmv)<|(zDw 3 (Zg (r:=i+1)))<|(zDw 4 (xix (kk:=i+1) Zi F.C.row.cf))<|(zDl 5 (fun w D=>(xlr (u:=(vv (i+1))) pl_22 (F.C.row.below D.below))))<|(zDw 6 (xix (kk:=0) Zb (F.C.p (i+1) Oa Oa).cf))<|(zDl 7 (fun w D=>(xlr (u:= .int Oh ((t.C (i+1)) 0)) pl_3 ((F.C.p (i+1) Oa Oa).below D.below))))<|(zDw 8 Z7)<|(zDw 9 xmv)<|zdb 21 ?_ ?_<;>intro hc
  ·
   refine(zDw 10 xmv)<|(zDw 11 Z7)<|(zDw 12 xmv)<|zdb 24 ?_ ?_<;>intro hc
   ·
    refine(zDo 13)<|(zDo 14)<|(zDo 15)<|(zDo 16)<|(zDo 17)<|(zDo 18)<|(zDo 19)<|(zDo 20)<|(zDo 21)<|(zDo 22)<|(zDo 23)<|(zDw 24 xpt)<|(zDw 25 xpt)<|zdd<|ztn<|zct<|zrg ?_
    refine(Om)<|zx10<|(zP)<|(zV (Zg (r:=i+1)))<|(zP)<|zln<|zlq ⟨i,i+1,rfl,Oa,Oa,?_,rfl,D⟩
    ·
     rw [Xh t I,<-hr];split<;>omega
   refine(zDw 13 (xfb 2 fd_200_2))<|(zDl 14 (fun w D=>(xlb 0 pl_22 D)))<|(zDw 15 xmv)<|(zDw 16 (xix (kk:=i) Zb F.B.cf))<|(zDl 17 (fun w D=>(xlr (u:= .int Oh (t.B i)) pl_3 (F.B.below D.below))))<|(zDw 18 (xfb 2 fd_200_2))<|(zDl 19 (fun w D=>(xlb 0 pl_22 D)))<|(zDw 20 xmv)<|(zDw 21 (xix (kk:=r) Zb F.B.cf))<|(zDl 22 (fun w D=>(xlr (u:= .int Oh (t.B r)) pl_3 (F.B.below D.below))))<|(zDw 23 Z7)<|(zDw 24 xpf)<|(zDw 25 xpt)<|zdd<|ztn ?_
   refine Ze ?_ ?_<;>intro hc
   ·
    refine zrg<|(Om)<|zx10<|(zP)<|(zV (Zg (r:=i+1)))<|(zP)<|zln<|zlq ⟨i,i+1,rfl,Oa,Oa,?_,rfl,D⟩
    ·
     rw [Xh t I,<-hr];split<;>omega
   refine zx4<|(zP)<|(zV (Zg (r:=i+1)))<|(zP)<|zln<|zlq ⟨r,i+1,rfl,Oa,Oa,?_,rfl,D⟩
   ·
    rw [Xh t I,<-hr];split<;>omega
  refine(zDo 10)<|(zDo 11)<|(zDo 12)<|(zDo 13)<|(zDo 14)<|(zDo 15)<|(zDo 16)<|(zDo 17)<|(zDo 18)<|(zDo 19)<|(zDo 20)<|(zDo 21)<|(zDo 22)<|(zDo 23)<|U8 24 ?_
  refine(zDw 25 xpf)<|zdd<|ztn<|zcf<|zsk<|zbn<|ztn<|zrg ?_
  refine(zP)<|(zV (Zg (r:=i+1)))<|(zP)<|zln<|zlq ⟨r,i+1,rfl,Oa,Oa,?_,rfl,D⟩
  ·
   rw [Xh t I,<-hr];split<;>omega
 refine zx8<|(Om)<|zx1<|Oi ?_
 obtain rfl:i=t.nb:=Oa
 exact⟨by rw [hr],D.nl⟩
theorem ZiL{vB Y Z:Value}{vv:Int->Value}{t:Tb}(w0:World)(F:TAt w0 vB Y Z vv t):
   Calls Oj 179 [.agg #[.int Oh t.vars,.int Oh t.den,vB,Y,Z]].toArray w0 fun e w=>∃v,e= .returned v/\∃r c d e,v= .tuple #[.int Oh r,.int Oh c,.bool d,.int Oh e]/\NextR t r c d e/\Sat w0 w []:=by
 have hn:=F.F.cf.n0;have ac:=F.F.cf.n1;have hb:=F.B.cf.n0;have aj:=F.B.cf.n1;have ai:=F.C.row.cf.n0;have ah:=F.C.row.cf.n1
 refine zenG Tryz.func179 Tryz.ntmps179 fun w D=> ?_
 refine zsr<|zla (xbx (cs:= [_,_,_,_,_]) D) ?_;rintro _ w ⟨g1,rfl,D⟩
 refine zs4 ?_
 refine zx5<|(zV (xls 0 Zx D))<|zlc (xc0 Zf4) (Kn (t:=t) w (F.below D.below)) ?_;rintro _ w ⟨rfl,J⟩
 replace D:=D.cmp J;clear J
 refine(Om)<|zlb 15 ?_ ?_<;>intro hc
 ·
  iterate 7 refine zlo ?_
  refine(zP)<|zlt<|zct<|zsr ?_
  refine zs4 ?_
  refine zx14<|zf4 ⟨_,rfl,?_⟩
  refine⟨_,_,_,_,rfl,.inl ⟨?_,rfl,rfl,rfl,rfl⟩,D.nl⟩
  first|exact fun X=>absurd X.1 ‹_›|(rintro⟨_,W⟩;exact absurd (show∀k,0<=k->k<t.ln 0-1->0<=t.C 0 (k+1)/\t.C 0 (k+1)<=1073741824 from fun k k0 k1=>⟨W (k+1) Oa Oa,(G.cell (i:=0) (j:=k+1) Oa Oa Oa Oa).2⟩) (by assumption))
 refine(zV (xfb 4 fd_200_4))<|zlv (xlb 0 Zs D) ?_
 have G:TPrp t:=by first|assumption|exact Oc ‹¬¬(TPrp t)›
 have b1:=G.n1
 have b2:=G.n2
 have b3:=G.m2
 have b4:=G.v
 have b5:=G.d1
 have b6:=G.d2
 have b7:=G.c
 have ag:=G.len (i:=0) Oa Oa
 refine(zV (xix (kk:=0) Zi F.C.row.cf))<|(zV (xlr (u:=(vv 0)) pl_22 (F.C.row.below D.below)))<|Rk rfl rfl rfl (YR (q:=1) rfl Zb rfl rfl rfl (F.C.p 0 Oa Oa).cf rfl Oa Oa) ?_
 refine zlc (xc0 T5) (Ve (n:=((t.ln 0)-1)) (lo:=0) (hi:=1073741824) (f:=(fun k=>(t.C 0) (k+1))) w ((Xb (q:=1) (F.C.p 0 Oa Oa).cf (F.C.room 0 Oa Oa) Oa).row Oa ((F.C.p 0 Oa Oa).below D.below))) ?_;rintro _ w ⟨rfl,J⟩
 replace D:=D.cmp J;clear J
 refine(Om)<|zlt<|Ze ?_ ?_<;>intro hc
 ·
  refine zsr<|zs4 ?_
  refine zx14<|zf4 ⟨_,rfl,?_⟩
  refine⟨_,_,_,_,rfl,.inl ⟨?_,rfl,rfl,rfl,rfl⟩,D.nl⟩
  first|exact fun X=>absurd X.1 ‹_›|(rintro⟨_,W⟩;exact absurd (show∀k,0<=k->k<t.ln 0-1->0<=t.C 0 (k+1)/\t.C 0 (k+1)<=1073741824 from fun k k0 k1=>⟨W (k+1) Oa Oa,(G.cell (i:=0) (j:=k+1) Oa Oa Oa Oa).2⟩) (by assumption))
 refine ZM<|zlv (xls 0 Zx D) ?_
 have V:∀k,0<=k->k<t.ln 0-1->0<=t.C 0 (k+1)/\t.C 0 (k+1)<=1073741824:=by first|assumption|exact Oc ‹_›
 have aa:=YX t t.nb.toNat
 refine zlc (xc0 Zlc) (Zey (t:=t) w (F.below D.below) G) ?_;rintro _ w ⟨rfl,J⟩
 replace D:=D.cmp J;clear J
 refine(zP)<|zx5<|(Om)<|zlt<|Ze ?_ ?_<;>intro hc
 ·
  refine zsr<|zs4 ?_
  refine zx14<|zf4 ⟨_,rfl,?_⟩
  exact⟨_,_,_,_,rfl,.inr (.inl ⟨G,(fun j O j1=>by have:=V (j-1) Oa Oa;rw [show j-1+1=j by omega] at this;omega),Oa,rfl,rfl,rfl,rfl⟩),D.nl⟩
 refine ZM<|(zP)<|zx5<|(zP)<|zx6<|zlp (fun mm M w=>∃(c:Int) (j:Int),mm=((t.nf-j).toNat)/\(0<=j)/\(j<=t.nf)/\(c=Xl t (Z3 t t.nb.toNat) j.toNat)/\M= [(1,Oq g1),(2,.int Oh 0),(3,.int Oh 0),(4,.bool false),(5,.int Oh 0),(6,.int Oh (Z3 t t.nb.toNat)),(7,.int Oh c),(8,.int Oh j)]/\Sat w0 w [.blk g1 [.int Oh t.vars,.int Oh t.den,vB,Y,Z]]) ⟨(-1),0,rfl,Oa,Oa,?_,rfl,D⟩ ?_
 ·
  rfl
 clear D w
 rintro mm M w ⟨c,j,rfl,O,j1,I,rfl,D⟩
 have U:=Ws t (Z3 t t.nb.toNat) j.toNat;rw [<-I] at U
 refine zx11<|(zP)<|(zV (xfb 3 fd_200_3))<|(zV (xlb 0 pl_22 D))<|(zV (xln Zb F.F.cf))<|(zP)<|zlt<|Ze ?_ ?_<;>intro hc
 ·
  refine zx3<|(zV (xfb 4 fd_200_4))<|(zV (xlb 0 Zs D))<|zlv xmv ?_
  have af:=G.len (i:=(Z3 t t.nb.toNat)+1) Oa Oa
  refine(zV (Zg (r:=(Z3 t t.nb.toNat)+1)))<|(zV (xix (kk:=(Z3 t t.nb.toNat)+1) Zi F.C.row.cf))<|(zV (xlr (u:=(vv ((Z3 t t.nb.toNat)+1))) pl_22 (F.C.row.below D.below)))<|(zP)<|(zV (Zg (r:=j+1)))<|(zV (xix (kk:=j+1) Zb (F.C.p ((Z3 t t.nb.toNat)+1) Oa Oa).cf))<|(zV (xlr (u:= .int Oh ((t.C ((Z3 t t.nb.toNat)+1)) (j+1))) pl_3 ((F.C.p ((Z3 t t.nb.toNat)+1) Oa Oa).below D.below)))<|(zP)<|zx5<|(Om)<|zlt<|Ze ?_ ?_<;>intro hc
  ·
   refine zxt<|ztx<|zbh<|ztn<|zrg<|(zP)<|(zV (Zg (r:=j+1)))<|(zP)<|zln<|zlq ⟨c,j+1,rfl,Oa,Oa,?_,rfl,D⟩
   ·
    rw [Yp t (Z3 t t.nb.toNat) O,<-I];(repeat' split)<;>omega
  refine YL<|(Om)<|zlt<|Ze ?_ ?_<;>intro hc
  ·
   refine zsr<|(Om)<|zlt<|zxt<|ztx<|zbh<|ztn<|zrg<|(zP)<|(zV (Zg (r:=j+1)))<|(zP)<|zln<|zlq ⟨j,j+1,rfl,Oa,Oa,?_,rfl,D⟩
   ·
    rw [Yp t (Z3 t t.nb.toNat) O,<-I];(repeat' split)<;>omega
  refine zsk<|ztn<|zsq<|zdst [0] [0] 1000 mx_ D ?_;clear D;intro w D
  refine(zDw 0 (xfb 4 fd_200_4))<|(zDl 1 (fun w D=>(xlb 0 Zs D)))<|(zDw 2 (xix (kk:=0) Zi F.C.row.cf))<|(zDl 3 (fun w D=>(xlr (u:=(vv 0)) pl_22 (F.C.row.below D.below))))<|zDrv 4 xmv ?_
  have U:=Ws t (Z3 t t.nb.toNat) j.toNat;rw [<-I] at U
  have ae:=Xo (G.cell (i:=0) (j:=j+1) Oa Oa Oa Oa) (G.cell (i:=(Z3 t t.nb.toNat)+1) (j:=c+1) Oa Oa Oa Oa);have ad:=Xo (G.cell (i:=0) (j:=c+1) Oa Oa Oa Oa) (G.cell (i:=(Z3 t t.nb.toNat)+1) (j:=j+1) Oa Oa Oa Oa)
  refine(zDw 5 (Zg (r:=j+1)))<|(zDw 6 (xix (kk:=j+1) Zb (F.C.p 0 Oa Oa).cf))<|(zDl 7 (fun w D=>(xlr (u:= .int Oh ((t.C 0) (j+1))) pl_3 ((F.C.p 0 Oa Oa).below D.below))))<|(zDw 8 (xfb 4 fd_200_4))<|(zDl 9 (fun w D=>(xlb 0 Zs D)))<|(zDw 10 xmv)<|(zDw 11 (Zg (r:=(Z3 t t.nb.toNat)+1)))<|(zDw 12 (xix (kk:=(Z3 t t.nb.toNat)+1) Zi F.C.row.cf))<|(zDl 13 (fun w D=>(xlr (u:=(vv ((Z3 t t.nb.toNat)+1))) pl_22 (F.C.row.below D.below))))<|(zDw 14 xmv)<|(zDw 15 (Zg (r:=c+1)))<|(zDw 16 (xix (kk:=c+1) Zb (F.C.p ((Z3 t t.nb.toNat)+1) Oa Oa).cf))<|(zDl 17 (fun w D=>(xlr (u:= .int Oh ((t.C ((Z3 t t.nb.toNat)+1)) (c+1))) pl_3 ((F.C.p ((Z3 t t.nb.toNat)+1) Oa Oa).below D.below))))<|(zDw 18 (Z2 (r:=(((t.C 0) (j+1))*((t.C ((Z3 t t.nb.toNat)+1)) (c+1)))) (e:=rfl)))<|zDrv 19 (xfb 4 fd_200_4) ?_
  refine(zDl 20 (fun w D=>(xlb 0 Zs D)))<|(zDw 21 (xix (kk:=0) Zi F.C.row.cf))<|(zDl 22 (fun w D=>(xlr (u:=(vv 0)) pl_22 (F.C.row.below D.below))))<|(zDw 23 xmv)<|(zDw 24 (Zg (r:=c+1)))<|(zDw 25 (xix (kk:=c+1) Zb (F.C.p 0 Oa Oa).cf))<|(zDl 26 (fun w D=>(xlr (u:= .int Oh ((t.C 0) (c+1))) pl_3 ((F.C.p 0 Oa Oa).below D.below))))<|(zDw 27 xmv)<|(zDw 28 (Z2 (r:=(((t.C 0) (c+1))*((t.C ((Z3 t t.nb.toNat)+1)) (j+1)))) (e:=rfl)))<|(zDw 29 xas)<|(zDw 30 xas)<|zdd<|ztn<|zsq ?_
  refine zdst [0] [0] 1000 mx_ D ?_;clear D;intro w D
  refine zDrv 0 xmv ?_
  have ab:t.F j≠t.F c:=fun X=>by have:=G.my (i:=j) (j:=c) Oa Oa Oa Oa Oa X;omega
  refine(zDw 1 xmv)<|(zDw 2 Z7)<|(zDw 3 xmv)<|zdb 82 ?_ ?_<;>intro hc
  ·
   refine(zDo 4)<|(zDo 5)<|(zDo 6)<|(zDo 7)<|(zDo 8)<|(zDo 9)<|(zDo 10)<|(zDo 11)<|(zDo 12)<|(zDo 13)<|(zDo 14)<|(zDo 15)<|(zDo 16)<|(zDo 17)<|U8 18 ?_
   refine(zDo 19)<|(zDw 20 xpt)<|zdd<|ztn<|zct<|zrg ?_
   refine(Om)<|zx10<|(zP)<|(zV (Zg (r:=j+1)))<|(zP)<|zln<|zlq ⟨j,j+1,rfl,Oa,Oa,?_,rfl,D⟩
   ·
    rw [Yp t (Z3 t t.nb.toNat) O,<-I];(repeat' split)<;>omega
  refine(zDw 4 xmv)<|(zDw 5 xmv)<|(zDw 6 YT)<|(zDw 7 xmv)<|zdb 86 ?_ ?_<;>intro hc
  ·
   refine(zDw 8 (xfb 3 fd_200_3))<|(zDl 9 (fun w D=>(xlb 0 pl_22 D)))<|(zDw 10 xmv)<|(zDw 11 (xix (kk:=j) Zb F.F.cf))<|(zDl 12 (fun w D=>(xlr (u:= .int Oh (t.F j)) pl_3 (F.F.below D.below))))<|(zDw 13 (xfb 3 fd_200_3))<|(zDl 14 (fun w D=>(xlb 0 pl_22 D)))<|(zDw 15 xmv)<|(zDw 16 (xix (kk:=c) Zb F.F.cf))<|(zDl 17 (fun w D=>(xlr (u:= .int Oh (t.F c)) pl_3 (F.F.below D.below))))<|(zDw 18 Z7)<|(zDw 19 xpt)<|(zDw 20 xpf)<|zdd<|ztn ?_
   refine Ze ?_ ?_<;>intro hc
   ·
    refine zrg<|(Om)<|zx10<|(zP)<|(zV (Zg (r:=j+1)))<|(zP)<|zln<|zlq ⟨j,j+1,rfl,Oa,Oa,?_,rfl,D⟩
    ·
     rw [Yp t (Z3 t t.nb.toNat) O,<-I];(repeat' split)<;>omega
   refine zx4<|(zP)<|(zV (Zg (r:=j+1)))<|(zP)<|zln<|zlq ⟨c,j+1,rfl,Oa,Oa,?_,rfl,D⟩
   ·
    rw [Yp t (Z3 t t.nb.toNat) O,<-I];(repeat' split)<;>omega
  refine(zDo 8)<|(zDo 9)<|(zDo 10)<|(zDo 11)<|(zDo 12)<|(zDo 13)<|(zDo 14)<|(zDo 15)<|(zDo 16)<|(zDo 17)<|(zDo 18)<|(zDw 19 xpf)<|(zDw 20 xpf)<|zdd<|ztn<|zcf<|zsk<|zbn<|ztn<|zrg ?_
  refine(zP)<|(zV (Zg (r:=j+1)))<|(zP)<|zln<|zlq ⟨c,j+1,rfl,Oa,Oa,?_,rfl,D⟩
  ·
   rw [Yp t (Z3 t t.nb.toNat) O,<-I];(repeat' split)<;>omega
 refine zx18<|(Om)<|zlt<|Ze ?_ ?_<;>intro hc
 ·
  refine zsr<|zs4 ?_
  refine zx14<|zf4 ⟨_,rfl,?_⟩
  obtain rfl:j=t.nf:=Oa
  exact⟨_,_,_,_,rfl,.inr (.inr (.inl ⟨G,(fun j O j1=>by have:=V (j-1) Oa Oa;rw [show j-1+1=j by omega] at this;omega),Oa,Oa,rfl,rfl,rfl,rfl⟩)),D.nl⟩
 refine ZM<|zs6 ?_
 refine zx1<|zf4 ⟨_,rfl,?_⟩
 obtain rfl:j=t.nf:=Oa
 exact⟨_,_,_,_,rfl,.inr (.inr (.inr ⟨G,(fun j O j1=>by have:=V (j-1) Oa Oa;rw [show j-1+1=j by omega] at this;omega),Oa,Oa,rfl,I,rfl,rfl⟩)),D.nl⟩
end Go.Proofs.YtkichmnjjblodaaGreat
namespace Go.Proofs.Gw
open Go Go.RowKit
variable {e i j:Int} {g:Oe} {k:Nat} {t:Tb}
theorem Xf{f:Oe}{s:Int}:∀{n:Nat},0<=s->s<n->Zf f n=f s+Zf (fun j=>if j=s then 0 else f j) n
 |0,h0,h1=>Oa
 | n +1,h0,h1=>by
   rw [Zf,Zf]
   by_cases e:s=n
   · have:Zf (fun j=>if j=s then 0 else f j) n=Zf f n:=Zj fun i F D=>by rw [if_neg Oa]
     rw [this,if_pos e.symm,e];omega
   · have:=Xf (f:=f) (s:=s) (n:=n) h0 Oa
     rw [this,if_neg Oa];omega
theorem XN{f g h:Oe}{D A B:Int}:∀{n:Nat},(∀i,0<=i->i<(n:Int)->D*h i=A*f i-B*g i)->D*Zf h n=A*Zf f n-B*Zf g n
 |0,_=>by simp [Zf]
 | n+1,hh=>by
   have h1:=XN (n:=n) (fun i F G=>hh i F Oa)
   have I:=hh n Oa Oa
   simp only [Zf]
   grind
def UG(t:Tb)(k0:Int)(v:Oe)(i:Int):Int:=t.C i 0*k0+Zf (fun j=>t.C i (j+1)*v (t.F j)) t.nf.toNat
def Ug(t:Tb)(z:Int)(v:Oe)(i:Int):Int:=if i=0 then z else v (t.B (i-1))
def Idt(t:Tb)(k0 z:Int)(v:Oe):Prop:=∀i,0<=i->i<=t.nb->t.den*Ug t z v i=UG t k0 v i
def WS(t:Tb)(k0:Int)(v:Oe)(s i:Int):Int:=t.C i 0*k0+Zf (fun j=>if j=s then 0 else t.C i (j+1)*v (t.F j)) t.nf.toNat
theorem RE(t:Tb)(D:Int)(v:Oe){s:Int}(i:Int)(s0:0<=s)(s1:s<t.nf):UG t D v i=WS t D v s i+t.C i (s+1)*v (t.F s):=by
 unfold UG WS
 rw [Xf (s:=s) s0 Oa];omega
def sg(p:Int):Int:=if p<0 then-1 else 1
theorem ZaV(p:Int):sg p=1\/sg p= -1:=by unfold sg;split<;>simp
theorem W7(t:Tb)(row col i j:Int):(piv t row col).C i j=sg (t.C (row+1) (col+1))*Yb t (row+1) (col+1) i j:=by
 show(if _ then _ else _)=_
 unfold sg;split<;>simp
theorem KZ(t:Tb)(row col:Int):(piv t row col).den=sg (t.C (row+1) (col+1))*t.C (row+1) (col+1):=by
 show(if _ then _ else _)=_
 unfold sg;split<;>simp
theorem UZ{row col:Int}(hd:Zd1 t row col)(J:0<=i)(I:i<=t.nb)(G:0<=j)(F:j<=t.nf)(hi:i≠row+1)(D:j≠col+1):
   t.den*Yb t (row+1) (col+1) i j=t.C (row+1) (col+1)*t.C i j-t.C i (col+1)*t.C (row+1) j:=by
 unfold Yb
 rw [if_neg Oa,if_neg hi,if_neg D]
 exact Int.mul_tdiv_cancel' (Int.dvd_of_tmod_eq_zero (hd i j J I G F hi D))
theorem Zid {row col:Int} (ha:RO t row col) (hd:Zd1 t row col) (F z:Int) (v:Oe):Idt t F z v↔Idt (piv t row col) F z v:=by
 obtain⟨hp,r0,r1,c0,c1,aa⟩:=ha
 have hD:=hp.d1
 have O:(piv t row col).nf=t.nf:=rfl
 have ab:(piv t row col).F col=t.B row:=by show upd t.F col (t.B row) col=_;rw [ZA]
 have X:∀j,j≠col->(piv t row col).F j=t.F j:=fun j h=>by show upd t.F col (t.B row) j=_;rw [upd_ne _ _ h]
 have ad:(piv t row col).B row=t.F col:=by show upd t.B row (t.F col) row=_;rw [ZA]
 have ac:∀j,j≠row->(piv t row col).B j=t.B j:=fun j h=>by show upd t.B row (t.F col) j=_;rw [upd_ne _ _ h]
 have Z:∀i,UG t F v i=WS t F v col i+t.C i (col+1)*v (t.F col):=fun i=>RE t F v i c0 c1
 have bm:∀i,UG (piv t row col) F v i=WS (piv t row col) F v col i+(piv t row col).C i (col+1)*v (t.B row):=fun i=>by
   rw [RE (piv t row col) F v i c0 c1,ab]
 have hR :WS (piv t row col) F v col (row+1)= -(sg (t.C (row+1) (col+1))*WS t F v col (row+1)):=by
   unfold WS
   have e0:(piv t row col).C (row+1) 0=sg (t.C (row+1) (col+1))* -t.C (row+1) 0:=by
     rw [W7];unfold Yb;rw [if_neg Oa,if_pos rfl]
   have e1:=XN (D:=1) (A:= -sg (t.C (row+1) (col+1))) (B:=0) (n:=t.nf.toNat) (h:=fun j=>if j=col then 0 else(piv t row col).C (row+1) (j+1)*v ((piv t row col).F j))
     (f:=fun j=>if j=col then 0 else t.C (row+1) (j+1)*v (t.F j)) (g:=fun _=>0) (fun j j0 j1=>by
       by_cases e:j=col
       · simp [e]
       · simp only [if_neg e]
         rw [X j e,W7];unfold Yb;rw [if_neg Oa,if_pos rfl];grind)
   rw [e0,O]
   grind
 have hQ :∀i,0<=i->i<=t.nb->i≠row+1->t.den*WS (piv t row col) F v col i=sg (t.C (row+1) (col+1))*(t.C (row+1) (col+1)*WS t F v col i-t.C i (col+1)*WS t F v col (row+1)):=fun i I G hi=>by
   unfold WS
   have e0:t.den*(piv t row col).C i 0=sg (t.C (row+1) (col+1))*(t.C (row+1) (col+1)*t.C i 0-t.C i (col+1)*t.C (row+1) 0):=by
     have:=UZ hd I G (j:=0) Oa Oa hi Oa
     rw [W7];grind
   have e1:=XN (D:=t.den) (A:=sg (t.C (row+1) (col+1))*t.C (row+1) (col+1)) (B:=sg (t.C (row+1) (col+1))*t.C i (col+1)) (n:=t.nf.toNat) (h:=fun j=>if j=col then 0 else(piv t row col).C i (j+1)*v ((piv t row col).F j))
     (f:=fun j=>if j=col then 0 else t.C i (j+1)*v (t.F j)) (g:=fun j=>if j=col then 0 else t.C (row+1) (j+1)*v (t.F j)) (fun j j0 j1=>by
       by_cases e:j=col
       · simp [e]
       · simp only [if_neg e]
         have:=UZ hd I G (j:=j+1) Oa Oa hi Oa
         rw [X j e,W7];grind)
   rw [O]
   grind
 have J:(piv t row col).C (row+1) (col+1)=sg (t.C (row+1) (col+1))*t.den:=by rw [W7];unfold Yb;rw [if_pos ⟨rfl,rfl⟩]
 have W:∀i,i≠row+1->(piv t row col).C i (col+1)=sg (t.C (row+1) (col+1))*t.C i (col+1):=fun i hi=>by rw [W7];unfold Yb;rw [if_neg Oa,if_neg hi,if_pos rfl]
 have V:Ug t z v (row+1)=v (t.B row):=by unfold Ug;rw [if_neg Oa];congr 2;omega
 have gE:Ug (piv t row col) z v (row+1)=v (t.F col):=by unfold Ug;rw [if_neg Oa,show row+1-1=row by omega,ad]
 have U:∀i,i≠row+1->Ug (piv t row col) z v i=Ug t z v i:=fun i hi=>by
   unfold Ug;split
   · rfl
   · rw [ac _ Oa]
 have hs:=ZaV (t.C (row+1) (col+1))
 have Y:=KZ t row col
 generalize sg (t.C (row+1) (col+1))=σ at*
 constructor
 · intro h i I G
   have er:=h (row+1) Oa Oa
   rw [V,Z] at er
   by_cases hi:i=row+1
   · subst hi
     rw [gE,bm,hR,J,Y]
     grind
   · have ei:=h i I G
     rw [Z] at ei
     have q:=hQ i I G hi
     rw [U i hi,bm,W i hi,Y]
     refine Int.eq_of_mul_eq_mul_left (a:=t.den) Oa ?_
     grind
 · intro h i I G
   have er:=h (row+1) Oa (show row+1<=t.nb by omega)
   rw [gE,bm,hR,J,Y] at er
   have ae:t.den*v (t.B row)=WS t F v col (row+1)+t.C (row+1) (col+1)*v (t.F col):=by
     rcases hs with rfl|rfl<;>grind
   by_cases hi:i=row+1
   · subst hi
     rw [V,Z];exact ae
   · have ei:=h i I G
     have q:=hQ i I G hi
     rw [U i hi,bm,W i hi,Y] at ei
     rw [Z]
     refine Int.eq_of_mul_eq_mul_left (a:=t.C (row+1) (col+1)) aa ?_
     rcases hs with rfl|rfl<;>grind
theorem Zdb{u:Tb}(h:Run k t u e)(D z:Int)(v:Oe):Idt t D z v↔Idt u D z v:=by
 induction h with
 |stop=>exact Iff.rfl
 |lim=>exact Iff.rfl
 |bad=>exact Iff.rfl
 | go h hp hr ih=>
   rcases hp with⟨_,_,h⟩|⟨_,_,_,h⟩|⟨_,_,_,_,h⟩|⟨ha,hd,_,rfl,_⟩
   · omega
   · omega
   · omega
   · exact(Zid ha hd D z v).trans ih
theorem R5{p:Lp}(X:LOk p)(hm:0<=p.m)(k0 z:Int)(v:Oe):Idt (ZD p) k0 z v↔(z=ZX p.c v p.n.toNat/\∀i,0<=i->i<p.m->v (p.n+i)=ZX (p.A i) v p.n.toNat-p.b i*k0):=by
 have hn:=X.n1
 have J:(ZD p).C 0 0=0:=rfl
 have e0:∀j,0<=j->(ZD p).C 0 (j+1)=p.c j:=fun j F=>by
   show(if(0:Int)=0 then(if j+1=0 then 0 else p.c (j+1-1)) else(if j+1=0 then-p.b (0-1) else p.A (0-1) (j+1-1)))=_
   rw [if_pos rfl,if_neg Oa,show j+1-1=j by omega]
 have G:∀i,1<=i->(ZD p).C i 0= -p.b (i-1):=fun i D=>by
   show(if i=0 then(if(0:Int)=0 then 0 else p.c (0-1)) else(if(0:Int)=0 then-p.b (i-1) else p.A (i-1) (0-1)))=_
   rw [if_neg Oa,if_pos rfl]
 have ei:∀i j,1<=i->0<=j->(ZD p).C i (j+1)=p.A (i-1) j:=fun i j D F=>by
   show(if i=0 then(if j+1=0 then 0 else p.c (j+1-1)) else(if j+1=0 then-p.b (i-1) else p.A (i-1) (j+1-1)))=_
   rw [if_neg Oa,if_neg Oa,show j+1-1=j by omega]
 have U:UG (ZD p) k0 v 0=ZX p.c v p.n.toNat:=by
   unfold UG
   rw [J,Int.zero_mul,Int.zero_add]
   exact Zj fun j F V=>by rw [e0 j F];rfl
 have O:∀i,1<=i->UG (ZD p) k0 v i=ZX (p.A (i-1)) v p.n.toNat-p.b (i-1)*k0:=fun i D=>by
   unfold UG
   have:Zf (fun j=>(ZD p).C i (j+1)*v ((ZD p).F j)) (ZD p).nf.toNat=ZX (p.A (i-1)) v p.n.toNat:=
     Zj fun j F V=>by rw [ei i j D F];rfl
   rw [this,G i D,Int.neg_mul];omega
 have e:(ZD p).den=1:=rfl
 have Z:(ZD p).nb=p.m:=rfl
 constructor
 · intro h
   refine⟨?_,fun i D W=> ?_⟩
   · have:=h 0 Oa Oa
     rw [U] at this
     unfold Ug at this
     rw [if_pos rfl,e] at this;omega
   · have:=h (i+1) Oa Oa
     rw [O _ Oa,show i+1-1=i by omega] at this
     unfold Ug at this
     have I:(ZD p).B i=p.n+i:=rfl
     rw [if_neg Oa,show i+1-1=i by omega,e,I] at this;omega
 · rintro⟨Y,h1⟩ i D W
   rw [e,Int.one_mul]
   unfold Ug
   by_cases hi:i=0
   · subst hi;rw [if_pos rfl,U];exact Y
   · rw [if_neg hi,O i Oa]
     have I:(ZD p).B (i-1)=p.n+(i-1):=rfl
     rw [I];exact h1 (i-1) Oa Oa
def bas(u:Tb):Nat->Int->Int
  |0=>fun _=>0
  |k+1=>upd (bas u k) (u.B k) (u.C (k+1) 0)
theorem ZbG(u:Tb){q:Int}:∀K:Nat,(∀i:Int,0<=i->i<K->u.B i≠q)->bas u K q=0
 |0,_=>rfl
 | k+1,h=>by
   unfold bas
   rw [upd_ne _ _ (fun e=>h k Oa Oa e.symm)]
   exact ZbG u k fun i D F=>h i D Oa
theorem TPrp.nu(h:TPrp t)(I:0<=i)(G:i<t.nb)(F:0<=j)(D:j<t.nb)(e:t.B i=t.B j):i=j:=by
 have hn:=h.n1
 have:=h.perm.2 (t.nf+i) (t.nf+j) Oa Oa Oa Oa (by unfold cat;rw [if_neg Oa,if_neg Oa,show t.nf+i-t.nf=i by omega,show t.nf+j-t.nf=j by omega];exact e)
 omega
theorem TPrp.ni(h:TPrp t)(I:0<=i)(G:i<t.nb)(F:0<=j)(D:j<t.nf):t.B i≠t.F j:=fun e=>by
 have hn:=h.n1
 have:=h.perm.2 (t.nf+i) j Oa Oa Oa Oa (by unfold cat;rw [if_neg Oa,if_pos D,show t.nf+i-t.nf=i by omega];exact e)
 omega
theorem Zhh{u:Tb}(h:TPrp u):∀(K:Nat),(K:Int)<=u.nb->∀i:Int,0<=i->i<K->bas u K (u.B i)=u.C (i+1) 0
 |0,_,i,i0,i1=>Oa
 | k +1,hK,i,i0,i1=>by
   unfold bas
   by_cases e:i=k
   · subst e;rw [ZA]
   · rw [upd_ne _ _ (fun D=>e (h.nu i0 Oa Oa Oa D))]
     exact Zhh h k Oa i i0 Oa
theorem Zax{u:Tb}(h:TPrp u)(D:∀i:Int,0<=i->i<u.nb->0<=u.C (i+1) 0)(q:Int):∀(K:Nat),(K:Int)<=u.nb->0<=bas u K q/\bas u K q<=1073741824
 |0,_=>by unfold bas;omega
 | k +1,hK=>by
   unfold bas
   by_cases e:q=u.B k
   · rw [<-e,ZA]
     have h1:=D k Oa Oa
     have hn:=h.n1
     have F:=h.cell (i:=k+1) (j:=0) Oa Oa Oa Oa
     omega
   · rw [upd_ne _ _ e];exact Zax h D q k Oa
theorem KS(u:Tb){j:Int}(D:j<u.vars):∀K:Nat,rdX u K j=bas u K j
 |0=>rfl
 | k +1=>by
   unfold rdX bas
   by_cases h:u.B k<u.vars
   · rw [if_pos h]
     by_cases e:j=u.B k
     · rw [<-e,ZA,ZA]
     · rw [upd_ne _ _ e,upd_ne _ _ e];exact KS u D k
   · rw [if_neg h,upd_ne _ _ Oa];exact KS u D k
def rdG(u:Tb)(y0 g:Oe):Nat->Int->Int
  |0=>y0
  |k+1=>if u.vars<=u.F k then upd (rdG u y0 g k) (u.F k-u.vars) (g k) else rdG u y0 g k
theorem ZcV(u:Tb):∀K:Nat,rdY u K=rdG u (fun _=>0) (fun j=>u.C 0 (j+1)) K
 |0=>rfl
 |k+1=>by unfold rdY rdG;rw [ZcV u k]
theorem UH(u:Tb)(y0 g:Oe){i:Int}:∀K:Nat,(∀k:Int,0<=k->k<K->u.F k≠u.vars+i)->rdG u y0 g K i=y0 i
 |0,_=>rfl
 | k+1,h=>by
   unfold rdG
   have G:=h k Oa Oa
   split
   · rw [upd_ne _ _ Oa];exact UH u y0 g k fun q D F=>h q D Oa
   · exact UH u y0 g k fun q D F=>h q D Oa
theorem Tf{u:Tb}{y0 g:Oe}{A:Int}(q:Int)(F:0<=y0 q/\y0 q<=A):∀K:Nat,(∀k:Int,0<=k->k<K->0<=g k/\g k<=A)->0<=rdG u y0 g K q/\rdG u y0 g K q<=A
 |0,_=>F
 | k +1,h=>by
   unfold rdG
   split
   · by_cases e:q=u.F k-u.vars
     · rw [<-e,ZA];exact h k Oa Oa
     · rw [upd_ne _ _ e];exact Tf q F k fun q D G=>h q D Oa
   · exact Tf q F k fun q D G=>h q D Oa
theorem Zbx(w y:Oe){a:Int}{m:Nat}(F:0<=i)(D:i<m):ZX w (upd y i a) m=ZX w y m+w i*(a-y i):=by
 unfold ZX
 rw [Xf (s:=i) F D,Xf (f:=fun k=>w k*y k) (s:=i) F D]
 have:Zf (fun j=>if j=i then 0 else w j*upd y i a j) m=Zf (fun j=>if j=i then 0 else w j*y j) m:=Zj fun j I G=>by
   by_cases e:j=i
   · rw [if_pos e,if_pos e]
   · rw [if_neg e,if_neg e,upd_ne _ _ e]
 rw [this,ZA];grind
theorem KV {u:Tb} (h:TPrp u) (D:0<=u.nb) {y0 g:Oe} (w:Oe) (hf:∀k:Int,0<=k->k<u.nf->u.vars<=u.F k->y0 (u.F k-u.vars)=0):∀K:Nat,(K:Int)<=u.nf->
   ZX w (rdG u y0 g K) u.nb.toNat=ZX w y0 u.nb.toNat+Zf (fun k=>if u.vars<=u.F k then g k*w (u.F k-u.vars) else 0) K
 |0,_=>by simp [rdG,Zf]
 | k + 1,hK=>by
   have F:=KV h D w hf (g:=g) k Oa
   have hr:=h.ly (i:=k) Oa Oa D
   have hv:=h.v
   unfold rdG Zf
   by_cases hc:u.vars<=u.F k
   · rw [if_pos hc,if_pos hc,Zbx _ _ Oa Oa,F]
     have:rdG u y0 g k (u.F k-u.vars)=0:=by
       rw [UH u y0 g k fun q G I e=>by
         have:=h.my (i:=q) (j:=k) G Oa Oa Oa D Oa;omega]
       exact hf k Oa Oa hc
     rw [this];grind
   · rw [if_neg hc,if_neg hc,F];omega
theorem T0(f:Oe){q:Int}{n:Nat}(F:0<=q)(D:q<n):ZX f (fun k=>if k=q then 1 else 0) n=f q:=by
 unfold ZX
 rw [Xf (s:=q) F D]
 show f q*(if q=q then 1 else 0)+_=_
 rw [if_pos rfl,Int.mul_one]
 have:Zf (fun j=>if j=q then 0 else f j*(fun k=>if k=q then 1 else 0) j) n=Zf (fun _=>0) n:=Zj fun j _ _=>by split<;>simp_all
 rw [this,Yd];omega
def VR(p:Lp)(x:Oe)(k0 q:Int):Int:=if q<p.n then x q else ZX (p.A (q-p.n)) x p.n.toNat-p.b (q-p.n)*k0
theorem Zdc{p:Lp}(J:LOk p)(I:0<=p.m){u:Tb}(h:Run k (ZD p) u e)(x:Oe)(D:Int):Idt u D (ZX p.c x p.n.toNat) (VR p x D):=by
 refine(Zdb h D _ _).1 ((R5 J I D _ _).2 ⟨?_,fun i U O=> ?_⟩)
 · exact Zj fun j G F=>by unfold VR;rw [if_pos Oa]
 · have:ZX (p.A i) (VR p x D) p.n.toNat=ZX (p.A i) x p.n.toNat:=Zj fun j G F=>by unfold VR;rw [if_pos Oa]
   rw [this];unfold VR;rw [if_neg Oa,show p.n+i-p.n=i by omega]
theorem Zb7{p:Lp}{u:Tb}(F:TPrp u)(I:0<=u.nb)(hv:u.vars=p.n)(x:Oe)(D i:Int){y0:Oe}(J:∀k:Int,0<=k->k<u.nf->g k=u.C i (k+1))(hf:∀k:Int,0<=k->k<u.nf->u.vars<=u.F k->y0 (u.F k-u.vars)=0):
   UG u D (VR p x D) i=u.C i 0*D+Zf (fun k=>if u.vars<=u.F k then 0 else g k*x (u.F k)) u.nf.toNat+
     (ZX (fun i=>ZX (p.A i) x p.n.toNat-p.b i*D) (rdG u y0 g u.nf.toNat) u.nb.toNat-ZX (fun i=>ZX (p.A i) x p.n.toNat-p.b i*D) y0 u.nb.toNat):=by
 have hn:=F.n1
 have h1:=KV F I (y0:=y0) (g:=g) (fun i=>ZX (p.A i) x p.n.toNat-p.b i*D) hf u.nf.toNat Oa
 rw [h1]
 unfold UG
 have O:Zf (fun j=>u.C i (j+1)*VR p x D (u.F j)) u.nf.toNat=Zf (fun k=>(if u.vars<=u.F k then 0 else g k*x (u.F k))+(if u.vars<=u.F k then g k*(ZX (p.A (u.F k-u.vars)) x p.n.toNat-p.b (u.F k-u.vars)*D) else 0)) u.nf.toNat:=
   Zj fun j G U=>by
     unfold VR
     rw [J j G Oa]
     by_cases hc:u.vars<=u.F j
     · rw [if_neg Oa,if_pos hc,if_pos hc,hv];omega
     · rw [if_pos Oa,if_neg hc,if_neg hc];omega
 rw [O,Vm];omega
theorem ZhM {p:Lp} (X:LOk p) (hm:0<=p.m) {u:Tb} (h:Run k (ZD p) u 0):ChkS p (XU u):=by
 obtain⟨I,aa,hlv,_⟩:=h.fin (.inl rfl)
 have hd:=h.ll
 have d1:u.nb=p.m:=by rw [hd.1];rfl
 have d2:u.nf=p.n:=by rw [hd.2.1];rfl
 have d3:u.vars=p.n:=by rw [hd.2.2.2];rfl
 have hn:=X.n1
 have lr:=YX u u.nb.toNat
 have bB:∀i:Int,0<=i->i<u.nb->0<=u.C (i+1) 0:=fun i J O=>(TQ u u.nb.toNat).1 (by have:=hlv rfl;omega) i J Oa
 have W:∀k:Int,0<=k->k<u.nf->0<=u.C 0 (k+1)/\u.C 0 (k+1)<=1073741824:=fun k F k1=>⟨aa (k+1) Oa Oa,(I.cell (i:=0) Oa Oa Oa Oa).2⟩
 have Z:Idt u u.den (u.C 0 0) (bas u u.nb.toNat):=fun i J O=>by
   have Y:Zf (fun j=>u.C i (j+1)*bas u u.nb.toNat (u.F j)) u.nf.toNat=0:=by
     have:Zf (fun j=>u.C i (j+1)*bas u u.nb.toNat (u.F j)) u.nf.toNat=Zf (fun _=>0) u.nf.toNat:=Zj fun j G V=>by
       rw [ZbG u _ fun q q0 q1=>I.ni q0 Oa G Oa];omega
     rw [this,Yd]
   unfold UG Ug
   rw [Y]
   by_cases hi:i=0
   · subst hi;rw [if_pos rfl];grind
   · rw [if_neg hi,Zhh I u.nb.toNat Oa (i-1) Oa Oa,show i-1+1=i by omega];grind
 obtain⟨Y,hs⟩:=(R5 X hm _ _ _).1 ((Zdb h _ _ _).2 Z)
 have hX:∀j,0<=j->j<p.n->rdX u u.nb.toNat j=bas u u.nb.toNat j:=fun j G V=>KS u Oa _
 have dX:∀f:Oe,ZX f (rdX u u.nb.toNat) p.n.toNat=ZX f (bas u u.nb.toNat) p.n.toNat:=fun f=>Zj fun j G V=>by rw [hX j G Oa]
 have hY:(XU u).Y=rdG u (fun _=>0) (fun j=>u.C 0 (j+1)) u.nf.toNat:=by show rdY u _=_;rw [ZcV]
 have cH:∀w:Oe,ZX w (fun _=>0) u.nb.toNat=0:=fun w=>by
   have:ZX w (fun _=>0) u.nb.toNat=Zf (fun _=>0) u.nb.toNat:=Zj fun j _ _=>by simp
   rw [this,Yd]
 have U:∀(x:Oe) (F:Int),u.den*ZX p.c x p.n.toNat=u.C 0 0*F+Zf (fun k=>if u.vars<=u.F k then 0 else u.C 0 (k+1)*x (u.F k)) u.nf.toNat+ZX (fun i=>ZX (p.A i) x p.n.toNat-p.b i*F) (XU u).Y u.nb.toNat:=fun x F=>by
   have h1:=Zdc X hm h x F 0 Oa Oa
   rw [Zb7 I Oa d3 x F 0 (y0:=fun _=>0) (g:=fun j=>u.C 0 (j+1)) (fun _ _ _=>rfl) (fun _ _ _ _=>rfl),cH,<-hY] at h1
   unfold Ug at h1
   rw [if_pos rfl] at h1
   omega
 refine⟨X,I.d1,I.d2,I.cell (i:=0) Oa Oa Oa Oa,d2,d1,fun j G V=> ?_,fun i J O=> ?_,fun i J O=> ?_,fun j G V=> ?_,?_,?_⟩
 · show 0<=rdX u u.nb.toNat j/\rdX u u.nb.toNat j<=_
   rw [hX j G V];exact Zax I bB j _ Oa
 · rw [hY];exact Tf i Oa _ fun k F k1=>W k F Oa
 · show p.b i*u.den<=ZX (p.A i) (rdX u u.nb.toNat) _
   rw [dX]
   have h1:=hs i J O
   have h2:=(Zax I bB (p.n+i) u.nb.toNat Oa).1
   omega
 · have h1:=U (fun k=>if k=j then 1 else 0) 0
   have h2:0<=Zf (fun k=>if u.vars<=u.F k then 0 else u.C 0 (k+1)*(if u.F k=j then 1 else 0)) u.nf.toNat:=Yi fun k F k1=>by
     have:=(W k F Oa).1
     split
     · omega
     · split<;>omega
   have h3:ZX (fun i=>ZX (p.A i) (fun k=>if k=j then 1 else 0) p.n.toNat-p.b i*0) (XU u).Y u.nb.toNat=wgt p.A (XU u).Y p.m.toNat j:=by
     rw [d1];exact Zj fun i J O=>by
       show(ZX (p.A i) (fun k=>if k=j then 1 else 0) p.n.toNat-p.b i*0)*_=_
       rw [T0 _ G Oa];simp
   rw [T0 _ G Oa,h3] at h1
   show _<=p.c j*u.den
   rw [Int.mul_comm (p.c j)];omega
 · show ZX p.c (rdX u u.nb.toNat) _=u.C 0 0
   rw [dX,<-Y]
 · show ZX p.b (XU u).Y _=u.C 0 0
   have h1:=U (fun _=>0) 1
   have z1:∀f:Oe,ZX f (fun _=>0) p.n.toNat=0:=fun f=>by
     have:ZX f (fun _=>0) p.n.toNat=Zf (fun _=>0) p.n.toNat:=Zj fun j _ _=>by simp
     rw [this,Yd]
   have z2:Zf (fun k=>if u.vars<=u.F k then 0 else u.C 0 (k+1)*(fun _=>(0:Int)) (u.F k)) u.nf.toNat=0:=by
     have:Zf (fun k=>if u.vars<=u.F k then 0 else u.C 0 (k+1)*(fun _=>(0:Int)) (u.F k)) u.nf.toNat=Zf (fun _=>0) u.nf.toNat:=Zj fun j _ _=>by split<;>simp
     rw [this,Yd]
   have z3:ZX (fun i=>ZX (p.A i) (fun _=>0) p.n.toNat-p.b i*1) (XU u).Y u.nb.toNat= -ZX p.b (XU u).Y p.m.toNat:=by
     have:=XN (D:=1) (A:= -1) (B:=0) (n:=p.m.toNat) (h:=fun i=>(ZX (p.A i) (fun _=>0) p.n.toNat-p.b i*1)*(XU u).Y i) (f:=fun i=>p.b i*(XU u).Y i) (g:=fun _=>0) (fun i J O=>by rw [z1];grind)
     rw [d1]
     show Zf (fun i=>(ZX (p.A i) (fun _=>0) p.n.toNat-p.b i*1)*(XU u).Y i) p.m.toNat= -Zf (fun i=>p.b i*(XU u).Y i) p.m.toNat
     omega
   rw [z1,z2,z3] at h1
   omega
theorem Zbw(t:Tb)(r:Int):∀K:Nat,Xl t r K<0->∀j:Int,0<=j->j<K->t.C (r+1) (j+1)<=0
 |0,_,j,j0,j1=>Oa
 | k +1,h,j,j0,j1=>by
   unfold Xl at h
   split at h
   · rename_i hc
     by_cases e:j=k
     · rw [e];exact hc
     · exact Zbw t r k h j j0 Oa
   · split at h
     · omega
     · split at h<;>omega
structure RefS (p:Lp) (y:Oe):Prop where
  ia:∀i,0<=i->i<p.m->0<=y i/\y i<=1073741824
  cols:∀j,0<=j->j<p.n->wgt p.A y p.m.toNat j<=0
  pos:0<ZX p.b y p.m.toNat
def KR(u:Tb)(r:Int):Oe:=if u.vars<=u.B r then upd (fun _=>0) (u.B r-u.vars) u.den else fun _=>0
def TG(u:Tb)(r:Int):Oe:=rdG u (KR u r) (fun j=> -u.C (r+1) (j+1)) u.nf.toNat
theorem ZhL {p:Lp} (X:LOk p) (hm:0<=p.m) {u:Tb} (h:Run k (ZD p) u 19):RefS p (TG u (Z3 u u.nb.toNat)):=by
 obtain⟨F,ab,_,hf⟩:=h.fin (.inr rfl)
 obtain⟨hr,he⟩:=hf rfl
 have hd:=h.ll
 have d1:u.nb=p.m:=by rw [hd.1];rfl
 have d2:u.nf=p.n:=by rw [hd.2.1];rfl
 have d3:u.vars=p.n:=by rw [hd.2.2.2];rfl
 have hn:=X.n1
 have lr:=YX u u.nb.toNat
 have bB:=(TQ u u.nb.toNat).2 hr
 have j5:=Zbw u (Z3 u u.nb.toNat) u.nf.toNat he
 generalize Z3 u u.nb.toNat=r at*
 have hd1:=F.d1;have hd2:=F.d2
 have Y:∀k:Int,0<=k->k<u.nf->0<= -u.C (r+1) (k+1)/\ -u.C (r+1) (k+1)<=1073741824:=fun k k0 I=>⟨by have:=j5 k k0 Oa;omega,by have:=(F.cell (i:=r+1) (j:=k+1) Oa Oa Oa Oa).1;omega⟩
 have aa:=F.lz (i:=r) Oa Oa
 have hv:=F.v
 have h0:∀i,0<=KR u r i/\KR u r i<=1073741824:=fun i=>by
   unfold KR;split
   · by_cases e:i=u.B r-u.vars
     · rw [<-e,ZA];omega
     · rw [upd_ne _ _ e];exact⟨Int.le_refl 0,show(0:Int)<=1073741824 by decide⟩
   · exact⟨Int.le_refl 0,show(0:Int)<=1073741824 by decide⟩
 have J:∀k:Int,0<=k->k<u.nf->u.vars<=u.F k->KR u r (u.F k-u.vars)=0:=fun k k0 I hk=>by
   unfold KR;split
   · exact upd_ne _ _ (by have:=F.ni (i:=r) (j:=k) Oa Oa k0 I;omega)
   · rfl
 have cH:∀w:Oe,ZX w (KR u r) u.nb.toNat=if u.vars<=u.B r then u.den*w (u.B r-u.vars) else 0:=fun w=>by
   have z:ZX w (fun _=>0) u.nb.toNat=0:=by
     have:ZX w (fun _=>0) u.nb.toNat=Zf (fun _=>0) u.nb.toNat:=Zj fun j _ _=>by simp
     rw [this,Yd]
   unfold KR;split
   · rw [Zbx _ _ Oa Oa,z];grind
   · exact z
 have G:∀(x:Oe) (k0:Int),(if u.vars<=u.B r then 0 else u.den*x (u.B r))+Zf (fun k=>if u.vars<=u.F k then 0 else-u.C (r+1) (k+1)*x (u.F k)) u.nf.toNat+ZX (fun i=>ZX (p.A i) x p.n.toNat-p.b i*k0) (TG u r) u.nb.toNat=u.C (r+1) 0*k0:=fun x k0=>by
   have h1:=Zdc X hm h x k0 (r+1) Oa Oa
   have Z:=KV F Oa (y0:=KR u r) (g:=fun j=> -u.C (r+1) (j+1)) (fun i=>ZX (p.A i) x p.n.toNat-p.b i*k0) J u.nf.toNat Oa
   have O:Zf (fun j=>u.C (r+1) (j+1)*VR p x k0 (u.F j)) u.nf.toNat= -(Zf (fun k=>if u.vars<=u.F k then 0 else-u.C (r+1) (k+1)*x (u.F k)) u.nf.toNat)-Zf (fun k=>if u.vars<=u.F k then-u.C (r+1) (k+1)*(ZX (p.A (u.F k-u.vars)) x p.n.toNat-p.b (u.F k-u.vars)*k0) else 0) u.nf.toNat:=by
     have:=XN (D:=1) (A:= -1) (B:=1) (n:=u.nf.toNat) (h:=fun j=>u.C (r+1) (j+1)*VR p x k0 (u.F j)) (f:=fun k=>if u.vars<=u.F k then 0 else-u.C (r+1) (k+1)*x (u.F k)) (g:=fun k=>if u.vars<=u.F k then-u.C (r+1) (k+1)*(ZX (p.A (u.F k-u.vars)) x p.n.toNat-p.b (u.F k-u.vars)*k0) else 0) (fun j U j1=>by
       unfold VR
       by_cases hc:u.vars<=u.F j
       · rw [if_neg Oa,if_pos hc,if_pos hc,d3];grind
       · rw [if_pos Oa,if_neg hc,if_neg hc];grind)
     omega
   unfold TG
   rw [Z,cH]
   unfold UG Ug at h1
   rw [O,if_neg Oa,show r+1-1=r by omega] at h1
   by_cases hc:u.vars<=u.B r
   · rw [if_pos hc,if_pos hc]
     have:VR p x k0 (u.B r)=ZX (p.A (u.B r-u.vars)) x p.n.toNat-p.b (u.B r-u.vars)*k0:=by unfold VR;rw [if_neg Oa,d3]
     rw [this] at h1;omega
   · rw [if_neg hc,if_neg hc]
     have:VR p x k0 (u.B r)=x (u.B r):=by unfold VR;rw [if_pos Oa]
     rw [this] at h1;omega
 refine⟨fun i W V=>Tf i (h0 i) _ fun k k0 I=>Y k k0 Oa,fun j U j1=> ?_,?_⟩
 · have h1:=G (fun k=>if k=j then 1 else 0) 0
   have Z:0<=Zf (fun k=>if u.vars<=u.F k then 0 else-u.C (r+1) (k+1)*(if u.F k=j then 1 else 0)) u.nf.toNat:=Yi fun k k0 I=>by
     have:=(Y k k0 Oa).1
     split
     · omega
     · split<;>omega
   have O:ZX (fun i=>ZX (p.A i) (fun k=>if k=j then 1 else 0) p.n.toNat-p.b i*0) (TG u r) u.nb.toNat=wgt p.A (TG u r) p.m.toNat j:=by
     rw [d1];exact Zj fun i W V=>by
       show(ZX (p.A i) (fun k=>if k=j then 1 else 0) p.n.toNat-p.b i*0)*_=_
       rw [T0 _ U Oa];simp
   have h4:0<=(if u.vars<=u.B r then 0 else u.den*(if u.B r=j then 1 else 0)):=by
     split
     · omega
     · split<;>omega
   rw [O] at h1
   omega
 · have h1:=G (fun _=>0) 1
   have z1:∀f:Oe,ZX f (fun _=>0) p.n.toNat=0:=fun f=>by
     have:ZX f (fun _=>0) p.n.toNat=Zf (fun _=>0) p.n.toNat:=Zj fun j _ _=>by simp
     rw [this,Yd]
   have z2:Zf (fun k=>if u.vars<=u.F k then 0 else-u.C (r+1) (k+1)*(fun _=>(0:Int)) (u.F k)) u.nf.toNat=0:=by
     have:Zf (fun k=>if u.vars<=u.F k then 0 else-u.C (r+1) (k+1)*(fun _=>(0:Int)) (u.F k)) u.nf.toNat=Zf (fun _=>0) u.nf.toNat:=Zj fun j _ _=>by split<;>simp
     rw [this,Yd]
   have z3:ZX (fun i=>ZX (p.A i) (fun _=>0) p.n.toNat-p.b i*1) (TG u r) u.nb.toNat= -ZX p.b (TG u r) p.m.toNat:=by
     have:=XN (D:=1) (A:= -1) (B:=0) (n:=p.m.toNat) (h:=fun i=>(ZX (p.A i) (fun _=>0) p.n.toNat-p.b i*1)*(TG u r) i) (f:=fun i=>p.b i*(TG u r) i) (g:=fun _=>0) (fun i W V=>by rw [z1];grind)
     rw [d1]
     show Zf (fun i=>(ZX (p.A i) (fun _=>0) p.n.toNat-p.b i*1)*(TG u r) i) p.m.toNat= -Zf (fun i=>p.b i*(TG u r) i) p.m.toNat
     omega
   have z4:(if u.vars<=u.B r then 0 else u.den*(fun _=>(0:Int)) (u.B r))=0:=by split<;>simp
   rw [z2,z3,z4] at h1
   omega
theorem SolveR.chk{p:Lp}(F:0<=p.m){s:So}(h:SolveR p s e)(D:e=0):ChkS p s:=by
 rcases h with⟨_,_,h⟩|⟨hl,u,hr,⟨h,_⟩|⟨_,rfl⟩⟩
 · omega
 · exact absurd D h
 · subst D;exact ZhM hl F hr
theorem SolveR.none{p:Lp}(D:0<=p.m){s:So}(h:SolveR p s e)(F:e=19):∃y,RefS p y:=by
 rcases h with⟨_,_,h⟩|⟨hl,u,hr,_⟩
 · omega
 · subst F;exact⟨_,ZhL hl D hr⟩
end Go.Proofs.Gw
namespace Go.Proofs.YtkichmnjjblodaaGreat
open Go Go.RowKit Go.Proofs.Gw
theorem ZmV{vB I J:Value}{vv:Int->Value}{t:Tb}{i j r s:Int}(w0:World)(F:TAt w0 vB I J vv t)(G:TPrp t)(i0:0<=i)(i1:i<=t.nb)(j0:0<=j)(j1:j<=t.nf)(r0:0<=r)(r1:r<=t.nb)(s0:0<=s)(s1:s<=t.nf):
   Calls Oj 203 [.agg #[.int Oh t.vars,.int Oh t.den,vB,I,J],.int Oh i,.int Oh j,.int Oh r,.int Oh s].toArray w0 fun e w=>∃v,e= .returned v/\∃(n:Int) (ok:Value),v= .tuple #[.int Oh n,ok]/\n=Yb t r s i j/\ok=B (Zaj t r s i j)/\Sat w0 w []:=by
 have hn:=F.F.cf.n0;have Z:=F.F.cf.n1;have hb:=F.B.cf.n0;have ag:=F.B.cf.n1;have af:=F.C.row.cf.n0;have ae:=F.C.row.cf.n1
 have b1:=G.n1;have b2:=G.n2;have b3:=G.m2;have b4:=G.v;have b5:=G.d1;have b6:=G.d2;have b7:=G.c
 have U:=G.cell (i:=r) (j:=s) Oa Oa Oa Oa;have V:=G.cell (i:=i) (j:=j) Oa Oa Oa Oa;have W:=G.cell (i:=i) (j:=s) Oa Oa Oa Oa;have X:=G.cell (i:=r) (j:=j) Oa Oa Oa Oa
 have ab:=Xo U V;have aa:=Xo W X;have ad:=G.len (i:=i) Oa Oa;have ac:=G.len (i:=r) Oa Oa
 have Y:=YC (a:=t.C r s*t.C i j-t.C i s*t.C r j) (d:=t.den) (A:=2305843009213693952) Oa Oa
 refine zenG Tryz.func203 Tryz.ntmps203 fun w D=> ?_
 refine zsr<|zla (xbx (cs:= [_,_,_,_,_]) D) ?_;rintro _ w ⟨g1,rfl,D⟩
 refine(Om)<|zlz<|(zV (xfb 4 fd_200_4))<|(zV (xlb 0 Zs D))<|(zP)<|(zV (xix (kk:=r) Zi F.C.row.cf))<|(zV (xlr (u:=(vv r)) pl_22 (F.C.row.below D.below)))<|(zP)<|(zV (xix (kk:=s) Zb (F.C.p r Oa Oa).cf))<|(zV (xlr (u:= .int Oh ((t.C r) s)) pl_3 ((F.C.p r Oa Oa).below D.below)))<|(zP)<|zlt<|zsq<|zbk<|zsr<|zs4 ?_
 refine zlb 26 ?_ ?_<;>intro hc
 ·
  refine zs5 ?_
  refine zlt<|Ze ?_ ?_<;>intro hc
  ·
   refine zsr<|(zV (xfb 1 fd_200_1))<|(zV (xlb 0 pl_3 D))<|(Om)<|Xt<|zf2 ⟨_,rfl,?_⟩
   skip
   exact⟨(_),_,rfl,by unfold Yb;first|exact(if_pos ⟨by omega,Oa⟩).symm|(rw [if_neg Oa];exact(if_pos Oa).symm)|(rw [if_neg Oa,if_neg Oa];exact(if_pos Oa).symm),ZT (fun h1 O=>Oa),D.nl⟩
  refine zsr<|(Om)<|(zV (xkt YT))<|(zP)<|zlt<|zct<|zsr ?_
  refine(zV (xfb 4 fd_200_4))<|(zV (xlb 0 Zs D))<|(zP)<|(zV (xix (kk:=r) Zi F.C.row.cf))<|(zV (xlr (u:=(vv r)) pl_22 (F.C.row.below D.below)))<|(zP)<|(zV (xix (kk:=j) Zb (F.C.p r Oa Oa).cf))<|(zV (xlr (u:= .int Oh ((t.C r) j)) pl_3 ((F.C.p r Oa Oa).below D.below)))<|(zV (ZbX (r:= -(((t.C r) j)))))<|(Om)<|Xt<|zf2 ⟨_,rfl,?_⟩
  obtain rfl:i=r:=Oa
  skip
  exact⟨(_),_,rfl,by unfold Yb;first|exact(if_pos ⟨by omega,Oa⟩).symm|(rw [if_neg Oa];exact(if_pos Oa).symm)|(rw [if_neg Oa,if_neg Oa];exact(if_pos Oa).symm),ZT (fun h1 O=>Oa),D.nl⟩
 iterate 3 refine zlo ?_
 refine(Om)<|zlt<|zcf<|zsr ?_
 refine zs4 ?_
 refine zlt<|Ze ?_ ?_<;>intro hc
 ·
  exfalso;omega
 refine zsr<|zs4 ?_
 refine zlt<|Ze ?_ ?_<;>intro hc
 ·
  refine zsr<|(zV (xfb 4 fd_200_4))<|(zV (xlb 0 Zs D))<|(zP)<|(zV (xix (kk:=i) Zi F.C.row.cf))<|(zV (xlr (u:=(vv i)) pl_22 (F.C.row.below D.below)))<|(zP)<|(zV (xix (kk:=s) Zb (F.C.p i Oa Oa).cf))<|(zV (xlr (u:= .int Oh ((t.C i) s)) pl_3 ((F.C.p i Oa Oa).below D.below)))<|(Om)<|Xt<|zf2 ⟨_,rfl,?_⟩
  obtain rfl:j=s:=Oa
  skip
  exact⟨(_),_,rfl,by unfold Yb;first|exact(if_pos ⟨by omega,Oa⟩).symm|(rw [if_neg Oa];exact(if_pos Oa).symm)|(rw [if_neg Oa,if_neg Oa];exact(if_pos Oa).symm),ZT (fun h1 O=>Oa),D.nl⟩
 refine zsk<|zbn<|ztn<|zsq<|zdst [0] [0] 1000 mx_ D ?_;clear D;intro w D
 refine(zDw 0 xmv)<|(zDw 1 (xfb 4 fd_200_4))<|(zDl 2 (fun w D=>(xlb 0 Zs D)))<|(zDw 3 xmv)<|(zDw 4 (xix (kk:=i) Zi F.C.row.cf))<|(zDl 5 (fun w D=>(xlr (u:=(vv i)) pl_22 (F.C.row.below D.below))))<|(zDw 6 xmv)<|(zDw 7 (xix (kk:=j) Zb (F.C.p i Oa Oa).cf))<|(zDl 8 (fun w D=>(xlr (u:= .int Oh ((t.C i) j)) pl_3 ((F.C.p i Oa Oa).below D.below))))<|(zDw 9 (Z2 (r:=(((t.C r) s)*((t.C i) j))) (e:=rfl)))<|(zDw 10 (xfb 4 fd_200_4))<|(zDl 11 (fun w D=>(xlb 0 Zs D)))<|(zDw 12 xmv)<|(zDw 13 (xix (kk:=i) Zi F.C.row.cf))<|zdla 14 (fun w D=>(xlr (u:=(vv i)) pl_22 (F.C.row.below D.below))) ?_
 refine(zDw 15 xmv)<|(zDw 16 (xix (kk:=s) Zb (F.C.p i Oa Oa).cf))<|(zDl 17 (fun w D=>(xlr (u:= .int Oh ((t.C i) s)) pl_3 ((F.C.p i Oa Oa).below D.below))))<|(zDw 18 (xfb 4 fd_200_4))<|(zDl 19 (fun w D=>(xlb 0 Zs D)))<|(zDw 20 xmv)<|(zDw 21 (xix (kk:=r) Zi F.C.row.cf))<|(zDl 22 (fun w D=>(xlr (u:=(vv r)) pl_22 (F.C.row.below D.below))))<|(zDw 23 xmv)<|(zDw 24 (xix (kk:=j) Zb (F.C.p r Oa Oa).cf))<|(zDl 25 (fun w D=>(xlr (u:= .int Oh ((t.C r) j)) pl_3 ((F.C.p r Oa Oa).below D.below))))<|(zDw 26 (Z2 (r:=(((t.C i) s)*((t.C r) j))) (e:=rfl)))<|(zDw 27 (Zw (r:=(((t.C r) s)*((t.C i) j))-(((t.C i) s)*((t.C r) j)))))<|(zDw 28 xas)<|zdd<|ztn<|zsq ?_
 refine zdst [0] [0] 1000 mx_ D ?_;clear D;intro w D
 refine(zDw 0 xmv)<|(zDw 1 (xfb 1 fd_200_1))<|(zDl 2 (fun w D=>(xlb 0 pl_3 D)))<|(zDw 3 (VC (r:=(Int.tdiv ((((t.C r) s)*((t.C i) j))-(((t.C i) s)*((t.C r) j))) t.den))))<|(zDw 4 xmv)<|(zDw 5 (xfb 1 fd_200_1))<|(zDl 6 (fun w D=>(xlb 0 pl_3 D)))<|(zDw 7 (KD (r:=(Int.tmod ((((t.C r) s)*((t.C i) j))-(((t.C i) s)*((t.C r) j))) t.den))))<|(zDw 8 YT)<|(zDw 9 xas)<|(zDw 10 xas)<|zdd<|ztn<|zrt<|zf2 ⟨_,rfl,?_⟩
 exact⟨_,_,rfl,by unfold Yb;rw [if_neg Oa,if_neg Oa,if_neg Oa],Zn ⟨fun h _ _=>h,fun h=>h Oa Oa⟩,D.nl⟩
end Go.Proofs.YtkichmnjjblodaaGreat
