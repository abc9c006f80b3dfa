/- Part 6 of the texts that the proof needs. -/
import Derived.Test.YtopmifmfecfaaaaGreatRbAE
import Derived.OrdersIn
set_option linter.unusedVariables false
set_option linter.unusedSimpArgs false
namespace Go.Proofs.YtopmifmfecfaaaaGreat
open Go Go.RowKit Go.Proofs.Gw
theorem Kx:Zb Tryz.prog 133=true:=by kernel_rfl
theorem ZfY:Zb Tryz.prog 134=true:=by kernel_rfl
theorem ZfX:Zb Tryz.prog 135=true:=by kernel_rfl
theorem ZfW:Zb Tryz.prog 136=true:=by kernel_rfl
theorem ZfV:Zb Tryz.prog 137=true:=by kernel_rfl
theorem ZfU:Zb Tryz.prog 138=true:=by kernel_rfl
theorem TK:Zb Tryz.prog 139=true:=by kernel_rfl
theorem ZfT:Zb Tryz.prog 140=true:=by kernel_rfl
theorem ZfG:Zb Tryz.prog 161=true:=by kernel_rfl
theorem ZfF:Zb Tryz.prog 162=true:=by kernel_rfl
theorem Zci:Zb Tryz.prog 179=true:=by kernel_rfl
theorem cl_180:Zb Tryz.prog 180=true:=by kernel_rfl
theorem Zch:Zb Tryz.prog 181=true:=by kernel_rfl
theorem cl_189:Zb Tryz.prog 189=true:=by kernel_rfl
theorem Ku:Zb Tryz.prog 195=true:=by kernel_rfl
theorem fd_111_0:Zp Tryz.prog 111 0=some 0:=by kernel_rfl
theorem fd_111_1:Zp Tryz.prog 111 1=some 1:=by kernel_rfl
theorem Yh:ZB Tryz.prog 59=some (111,2):=by kernel_rfl
set_option maxRecDepth 20000 in
theorem Kz{vd:Value}{n:Int}{s:Int->Int}{pv:Int->Value}{cnt:Int->Int}{F:Go.Proofs.Gw.Frame}{a b m:Int}(w0 w:World)(hS:Sat w0 w [.own vd 2 111 n (Zc (fun z9=>pv (s z9)) (fun z9=>cnt (s z9))),.sem F])(hsl:Slh vd n)(hn8:n<=100000000)(hone:∀x,(pv x).oneCell'=true)(a0:0<=a)(m0:0<=m)(ab:a+m<=b)(bn:b+m<=n):
    Calls Tryz.prog 195 [vd,.int .i64 a,.int .i64 b,.int .i64 m,.func (.func 139) #[] #[]].toArray w fun e w=>∃v,e= .returned v/\v= .tuple #[]/\Sat w0 w [.own vd 2 111 n (Zc (fun z9=>pv ((swr s a b m) z9)) (fun z9=>cnt ((swr s a b m) z9))),.sem F]:=by
  refine zenF Tryz.func195 Tryz.ntmps195 ?_
  refine zsr ?_
  refine zlv xas ?_
  refine zx6<|zlp (fun mm M w=>∃(t:Int->Int) (i:Int),mm=((m-i).toNat)/\(0<=i)/\(i<=m)/\(t=swr s a b i)/\M= [(0,vd),(1,.int .i64 a),(2,.int .i64 b),(3,.int .i64 m),(10,.int .i64 i)]/\Sat w0 w [.own vd 2 111 n (Zc (fun z9=>pv (t z9)) (fun z9=>cnt (t z9))),.sem F]) ⟨s,0,rfl,(by omega),(by omega),?_,rfl,hS⟩ ?_
  ·
   exact(T3 s a b).symm
  clear hS w
  rintro mm M w ⟨t,i,rfl,i0,i1,ht,rfl,hS⟩
  refine zx11 ?_
  refine zs3 ?_
  refine zlt ?_
  refine zcif ?_ ?_<;>intro hc
  ·
   refine zsk<|ztn<|zsq<|zbk ?_
   refine zdst [0,1] [1] 21 mx_ hS ?_;clear hS;intro w hS
   refine zDrv 0 xmv ?_
   refine zDrv 1 xmv ?_
   refine zDrv 2 xmv ?_
   refine zDrv 3 (xadd (r:=a+i)) ?_
   refine zDrv 4 xmv ?_
   refine zDrv 5 xmv ?_
   refine zDrv 6 xmv ?_
   refine zDrv 7 (xadd (r:=b+i)) ?_
   refine zDrv 8 xmv ?_
   refine zDrv 9 xmv ?_
   refine zDrv 10 xmv ?_
   refine zDrv 11 (xadd (r:=b+i)) ?_
   refine zDrv 12 (xix (kk:=2*b+2*i) Yh hsl) ?_
   refine zdl 13 (fun w hS=>(xlw (cs:= [(pv (t (b+i))),.int .i64 (cnt (t (b+i)))]) Zw (hS.rowN 0 rfl) (Zr (k:=2*b+2*i) (i:=b+i) (fun z9=>pv (t z9)) (fun z9=>cnt (t z9)) (by omega)))) ?_
   refine zDrv 14 xmv ?_
   refine zDrv 15 xmv ?_
   refine zDrv 16 xmv ?_
   refine zDrv 17 (xadd (r:=a+i)) ?_
   refine zDrv 18 (xix (kk:=2*a+2*i) Yh hsl) ?_
   refine zdl 19 (fun w hS=>(xlw (cs:= [(pv (t (a+i))),.int .i64 (cnt (t (a+i)))]) Zw (hS.rowN 0 rfl) (Zr (k:=2*a+2*i) (i:=a+i) (fun z9=>pv (t z9)) (fun z9=>cnt (t z9)) (by omega)))) ?_
   refine zDrv 20 (xix (kk:=2*a+2*i) Yh hsl) ?_
   refine zde 21 (xso2 0 Zw hS (Xd (i:=a+i) (k:=2*a+2*i) _ _ _ _ (by omega)) (hv:=hone _)) ?_;clear hS;rintro w hS
   replace hS:=hS.n2
   refine⟨⟨fun h=>absurd h (by decide),hS.pk [1]⟩,?_⟩
   refine zDrv 22 (xix (kk:=2*b+2*i) Yh hsl) ?_
   refine zde 23 (xso2 0 Zw hS (Eq.trans (Xd (i:=b+i) (k:=2*b+2*i) _ _ _ _ (by omega)) (Xx pv cnt t (a+i) (b+i))) (hv:=hone _)) ?_;clear hS;rintro w hS
   replace hS:=hS.n2
   refine⟨⟨fun h=>absurd h (by decide),hS.pk [1]⟩,?_⟩
   refine zdd<|zbn<|ztn<|zrg ?_
   refine zlv xmv ?_
   refine zlv (xadd (r:=i+1)) ?_
   refine zlv xas ?_
   refine zln<|zlq ⟨swp t (a+i) (b+i),i+1,rfl,(by omega),(by omega),?_,rfl,hS⟩
   ·
    rw [ht];exact T4 i0 (by omega) (by omega) (by omega)
  refine zxt<|ztx<|ztx<|zbh<|Xw ⟨_,rfl,?_⟩
  obtain rfl:i=m:=by omega
  subst ht
  exact⟨rfl,hS⟩
set_option maxRecDepth 20000 in
theorem c_rotU{vd:Value}{n:Int}{s:Int->Int}{pv:Int->Value}{cnt:Int->Int}{F:Go.Proofs.Gw.Frame}{a m b:Int}(w0 w:World)(hS:Sat w0 w [.own vd 2 111 n (Zc (fun z9=>pv (s z9)) (fun z9=>cnt (s z9))),.sem F])(hsl:Slh vd n)(hn8:n<=100000000)(hone:∀x,(pv x).oneCell'=true)(a0:0<=a)(am:a<m)(mb:m<b)(bn:b<=n):
    Calls Tryz.prog 189 [vd,.int .i64 a,.int .i64 m,.int .i64 b,.func (.func 139) #[] #[]].toArray w fun e w=>∃v,e= .returned v/\v= .tuple #[]/\Sat w0 w [.own vd 2 111 n (Zc (fun z9=>pv ((rot s a m b) z9)) (fun z9=>cnt ((rot s a m b) z9))),.sem F]:=by
  refine zenF Tryz.func189 Tryz.ntmps189 ?_
  refine zsr ?_
  refine zs2 ?_
  refine zlv (xsub (r:=m-a)) ?_
  refine zlv xas ?_
  refine zlz ?_
  refine zs2 ?_
  refine zlv (xsub (r:=b-m)) ?_
  refine zlv xas ?_
  refine zlt<|zsq<|zbk<|zlp (fun mm M w=>∃(t:Int->Int) (i:Int) (j:Int),mm=((i+j).toNat)/\(1<=i)/\(1<=j)/\(a<=m-i)/\(m+j<=b)/\(rot t (m-i) m (m+j)=rot s a m b)/\M= [(0,vd),(2,.int .i64 m),(4,.func (.func 139) #[] #[]),(10,.int .i64 i),(11,.int .i64 j)]/\Sat w0 w [.own vd 2 111 n (Zc (fun z9=>pv (t z9)) (fun z9=>cnt (t z9))),.sem F]) ⟨s,m-a,b-m,rfl,(by omega),(by omega),(by omega),(by omega),?_,rfl,hS⟩ ?_
  ·
   rw [show m-(m-a)=a by omega,show m+(b-m)=b by omega]
  clear hS w
  rintro mm M w ⟨t,i,j,rfl,i0,j0,ia,jb,hr,rfl,hS⟩
  refine zx11 ?_
  refine zs3 ?_
  refine zlt ?_
  refine zcif ?_ ?_<;>intro hc
  ·
   refine zsk<|ztn<|zbk<|zsr ?_
   refine zs3 ?_
   refine zlt ?_
   refine zcif ?_ ?_<;>intro hc
   ·
    refine zsr ?_
    refine zs3 ?_
    refine zlv (xsub (r:=m-i)) ?_
    refine zs3 ?_
    refine zlc (xc0 Ku) (Kz (s:=t) (a:=m-i) (b:=m) (m:=j) w0 w hS hsl hn8 hone (by omega) (by omega) (by omega) (by omega)) ?_;rintro _ w ⟨rfl,hS⟩
    replace hS:=hS.n2
    refine zlt<|zrg ?_
    refine zs2 ?_
    refine zlv (xsub (r:=i-j)) ?_
    refine zlv xas ?_
    refine zln<|zbn<|zlq ⟨(swr t (m-i) m j),i-j,j,rfl,(by omega),(by omega),(by omega),(by omega),?_,rfl,hS⟩
    ·
     first|(rw [<-hr,show m-(i-j)=m-i+j by omega];exact Wy (by omega) (by omega))|(rw [<-hr,show m+(j-i)=m+j-i by omega];exact XW (by omega) (by omega))
   refine zsr ?_
   refine zs3 ?_
   refine zlv (xsub (r:=m-i)) ?_
   refine zs2 ?_
   refine zlv (xadd (r:=m+j)) ?_
   refine zlv xmv ?_
   refine zlv (xsub (r:=m+j-i)) ?_
   refine zs2 ?_
   refine zlc (xc0 Ku) (Kz (s:=t) (a:=m-i) (b:=m+j-i) (m:=i) w0 w hS hsl hn8 hone (by omega) (by omega) (by omega) (by omega)) ?_;rintro _ w ⟨rfl,hS⟩
   replace hS:=hS.n2
   refine zlt<|zrg ?_
   refine zs2 ?_
   refine zlv (xsub (r:=j-i)) ?_
   refine zlv xas ?_
   refine zln<|zbn<|zlq ⟨(swr t (m-i) (m+j-i) i),i,j-i,rfl,(by omega),(by omega),(by omega),(by omega),?_,rfl,hS⟩
   ·
    first|(rw [<-hr,show m-(i-j)=m-i+j by omega];exact Wy (by omega) (by omega))|(rw [<-hr,show m+(j-i)=m+j-i by omega];exact XW (by omega) (by omega))
  refine zxt<|ztx<|ztx<|zbh<|ztn<|zrg ?_
  refine zs3 ?_
  refine zlv (xsub (r:=m-i)) ?_
  refine zs3 ?_
  refine zlc (xc0 Ku) (Kz (s:=t) (a:=m-i) (b:=m) (m:=i) w0 w hS hsl hn8 hone (by omega) (by omega) (by omega) (by omega)) ?_;rintro _ w ⟨rfl,hS⟩
  replace hS:=hS.n2
  refine zln<|Xw ⟨_,rfl,?_⟩
  have hz:(swr t (m-i) m i)=rot s a m b:=by
    rw [<-hr,show j=i by omega];exact Re (by omega)
  rw [hz] at hS
  exact⟨rfl,hS⟩
set_option maxRecDepth 20000 in
theorem ZcT {vd:Value} {n nm:Int} {s:Int->Int} {pv:Int->Value} {cnt:Int->Int} {lt:Int->Int->Prop} {F:Go.Proofs.Gw.Frame} {a b:Int} (w0 w:World) (hS:Sat w0 w [.own vd 2 111 n (Zc (fun z9=>pv (s z9)) (fun z9=>cnt (s z9))),.sem F]) (hsl:Slh vd n) (hn8:n<=100000000) (hone:∀x,(pv x).oneCell'=true) (hcmp:∀(w:World) (x y:Int),0<=x->x<nm->0<=y->y<nm->Below w0.heap.size w0 w->F.holds w->Calls Tryz.prog 139 [.agg #[pv x,.int .i64 (cnt x)],.agg #[pv y,.int .i64 (cnt y)]].toArray w fun e w'=>∃v,e= .returned v/\∃c:Int,v= .int .i64 c/\(c<0↔lt x y)/\Sat w w' []) (hd:∀k,0<=k->k<n->0<=s k/\s k<nm) (hw:Swo lt) (a0:0<=a) (ab:a<=b) (bn:b<=n) (hinc:Vs a b s):
    Calls Tryz.prog 179 [vd,.int .i64 a,.int .i64 b,.func (.func 139) #[] #[]].toArray w fun e w=>∃v,e= .returned v/\v= .tuple #[]/\∃t:Int->Int,PermOn a b s t/\Srt (Tie lt) a b t/\Sat w0 w [.own vd 2 111 n (Zc (fun z9=>pv (t z9)) (fun z9=>cnt (t z9))),.sem F]:=by
  refine zenF Tryz.func179 Tryz.ntmps179 ?_
  refine zsr ?_
  refine zlv xmv ?_
  refine zlv (xadd (r:=a+1)) ?_
  refine zlv xas ?_
  refine zx6<|zlp (fun mm M w=>∃(t:Int->Int) (i:Int),mm=((b-i).toNat)/\(a+1<=i)/\(i<=b\/i=a+1)/\(PermOn a i s t)/\(Srt (Tie lt) a i t)/\(∀k,0<=k->k<n->0<=t k/\t k<nm)/\M= [(0,vd),(1,.int .i64 a),(2,.int .i64 b),(3,.func (.func 139) #[] #[]),(8,.int .i64 i)]/\Sat w0 w [.own vd 2 111 n (Zc (fun z9=>pv (t z9)) (fun z9=>cnt (t z9))),.sem F]) ⟨s,a+1,rfl,(by omega),(by omega),?_,?_,?_,rfl,hS⟩ ?_
  ·
   exact .refl _ _ _
  ·
   intro p q p0 pq q1;omega
  ·
   exact hd
  clear hS w
  rintro mm M w ⟨t,i,rfl,i0,i1,hp,hs,hd1,rfl,hS⟩
  refine zx11 ?_
  refine zs3 ?_
  refine zlt ?_
  refine zcif ?_ ?_<;>intro hc
  ·
   refine zx3 ?_
   refine zs2 ?_
   refine zx6<|zlp (fun mm M w=>∃(t2:Int->Int) (j:Int),mm=((j-a).toNat)/\(a<=j)/\(j<=i)/\(Ins lt a i j t t2)/\(∀k,0<=k->k<n->0<=t2 k/\t2 k<nm)/\M= [(0,vd),(1,.int .i64 a),(2,.int .i64 b),(3,.func (.func 139) #[] #[]),(8,.int .i64 i),(9,.int .i64 j)]/\Sat w0 w [.own vd 2 111 n (Zc (fun z9=>pv (t2 z9)) (fun z9=>cnt (t2 z9))),.sem F]) ⟨t,i,rfl,(by omega),(by omega),?_,?_,rfl,hS⟩ ?_
   ·
    exact Ins.start (by omega) hs (K9 hp hinc (by omega))
   ·
    exact hd1
   clear hS w
   rintro mm M w ⟨t2,j,rfl,j0,j1,hI,hd2,rfl,hS⟩
   refine zsq<|zsq ?_
   refine zdst [0,1] [0,1] 1000 mx_ hS ?_;clear hS;intro w hS
   refine zDrv 0 xmv ?_
   refine zDrv 1 xmv ?_
   refine zDrv 2 xgtr ?_
   refine zDrv 3 xmv ?_
   refine zdb 21 ?_ ?_<;>intro hc
   ·
    refine zDrv 4 xmv ?_
    refine zDrv 5 xmv ?_
    refine zDrv 6 xmv ?_
    refine zDrv 7 (xix (kk:=2*j) Yh hsl) ?_
    refine zdla 8 (fun w hS=>(xlw (cs:= [(pv (t2 j)),.int .i64 (cnt (t2 j))]) Zw (hS.rowN 0 rfl) (Zr (k:=2*j) (i:=j) (fun z9=>pv (t2 z9)) (fun z9=>cnt (t2 z9)) (by omega)))) ?_
    refine zDrv 9 xmv ?_
    refine zDrv 10 xmv ?_
    refine zDrv 11 (xsub (r:=j-1)) ?_
    refine zDrv 12 (xix (kk:=2*j-2) Yh hsl) ?_
    refine zdla 13 (fun w hS=>(xlw (cs:= [(pv (t2 (j-1))),.int .i64 (cnt (t2 (j-1)))]) Zw (hS.rowN 0 rfl) (Zr (k:=2*j-2) (i:=j-1) (fun z9=>pv (t2 z9)) (fun z9=>cnt (t2 z9)) (by omega)))) ?_
    refine zdc 14 (xc0 TK) (hcmp w (t2 j) (t2 (j-1)) (hd2 j (by omega) (by omega)).1 (hd2 j (by omega) (by omega)).2 (hd2 (j-1) (by omega) (by omega)).1 (hd2 (j-1) (by omega) (by omega)).2 hS.below (hS.holds _ (List.mem_of_getElem? (i:=1) rfl))) ?_;rintro _ w ⟨c1,rfl,hc1,hS'⟩
    replace hS:=hS.cmp hS';clear hS'
    refine⟨⟨fun _=>hS,hS⟩,?_⟩
    refine zDrv 15 xlss ?_
    refine zDrv 16 xpt ?_
    refine zdd<|ztn ?_
    refine zcif ?_ ?_<;>intro hc
    ·
     refine zsk<|ztn<|zsq<|zbk ?_
     refine zdst [0,1] [1] 15 mx_ hS ?_;clear hS;intro w hS
     refine zDrv 0 xmv ?_
     refine zDrv 1 xmv ?_
     refine zDrv 2 xmv ?_
     refine zDrv 3 xmv ?_
     refine zDrv 4 (xsub (r:=j-1)) ?_
     refine zDrv 5 xmv ?_
     refine zDrv 6 xmv ?_
     refine zDrv 7 (xsub (r:=j-1)) ?_
     refine zDrv 8 (xix (kk:=2*j-2) Yh hsl) ?_
     refine zdl 9 (fun w hS=>(xlw (cs:= [(pv (t2 (j-1))),.int .i64 (cnt (t2 (j-1)))]) Zw (hS.rowN 0 rfl) (Zr (k:=2*j-2) (i:=j-1) (fun z9=>pv (t2 z9)) (fun z9=>cnt (t2 z9)) (by omega)))) ?_
     refine zDrv 10 xmv ?_
     refine zDrv 11 xmv ?_
     refine zDrv 12 (xix (kk:=2*j) Yh hsl) ?_
     refine zdl 13 (fun w hS=>(xlw (cs:= [(pv (t2 j)),.int .i64 (cnt (t2 j))]) Zw (hS.rowN 0 rfl) (Zr (k:=2*j) (i:=j) (fun z9=>pv (t2 z9)) (fun z9=>cnt (t2 z9)) (by omega)))) ?_
     refine zDrv 14 (xix (kk:=2*j) Yh hsl) ?_
     refine zde 15 (xso2 0 Zw hS (Xd (i:=j) (k:=2*j) _ _ _ _ (by omega)) (hv:=hone _)) ?_;clear hS;rintro w hS
     replace hS:=hS.n2
     refine⟨⟨fun h=>absurd h (by decide),hS.pk [1]⟩,?_⟩
     refine zDrv 16 (xix (kk:=2*j-2) Yh hsl) ?_
     refine zde 17 (xso2 0 Zw hS (Eq.trans (Xd (i:=j-1) (k:=2*j-2) _ _ _ _ (by omega)) (Xx pv cnt t2 j (j-1))) (hv:=hone _)) ?_;clear hS;rintro w hS
     replace hS:=hS.n2
     refine⟨⟨fun h=>absurd h (by decide),hS.pk [1]⟩,?_⟩
     refine zdd<|zbn<|ztn<|zrg ?_
     refine zlv xmv ?_
     refine zlv (xsub (r:=j-1)) ?_
     refine zlv xas ?_
     refine zln<|zlq ⟨swp t2 j (j-1),j-1,rfl,(by omega),(by omega),?_,?_,rfl,hS⟩
     ·
      exact hI.step (by omega) (by omega) (hc1.1 ‹c1<0›)
     ·
      exact(VI (lo:=a) (hi:=n) (by omega) (by omega) (by omega) (by omega)).dom a0 (.inl (by omega)) hd2
    refine zxt<|ztx<|ztx<|zbh<|zbn<|ztn<|zrg ?_
    refine zlv xmv ?_
    refine zlv (xadd (r:=i+1)) ?_
    refine zlv xas ?_
    refine zln<|zlq ⟨t2,i+1,rfl,(by omega),(by omega),?_,?_,?_,rfl,hS⟩
    ·
     exact(hp.mono (by omega) (by omega)).trans hI.perm
    ·
     exact hI.fin hw (by omega) (by omega) (by first|exact .inl (by omega)|exact .inr fun h=>absurd (hc1.2 h) ‹¬c1<0›)
    ·
     exact hd2
   refine zdof 4 ?_
   refine zdof 5 ?_
   refine zdof 6 ?_
   refine zdof 7 ?_
   refine zdof 8 ?_
   refine zdof 9 ?_
   refine zdof 10 ?_
   refine zdof 11 ?_
   refine zdof 12 ?_
   refine zdof 13 ?_
   refine zdof 14 ?_
   refine zdof 15 ?_
   refine zDrv 16 xpf ?_
   refine zdd<|ztn<|zcf<|zxt<|ztx<|ztx<|zbh<|zbn<|ztn<|zrg ?_
   refine zlv xmv ?_
   refine zlv (xadd (r:=i+1)) ?_
   refine zlv xas ?_
   refine zln<|zlq ⟨t2,i+1,rfl,(by omega),(by omega),?_,?_,?_,rfl,hS⟩
   ·
    exact(hp.mono (by omega) (by omega)).trans hI.perm
   ·
    exact hI.fin hw (by omega) (by omega) (by first|exact .inl (by omega)|exact .inr fun h=>absurd (hc1.2 h) ‹¬c1<0›)
   ·
    exact hd2
  refine zxt<|ztx<|ztx<|zbh<|Xw ⟨_,rfl,?_⟩
  refine⟨rfl,t,?_,?_,hS⟩
  · by_cases hab:i<=b
    · exact hp.mono (by omega) (by omega)
    · obtain⟨p_,q_,e1,e2,e3⟩:=hp
      exact⟨p_,q_,e1,fun k hk=>by
        by_cases hka:k=a
        · subst hka
          apply Classical.byContradiction;intro hne
          have h5:=e2 (p_ k) (by omega)
          have h6:=congrArg q_ h5
          rw [(e1 _).2,(e1 _).2] at h6;exact hne h6
        · exact e2 k (by omega),e3⟩
  · exact hs.mono (by omega) (by omega)
set_option maxHeartbeats 4000000 in
set_option maxRecDepth 20000 in
theorem Zcs {vd:Value} {n nm:Int} {pv:Int->Value} {cnt:Int->Int} {lt:Int->Int->Prop} {F:Go.Proofs.Gw.Frame} (hsl:Slh vd n) (hn8:n<=100000000) (hone:∀x,(pv x).oneCell'=true) (hw:Swo lt) (N:Nat):∀{s:Int->Int} {a m b:Int} (w0 w:World) (hS:Sat w0 w [.own vd 2 111 n (Zc (fun z9=>pv (s z9)) (fun z9=>cnt (s z9))),.sem F]) (hcmp:∀(w:World) (x y:Int),0<=x->x<nm->0<=y->y<nm->Below w0.heap.size w0 w->F.holds w->Calls Tryz.prog 139 [.agg #[pv x,.int .i64 (cnt x)],.agg #[pv y,.int .i64 (cnt y)]].toArray w fun e w'=>∃v,e= .returned v/\∃c:Int,v= .int .i64 c/\(c<0↔lt x y)/\Sat w w' []) (hd:∀k,0<=k->k<n->0<=s k/\s k<nm) (a0:0<=a) (am:a<m) (mb:m<b) (bn:b<=n) (h1:Srt (Tie lt) a m s) (h2:Srt (Tie lt) m b s) (hp:Parted a m b s) (hN:(b-a).toNat<N),
    Calls Tryz.prog 180 [vd,.int .i64 a,.int .i64 m,.int .i64 b,.func (.func 139) #[] #[]].toArray w fun e w=>∃v,e= .returned v/\v= .tuple #[]/\∃t:Int->Int,PermOn a b s t/\Srt (Tie lt) a b t/\Sat w0 w [.own vd 2 111 n (Zc (fun z9=>pv (t z9)) (fun z9=>cnt (t z9))),.sem F]:=by
  induction N with
  |zero=>intros;omega
  | succ N ih=>
    intro s a m b w0 w hS hcmp hd a0 am mb bn h1 h2 hp hN
    refine zenF Tryz.func180 Tryz.ntmps180 ?_
    refine zx11 ?_
    refine zs2 ?_
    refine zlv (xsub (r:=m-a)) ?_
    refine zlv Yi ?_
    refine zlt ?_
    refine zcif ?_ ?_<;>intro hc
    ·
     refine zsr ?_
     refine zs2 ?_
     refine zlz ?_
     refine zs2 ?_
     refine zlt<|zsq<|zbk<|zlp (fun mm M w=>∃(i:Int) (j:Int),mm=((j-i).toNat)/\(m<=i)/\(i<=j)/\(j<=b)/\(i=a+1\/lt (s (i-1)) (s a))/\(j=b\/¬lt (s j) (s a))/\M= [(0,vd),(1,.int .i64 a),(2,.int .i64 m),(3,.int .i64 b),(4,.func (.func 139) #[] #[]),(10,.int .i64 i),(11,.int .i64 j)]/\Sat w0 w [.own vd 2 111 n (Zc (fun z9=>pv (s z9)) (fun z9=>cnt (s z9))),.sem F]) ⟨m,b,rfl,(by omega),(by omega),(by omega),?_,?_,rfl,hS⟩ ?_
     ·
      exact .inl (by omega)
     ·
      exact .inl rfl
     clear hS w
     rintro mm M w ⟨i,j,rfl,i0,ij,j1,hi,hj,rfl,hS⟩
     refine zx11 ?_
     refine zs3 ?_
     refine zlt ?_
     refine zcif ?_ ?_<;>intro hc
     ·
      refine zsk<|ztn<|zbk<|zsr ?_
      refine zs2 ?_
      refine zlv (xadd (r:=i+j)) ?_
      refine zlv (xcv Uo Xm) ?_
      refine zlv (Vh (r:=((i+j)/2))) ?_
      refine zlv (xcv Xz Tw) ?_
      refine zlv xas ?_
      refine zx7 ?_
      refine zdst [0,1] [0,1] 1000 mx_ hS ?_;clear hS;intro w hS
      refine zDrv 0 xmv ?_
      refine zDrv 1 xmv ?_
      refine zDrv 2 xmv ?_
      refine zDrv 3 (xix (kk:=2*((i+j)/2)) Yh hsl) ?_
      refine zdla 4 (fun w hS=>(xlw (cs:= [(pv (s ((i+j)/2))),.int .i64 (cnt (s ((i+j)/2)))]) Zw (hS.rowN 0 rfl) (Zr (k:=2*((i+j)/2)) (i:=((i+j)/2)) (fun z9=>pv (s z9)) (fun z9=>cnt (s z9)) (by omega)))) ?_
      refine zDrv 5 xmv ?_
      refine zDrv 6 xmv ?_
      refine zDrv 7 (xix (kk:=2*a) Yh hsl) ?_
      refine zdla 8 (fun w hS=>(xlw (cs:= [(pv (s a)),.int .i64 (cnt (s a))]) Zw (hS.rowN 0 rfl) (Zr (k:=2*a) (i:=a) (fun z9=>pv (s z9)) (fun z9=>cnt (s z9)) (by omega)))) ?_
      refine zdc 9 (xc0 TK) (hcmp w (s ((i+j)/2)) (s a) (hd ((i+j)/2) (by omega) (by omega)).1 (hd ((i+j)/2) (by omega) (by omega)).2 (hd a (by omega) (by omega)).1 (hd a (by omega) (by omega)).2 hS.below (hS.holds _ (List.mem_of_getElem? (i:=1) rfl))) ?_;rintro _ w ⟨c1,rfl,hc1,hS'⟩
      replace hS:=hS.cmp hS';clear hS'
      refine⟨⟨fun _=>hS,hS⟩,?_⟩
      refine zDrv 10 xlss ?_
      refine zdd<|ztn ?_
      refine zcif ?_ ?_<;>intro hc
      ·
       refine zrg ?_
       refine zlv xmv ?_
       refine zlv (xadd (r:=((i+j)/2)+1)) ?_
       refine zlv xas ?_
       refine zln<|zbn<|zlq ⟨((i+j)/2)+1,j,rfl,(by omega),(by omega),(by omega),?_,?_,rfl,hS⟩
       ·
        first|exact hi|(right;rw [show(i+j)/2+1-1=(i+j)/2 by omega];exact hc1.1 ‹c1<0›)
       ·
        first|exact hj|exact .inr fun h=>absurd (hc1.2 h) ‹¬c1<0›
      refine zrg ?_
      refine zs2 ?_
      refine zln<|zbn<|zlq ⟨i,((i+j)/2),rfl,(by omega),(by omega),(by omega),?_,?_,rfl,hS⟩
      ·
       first|exact hi|(right;rw [show(i+j)/2+1-1=(i+j)/2 by omega];exact hc1.1 ‹c1<0›)
      ·
       first|exact hj|exact .inr fun h=>absurd (hc1.2 h) ‹¬c1<0›
     refine zx18 ?_
     refine zs2 ?_
     refine zx6<|zlp (fun mm M w=>∃(t:Int->Int) (k:Int),mm=((i-1-k).toNat)/\(a<=k)/\(k<=i-1)/\(t=rot s a (a+1) (k+1))/\M= [(0,vd),(1,.int .i64 a),(2,.int .i64 m),(3,.int .i64 b),(4,.func (.func 139) #[] #[]),(10,.int .i64 i),(13,.int .i64 k)]/\Sat w0 w [.own vd 2 111 n (Zc (fun z9=>pv (t z9)) (fun z9=>cnt (t z9))),.sem F]) ⟨s,a,rfl,(by omega),(by omega),?_,rfl,hS⟩ ?_
     ·
      exact(Ra s a).symm
     clear hS w
     rintro mm M w ⟨t,k,rfl,k0,k1,ht,rfl,hS⟩
     refine zx11 ?_
     refine zs2 ?_
     refine zlv (xsub (r:=i-1)) ?_
     refine zlv xlss ?_
     refine zlt ?_
     refine zcif ?_ ?_<;>intro hc
     ·
      refine zsk<|ztn<|zsq<|zbk ?_
      refine zdst [0,1] [1] 15 mx_ hS ?_;clear hS;intro w hS
      refine zDrv 0 xmv ?_
      refine zDrv 1 xmv ?_
      refine zDrv 2 xmv ?_
      refine zDrv 3 xmv ?_
      refine zDrv 4 (xadd (r:=k+1)) ?_
      refine zDrv 5 xmv ?_
      refine zDrv 6 xmv ?_
      refine zDrv 7 (xadd (r:=k+1)) ?_
      refine zDrv 8 (xix (kk:=2*k+2) Yh hsl) ?_
      refine zdl 9 (fun w hS=>(xlw (cs:= [(pv (t (k+1))),.int .i64 (cnt (t (k+1)))]) Zw (hS.rowN 0 rfl) (Zr (k:=2*k+2) (i:=k+1) (fun z9=>pv (t z9)) (fun z9=>cnt (t z9)) (by omega)))) ?_
      refine zDrv 10 xmv ?_
      refine zDrv 11 xmv ?_
      refine zDrv 12 (xix (kk:=2*k) Yh hsl) ?_
      refine zdl 13 (fun w hS=>(xlw (cs:= [(pv (t k)),.int .i64 (cnt (t k))]) Zw (hS.rowN 0 rfl) (Zr (k:=2*k) (i:=k) (fun z9=>pv (t z9)) (fun z9=>cnt (t z9)) (by omega)))) ?_
      refine zDrv 14 (xix (kk:=2*k) Yh hsl) ?_
      refine zde 15 (xso2 0 Zw hS (Xd (i:=k) (k:=2*k) _ _ _ _ (by omega)) (hv:=hone _)) ?_;clear hS;rintro w hS
      replace hS:=hS.n2
      refine⟨⟨fun h=>absurd h (by decide),hS.pk [1]⟩,?_⟩
      refine zDrv 16 (xix (kk:=2*k+2) Yh hsl) ?_
      refine zde 17 (xso2 0 Zw hS (Eq.trans (Xd (i:=k+1) (k:=2*k+2) _ _ _ _ (by omega)) (Xx pv cnt t k (k+1))) (hv:=hone _)) ?_;clear hS;rintro w hS
      replace hS:=hS.n2
      refine⟨⟨fun h=>absurd h (by decide),hS.pk [1]⟩,?_⟩
      refine zdd<|zbn<|ztn<|zrg ?_
      refine zlv xmv ?_
      refine zlv (xadd (r:=k+1)) ?_
      refine zlv xas ?_
      refine zln<|zlq ⟨swp t k (k+1),k+1,rfl,(by omega),(by omega),?_,rfl,hS⟩
      ·
       rw [ht];exact Rb (by omega)
     refine zxt<|ztx<|ztx<|zbh<|ztn<|zrt<|ztr<|zf0 ⟨_,rfl,?_⟩
     have hki:k+1=i:=by omega
     rw [hki] at ht
     refine⟨rfl,t,?_,?_,hS⟩
     · rw [ht];exact(Yd (by omega) (by omega)).mono (by omega) (by omega)
     · rw [ht];obtain rfl:m=a+1:=by omega
       exact UN hw h2 (fun j j0 j1=>hp a j (by omega) (by omega) j0 j1) (by omega) (by omega) hi (by rw [show i=j by omega];exact hj)
    refine YR ?_
    refine zs2 ?_
    refine zlv (xsub (r:=b-m)) ?_
    refine zlv Yi ?_
    refine zlt ?_
    refine zcif ?_ ?_<;>intro hc
    ·
     refine zsr ?_
     refine zs2 ?_
     refine zlz ?_
     refine zs2 ?_
     refine zlt<|zsq<|zbk<|zlp (fun mm M w=>∃(i:Int) (j:Int),mm=((j-i).toNat)/\(a<=i)/\(i<=j)/\(j<=m)/\(i=a\/¬lt (s m) (s (i-1)))/\(j=m\/lt (s m) (s j))/\M= [(0,vd),(1,.int .i64 a),(2,.int .i64 m),(3,.int .i64 b),(4,.func (.func 139) #[] #[]),(14,.int .i64 i),(15,.int .i64 j)]/\Sat w0 w [.own vd 2 111 n (Zc (fun z9=>pv (s z9)) (fun z9=>cnt (s z9))),.sem F]) ⟨a,m,rfl,(by omega),(by omega),(by omega),?_,?_,rfl,hS⟩ ?_
     ·
      exact .inl rfl
     ·
      exact .inl rfl
     clear hS w
     rintro mm M w ⟨i,j,rfl,i0,ij,j1,hi,hj,rfl,hS⟩
     refine zx11 ?_
     refine zs3 ?_
     refine zlt ?_
     refine zcif ?_ ?_<;>intro hc
     ·
      refine zsk<|ztn<|zbk<|zsr ?_
      refine zs2 ?_
      refine zlv (xadd (r:=i+j)) ?_
      refine zlv (xcv Uo Xm) ?_
      refine zlv (Vh (r:=((i+j)/2))) ?_
      refine zlv (xcv Xz Tw) ?_
      refine zlv xas ?_
      refine zx7 ?_
      refine zdst [0,1] [0,1] 1000 mx_ hS ?_;clear hS;intro w hS
      refine zDrv 0 xmv ?_
      refine zDrv 1 xmv ?_
      refine zDrv 2 xmv ?_
      refine zDrv 3 (xix (kk:=2*m) Yh hsl) ?_
      refine zdla 4 (fun w hS=>(xlw (cs:= [(pv (s m)),.int .i64 (cnt (s m))]) Zw (hS.rowN 0 rfl) (Zr (k:=2*m) (i:=m) (fun z9=>pv (s z9)) (fun z9=>cnt (s z9)) (by omega)))) ?_
      refine zDrv 5 xmv ?_
      refine zDrv 6 xmv ?_
      refine zDrv 7 (xix (kk:=2*((i+j)/2)) Yh hsl) ?_
      refine zdla 8 (fun w hS=>(xlw (cs:= [(pv (s ((i+j)/2))),.int .i64 (cnt (s ((i+j)/2)))]) Zw (hS.rowN 0 rfl) (Zr (k:=2*((i+j)/2)) (i:=((i+j)/2)) (fun z9=>pv (s z9)) (fun z9=>cnt (s z9)) (by omega)))) ?_
      refine zdc 9 (xc0 TK) (hcmp w (s m) (s ((i+j)/2)) (hd m (by omega) (by omega)).1 (hd m (by omega) (by omega)).2 (hd ((i+j)/2) (by omega) (by omega)).1 (hd ((i+j)/2) (by omega) (by omega)).2 hS.below (hS.holds _ (List.mem_of_getElem? (i:=1) rfl))) ?_;rintro _ w ⟨c1,rfl,hc1,hS'⟩
      replace hS:=hS.cmp hS';clear hS'
      refine⟨⟨fun _=>hS,hS⟩,?_⟩
      refine zDrv 10 xlss ?_
      refine zDrv 11 ZX ?_
      refine zdd<|ztn ?_
      refine zcif ?_ ?_<;>intro hc
      ·
       refine zrg ?_
       refine zlv xmv ?_
       refine zlv (xadd (r:=((i+j)/2)+1)) ?_
       refine zlv xas ?_
       refine zln<|zbn<|zlq ⟨((i+j)/2)+1,j,rfl,(by omega),(by omega),(by omega),?_,?_,rfl,hS⟩
       ·
        first|exact hi|(right;rw [show(i+j)/2+1-1=(i+j)/2 by omega];exact fun h=>absurd (hc1.2 h) ‹¬c1<0›)
       ·
        first|exact hj|exact .inr (hc1.1 (Classical.not_not.1 ‹_›))
      refine zrg ?_
      refine zs2 ?_
      refine zln<|zbn<|zlq ⟨i,((i+j)/2),rfl,(by omega),(by omega),(by omega),?_,?_,rfl,hS⟩
      ·
       first|exact hi|(right;rw [show(i+j)/2+1-1=(i+j)/2 by omega];exact fun h=>absurd (hc1.2 h) ‹¬c1<0›)
      ·
       first|exact hj|exact .inr (hc1.1 (Classical.not_not.1 ‹_›))
     refine zx18 ?_
     refine zs2 ?_
     refine zx6<|zlp (fun mm M w=>∃(t:Int->Int) (k:Int),mm=((k-i).toNat)/\(i<=k)/\(k<=m)/\(t=rot s k m (m+1))/\M= [(0,vd),(1,.int .i64 a),(2,.int .i64 m),(3,.int .i64 b),(4,.func (.func 139) #[] #[]),(14,.int .i64 i),(17,.int .i64 k)]/\Sat w0 w [.own vd 2 111 n (Zc (fun z9=>pv (t z9)) (fun z9=>cnt (t z9))),.sem F]) ⟨s,m,rfl,(by omega),(by omega),?_,rfl,hS⟩ ?_
     ·
      exact(T8 s m).symm
     clear hS w
     rintro mm M w ⟨t,k,rfl,k0,k1,ht,rfl,hS⟩
     refine zx11 ?_
     refine zs3 ?_
     refine zlt ?_
     refine zcif ?_ ?_<;>intro hc
     ·
      refine zsk<|ztn<|zsq<|zbk ?_
      refine zdst [0,1] [1] 15 mx_ hS ?_;clear hS;intro w hS
      refine zDrv 0 xmv ?_
      refine zDrv 1 xmv ?_
      refine zDrv 2 xmv ?_
      refine zDrv 3 xmv ?_
      refine zDrv 4 (xsub (r:=k-1)) ?_
      refine zDrv 5 xmv ?_
      refine zDrv 6 xmv ?_
      refine zDrv 7 (xsub (r:=k-1)) ?_
      refine zDrv 8 (xix (kk:=2*k-2) Yh hsl) ?_
      refine zdl 9 (fun w hS=>(xlw (cs:= [(pv (t (k-1))),.int .i64 (cnt (t (k-1)))]) Zw (hS.rowN 0 rfl) (Zr (k:=2*k-2) (i:=k-1) (fun z9=>pv (t z9)) (fun z9=>cnt (t z9)) (by omega)))) ?_
      refine zDrv 10 xmv ?_
      refine zDrv 11 xmv ?_
      refine zDrv 12 (xix (kk:=2*k) Yh hsl) ?_
      refine zdl 13 (fun w hS=>(xlw (cs:= [(pv (t k)),.int .i64 (cnt (t k))]) Zw (hS.rowN 0 rfl) (Zr (k:=2*k) (i:=k) (fun z9=>pv (t z9)) (fun z9=>cnt (t z9)) (by omega)))) ?_
      refine zDrv 14 (xix (kk:=2*k) Yh hsl) ?_
      refine zde 15 (xso2 0 Zw hS (Xd (i:=k) (k:=2*k) _ _ _ _ (by omega)) (hv:=hone _)) ?_;clear hS;rintro w hS
      replace hS:=hS.n2
      refine⟨⟨fun h=>absurd h (by decide),hS.pk [1]⟩,?_⟩
      refine zDrv 16 (xix (kk:=2*k-2) Yh hsl) ?_
      refine zde 17 (xso2 0 Zw hS (Eq.trans (Xd (i:=k-1) (k:=2*k-2) _ _ _ _ (by omega)) (Xx pv cnt t k (k-1))) (hv:=hone _)) ?_;clear hS;rintro w hS
      replace hS:=hS.n2
      refine⟨⟨fun h=>absurd h (by decide),hS.pk [1]⟩,?_⟩
      refine zdd<|zbn<|ztn<|zrg ?_
      refine zlv xmv ?_
      refine zlv (xsub (r:=k-1)) ?_
      refine zlv xas ?_
      refine zln<|zlq ⟨swp t k (k-1),k-1,rfl,(by omega),(by omega),?_,rfl,hS⟩
      ·
       rw [ht];exact T9 (by omega)
     refine zxt<|ztx<|ztx<|zbh<|ztn<|zrt<|ztr<|zf0 ⟨_,rfl,?_⟩
     have hki:k=i:=by omega
     rw [hki] at ht
     refine⟨rfl,t,?_,?_,hS⟩
     · rw [ht];exact(Yd (by omega) (by omega)).mono (by omega) (by omega)
     · rw [ht];obtain rfl:b=m+1:=by omega
       exact V0 hw h1 (fun i i0 i1=>hp i m i0 i1 (by omega) (by omega)) (by omega) (by omega) hi (by rw [show i=j by omega];exact hj)
    refine ZR ?_
    refine zs2 ?_
    refine zlv (xadd (r:=a+b)) ?_
    refine zlv (xcv Uo Xm) ?_
    refine zlv (Vh (r:=((a+b)/2))) ?_
    refine zlv (xcv Xz Tw) ?_
    refine zlv xas ?_
    refine zlz ?_
    refine zs2 ?_
    refine zlv (xadd (r:=((a+b)/2)+m)) ?_
    refine zlv xas ?_
    refine zlz ?_
    refine zs2 ?_
    refine zx7 ?_
    refine zgcut (fun M w=>∃(mid:Int) (s0:Int) (r0:Int),(mid=((a+b)/2))/\((mid<m/\s0=mid+m-b/\r0=mid)\/(m<=mid/\s0=a/\r0=m))/\M= [(0,vd),(1,.int .i64 a),(2,.int .i64 m),(3,.int .i64 b),(4,.func (.func 139) #[] #[]),(25,.int .i64 m),(26,.int .i64 a),(27,.int .i64 (m-a)),(28,B (m-a=1)),(77,.int .i64 b),(78,.int .i64 m),(79,.int .i64 (b-m)),(80,B (b-m=1)),(129,.int .i64 a),(130,.int .i64 b),(131,.int .i64 (a+b)),(132,.int .u64 (a+b)),(133,.int .u64 ((a+b)/2)),(134,.int .i64 ((a+b)/2)),(18,.int .i64 mid),(135,.int .i64 ((a+b)/2)),(136,.int .i64 m),(137,.int .i64 (((a+b)/2)+m)),(19,.int .i64 (mid+m)),(20,.int .i64 s0),(21,.int .i64 r0)]/\Sat w0 w [.own vd 2 111 n (Zc (fun z9=>pv (s z9)) (fun z9=>cnt (s z9))),.sem F]) ?_ ?_
    ·
     refine zsr ?_
     refine zs3 ?_
     refine zlt ?_
     refine zcif ?_ ?_<;>intro hc
     ·
      refine zsr ?_
      refine zs2 ?_
      refine zlv (xsub (r:=((a+b)/2)+m-b)) ?_
      refine zlv xas ?_
      refine zlt<|zrg ?_
      refine zs2 ?_
      refine zln<|zgj ⟨((a+b)/2),(((a+b)/2)+m-b),((a+b)/2),rfl,(by omega),rfl,hS⟩
     refine zsr ?_
     refine zs2 ?_
     refine zlt<|zrg ?_
     refine zs2 ?_
     refine zln<|zgj ⟨((a+b)/2),a,m,rfl,(by omega),rfl,hS⟩
    clear hS w;rintro M w ⟨mid,s0,r0,hmid,hq,rfl,hS⟩
    refine ztn<|zsr ?_
    refine zlv xmv ?_
    refine zlv (xsub (r:=mid+m-1)) ?_
    refine zlv xas ?_
    refine zlt<|zsq<|zbk<|zlp (fun mm M w=>∃(x:Int) (y:Int),mm=((y-x).toNat)/\(s0<=x)/\(x<=y)/\(y<=r0)/\(x=s0\/¬lt (s (mid+m-x)) (s (x-1)))/\(y=r0\/lt (s (mid+m-y-1)) (s y))/\M= [(0,vd),(1,.int .i64 a),(2,.int .i64 m),(3,.int .i64 b),(4,.func (.func 139) #[] #[]),(18,.int .i64 mid),(19,.int .i64 (mid+m)),(20,.int .i64 x),(21,.int .i64 y),(22,.int .i64 (mid+m-1))]/\Sat w0 w [.own vd 2 111 n (Zc (fun z9=>pv (s z9)) (fun z9=>cnt (s z9))),.sem F]) ⟨s0,r0,rfl,(by omega),(by omega),(by omega),?_,?_,rfl,hS⟩ ?_
    ·
     exact .inl rfl
    ·
     exact .inl rfl
    clear hS w
    rintro mm M w ⟨x,y,rfl,x0,xy,y1,hx,hy,rfl,hS⟩
    refine zx11 ?_
    refine zs3 ?_
    refine zlt ?_
    refine zcif ?_ ?_<;>intro hc
    ·
     refine zsk<|ztn<|zbk<|zsr ?_
     refine zs2 ?_
     refine zlv (xadd (r:=x+y)) ?_
     refine zlv (xcv Uo Xm) ?_
     refine zlv (Vh (r:=((x+y)/2))) ?_
     refine zlv (xcv Xz Tw) ?_
     refine zlv xas ?_
     refine zx7 ?_
     refine zdst [0,1] [0,1] 1000 mx_ hS ?_;clear hS;intro w hS
     refine zDrv 0 xmv ?_
     refine zDrv 1 xmv ?_
     refine zDrv 2 xmv ?_
     refine zDrv 3 xmv ?_
     refine zDrv 4 (xsub (r:=mid+m-((x+y)/2)-1)) ?_
     refine zDrv 5 (xix (kk:=2*mid+2*m-2*((x+y)/2)-2) Yh hsl) ?_
     refine zdla 6 (fun w hS=>(xlw (cs:= [(pv (s (mid+m-((x+y)/2)-1))),.int .i64 (cnt (s (mid+m-((x+y)/2)-1)))]) Zw (hS.rowN 0 rfl) (Zr (k:=2*mid+2*m-2*((x+y)/2)-2) (i:=mid+m-((x+y)/2)-1) (fun z9=>pv (s z9)) (fun z9=>cnt (s z9)) (by omega)))) ?_
     refine zDrv 7 xmv ?_
     refine zDrv 8 xmv ?_
     refine zDrv 9 (xix (kk:=2*((x+y)/2)) Yh hsl) ?_
     refine zdla 10 (fun w hS=>(xlw (cs:= [(pv (s ((x+y)/2))),.int .i64 (cnt (s ((x+y)/2)))]) Zw (hS.rowN 0 rfl) (Zr (k:=2*((x+y)/2)) (i:=((x+y)/2)) (fun z9=>pv (s z9)) (fun z9=>cnt (s z9)) (by omega)))) ?_
     refine zdc 11 (xc0 TK) (hcmp w (s (mid+m-((x+y)/2)-1)) (s ((x+y)/2)) (hd (mid+m-((x+y)/2)-1) (by omega) (by omega)).1 (hd (mid+m-((x+y)/2)-1) (by omega) (by omega)).2 (hd ((x+y)/2) (by omega) (by omega)).1 (hd ((x+y)/2) (by omega) (by omega)).2 hS.below (hS.holds _ (List.mem_of_getElem? (i:=1) rfl))) ?_;rintro _ w ⟨c1,rfl,hc1,hS'⟩
     replace hS:=hS.cmp hS';clear hS'
     refine⟨⟨fun _=>hS,hS⟩,?_⟩
     refine zDrv 12 xlss ?_
     refine zDrv 13 ZX ?_
     refine zdd<|ztn ?_
     refine zcif ?_ ?_<;>intro hc
     ·
      refine zrg ?_
      refine zlv xmv ?_
      refine zlv (xadd (r:=((x+y)/2)+1)) ?_
      refine zlv xas ?_
      refine zln<|zbn<|zlq ⟨((x+y)/2)+1,y,rfl,(by omega),(by omega),(by omega),?_,?_,rfl,hS⟩
      ·
       first|exact hx|(right;rw [show mid+m-((x+y)/2+1)=mid+m-(x+y)/2-1 by omega,show(x+y)/2+1-1=(x+y)/2 by omega];exact fun h=>absurd (hc1.2 h) ‹¬c1<0›)
      ·
       first|exact hy|exact .inr (hc1.1 (Classical.not_not.1 ‹_›))
     refine zrg ?_
     refine zs2 ?_
     refine zln<|zbn<|zlq ⟨x,((x+y)/2),rfl,(by omega),(by omega),(by omega),?_,?_,rfl,hS⟩
     ·
      first|exact hx|(right;rw [show mid+m-((x+y)/2+1)=mid+m-(x+y)/2-1 by omega,show(x+y)/2+1-1=(x+y)/2 by omega];exact fun h=>absurd (hc1.2 h) ‹¬c1<0›)
     ·
      first|exact hy|exact .inr (hc1.1 (Classical.not_not.1 ‹_›))
    refine zx8 ?_
    refine zs2 ?_
    refine zlv (xsub (r:=mid+m-x)) ?_
    refine zlv xas ?_
    refine zx7 ?_
    refine zgcut (fun M w=>∃(t:Int->Int),(t=rot s x m (mid+m-x))/\M= [(0,vd),(1,.int .i64 a),(2,.int .i64 m),(3,.int .i64 b),(4,.func (.func 139) #[] #[]),(18,.int .i64 mid),(19,.int .i64 (mid+m)),(20,.int .i64 x),(21,.int .i64 y),(22,.int .i64 (mid+m-1)),(149,.int .i64 x),(150,.int .i64 y),(151,B (x<y)),(175,.int .i64 (mid+m)),(176,.int .i64 x),(177,.int .i64 (mid+m-x)),(24,.int .i64 (mid+m-x))]/\Sat w0 w [.own vd 2 111 n (Zc (fun z9=>pv (t z9)) (fun z9=>cnt (t z9))),.sem F]) ?_ ?_
    ·
     refine zsr ?_
     refine zs4 ?_
     refine zlb 181 ?_ ?_<;>intro hc
     ·
      refine zs4 ?_
      refine zlt ?_
      refine zcif ?_ ?_<;>intro hc
      ·
       refine zrg ?_
       refine zs5 ?_
       refine zlc (xc0 cl_189) (c_rotU (s:=s) (a:=x) (m:=m) (b:=mid+m-x) w0 w hS hsl hn8 hone (by omega) (by omega) (by omega) (by omega)) ?_;rintro _ w ⟨rfl,hS⟩
       replace hS:=hS.n2
       refine zln<|zgj ⟨(rot s x m (mid+m-x)),rfl,rfl,hS⟩
      refine zsk<|zgj ⟨s,(Wx (by omega) (by omega) (by omega)).symm,rfl,hS⟩
     iterate 3 refine zlo ?_
     refine zlv xpf ?_
     refine zlt<|zcf<|zsk<|zgj ⟨s,(Wx (by omega) (by omega) (by omega)).symm,rfl,hS⟩
    clear hS w;rintro M w ⟨t,ht,rfl,hS⟩
    have hdt:=(Yd (a:=s) (lo:=x) (c:=m) (hi:=mid+m-x) (by omega) (by omega)).dom (n:=n) (N:=nm) (by omega) (.inl (by omega)) hd
    rw [<-ht] at hdt
    have hH:=WF hw h1 h2 hp (s:=x) (mid:=mid) (e:=mid+m-x) (by omega) (by omega) (by omega) (by omega) (by omega) (by rcases hq with hq|hq<;>rcases hx with hx|hx<;>first|exact .inl (by omega)|exact .inr (.inl (by omega))|exact .inr (.inr hx)) (by rcases hq with hq|hq<;>rcases hy with hy|hy<;>first|exact .inl (by omega)|exact .inr (.inl (by omega))|(refine .inr (.inr ?_);rw [show x=y by omega];exact hy))
    rw [<-ht] at hH
    refine ztn<|zsq<| ?_
    refine zgcut (fun M w=>∃(t1:Int->Int),(PermOn a mid t t1)/\(Srt (Tie lt) a mid t1)/\(∀k,0<=k->k<n->0<=t1 k/\t1 k<nm)/\M= [(0,vd),(1,.int .i64 a),(2,.int .i64 m),(3,.int .i64 b),(4,.func (.func 139) #[] #[]),(18,.int .i64 mid),(19,.int .i64 (mid+m)),(20,.int .i64 x),(21,.int .i64 y),(22,.int .i64 (mid+m-1)),(149,.int .i64 x),(150,.int .i64 y),(151,B (x<y)),(175,.int .i64 (mid+m)),(176,.int .i64 x),(177,.int .i64 (mid+m-x)),(24,.int .i64 (mid+m-x))]/\Sat w0 w [.own vd 2 111 n (Zc (fun z9=>pv (t1 z9)) (fun z9=>cnt (t1 z9))),.sem F]) ?_ ?_
    ·
     refine zsr ?_
     refine zs4 ?_
     refine zlb 195 ?_ ?_<;>intro hc
     ·
      refine zs4 ?_
      refine zlt ?_
      refine zcif ?_ ?_<;>intro hc
      ·
       refine zrg ?_
       refine zs5 ?_
       refine zlc (xc0 cl_180) (ih (s:=t) (a:=a) (m:=x) (b:=mid) w0 w hS hcmp hdt (by omega) (by omega) (by omega) (by omega) (hH.l1) (hH.l2) (hH.pl) (by omega)) ?_;rintro _ w ⟨rfl,u1,hpu1,hsu1,hS⟩
       have hdu1:=hpu1.dom (by omega) (.inl (by omega)) hdt
       replace hS:=hS.n2
       refine zln<|zgj ⟨u1,hpu1,hsu1,hdu1,rfl,hS⟩
      refine zsk<|zgj ⟨t,(.refl _ _ _),(hH.left (by first|omega|(rintro⟨h3,h4⟩;omega)) (by omega) (by omega)),hdt,rfl,hS⟩
     iterate 3 refine zlo ?_
     refine zlv xpf ?_
     refine zlt<|zcf<|zsk<|zgj ⟨t,(.refl _ _ _),(hH.left (by first|omega|(rintro⟨h3,h4⟩;omega)) (by omega) (by omega)),hdt,rfl,hS⟩
    clear hS w;rintro M w ⟨t1,hq1,hq2,hdt1,rfl,hS⟩
    have hH2:Halves lt a a mid (mid+m-x) b t1:=Halves.after hH hq1 hq2 (by omega) (by omega)
    refine ztn<|zsr ?_
    refine zs4 ?_
    refine zlb 209 ?_ ?_<;>intro hc
    ·
     refine zs4 ?_
     refine zlt ?_
     refine zcif ?_ ?_<;>intro hc
     ·
      refine zrg ?_
      refine zs5 ?_
      refine zlc (xc0 cl_180) (ih (s:=t1) (a:=mid) (m:=mid+m-x) (b:=b) w0 w hS hcmp hdt1 (by omega) (by omega) (by omega) (by omega) (hH2.r1) (hH2.r2) (hH2.pr) (by omega)) ?_;rintro _ w ⟨rfl,u1,hpu1,hsu1,hS⟩
      have hdu1:=hpu1.dom (by omega) (.inl (by omega)) hdt1
      replace hS:=hS.n2
      refine zln<|Xw ⟨_,rfl,?_⟩
      refine⟨rfl,u1,((((Yd (a:=s) (lo:=x) (c:=m) (hi:=mid+m-x) (by omega) (by omega)).mono (by omega) (by omega):PermOn a b s _)).trans (ht▸hq1.mono (by omega) (by omega))).trans (hpu1.mono (by omega) (by omega)),?_,hS⟩
      exact hH.join hw (by omega) (by omega) hq1 hq2 hpu1 hsu1
     refine zsk<|Xw ⟨_,rfl,?_⟩
     refine⟨rfl,t1,(((Yd (a:=s) (lo:=x) (c:=m) (hi:=mid+m-x) (by omega) (by omega)).mono (by omega) (by omega):PermOn a b s _)).trans (ht▸hq1.mono (by omega) (by omega)),?_,hS⟩
     exact hH.join hw (by omega) (by omega) hq1 hq2 (.refl _ _ _) (hH2.right (by first|omega|(rintro⟨h3,h4⟩;omega)) (by omega) (by omega))
    iterate 3 refine zlo ?_
    refine zlv xpf ?_
    refine zlt<|zcf<|zsk<|Xw ⟨_,rfl,?_⟩
    refine⟨rfl,t1,(((Yd (a:=s) (lo:=x) (c:=m) (hi:=mid+m-x) (by omega) (by omega)).mono (by omega) (by omega):PermOn a b s _)).trans (ht▸hq1.mono (by omega) (by omega)),?_,hS⟩
    exact hH.join hw (by omega) (by omega) hq1 hq2 (.refl _ _ _) (hH2.right (by first|omega|(rintro⟨h3,h4⟩;omega)) (by omega) (by omega))
set_option maxHeartbeats 4000000 in
set_option maxRecDepth 20000 in
theorem ZaZ{vd:Value}{n nm:Int}{s:Int->Int}{pv:Int->Value}{cnt:Int->Int}{lt:Int->Int->Prop}{F:Go.Proofs.Gw.Frame}(w0 w:World)(hS:Sat w0 w [.own vd 2 111 n (Zc (fun z9=>pv (s z9)) (fun z9=>cnt (s z9))),.sem F])(hsl:Slh vd n)(hn8:n<=100000000)(hone:∀x,(pv x).oneCell'=true)(hcmp:∀(w:World) (x y:Int),0<=x->x<nm->0<=y->y<nm->Below w0.heap.size w0 w->F.holds w->Calls Tryz.prog 139 [.agg #[pv x,.int .i64 (cnt x)],.agg #[pv y,.int .i64 (cnt y)]].toArray w fun e w'=>∃v,e= .returned v/\∃c:Int,v= .int .i64 c/\(c<0↔lt x y)/\Sat w w' [])(hd:∀k,0<=k->k<n->0<=s k/\s k<nm)(hw:Swo lt)(hinc:Vs 0 n s):
    Calls Tryz.prog 161 [vd,.int .i64 n,.func (.func 139) #[] #[]].toArray w fun e w=>∃v,e= .returned v/\v= .tuple #[]/\∃t:Int->Int,PermOn 0 n s t/\Srt (Tie lt) 0 n t/\Sat w0 w [.own vd 2 111 n (Zc (fun z9=>pv (t z9)) (fun z9=>cnt (t z9))),.sem F]:=by
  have hn0:=hsl.n0
  refine zenF Tryz.func161 Tryz.ntmps161 ?_
  refine zsr ?_
  refine zlv xas ?_
  refine zlz ?_
  refine zs3 ?_
  refine zlt<|zsq<|zbk<|zlp (fun mm M w=>∃(t:Int->Int) (a:Int) (b:Int),mm=((n-a).toNat)/\(0<=a)/\(a<=n)/\(b=a+20)/\((20:Int)∣a)/\(PermOn 0 a s t)/\(Runs_ lt 20 n 0 a t)/\(∀k,0<=k->k<n->0<=t k/\t k<nm)/\M= [(0,vd),(1,.int .i64 n),(2,.func (.func 139) #[] #[]),(6,.int .i64 20),(7,.int .i64 a),(8,.int .i64 b)]/\Sat w0 w [.own vd 2 111 n (Zc (fun z9=>pv (t z9)) (fun z9=>cnt (t z9))),.sem F]) ⟨s,0,20,rfl,(by omega),(by omega),(by omega),?_,?_,?_,?_,rfl,hS⟩ ?_
  ·
   exact Int.dvd_zero 20
  ·
   exact .refl _ _ _
  ·
   intro c c0 c1;omega
  ·
   exact hd
  clear hS w
  rintro mm M w ⟨t,a,b,rfl,a0,a1,hb,hda,hp,hr,hd1,rfl,hS⟩
  refine zx11 ?_
  refine zs3 ?_
  refine zlt ?_
  refine zcif ?_ ?_<;>intro hc
  ·
   refine zsk<|ztn<|zbk<|zsr ?_
   refine zs4 ?_
   refine zlc (xc0 Zci) (ZcT (s:=t) (a:=a) (b:=b) w0 w hS hsl hn8 hone hcmp hd1 hw (by omega) (by omega) (by omega) (X0 hp hinc (by omega) (by omega) (by omega))) ?_;rintro _ w ⟨rfl,u1,hpu1,hsu1,hS⟩
   have hdu1:=hpu1.dom (by omega) (.inl (by omega)) hd1
   replace hS:=hS.n2
   refine zlz ?_
   refine zs2 ?_
   refine zlt<|zrg ?_
   refine zs2 ?_
   refine zlv (xadd (r:=b+20)) ?_
   refine zlv xas ?_
   refine zln<|zbn<|zlq ⟨u1,b,b+20,rfl,(by omega),(by omega),(by omega),?_,?_,?_,?_,rfl,hS⟩
   ·
    rw [hb];exact Int.dvd_add hda (Int.dvd_refl 20)
   ·
    exact(hp.mono (by omega) (by omega)).trans (hpu1.mono (by omega) (by omega))
   ·
    exact XA (by omega) hinc hr a0 hda hp hpu1 hsu1 (.inl ⟨hb,by omega⟩) (by omega)
   ·
    exact hdu1
  refine zx8 ?_
  refine zs4 ?_
  refine zlc (xc0 Zci) (ZcT (s:=t) (a:=a) (b:=n) w0 w hS hsl hn8 hone hcmp hd1 hw (by omega) (by omega) (by omega) (X0 hp hinc (by omega) (by omega) (by omega))) ?_;rintro _ w ⟨rfl,u1,hpu1,hsu1,hS⟩
  have hdu1:=hpu1.dom (by omega) (.inl (by omega)) hd1
  replace hS:=hS.n2
  refine zx6<|zlp (fun mm M w=>∃(t2:Int->Int) (z:Int),mm=((n-z).toNat)/\(20<=z)/\(z<=2*n+20)/\(PermOn 0 n s t2)/\(Runs_ lt z n 0 n t2)/\(∀k,0<=k->k<n->0<=t2 k/\t2 k<nm)/\M= [(0,vd),(1,.int .i64 n),(2,.func (.func 139) #[] #[]),(6,.int .i64 z)]/\Sat w0 w [.own vd 2 111 n (Zc (fun z9=>pv (t2 z9)) (fun z9=>cnt (t2 z9))),.sem F]) ⟨u1,20,rfl,(by omega),(by omega),?_,?_,?_,rfl,hS⟩ ?_
  ·
   exact(hp.mono (by omega) (by omega)).trans (hpu1.mono (by omega) (by omega))
  ·
   exact XA (by omega) hinc hr a0 hda hp hpu1 hsu1 (.inr ⟨rfl,by omega⟩) (by omega)
  ·
   exact hdu1
  clear hS w
  rintro mm M w ⟨t2,z,rfl,z0,z1,hp2,hr2,hd2,rfl,hS⟩
  refine zx11 ?_
  refine zs3 ?_
  refine zlt ?_
  refine zcif ?_ ?_<;>intro hc
  ·
   refine zsk<|ztn<|zbk<|zsr ?_
   refine zlv xmv ?_
   refine zlv (xmul (r:=2*z)) ?_
   refine zs2 ?_
   refine zlt<|zsq<|zbk<|zlp (fun mm M w=>∃(t3:Int->Int) (a3:Int) (b3:Int),mm=((n-a3).toNat)/\(0<=a3)/\(a3<=n)/\(b3=a3+2*z)/\(2*z∣a3)/\(PermOn 0 n s t3)/\(Runs_ lt (2*z) n 0 a3 t3)/\(Runs_ lt z n a3 n t3)/\(∀k,0<=k->k<n->0<=t3 k/\t3 k<nm)/\M= [(0,vd),(1,.int .i64 n),(2,.func (.func 139) #[] #[]),(6,.int .i64 z),(7,.int .i64 a3),(8,.int .i64 b3)]/\Sat w0 w [.own vd 2 111 n (Zc (fun z9=>pv (t3 z9)) (fun z9=>cnt (t3 z9))),.sem F]) ⟨t2,0,2*z,rfl,(by omega),(by omega),(by omega),?_,?_,?_,?_,?_,rfl,hS⟩ ?_
   ·
    exact Int.dvd_zero _
   ·
    exact hp2
   ·
    intro c c0 c1;omega
   ·
    exact hr2
   ·
    exact hd2
   clear hS w
   rintro mm M w ⟨t3,a3,b3,rfl,a30,a31,hb3,hda3,hp3,hA,hB,hd3,rfl,hS⟩
   refine zx11 ?_
   refine zs3 ?_
   refine zlt ?_
   refine zcif ?_ ?_<;>intro hc
   ·
    refine zsk<|ztn<|zbk<|zsr ?_
    refine zs4 ?_
    refine zlv (xadd (r:=a3+z)) ?_
    refine zs2 ?_
    have hk:=Wu (lt:=lt) (z:=z) (n:=n) (a:=a3) (b:=b3) (t:=t3) (by omega) a30 (Int.dvd_trans (Int.dvd_mul_left 2 z) hda3) hB (by omega) (by omega) (by omega)
    refine zlc (xc0 cl_180) (Zcs (nm:=nm) (lt:=lt) hsl hn8 hone hw _ (s:=t3) (a:=a3) (m:=a3+z) (b:=b3) w0 w hS hcmp hd3 (by omega) (by omega) (by omega) (by omega) hk.1 hk.2.1 hk.2.2 (Nat.lt_succ_self _)) ?_;rintro _ w ⟨rfl,u2,hpu2,hsu2,hS⟩
    have hdu2:=hpu2.dom (by omega) (.inl (by omega)) hd3
    replace hS:=hS.n2
    refine zlz ?_
    refine zs2 ?_
    refine zlt<|zrg ?_
    refine zs2 ?_
    refine zlv (xmul (r:=2*z)) ?_
    refine zlv (xadd (r:=b3+2*z)) ?_
    refine zlv xas ?_
    refine zln<|zbn<|zlq ⟨u2,b3,b3+2*z,rfl,(by omega),(by omega),(by omega),?_,?_,?_,?_,?_,rfl,hS⟩
    ·
     rw [hb3];exact Int.dvd_add hda3 (Int.dvd_refl _)
    ·
     exact hp3.trans (hpu2.mono (by omega) (by omega))
    ·
     exact(Ya (by omega) a30 hda3 hA hB hpu2 hsu2 (.inl ⟨hb3,by omega⟩) (by omega)).1
    ·
     exact(Ya (by omega) a30 hda3 hA hB hpu2 hsu2 (.inl ⟨hb3,by omega⟩) (by omega)).2
    ·
     exact hdu2
   refine zx18 ?_
   refine zs2 ?_
   refine zlv (xadd (r:=a3+z)) ?_
   refine zlv xas ?_
   refine zlz ?_
   refine zs3 ?_
   refine zlt ?_
   refine zcif ?_ ?_<;>intro hc
   ·
    refine zrg ?_
    refine zs5 ?_
    have hk:=Wu (lt:=lt) (z:=z) (n:=n) (a:=a3) (b:=n) (t:=t3) (by omega) a30 (Int.dvd_trans (Int.dvd_mul_left 2 z) hda3) hB (by omega) (by omega) (by omega)
    refine zlc (xc0 cl_180) (Zcs (nm:=nm) (lt:=lt) hsl hn8 hone hw _ (s:=t3) (a:=a3) (m:=a3+z) (b:=n) w0 w hS hcmp hd3 (by omega) (by omega) (by omega) (by omega) hk.1 hk.2.1 hk.2.2 (Nat.lt_succ_self _)) ?_;rintro _ w ⟨rfl,u2,hpu2,hsu2,hS⟩
    have hdu2:=hpu2.dom (by omega) (.inl (by omega)) hd3
    replace hS:=hS.n2
    refine zlt<|zrg ?_
    refine zlv xmv ?_
    refine zlv (xmul (r:=2*z)) ?_
    refine zlv xas ?_
    refine zln<|zbn<|zlq ⟨u2,2*z,rfl,(by omega),(by omega),?_,?_,?_,rfl,hS⟩
    ·
     first|exact hp3.trans (hpu2.mono (by omega) (by omega))|exact hp3
    ·
     first|exact(Ya (by omega) a30 hda3 hA hB hpu2 hsu2 (.inr ⟨rfl,by omega⟩) (by omega)).1|exact Wv (by omega) a30 hda3 hA hB (by omega) (by omega)
    ·
     first|exact hdu2|exact hd3
   refine zsk<|ztn<|zrg ?_
   refine zlv xmv ?_
   refine zlv (xmul (r:=2*z)) ?_
   refine zlv xas ?_
   refine zln<|zbn<|zlq ⟨t3,2*z,rfl,(by omega),(by omega),?_,?_,?_,rfl,hS⟩
   ·
    first|exact hp3.trans (hpu2.mono (by omega) (by omega))|exact hp3
   ·
    first|exact(Ya (by omega) a30 hda3 hA hB hpu2 hsu2 (.inr ⟨rfl,by omega⟩) (by omega)).1|exact Wv (by omega) a30 hda3 hA hB (by omega) (by omega)
   ·
    first|exact hdu2|exact hd3
  refine zxt<|ztx<|ztx<|zbh<|Xw ⟨_,rfl,?_⟩
  exact⟨rfl,t2,hp2,Rc hr2 (by omega),hS⟩
set_option maxRecDepth 20000 in
theorem Zcu{vd:Value}{n nm:Int}{s:Int->Int}{pv:Int->Value}{cnt:Int->Int}{lt:Int->Int->Prop}{F:Go.Proofs.Gw.Frame}(w0 w:World)(hS:Sat w0 w [.own vd 2 111 n (Zc (fun z9=>pv (s z9)) (fun z9=>cnt (s z9))),.sem F])(hsl:Slh vd n)(hn8:n<=100000000)(hone:∀x,(pv x).oneCell'=true)(hcmp:∀(w:World) (x y:Int),0<=x->x<nm->0<=y->y<nm->Below w0.heap.size w0 w->F.holds w->Calls Tryz.prog 139 [.agg #[pv x,.int .i64 (cnt x)],.agg #[pv y,.int .i64 (cnt y)]].toArray w fun e w'=>∃v,e= .returned v/\∃c:Int,v= .int .i64 c/\(c<0↔lt x y)/\Sat w w' [])(hd:∀k,0<=k->k<n->0<=s k/\s k<nm)(hw:Swo lt)(hinc:Vs 0 n s):
    Calls Tryz.prog 138 [vd,.func (.func 139) #[] #[]].toArray w fun e w=>∃v,e= .returned v/\v= .tuple #[]/\∃t:Int->Int,PermOn 0 n s t/\Srt (Tie lt) 0 n t/\Sat w0 w [.own vd 2 111 n (Zc (fun z9=>pv (t z9)) (fun z9=>cnt (t z9))),.sem F]:=by
  refine zenF Tryz.func138 Tryz.ntmps138 ?_
  refine zrg ?_
  refine zs2 ?_
  refine zlv (xln sl_60 hsl) ?_
  refine zlv xmv ?_
  refine zlc (xc0 ZfG) (ZaZ (s:=s) w0 w hS hsl hn8 hone hcmp hd hw hinc) ?_;rintro _ w ⟨rfl,u1,hpu1,hsu1,hS⟩
  replace hS:=hS.n2
  refine zln<|Xw ⟨_,rfl,?_⟩
  exact⟨rfl,u1,hpu1,hsu1,hS⟩
theorem Zap{x:Int}(w0:World):
    Calls Tryz.prog 181 [.int .i64 x].toArray w0 fun e w=>∃v,e= .returned v/\v= .bool false/\Sat w0 w []:=by
  refine Zj Tryz.func181 Tryz.ntmps181 fun w hS=> ?_
  refine zsr ?_
  refine zlv xas ?_
  refine zlz ?_
  refine zs2 ?_
  refine zlv (xkf Yf) ?_
  refine zlv xas ?_
  refine zx1<|zf1 ⟨_,rfl,?_⟩
  exact⟨rfl,hS⟩
def KH(x y c:Int):Prop:=(c= -1/\x<y)\/(c=0/\x=y)\/(c=1/\y<x)
theorem ZgF{x y:Int}(w0:World):
    Calls Tryz.prog 162 [.int .i64 x,.int .i64 y].toArray w0 fun e w=>∃v,e= .returned v/\∃c:Int,v= .int .i64 c/\KH x y c/\Sat w0 w []:=by
  refine Zj Tryz.func162 Tryz.ntmps162 fun w hS=> ?_
  refine zsr ?_
  refine zlv xas ?_
  refine zlz ?_
  refine zlv xmv ?_
  refine zlc (xc0 Zch) (Zap (x:=x) w) ?_;rintro _ w ⟨rfl,hS'⟩
  replace hS:=hS.cmp hS';clear hS'
  refine zlv xas ?_
  refine zlz ?_
  refine zlv xmv ?_
  refine zlc (xc0 Zch) (Zap (x:=y) w) ?_;rintro _ w ⟨rfl,hS'⟩
  replace hS:=hS.cmp hS';clear hS'
  refine zlv xas ?_
  refine zx5 ?_
  refine zlv xmv ?_
  refine zlt<|zcf<|zsk<|ztn<|zsq<|zsr ?_
  refine zlv xmv ?_
  refine zlt<|zcf<|zsk<|ztn<|zsq<|zsr ?_
  refine zs3 ?_
  refine zlt ?_
  refine zcif ?_ ?_<;>intro hc
  ·
   refine zsr ?_
   refine zlv xas ?_
   refine zx14<|zf1 ⟨_,rfl,?_⟩
   exact⟨(-1),rfl,by unfold KH;omega,hS⟩
  refine YR ?_
  refine zs3 ?_
  refine zlt ?_
  refine zcif ?_ ?_<;>intro hc
  ·
   refine zsr ?_
   refine zlv xas ?_
   refine zx14<|zf1 ⟨_,rfl,?_⟩
   exact⟨1,rfl,by unfold KH;omega,hS⟩
  refine ZR ?_
  refine zlv xas ?_
  refine zx1<|zf1 ⟨_,rfl,?_⟩
  exact⟨0,rfl,by unfold KH;omega,hS⟩
set_option maxRecDepth 20000 in
theorem Zgo {vA vB:Value} {n m:Int} {f g:Int->Int} (w0:World) (hA:Row w0 vA 1 n (ints f)) (hB:Row w0 vB 1 m (ints g)):
    Calls Tryz.prog 140 [vA,vB].toArray w0 fun e w=>∃v,e= .returned v/\∃c:Int,v= .int .i64 c/\(c<0↔ahd (lst m g) (lst n f))/\Sat w0 w []:=by
  have hn:=hA.slh.n0;have hn1:=hA.slh.n1;have hm:=hB.slh.n0;have hm1:=hB.slh.n1
  refine Zj Tryz.func140 Tryz.ntmps140 fun w hS=> ?_
  refine zsr ?_
  refine zlv xas ?_
  refine zx5 ?_
  refine zlv xmv ?_
  refine zlv (xln sl_22 hA.slh) ?_
  refine zlv xmv ?_
  refine zx6<|zlp (fun mm M w=>∃(i:Int),mm=((n-i).toNat)/\(0<=i)/\(i<=n)/\(i<=m)/\(∀k,0<=k->k<i->f k=g k)/\M= [(0,vA),(1,vB),(9,vA),(10,.int .i64 n),(11,.int .i64 i)]/\Sat w0 w []) ⟨0,rfl,(by omega),(by omega),(by omega),?_,rfl,hS⟩ ?_
  ·
   intro k h0 h1;omega
  clear hS w
  rintro mm M w ⟨i,rfl,h0,h1,h2,hall,rfl,hS⟩
  refine zsr ?_
  refine zlv xlss ?_
  refine zx7 ?_
  refine zcif ?_ ?_<;>intro hc
  ·
   refine zx3 ?_
   refine zlv xmv ?_
   refine zlv (xix (kk:=i) sl_22 hA.slh) ?_
   refine zlv (xlr (u:= .int .i64 (f i)) pl_3 (hA.below hS.below)) ?_
   refine zs2 ?_
   refine zx5 ?_
   refine zs2 ?_
   refine zlv (xln sl_22 hB.slh) ?_
   refine zlv YL ?_
   refine zlt ?_
   refine zcif ?_ ?_<;>intro hc
   ·
    refine zsr ?_
    refine zlv xas ?_
    refine zlt<|zrt<|ztr<|zbr<|ztr<|ztr<|zbr<|ztr<|zf1 ⟨_,rfl,?_⟩
    exact⟨1,rfl,⟨fun h=>by omega,fun h=>absurd h (XQ (RZ (by omega) (by omega) (fun k k0 k1=>hall k k0 (by omega))))⟩,hS⟩
   refine ZR ?_
   refine zs2 ?_
   refine zlv (xix (kk:=i) sl_22 hB.slh) ?_
   refine zlv (xlr (u:= .int .i64 (g i)) pl_3 (hB.below hS.below)) ?_
   refine zlv xas ?_
   refine zlz ?_
   refine zs2 ?_
   refine zlc (xc0 ZfF) (ZgF (x:=(f i)) (y:=(g i)) w) ?_;rintro _ w ⟨c1,rfl,hc1,hS'⟩
   replace hS:=hS.cmp hS';clear hS'
   refine zlv xas ?_
   refine zlz ?_
   refine zs2 ?_
   refine zlt ?_
   refine zcif ?_ ?_<;>intro hc
   ·
    refine zsr ?_
    refine zs2 ?_
    refine zx2<|zf1 ⟨_,rfl,?_⟩
    exact⟨c1,rfl,⟨fun h=>Zc5 (j:=i) (by omega) (by omega) (by omega) (fun k k0 k1=>(hall k k0 k1).symm) (by unfold KH at hc1;omega),fun h=>by
        unfold KH at hc1
        by_cases h9:c1<0
        · exact h9
        · exact absurd h (XQ (Zc5 (j:=i) (by omega) (by omega) (by omega) (fun k k0 k1=>hall k k0 k1) (by omega)))⟩,hS⟩
   refine zx4 ?_
   refine zlv (xadd (r:=i+1)) ?_
   refine zlv xmv ?_
   refine zln<|zlq ⟨i+1,rfl,(by omega),(by omega),(by omega),?_,rfl,hS⟩
   ·
    intro k h0' h1';rcases Int.lt_or_eq_of_le (show k<=i by omega) with hk|hk;exact hall k h0' hk;rw [hk];(unfold KH at hc1;omega)
  refine zx18 ?_
  refine zlv xmv ?_
  refine zlv (xln sl_22 hA.slh) ?_
  refine zlv xmv ?_
  refine zlv (xln sl_22 hB.slh) ?_
  refine zlv xlss ?_
  refine zlt ?_
  refine zcif ?_ ?_<;>intro hc
  ·
   refine zsr ?_
   refine zlv xas ?_
   refine zx14<|zf1 ⟨_,rfl,?_⟩
   exact⟨(-1),rfl,⟨fun _=>RZ (by omega) (by omega) (fun k k0 k1=>(hall k k0 (by omega)).symm),fun _=>by omega⟩,hS⟩
  refine ZR ?_
  refine zlv xas ?_
  refine zx1<|zf1 ⟨_,rfl,?_⟩
  exact⟨0,rfl,⟨fun h=>by omega,fun h=>absurd h (by rw [show n=m by omega];exact Zc4 (fun k k0 k1=>(hall k k0 (by omega)).symm))⟩,hS⟩
set_option maxRecDepth 20000 in
theorem Zgt{vA vB:Value}{n m:Int}{f g:Int->Int}{a b:Int}(w0:World)(hA:Row w0 vA 1 n (ints f))(hB:Row w0 vB 1 m (ints g)):
    Calls Tryz.prog 139 [.agg #[vA,.int .i64 a],.agg #[vB,.int .i64 b]].toArray w0 fun e w=>∃v,e= .returned v/\∃c:Int,v= .int .i64 c/\(c<0↔ahd (lst n f) (lst m g))/\Sat w0 w []:=by
  refine Zj Tryz.func139 Tryz.ntmps139 fun w hS=> ?_
  refine zsr ?_
  refine zla (xbx (cs:= [_,_]) hS) ?_;rintro _ w ⟨g1,rfl,hS⟩
  replace hS:=hS.n1
  refine zla (xbx (cs:= [_,_]) hS) ?_;rintro _ w ⟨g2,rfl,hS⟩
  replace hS:=hS.n2
  refine zlv xas ?_
  refine zlz ?_
  refine zlv (xfb 0 fd_111_0) ?_
  refine zlv (xlb 1 pl_22 hS) ?_
  refine zlv (xfb 0 fd_111_0) ?_
  refine zlv (xlb 0 pl_22 hS) ?_
  refine zlc (xc0 ZfT) (Zgo (n:=m) (f:=g) (m:=n) (g:=f) w (hB.below hS.below) (hA.below hS.below)) ?_;rintro _ w ⟨c1,rfl,hc1,hS'⟩
  replace hS:=hS.cmp hS';clear hS'
  refine zlv xas ?_
  refine zx1<|zf1 ⟨_,rfl,?_⟩
  exact⟨_,rfl,hc1,hS.nl⟩
set_option maxRecDepth 20000 in
theorem ZhS{vA vB:Value}{n m:Int}{f g:Int->Int}(w0:World)(hA:Row w0 vA 1 n (ints f))(hB:Row w0 vB 1 m (ints g)):
    Calls Tryz.prog 135 [vA,vB].toArray w0 fun e w=>∃v,e= .returned v/\v=B (lst n f=lst m g)/\Sat w0 w []:=by
  have hn:=hA.slh.n0;have hn1:=hA.slh.n1;have hm:=hB.slh.n0;have hm1:=hB.slh.n1
  refine Zj Tryz.func135 Tryz.ntmps135 fun w hS=> ?_
  refine zsr ?_
  refine zlv xas ?_
  refine zx5 ?_
  refine zlv xmv ?_
  refine zlv (xln sl_22 hA.slh) ?_
  refine zlv xmv ?_
  refine zlv (xln sl_22 hB.slh) ?_
  refine zlv Yf ?_
  refine zlt ?_
  refine zcif ?_ ?_<;>intro hc
  ·
   refine zsr ?_
   refine zlv xas ?_
   refine zx14<|zf1 ⟨_,rfl,?_⟩
   exact⟨Zf (by intro hh;have h9:=(Wg hn hm).1 hh;first|omega|(have:=h9.2 i h0 (by omega);omega)),hS⟩
  refine YR ?_
  refine zlv xmv ?_
  refine zlv (xln sl_22 hA.slh) ?_
  refine zlv xmv ?_
  refine zx6<|zlp (fun mm M w=>∃(i:Int),mm=((n-i).toNat)/\(0<=i)/\(i<=n)/\(∀k,0<=k->k<i->f k=g k)/\M= [(0,vA),(1,vB),(12,.int .i64 n),(13,.int .i64 i)]/\Sat w0 w []) ⟨0,rfl,(by omega),(by omega),?_,rfl,hS⟩ ?_
  ·
   intro k h0 h1;omega
  clear hS w
  rintro mm M w ⟨i,rfl,h0,h1,hall,rfl,hS⟩
  refine zsr ?_
  refine zlv xlss ?_
  refine zx7 ?_
  refine zcif ?_ ?_<;>intro hc
  ·
   refine zx3 ?_
   refine zs2 ?_
   refine zx7 ?_
   refine zdst [] [] 1000 mx_ hS ?_;clear hS;intro w hS
   refine zDrv 0 xmv ?_
   refine zDrv 1 xmv ?_
   refine zDrv 2 (xix (kk:=i) sl_22 hA.slh) ?_
   refine zdla 3 (fun w hS=>(xlr (u:= .int .i64 (f i)) pl_3 (hA.below hS.below))) ?_
   refine zDrv 4 xmv ?_
   refine zDrv 5 xmv ?_
   refine zDrv 6 (xix (kk:=i) sl_22 hB.slh) ?_
   refine zdla 7 (fun w hS=>(xlr (u:= .int .i64 (g i)) pl_3 (hB.below hS.below))) ?_
   refine zDrv 8 Yf ?_
   refine zdd<|ztn ?_
   refine zcif ?_ ?_<;>intro hc
   ·
    refine zsr ?_
    refine zlv xas ?_
    refine zx2<|zf1 ⟨_,rfl,?_⟩
    exact⟨Zf (by intro hh;have h9:=(Wg hn hm).1 hh;first|omega|(have:=h9.2 i h0 (by omega);omega)),hS⟩
   refine zx4 ?_
   refine zlv (xadd (r:=i+1)) ?_
   refine zlv xmv ?_
   refine zln<|zlq ⟨i+1,rfl,(by omega),(by omega),?_,rfl,hS⟩
   ·
    intro k h0' h1';rcases Int.lt_or_eq_of_le (show k<=i by omega) with hk|hk;exact hall k h0' hk;rw [hk];omega
  refine zx8 ?_
  refine zlv xas ?_
  refine zx1<|zf1 ⟨_,rfl,?_⟩
  exact⟨ZU (by exact(Wg hn hm).2 ⟨by omega,fun k k0 k1=>hall k k0 (by omega)⟩),hS⟩
set_option maxRecDepth 20000 in
theorem ZhM{vB:Value}{m b:Int}{g:Int->Int}{vA:Value}{n a:Int}{f:Int->Int}{gu:Nat}(w0:World)(hG:(Ent.blk gu [vA,.int .i64 a]).holds w0)(hA:Row w0 vA 1 n (ints f))(hB:Row w0 vB 1 m (ints g)):
    Calls Tryz.prog 134 [.agg #[vB,.int .i64 b],.pointer (some ⟨gu,0,none⟩)].toArray w0 fun e w=>∃v,e= .returned v/\v=B (lst n f=lst m g)/\Sat w0 w []:=by
  refine Zj Tryz.func134 Tryz.ntmps134 fun w hS=> ?_
  refine zsr ?_
  refine zla (xbx (cs:= [_,_]) hS) ?_;rintro _ w ⟨g1,rfl,hS⟩
  replace hS:=hS.n1
  refine zlv xas ?_
  refine zlz ?_
  refine zlv (xfb 0 fd_111_0) ?_
  refine zlv (xlf pl_22 (Ent.holds.cell hG (o:=0) rfl) hS) ?_
  refine zlv (xfb 0 fd_111_0) ?_
  refine zlv (xlb 0 pl_22 hS) ?_
  refine zlc (xc0 ZfX) (ZhS (n:=n) (f:=f) (m:=m) (g:=g) w (hA.below hS.below) (hB.below hS.below)) ?_;rintro _ w ⟨rfl,hS'⟩
  replace hS:=hS.cmp hS';clear hS'
  refine zlv xas ?_
  refine zx1<|zf1 ⟨_,rfl,?_⟩
  exact⟨rfl,hS.nl⟩
set_option maxRecDepth 20000 in
theorem Zgv{vV:Value}{u:Int}{pv:Int->Value}{ln:Int->Int}{pt:Int->Int->Int}{cnt:Int->Int}{vA:Value}{n a:Int}{f:Int->Int}{gu:Nat}(w0:World)(hV:VAt w0 vV u pv ln pt cnt)(hG:(Ent.blk gu [vA,.int .i64 a]).holds w0)(hA:Row w0 vA 1 n (ints f)):
    Calls Tryz.prog 133 [vV,.func (.func 134) #[] #[.pointer (some ⟨gu,0,none⟩)]].toArray w0 fun e w=>∃v,e= .returned v/\∃r:Int,v= .int .i64 r/\((r= -1/\∀k,0<=k->k<u->¬(lst n f=lst (ln k) (pt k)))\/(0<=r/\r<u/\(lst n f=lst (ln r) (pt r))/\∀k,0<=k->k<r->¬(lst n f=lst (ln k) (pt k))))/\Sat w0 w []:=by
  have hn:=hV.row.slh.n0;have hn1:=hV.row.slh.n1
  refine Zj Tryz.func133 Tryz.ntmps133 fun w hS=> ?_
  refine zsr ?_
  refine zlv xas ?_
  refine zx5 ?_
  refine zlv xmv ?_
  refine zlv (xln sl_60 hV.row.slh) ?_
  refine zlv xmv ?_
  refine zx6<|zlp (fun mm M w=>∃(i:Int),mm=((u-i).toNat)/\(0<=i)/\(i<=u)/\(∀k,0<=k->k<i->¬(lst n f=lst (ln k) (pt k)))/\M= [(0,vV),(1,.func (.func 134) #[] #[.pointer (some ⟨gu,0,none⟩)]),(7,.int .i64 u),(8,.int .i64 i)]/\Sat w0 w []) ⟨0,rfl,(by omega),(by omega),?_,rfl,hS⟩ ?_
  ·
   intro k h0 h1;omega
  clear hS w
  rintro mm M w ⟨i,rfl,h0,h1,hall,rfl,hS⟩
  refine zsr ?_
  refine zlv xlss ?_
  refine zx7 ?_
  refine zcif ?_ ?_<;>intro hc
  ·
   refine zx3 ?_
   refine zs2 ?_
   refine zlz ?_
   refine zs3 ?_
   refine zlv (xix (kk:=2*i) sl_60 hV.row.slh) ?_
   refine zlv (xlw (cs:= [(pv i),.int .i64 (cnt i)]) Zw (hV.row.below hS.below) (Zr (k:=2*i) (i:=i) pv cnt (by omega))) ?_
   refine zlc (xcc (vs:= [_]) ZfY) (ZhM (n:=n) (f:=f) (m:=(ln i)) (g:=(pt i)) w (Sat.oldblk hS hG) (hA.below hS.below) ((hV.p i (by omega) (by omega)).below hS.below)) ?_;rintro _ w ⟨rfl,hS'⟩
   replace hS:=hS.cmp hS';clear hS'
   refine zlt ?_
   refine zcif ?_ ?_<;>intro hc
   ·
    refine zsr ?_
    refine zs2 ?_
    refine zx2<|zf1 ⟨_,rfl,?_⟩
    exact⟨i,rfl,.inr ⟨by omega,by omega,‹lst n f=lst (ln i) (pt i)›,hall⟩,hS⟩
   refine zx4 ?_
   refine zlv (xadd (r:=i+1)) ?_
   refine zlv xmv ?_
   refine zln<|zlq ⟨i+1,rfl,(by omega),(by omega),?_,rfl,hS⟩
   ·
    intro k h0' h1';rcases Int.lt_or_eq_of_le (show k<=i by omega) with hk|hk;exact hall k h0' hk;rw [hk];assumption
  refine zx8 ?_
  refine zlv xas ?_
  refine zx1<|zf1 ⟨_,rfl,?_⟩
  exact⟨-1,rfl,.inl ⟨rfl,fun k h0 h1=>hall k h0 (by omega)⟩,hS⟩
set_option maxRecDepth 20000 in
theorem ZhL{vB:Value}{m b:Int}{g:Int->Int}(w0:World)(hB:Row w0 vB 1 m (ints g)):
    Calls Tryz.prog 137 [.agg #[vB,.int .i64 b]].toArray w0 fun e w=>∃v,e= .returned v/\v=B (b<1)/\Sat w0 w []:=by
  refine Zj Tryz.func137 Tryz.ntmps137 fun w hS=> ?_
  refine zsr ?_
  refine zla (xbx (cs:= [_,_]) hS) ?_;rintro _ w ⟨g1,rfl,hS⟩
  replace hS:=hS.n1
  refine zlv xas ?_
  refine zlz ?_
  refine zlv (xfb 1 fd_111_1) ?_
  refine zlv (xlb 0 pl_3 hS) ?_
  refine zs2 ?_
  refine zx1<|zf1 ⟨_,rfl,?_⟩
  exact⟨rfl,hS.nl⟩
set_option maxRecDepth 20000 in
theorem Zgu{vV:Value}{u:Int}{pv:Int->Value}{ln:Int->Int}{pt:Int->Int->Int}{cnt:Int->Int}(w0:World)(hV:VAt w0 vV u pv ln pt cnt)(hpc:∀k,0<=k->k<u->1<=cnt k):
    Calls Tryz.prog 133 [vV,.func (.func 137) #[] #[]].toArray w0 fun e w=>∃v,e= .returned v/\v= .int .i64 (-1)/\Sat w0 w []:=by
  have hn:=hV.row.slh.n0;have hn1:=hV.row.slh.n1
  refine Zj Tryz.func133 Tryz.ntmps133 fun w hS=> ?_
  refine zsr ?_
  refine zlv xas ?_
  refine zx5 ?_
  refine zlv xmv ?_
  refine zlv (xln sl_60 hV.row.slh) ?_
  refine zlv xmv ?_
  refine zx6<|zlp (fun mm M w=>∃(i:Int),mm=((u-i).toNat)/\(0<=i)/\(i<=u)/\M= [(0,vV),(1,.func (.func 137) #[] #[]),(7,.int .i64 u),(8,.int .i64 i)]/\Sat w0 w []) ⟨0,rfl,(by omega),(by omega),rfl,hS⟩ ?_
  clear hS w
  rintro mm M w ⟨i,rfl,h0,h1,rfl,hS⟩
  refine zsr ?_
  refine zlv xlss ?_
  refine zx7 ?_
  refine zcif ?_ ?_<;>intro hc
  ·
   refine zx3 ?_
   refine zs2 ?_
   refine zlz ?_
   refine zs3 ?_
   refine zlv (xix (kk:=2*i) sl_60 hV.row.slh) ?_
   refine zlv (xlw (cs:= [(pv i),.int .i64 (cnt i)]) Zw (hV.row.below hS.below) (Zr (k:=2*i) (i:=i) pv cnt (by omega))) ?_
   refine zlc (xc0 ZfV) (ZhL (b:=(cnt i)) w ((hV.p i (by omega) (by omega)).below hS.below)) ?_;rintro _ w ⟨rfl,hS'⟩
   replace hS:=hS.cmp hS';clear hS'
   refine zlt ?_
   refine zcif ?_ ?_<;>intro hc
   ·
    refine zsr ?_
    refine zs2 ?_
    refine zx2<|zf1 ⟨_,rfl,?_⟩
    have:=hpc i h0 (by omega)
    omega
   refine zx4 ?_
   refine zlv (xadd (r:=i+1)) ?_
   refine zlv xmv ?_
   refine zln<|zlq ⟨i+1,rfl,(by omega),(by omega),rfl,hS⟩
  refine zx8 ?_
  refine zlv xas ?_
  refine zx1<|zf1 ⟨_,rfl,?_⟩
  exact⟨rfl,hS⟩
set_option maxRecDepth 20000 in
theorem ZgD{vV:Value}{u:Int}{pv:Int->Value}{ln:Int->Int}{pt:Int->Int->Int}{cnt:Int->Int}(w0:World)(hV:VAt w0 vV u pv ln pt cnt)(hpc:∀k,0<=k->k<u->1<=cnt k):
    Calls Tryz.prog 136 [vV,.func (.func 137) #[] #[]].toArray w0 fun e w=>∃v,e= .returned v/\vV=v/\Sat w0 w []:=by
  refine Zj Tryz.func136 Tryz.ntmps136 fun w hS=> ?_
  refine zsr ?_
  refine zlv xas ?_
  refine zlz ?_
  refine zs2 ?_
  refine zlc (xc0 Kx) (Zgu (u:=u) (pv:=pv) (ln:=ln) (pt:=pt) (cnt:=cnt) w (hV.below hS.below) hpc) ?_;rintro _ w ⟨rfl,hS'⟩
  replace hS:=hS.cmp hS';clear hS'
  refine zlv xas ?_
  refine zx5 ?_
  refine zlv xmv ?_
  refine zlv (xkt Yi) ?_
  refine zlt<|zct<|zsr ?_
  refine zs2 ?_
  refine zx14<|zf1 ⟨_,rfl,?_⟩
  exact⟨rfl,hS⟩
theorem Rp{nO i:Int}{lO ln cO cnt:Int->Int}{gO pt:Int->Int->Int}(n0:0<=nO)(i0:0<=i)(hs:plL nO lO gO cO=Wo (plL i ln pt cnt))(hne:∀k,0<=k->k<nO->¬(lst (ln i) (pt i)=lst (lO k) (gO k))):
    plL (nO+1) (gsn lO nO (ln i)) (gsn gO nO (pt i)) (snoc cO nO (cnt i))=Wo (plL (i+1) ln pt cnt):=by
  rw [Xq i0,Uz,<-hs,R1 fun v hv e=>by
    obtain⟨j,hj⟩:=List.mem_iff_getElem?.1 hv
    rw [plL_get] at hj
    split at hj
    · injection hj with hj
      rw [<-hj] at e
      exact hne j (by omega) (by assumption) e.symm
    · cases hj]
  exact VS n0 (fun k k0 k1=>⟨Zo k1,Zk k1,Zo k1⟩) (Zn (by omega)) (Zl (by omega)) (Zn (by omega))
theorem KZ{nO i r:Int}{lO ln cO cnt:Int->Int}{gO pt:Int->Int->Int}(i0:0<=i)(hs:plL nO lO gO cO=Wo (plL i ln pt cnt))(r0:0<=r)(r1:r<nO)(e:lst (ln i) (pt i)=lst (lO r) (gO r))(hne:∀k,0<=k->k<r->¬(lst (ln i) (pt i)=lst (lO k) (gO k))):
    plL nO lO gO (upd cO r (cO r+cnt i))=Wo (plL (i+1) ln pt cnt):=by
  rw [Xq i0,Uz,<-hs,Zat (j:=r.toNat) (v:=(lst (lO r) (gO r),cO r)) (by rw [plL_get,Int.toNat_of_nonneg r0,if_pos r1]) e.symm fun k hk w hw h=>by
    rw [plL_get,if_pos (by omega)] at hw
    injection hw with hw
    rw [<-hw] at h
    exact hne k (by omega) (by omega) h.symm]
  apply List.ext_getElem?
  intro k
  rw [List.getElem?_set,plL_get,plL_get,plL_len]
  unfold upd
  by_cases hk:(k:Int)<nO
  · rw [if_pos hk,if_pos hk]
    by_cases hr:r.toNat=k
    · have hr':(k:Int)=r:=by omega
      rw [if_pos hr',if_pos hr,if_pos (by omega),hr']
    · have hr':¬(k:Int)=r:=by omega
      rw [if_neg hr',if_neg hr]
  · rw [if_neg hk,if_neg hk,if_neg (by omega)]
theorem ZbC{cC:Int->Int}{nC B C x:Int}(h:∀k,0<=k->k<nC->1<=cC k/\cC k<=B)(hB:B<=C)(x1:1<=x)(x2:x<=C):∀k,0<=k->k<nC+1->1<=snoc cC nC x k/\snoc cC nC x k<=C:=fun k k0 k1=>by
  by_cases e:k<nC
  · rw [Zk e];have:=h k k0 e;omega
  · rw [Zl e];omega
theorem Zeq{cC:Int->Int}{nC B C x r:Int}(h:∀k,0<=k->k<nC->1<=cC k/\cC k<=B)(hB:B<=C)(x1:1<=x)(x2:x<=C):∀k,0<=k->k<nC->1<=upd cC r x k/\upd cC r x k<=C:=fun k k0 k1=>by
  unfold upd
  by_cases e:k=r
  · rw [if_pos e];omega
  · rw [if_neg e];have:=h k k0 k1;omega
set_option maxHeartbeats 4000000 in
set_option maxRecDepth 20000 in
theorem KE{vV:Value}{u:Int}{pv:Int->Value}{ln:Int->Int}{pt:Int->Int->Int}{cnt:Int->Int}(w0:World)(hV:VAt w0 vV u pv ln pt cnt)(hn5:u<=10000000)(hlc:∀k,0<=k->k<u->ln k<=100000)(hpc:∀k,0<=k->k<u->1<=cnt k/\cnt k<=1000):
    Calls Tryz.prog 97 [vV].toArray w0 fun e w=>∃v,e= .returned v/\∃r n2 pv2 ln2 pt2 cnt2,v=r/\NormR (plL u ln pt cnt) (plL n2 ln2 pt2 cnt2)/\0<=n2/\n2<=u/\(∀k,0<=k->k<n2->1<=cnt2 k/\cnt2 k<=1000*u)/\Slh r n2/\Sat w0 w [.own r 2 111 n2 (Zc pv2 cnt2),.sem (Frame.rows 3 n2 pv2 ln2 pt2)]:=by
  have hn:=hV.row.slh.n0;have hn1:=hV.row.slh.n1
  refine Zj Tryz.func97 Tryz.ntmps97 fun w hS=> ?_
  refine zsr ?_
  refine zlv xas ?_
  refine zlz ?_
  refine zlv xas ?_
  refine zx5 ?_
  refine zlv xmv ?_
  refine zlv (xln sl_60 hV.row.slh) ?_
  refine zlv xmv ?_
  refine zx6 ?_
  replace hS:=hS.addnil 2 111 (Zc (fun _=>Value.slice none 0 0) (fun _=>0))
  replace hS:=hS.n1
  replace hS:=hS.addrows 3 (fun _=>Value.slice none 0 0) (fun _=>0) (fun _ _=>0)
  replace hS:=hS.n2
  replace hS:=hS.n2
  have hrs0:=fun k (k0:0<=k) (k1:k<0)=>hS.slhIn 1 rfl k0 k1
  refine zlp (fun mm M w=>∃(nC:Int) (wv:Int->Value) (lC:Int->Int) (gC:Int->Int->Int) (cC:Int->Int) (i:Int) (wC:Value),mm=((u-i).toNat)/\(0<=i)/\(i<=u)/\(0<=nC/\nC<=i)/\(plL nC lC gC cC=Wo (plL i ln pt cnt))/\(∀k,0<=k->k<nC->1<=cC k/\cC k<=1000*i)/\(∀x,(wv x).oneCell'=true)/\(Slh wC nC)/\M= [(2,.slice none 0 0),(3,wC),(7,vV),(8,.int .i64 u),(9,.int .i64 i)]/\Sat w0 w [.own wC 2 111 nC (Zc wv cC),.sem (Frame.rows 3 nC wv lC gC)]) ⟨0,(fun _=>Value.slice none 0 0),(fun _=>0),(fun _ _=>0),(fun _=>0),0,(.slice none 0 0),rfl,(by omega),(by omega),(by omega),?_,?_,?_,?_,rfl,hS⟩ ?_
  ·
   rfl
  ·
   intro k k0 k1;omega
  ·
   intro x;rfl
  ·
   exact slh_nil
  clear hS w
  rintro mm M w ⟨nC,wv,lC,gC,cC,i,wC,rfl,h0,h1,hnC,hs,hbc,hone,hwC,rfl,hS⟩
  have hrs1:=fun k (k0:0<=k) (k1:k<nC)=>hS.slhIn 1 rfl k0 k1
  refine zsr ?_
  refine zlv xlss ?_
  refine zx7 ?_
  refine zcif ?_ ?_<;>intro hc
  ·
   refine zx3 ?_
   refine zlv (xix (kk:=2*i) sl_60 hV.row.slh) ?_
   refine zlv (xlw (cs:= [(pv i),.int .i64 (cnt i)]) Zw (hV.row.below hS.below) (Zr (k:=2*i) (i:=i) pv cnt (by omega))) ?_
   have hci:=hpc i h0 (by omega)
   have hli:=hlc i h0 (by omega)
   refine zla (xal (cs:= [_,_]) Yl hS) ?_;rintro _ w ⟨g1,rfl,hS⟩
   replace hS:=hS.n3
   refine zle (xsw 2 Zw hS (hd:=(Za (hV.p i (by omega) (by omega)).slh.one (Za rfl Zd)))) ?_;clear hS;rintro w hS
   replace hS:=hS.n3
   refine zlz ?_
   refine zlv xmv ?_
   refine zlv xmf ?_
   refine zlc (xc0 Kx) (Zgv (u:=nC) (pv:=wv) (ln:=lC) (pt:=gC) (cnt:=cC) (n:=(ln i)) (f:=(pt i)) w (⟨(hS.rowN 0 rfl),fun k k0 k1=>hS.rowIn 1 rfl k0 k1,fun k k0 k1=>hS.roomIn 1 rfl k0 k1⟩:VAt _ wC nC wv lC gC cC) (hS.holds _ (List.mem_of_getElem? (i:=2) rfl)) ((hV.p i (by omega) (by omega)).below hS.below)) ?_;rintro _ w ⟨r1,rfl,hr1,hS'⟩
   replace hS:=hS.cmp hS';clear hS'
   have hbr:0<=r1->1<=cC r1/\cC r1<=1000*i:=fun h=>hbc r1 h (by rcases hr1 with⟨h2,_⟩|⟨_,h2,_⟩<;>omega)
   have hrr:r1= -1\/(0<=r1/\r1<nC):=by rcases hr1 with⟨h2,_⟩|⟨h2,h3,_⟩<;>omega
   refine zlv xas ?_
   refine zlz ?_
   refine zs2 ?_
   refine zlt ?_
   refine zcif ?_ ?_<;>intro hc
   ·
    refine zdst [0,1,2] [1,2] 10 mx_ hS ?_;clear hS;intro w hS
    refine zDrv 0 xmv ?_
    refine zDrv 1 xmv ?_
    refine zDrv 2 (xix (kk:=2*r1) sl_60 hwC) ?_
    refine zDrv 3 (xfc (kk:=2*r1+1) fd_111_1 hwC) ?_
    refine zdl 4 (fun w hS=>(xlr (u:= .int .i64 (cC r1)) pl_3 (hS.rowN 0 rfl) (e:=(Vt wv cC (by omega))))) ?_
    refine zDrv 5 (xfb 1 fd_111_1) ?_
    refine zdla 6 (fun w hS=>(xlb 1 pl_3 hS)) ?_
    refine zDrv 7 (xadd (r:=(cC r1)+(cnt i))) ?_
    refine zDrv 8 (xix (kk:=2*r1) sl_60 hwC) ?_
    refine zDrv 9 (xfc (kk:=2*r1+1) fd_111_1 hwC) ?_
    refine zde 10 (xso 0 pl_3 hS (T0 (k:=2*r1+1) (i:=r1) _ _ (by omega))) ?_;clear hS;rintro w hS
    replace hS:=hS.n3
    refine⟨⟨fun h=>absurd h (by decide),hS.pk [1,2]⟩,?_⟩
    refine zdd<|zbn<|ztn<|zrg ?_
    refine zlv (xadd (r:=i+1)) ?_
    refine zlv xmv ?_
    refine zln<|zlq ⟨nC,wv,lC,gC,(upd cC r1 ((cC r1)+(cnt i))),i+1,wC,rfl,(by omega),(by omega),(by omega),?_,?_,?_,?_,rfl,hS.pk [0,1]⟩
    ·
     first|exact Rp (by omega) h0 hs (hr1.resolve_right (fun h=>by omega)).2|(have hr9:=hr1.resolve_left (fun h=>by omega);exact KZ h0 hs hr9.1 hr9.2.1 hr9.2.2.1 hr9.2.2.2)
    ·
     first|exact ZbC hbc (by omega) (by omega) (by omega)|exact Zeq hbc (by omega) (by omega) (by omega)
    ·
     first|exact hone|exact Zad hone ‹Slh _ _›.one
    ·
     exact hwC
   refine zdst [2] [2] 1000 mx_ hS ?_;clear hS;intro w hS
   refine zDrv 0 xmv ?_
   refine zDrv 1 (xfb 0 fd_111_0) ?_
   refine zdla 2 (fun w hS=>(xlb 0 pl_22 hS)) ?_
   refine zDrv 4 (xfb 1 fd_111_1) ?_
   refine zdla 5 (fun w hS=>(xlb 0 pl_3 hS)) ?_
   refine zdc 3 (xc0 cl_70) (c_clone (n:=(ln i)) (f:=(pt i)) w ((hV.p i (by omega) (by omega)).below hS.below) (by omega)) ?_;rintro vq1 w ⟨_,rfl,hslq1,hS'⟩
   replace hS:Sat w0 w [.own wC 2 111 nC (Zc wv cC),.sem (Frame.rows 3 nC wv lC gC),.blk g1 [(pv i),.int .i64 (cnt i)],.own vq1 1 3 (ln i) (ints (pt i))]:=hS.comp hS';clear hS'
   refine⟨⟨fun _=>hS.pk [2],hS.pk [2]⟩,?_⟩
   refine zDrv 6 (xany (v:= .agg #[vq1,.int .i64 (cnt i)]) (hr:=by obtain⟨_,_,_,_,rfl,_⟩:=hslq1;kernel_rfl)) ?_
   refine zda 7 (xli (n:=1) (len:=1) (pv:= [(0,.agg #[vq1,.int .i64 (cnt i)])]) (cs:= [vq1,.int .i64 (cnt i)]) (c:=Zc (fun _=>vq1) (fun _=>(cnt i))) sl_60 Yl hS (hf:=by obtain⟨_,_,_,_,rfl,_⟩:=hslq1;kernel_rfl)) ?_;rintro v1 w ⟨hS,hv1⟩
   replace hS:=hS.n5
   refine⟨⟨fun _=>hS.pk [2],hS.pk [2]⟩,?_⟩
   refine zda 8 (xap 0 (r:=nC+1) sl_60 Yl hS (hS.rowN 4 rfl) (YJ _ _ _ _ _) (h1:=fun k _ _=>YE (fun _=>hslq1.one) k)) ?_;rintro v2 w ⟨hS,hv2⟩
   replace hS:=hS.n5
   replace hS:=Sat.merge (l1:= [_]) (l2:= [_]) (l3:= [_]) hS (by omega)
   have hrs2:=fun k (k0:0<=k) (k1:k<nC+1)=>hS.slhIn 1 rfl k0 k1
   replace hS:=hS.n4
   refine⟨⟨fun _=>hS.pk [2],hS.pk [2]⟩,?_⟩
   refine zDrv 9 xas ?_
   refine zdd<|zbn<|ztn<|zrg ?_
   refine zlv (xadd (r:=i+1)) ?_
   refine zlv xmv ?_
   refine zln<|zlq ⟨nC+1,gsn wv nC vq1,gsn lC nC (ln i),gsn gC nC (pt i),(snoc cC nC (cnt i)),i+1,v2,rfl,(by omega),(by omega),(by omega),?_,?_,?_,?_,rfl,hS.pk [0,1]⟩
   ·
    first|exact Rp (by omega) h0 hs (hr1.resolve_right (fun h=>by omega)).2|(have hr9:=hr1.resolve_left (fun h=>by omega);exact KZ h0 hs hr9.1 hr9.2.1 hr9.2.2.1 hr9.2.2.2)
   ·
    first|exact ZbC hbc (by omega) (by omega) (by omega)|exact Zeq hbc (by omega) (by omega) (by omega)
   ·
    first|exact hone|exact Zad hone ‹Slh _ _›.one
   ·
    exact hv2
  refine zx8 ?_
  refine zlv xmv ?_
  refine zlc (xc0 ZfW) (ZgD (u:=nC) (pv:=wv) (ln:=lC) (pt:=gC) (cnt:=cC) w (⟨(hS.rowN 0 rfl),fun k k0 k1=>hS.rowIn 1 rfl k0 k1,fun k k0 k1=>hS.roomIn 1 rfl k0 k1⟩:VAt _ wC nC wv lC gC cC) (fun k k0 k1=>(hbc k k0 k1).1)) ?_;rintro _ w ⟨rfl,hS'⟩
  replace hS:=hS.cmp hS';clear hS'
  refine zlv xas ?_
  refine zlz ?_
  refine zlv xmv ?_
  refine zlc (xc0 ZfU) (Zcu (vd:=wC) (n:=nC) (nm:=nC) (s:=fun k=>k) (pv:=wv) (cnt:=cC) (lt:=fun x y=>ahd (lst (lC x) (gC x)) (lst (lC y) (gC y))) (F:=Frame.rows 3 nC wv lC gC) w0 w (hS.pk [0,1]) hwC (by omega) hone (fun w x y x0 x1 y0 y1 _ hF=>Zgt w (hF.1 x x0 x1).row (hF.1 y y0 y1).row) (fun k k0 k1=>⟨k0,k1⟩) (Zdc fun x=>lst (lC x) (gC x)) (fun i j _ h _=>h)) ?_;rintro _ w ⟨rfl,t1,hpt1,hst1,hS⟩
  replace hS:=hS.pmrows 1 hpt1
  replace hS:Sat w0 w [.own wC 2 111 nC (Zc (fun k=>wv (t1 k)) (fun k=>cC (t1 k))),.sem (Frame.rows 3 nC (fun k=>wv (t1 k)) (fun k=>lC (t1 k)) (fun k=>gC (t1 k)))]:=hS
  refine zlz ?_
  refine zs2 ?_
  refine zx1<|zf1 ⟨_,rfl,?_⟩
  obtain rfl:i=u:=by omega
  exact⟨_,_,_,_,_,_,rfl,.of_names hnC.1 hs hpt1 hst1,hnC.1,hnC.2,fun k k0 k1=>(by obtain⟨q,q0,q1,q2⟩:=hpt1.fr k0 k1;rw [show t1 k=q from q2];exact hbc q q0 q1),hwC,hS⟩
end Go.Proofs.YtopmifmfecfaaaaGreat
namespace Go.Proofs.Gw
def incr1(p:List Int)(x:Int):List Int:=p.modify x.toNat (· +1)
def Z5(m room:Int)(sz:Int->Int)(x:Int):Us->Us
  | []=> [(incr1 (lst m fun _=>0) x,room-sz x)]
  |b::r=>if sz x<=b.2 then(incr1 b.1 x,b.2-sz x)::r else b::Z5 m room sz x r
def Yo(m room:Int)(sz:Int->Int)(l:List Int):Us:=l.foldl (fun s x=>Z5 m room sz x s) []
theorem V6(m room:Int)(sz:Int->Int)(l:List Int)(x:Int):Yo m room sz (l++ [x])=Z5 m room sz x (Yo m room sz l):=by simp [Yo]
theorem UT{m room:Int}{sz:Int->Int}{x:Int}:∀{s:Us},(∀b∈s,b.2<sz x)->Z5 m room sz x s=s++ [(incr1 (lst m fun _=>0) x,room-sz x)]
  | [],_=>rfl
  | b::r,h=>by
    have h1:=h b (by simp)
    rw [Z5,if_neg (by omega),UT fun c hc=>h c (by simp [hc])];rfl
theorem RE{m room:Int}{sz:Int->Int}{x:Int}:∀{s:Us} {j:Nat} {b:List Int×Int},s[j]? =some b->sz x<=b.2->(∀k<j,∀c,s[k]? =some c->c.2<sz x)->Z5 m room sz x s=s.set j (incr1 b.1 x,b.2-sz x)
  | [],_,_,h,_,_=>by simp at h
  | c::r,0,b,h,e,_=>by
    simp at h;subst h
    rw [Z5,if_pos e];rfl
  | c::r,j+1,b,h,e,hk=>by
    simp at h
    have h1:=hk 0 (by omega) c (by simp)
    rw [Z5,if_neg (by omega),RE h e fun k hk' d hd=>hk (k+1) (by omega) d (by simpa using hd)];rfl
theorem UP{m x:Int}{f:Int->Int}(x0:0<=x):incr1 (lst m f) x=lst m (fun k=>if k=x then f k+1 else f k):=by
  apply List.ext_getElem?
  intro k
  unfold incr1
  rw [List.getElem?_modify,lst_get,lst_get]
  by_cases hk:(k:Int)<m
  · rw [if_pos hk,if_pos hk]
    by_cases hx:x.toNat=k
    · have hx':(k:Int)=x:=by omega
      simp [hx,hx']
    · have hx':¬(k:Int)=x:=by omega
      simp [hx,hx']
  · rw [if_neg hk,if_neg hk];rfl
theorem Zg6{n m room:Int}{sz:Int->Int}{P P':Int->Int->Int}{L L':Int->Int}{x k:Int}(n0:0<=n)(x0:0<=x)(k0:0<=k)(kn:k<n)(h:sz x<=L k)(hf:∀j,0<=j->j<k->L j<sz x)
    (hP:∀a,0<=a->a<n->∀b,0<=b->b<m->P' a b=if a=k/\b=x then P a b+1 else P a b) (hL:∀a,0<=a->a<n->L' a=if a=k then L a-sz x else L a):plL n (fun _=>m) P' L'=Z5 m room sz x (plL n (fun _=>m) P L):=by
  have hg:(plL n (fun _=>m) P L)[k.toNat]? =some (lst m (P k),L k):=by rw [plL_get,Int.toNat_of_nonneg k0,if_pos kn]
  rw [RE hg h fun j hj c hc=>by
    rw [plL_get,if_pos (by omega)] at hc;injection hc with hc;rw [<-hc];exact hf j (by omega) (by omega)]
  apply List.ext_getElem?
  intro j
  rw [List.getElem?_set,plL_get,plL_get,plL_len]
  by_cases hj:(j:Int)<n
  · rw [if_pos hj,if_pos hj,hL j (by omega) hj]
    by_cases hjk:k.toNat=j
    · rw [if_pos hjk,if_pos (by omega),if_pos (by omega)]
      rw [UP x0,show(j:Int)=k by omega]
      congr 2
      apply ZO;intro b b0 b1
      rw [hP k k0 kn b b0 b1]
      by_cases hb:b=x
      · rw [if_pos ⟨rfl,hb⟩,if_pos hb]
      · rw [if_neg fun h=>hb h.2,if_neg hb]
    · rw [if_neg hjk,if_neg (by omega)]
      congr 2
      apply ZO;intro b b0 b1
      rw [hP j (by omega) hj b b0 b1,if_neg fun h=>hjk (by omega)]
  · rw [if_neg hj,if_neg hj]
    by_cases hjk:k.toNat=j
    · omega
    · rw [if_neg hjk]
theorem ZeV{n m room:Int}{sz:Int->Int}{P P':Int->Int->Int}{L L':Int->Int}{x:Int}(n0:0<=n)(x0:0<=x)(hf:∀j,0<=j->j<n->L j<sz x)
    (hP:∀a,0<=a->a<n->∀b,0<=b->b<m->P' a b=P a b) (hN:∀b,0<=b->b<m->P' n b=if b=x then 1 else 0) (hL:∀a,0<=a->a<n->L' a=L a) (hl:L' n=room-sz x):plL (n+1) (fun _=>m) P' L'=Z5 m room sz x (plL n (fun _=>m) P L):=by
  rw [UT fun b hb=>by
    obtain⟨j,hj⟩:=List.mem_iff_getElem?.1 hb
    rw [plL_get] at hj
    split at hj
    · injection hj with hj;rw [<-hj];exact hf j (by omega) (by assumption)
    · cases hj]
  rw [Xq n0,hl]
  congr 1
  · exact UJ fun k k0 k1=>⟨rfl,hL k k0 k1,fun j j0 j1=>hP k k0 k1 j j0 j1⟩
  · rw [UP x0]
    congr 2
    apply ZO;intro b b0 b1
    rw [hN b b0 b1]
    by_cases hb:b=x
    · rw [if_pos hb,if_pos hb];rfl
    · rw [if_neg hb,if_neg hb]
def pcs(d:Int->Int):Nat->List Int
  |0=> []
  |k+1=>pcs d k++List.replicate (d k).toNat (k:Int)
def pcsTo(d:Int->Int)(i c:Int):List Int:=pcs d i.toNat++List.replicate c.toNat i
theorem Kh(d:Int->Int){i c:Int}(c0:0<=c):pcsTo d i (c+1)=pcsTo d i c++ [i]:=by
  unfold pcsTo;rw [show(c+1).toNat=c.toNat+1 by omega,List.replicate_succ',List.append_assoc]
theorem Ki(d:Int->Int){i c:Int}(i0:0<=i)(hc:c.toNat=(d i).toNat):pcsTo d (i+1) 0=pcsTo d i c:=by
  unfold pcsTo;rw [show(i+1).toNat=i.toNat+1 by omega,pcs,Int.toNat_of_nonneg i0,hc];simp
def psum(f d:Int->Int):Nat->Int
  |0=>0
  |k+1=>psum f d k+f k*d k
theorem Yu(f d:Int->Int){i:Int}(h:0<=i):psum f d (i+1).toNat=psum f d i.toNat+f i*d i:=by
  rw [show(i+1).toNat=i.toNat+1 by omega,psum,Int.toNat_of_nonneg h]
theorem Tf(f:Int->Int)(x:Int):∀n:Nat,((List.replicate n x).map f).sum=f x*n
  |0=>by simp
  |n+1=>by rw [List.replicate_succ,List.map_cons,List.sum_cons,Tf f x n];push_cast;rw [Int.mul_add];omega
theorem KS(f d:Int->Int):∀n:Nat,(∀k:Nat,k<n->0<=d k)->((pcs d n).map f).sum=psum f d n
  |0,_=>by simp [pcs,psum]
  | n+1,h=>by
    have h0:=h n (by omega)
    rw [pcs,List.map_append,List.sum_append,KS f d n fun k hk=>h k (by omega),Tf,psum,Int.toNat_of_nonneg h0]
theorem UL(f d:Int->Int){i c:Int}(i0:0<=i)(c0:0<=c)(h:∀k,0<=k->k<i->0<=d k):((pcsTo d i c).map f).sum=psum f d i.toNat+f i*c:=by
  unfold pcsTo;rw [List.map_append,List.sum_append,KS f d _ fun k hk=>h k (by omega) (by omega),Tf,Int.toNat_of_nonneg c0]
theorem ZaH(d:Int->Int){i c:Int}(i0:0<=i)(c0:0<=c)(h:∀k,0<=k->k<i->0<=d k):((pcsTo d i c).length:Int)=psum (fun _=>1) d i.toNat+c:=by
  have h1:=UL (fun _=>1) d i0 c0 h
  have h2:∀l:List Int,(l.map fun _=>(1:Int)).sum=l.length:=fun l=>by
    induction l with
    |nil=>rfl
    |cons a l ih=>rw [List.map_cons,List.sum_cons,ih,List.length_cons];push_cast;omega
  rw [h2] at h1;omega
theorem Xo{d:Int->Int}{f:Int->Int}:∀{i n:Nat},i<=n->(∀k:Nat,k<n->0<=f k*d k)->psum f d i<=psum f d n:=by
  intro i n hin h
  induction hin with
  |refl=>exact Int.le_refl _
  | step hh ih=>
    have h1:=ih fun k hk=>h k (by omega)
    have h2:=h _ (Nat.lt_succ_self _)
    simp only [psum];omega
def XB(sz:Int->Int)(p:List Int):Int:=((List.range p.length).map fun(k:Nat)=>p.getD k 0*sz k).sum
theorem Xk{α:Type}{f g:α->Int}{l:List α}(h:∀x∈l,f x=g x):(l.map f).sum=(l.map g).sum:=by rw [List.map_congr_left h]
theorem KM{f:Nat->Int}{x:Nat}{c:Int}:∀{n:Nat},x<n->((List.range n).map fun k=>if k=x then f k+c else f k).sum=((List.range n).map f).sum+c
  |0,h=>by omega
  | n +1,h=>by
    rw [List.range_succ,List.map_append,List.map_append,List.sum_append,List.sum_append]
    by_cases hx:x=n
    · subst hx
      rw [Xk (g:=f) fun k hk=>by rw [if_neg];have:=List.mem_range.1 hk;omega]
      simp;omega
    · rw [KM (by omega)]
      simp [Ne.symm hx];omega
theorem XX(sz:Int->Int){p:List Int}{x:Int}(x0:0<=x)(h:x.toNat<p.length):XB sz (incr1 p x)=XB sz p+sz x:=by
  unfold XB incr1
  rw [List.length_modify,<-KM (x:=x.toNat) h]
  apply Xk
  intro k hk
  have hk:=List.mem_range.1 hk
  rw [List.getD_eq_getElem?_getD,List.getD_eq_getElem?_getD,List.getElem?_modify]
  by_cases hx:x.toNat=k
  · have hx':(k:Int)=x:=by omega
    rw [if_pos hx.symm,List.getElem?_eq_getElem hk]
    simp [hx,Int.add_mul,hx']
  · rw [if_neg (Ne.symm hx)];simp [hx]
theorem UE(sz:Int->Int)(m:Int):XB sz (lst m fun _=>0)=0:=by
  unfold XB
  rw [Xk (g:=fun _=>0) fun k hk=>by
    rw [Yn] at hk
    have hk:=List.mem_range.1 hk
    rw [List.getD_eq_getElem?_getD,lst_get,if_pos (by omega)];simp]
  induction (List.range (lst m fun _=>0).length) with
  |nil=>rfl
  |cons a l ih=>rw [List.map_cons,List.sum_cons,ih];rfl
structure FFOk (m room:Int) (sz:Int->Int) (hist:List Int) (s:Us):Prop where
  ok:∀b∈s,b.1.length=m.toNat/\XB sz b.1+b.2=room/\0<=b.2
  pr:s.Pairwise fun a b=>a.2+b.2<room
  mt:(s.map fun b=>room-b.2).sum=(hist.map sz).sum
  ct:∀g:Int->Int,(s.map fun b=>XB g b.1).sum=(hist.map g).sum
  ln:s.length<=hist.length
  nn:∀b∈s,∀v∈b.1,0<=v
theorem FFOk.nil(m room:Int)(sz:Int->Int):FFOk m room sz [] []:=⟨by simp,.nil,rfl,fun _=>rfl,by simp,by simp⟩
theorem Rv{p:List Int}{x:Int}(h:∀v∈p,0<=v):∀v∈incr1 p x,0<=v:=by
  intro v hv
  unfold incr1 at hv
  obtain⟨k,hk⟩:=List.mem_iff_getElem?.1 hv
  rw [List.getElem?_modify] at hk
  cases hp:p[k]? with
  |none=>rw [hp] at hk;cases hk
  | some u=>
    rw [hp] at hk
    have h0:=h u (List.mem_of_getElem? hp)
    by_cases hx:x.toNat=k
    · simp [hx] at hk;omega
    · simp [hx] at hk;omega
theorem X2 {m room:Int} {sz:Int->Int} {x:Int}:∀{s:Us},∀b∈Z5 m room sz x s,b∈s\/(∃c∈s,sz x<=c.2/\b=(incr1 c.1 x,c.2-sz x))\/(b=(incr1 (lst m fun _=>0) x,room-sz x)/\∀c∈s,c.2<sz x)
  | [],b,h=>by simp [Z5] at h;exact .inr (.inr ⟨h,by simp⟩)
  | c :: r, b,h=>by
    rw [Z5] at h
    split at h
    · rename_i hc
      rcases List.mem_cons.1 h with h|h
      · exact .inr (.inl ⟨c,by simp,hc,h⟩)
      · exact .inl (by simp [h])
    · rename_i hc
      rcases List.mem_cons.1 h with h|h
      · exact .inl (by simp [h])
      · rcases X2 b h with h|⟨d,hd,e⟩|⟨e,hd⟩
        · exact .inl (by simp [h])
        · exact .inr (.inl ⟨d,by simp [hd],e⟩)
        · exact .inr (.inr ⟨e,fun d hd'=>by
            rcases List.mem_cons.1 hd' with h|h
            · rw [h];omega
            · exact hd d h⟩)
theorem US{m room:Int}{sz:Int->Int}{x:Int}(F:List Int×Int->Int)(y:Int)(h1:∀c:List Int×Int,sz x<=c.2->F (incr1 c.1 x,c.2-sz x)=F c+y)(h2:F (incr1 (lst m fun _=>0) x,room-sz x)=y):∀{s:Us},((Z5 m room sz x s).map F).sum=(s.map F).sum+y
  | []=>by simp [Z5,h2]
  | c ::r=>by
    rw [Z5]
    split
    · rename_i hc
      simp only [List.map_cons,List.sum_cons,h1 c hc];omega
    · simp only [List.map_cons,List.sum_cons,US F y h1 h2 (s:=r)];omega
theorem RD{m room:Int}{sz:Int->Int}{x:Int}(hx:0<=sz x):∀{s:Us},s.Pairwise (fun a b=>a.2+b.2<room)->(Z5 m room sz x s).Pairwise fun a b=>a.2+b.2<room
  | [],_=>by simp [Z5]
  | c ::r,h=>by
    have h1:=List.pairwise_cons.1 h
    rw [Z5]
    split
    · refine List.pairwise_cons.2 ⟨fun b hb=> ?_,h1.2⟩
      have:=h1.1 b hb
      dsimp only;omega
    · refine List.pairwise_cons.2 ⟨fun b hb=> ?_,RD hx h1.2⟩
      rcases X2 b hb with h|⟨d,hd,_,e⟩|⟨e,hd⟩
      · exact h1.1 b h
      · rw [e];have:=h1.1 d hd;dsimp only;omega
      · rw [e];dsimp only;omega
theorem UU{m room:Int}{sz:Int->Int}{x:Int}:∀{s:Us},(Z5 m room sz x s).length<=s.length+1
  | []=>by simp [Z5]
  | c::r=>by
    rw [Z5]
    split
    · simp
    · simp only [List.length_cons];have:=UU (m:=m) (room:=room) (sz:=sz) (x:=x) (s:=r);omega
theorem ZbU {m room:Int} {sz:Int->Int} {x:Int} {hist:List Int} {s:Us} (h:FFOk m room sz hist s) (x0:0<=x) (x1:x<m) (hx:0<=sz x) (hr:sz x<=room):FFOk m room sz (hist++ [x]) (Z5 m room sz x s):=by
  have hl:x.toNat<(lst m fun _=>(0:Int)).length:=by rw [Yn];omega
  refine⟨fun b hb=> ?_,RD hx h.pr,?_,fun g=> ?_,?_,fun b hb=> ?_⟩
  · rcases X2 b hb with hb|⟨c,hc,hs,e⟩|⟨e,_⟩
    · exact h.ok b hb
    · obtain⟨h1,h2,h3⟩:=h.ok c hc
      rw [e]
      refine⟨by simp [incr1,h1],?_,by dsimp only;omega⟩
      rw [XX sz x0 (by omega)];dsimp only;omega
    · rw [e]
      refine⟨by simp [incr1,Yn],?_,by dsimp only;omega⟩
      rw [XX sz x0 hl,UE];dsimp only;omega
  · rw [US (fun b=>room-b.2) (sz x) (fun c hc=>by dsimp only;omega) (by dsimp only;omega),h.mt];simp
  · have key:∀{s:Us},(∀b∈s,b.1.length=m.toNat)->((Z5 m room sz x s).map fun b=>XB g b.1).sum=(s.map fun b=>XB g b.1).sum+g x:=by
      intro s hs
      induction s with
      |nil=>simp [Z5,XX g x0 hl,UE]
      | cons c r ih=>
        rw [Z5]
        split
        · simp only [List.map_cons,List.sum_cons]
          rw [XX g x0 (by rw [hs c (by simp)];omega)];omega
        · simp only [List.map_cons,List.sum_cons,ih fun b hb=>hs b (by simp [hb])];omega
    rw [key fun b hb=>(h.ok b hb).1,h.ct];simp
  · have:=UU (m:=m) (room:=room) (sz:=sz) (x:=x) (s:=s);have:=h.ln;simp;omega
  · rcases X2 b hb with hb|⟨c,hc,hs,e⟩|⟨e,_⟩
    · exact h.nn b hb
    · rw [e];exact Rv (h.nn c hc)
    · rw [e];exact Rv fun v hv=>by
        unfold lst at hv;simp at hv;omega
theorem ZbT{m room:Int}{sz:Int->Int}:∀{l:List Int},(∀x∈l,0<=x/\x<m/\0<=sz x/\sz x<=room)->FFOk m room sz l (Yo m room sz l):=by
  intro l
  have key:∀(l h:List Int) (s:Us),FFOk m room sz h s->(∀x∈l,0<=x/\x<m/\0<=sz x/\sz x<=room)->FFOk m room sz (h++l) (l.foldl (fun s x=>Z5 m room sz x s) s):=by
    intro l
    induction l with
    |nil=>intro h s hs _;simpa using hs
    | cons x l ih=>
      intro h s hs hl
      obtain⟨h1,h2,h3,h4⟩:=hl x (by simp)
      have:=ih (h++ [x]) _ (ZbU hs h1 h2 h3 h4) fun y hy=>hl y (by simp [hy])
      simpa using this
  intro hl
  have:=key l [] [] (.nil _ _ _) hl
  simpa [Yo] using this
theorem KV{d:Int->Int}:∀{n:Nat},∀x∈pcs d n,0<=x/\x<n
  |0,x,h=>by simp [pcs] at h
  | n+1,x,h=>by
    rw [pcs] at h
    rcases List.mem_append.1 h with h|h
    · have:=KV x h;omega
    · have:=(List.mem_replicate.1 h).2;omega
def Vq(s:Us):Us:=s.map fun b=>(b.1,1)
theorem WU(f:List Int->Int):∀s:Us,wsum f (Vq s)=(s.map fun b=>f b.1).sum
  | []=>rfl
  | b::r=>by
    have:=WU f r
    unfold Vq at this⊢
    simp only [List.map_cons,wsum,List.sum_cons,this];omega
end Go.Proofs.Gw
namespace Go.Proofs.YtopmifmfecfaaaaGreat
open Go Go.RowKit Go.Proofs.Gw
theorem ZfZ:Zb Tryz.prog 132=true:=by kernel_rfl
theorem Zey:Zb Tryz.prog 59=true:=by kernel_rfl
theorem Zex:Zb Tryz.prog 60=true:=by kernel_rfl
theorem Zhe:Zb Tryz.prog 93=true:=by kernel_rfl
theorem Zhd:Zb Tryz.prog 94=true:=by kernel_rfl
theorem Zhc:Zb Tryz.prog 96=true:=by kernel_rfl
theorem Zcd:Zb Tryz.prog 97=true:=by kernel_rfl
theorem Zg9:ZP Tryz.prog 27=some (.slice none 0 0,1,24):=by kernel_rfl
set_option maxRecDepth 20000 in
theorem ZdW{vL vD:Value}{p:Prob}(w0:World)(h:PAt w0 vL vD p)(hok:p.Ok):
    Calls Tryz.prog 93 [.agg #[vL,vD,.int .i64 p.stock,.int .i64 p.kerf]].toArray w0 fun e w=>∃v,e= .returned v/\v= .int .i64 (psum (fun _=>1) p.D p.m.toNat)/\Sat w0 w []:=by
  have hm:=h.L.slh.n0;have hm1:=h.L.slh.n1;have hd:=h.D.slh.n0;have hd1:=h.D.slh.n1;have hs:=h.is;have hk:=h.ik
  have hpd:=hok.d;have hpm2:=hok.m2
  refine Zj Tryz.func93 Tryz.ntmps93 fun w hS=> ?_
  refine zsr ?_
  refine zla (xbx (cs:= [_,_,_,_]) hS) ?_;rintro _ w ⟨g1,rfl,hS⟩
  replace hS:=hS.n1
  refine zlv xas ?_
  refine zlz ?_
  refine zlv xas ?_
  refine zx5 ?_
  refine zlv (xfb 1 fd_35_1) ?_
  refine zlv (xlb 0 pl_22 hS) ?_
  refine zlv (xln sl_22 h.D.slh) ?_
  refine zlv xmv ?_
  refine zx6<|zlp (fun mm M w=>∃(s:Int) (i:Int),mm=((p.d-i).toNat)/\(0<=i)/\(i<=p.d)/\(s=psum (fun _=>1) p.D i.toNat)/\(0<=s/\s<=1000000*i)/\M= [(2,.int .i64 0),(3,.int .i64 s),(7,vD),(8,.int .i64 p.d),(9,.int .i64 i)]/\Sat w0 w [.blk g1 [vL,vD,.int .i64 p.stock,.int .i64 p.kerf]]) ⟨0,0,rfl,(by omega),(by omega),?_,(by omega),rfl,hS⟩ ?_
  ·
   rfl
  clear hS w
  rintro mm M w ⟨s,i,rfl,h0,h1,hs9,hsb,rfl,hS⟩
  refine zsr ?_
  refine zlv xlss ?_
  refine zx7 ?_
  refine zcif ?_ ?_<;>intro hc
  ·
   refine zx3 ?_
   refine zlv (xix (kk:=i) sl_22 h.D.slh) ?_
   refine zlv (xlr (u:= .int .i64 (p.D i)) pl_3 (h.D.below hS.below)) ?_
   have hbv:=h.iD i
   have he:=hok.all i h0 (by omega);unfold Prob.each at he
   refine zlv xas ?_
   refine zlt<|zrg ?_
   refine zs2 ?_
   refine zlv (xadd (r:=s+p.D i)) ?_
   refine zlv xas ?_
   refine zx10 ?_
   refine zlv (xadd (r:=i+1)) ?_
   refine zlv xmv ?_
   refine zln<|zlq ⟨s+p.D i,i+1,rfl,(by omega),(by omega),?_,(by omega),rfl,hS⟩
   ·
    rw [Yu _ _ h0,<-hs9];omega
  refine zx8 ?_
  refine zs2 ?_
  refine zx1<|zf1 ⟨_,rfl,?_⟩
  obtain rfl:p.m=i:=by omega
  rw [<-hs9]
  exact⟨rfl,hS.nl⟩
def ChkR(p:Prob)(e:Int):Prop:=(¬p.Ok/\e=1)\/(p.Ok/\1000<psum (fun _=>1) p.D p.m.toNat/\e=9)\/(p.Ok/\psum (fun _=>1) p.D p.m.toNat<=1000/\e=0)
set_option maxRecDepth 20000 in
theorem Zaq{vL vD:Value}{p:Prob}(w0:World)(h:PAt w0 vL vD p):
    Calls Tryz.prog 59 [.agg #[vL,vD,.int .i64 p.stock,.int .i64 p.kerf]].toArray w0 fun e w=>∃v,e= .returned v/\∃e:Int,v= .int .i64 e/\ChkR p e/\Sat w0 w []:=by
  have hm:=h.L.slh.n0;have hm1:=h.L.slh.n1;have hd:=h.D.slh.n0;have hd1:=h.D.slh.n1;have hs:=h.is;have hk:=h.ik
  refine Zj Tryz.func59 Tryz.ntmps59 fun w hS=> ?_
  refine zsr ?_
  refine zla (xbx (cs:= [_,_,_,_]) hS) ?_;rintro _ w ⟨g1,rfl,hS⟩
  replace hS:=hS.n1
  refine zlv xas ?_
  refine zlt<|zsq<|zbk<|zsr ?_
  refine zlv (xls 0 st_35 hS) ?_
  refine zlc (xc0 Vp) (YP (p:=p) w (h.below hS.below)) ?_;rintro _ w ⟨rfl,hS'⟩
  replace hS:=hS.cmp hS';clear hS'
  refine zs2 ?_
  refine zlt ?_
  refine zcif ?_ ?_<;>intro hc
  ·
   refine zsr ?_
   refine zlv xas ?_
   refine zlt<|zrt<|zbr<|ztr<|zf1 ⟨_,rfl,?_⟩
   exact⟨1,rfl,.inl ⟨‹¬p.Ok›,rfl⟩,hS.nl⟩
  refine zsr ?_
  refine zlv (xls 0 st_35 hS) ?_
  have hok9:p.Ok:=by first|assumption|exact Classical.not_not.1 ‹_›
  refine zlc (xc0 Zhe) (ZdW (p:=p) w (h.below hS.below) hok9) ?_;rintro _ w ⟨rfl,hS'⟩
  replace hS:=hS.cmp hS';clear hS'
  refine zs2 ?_
  refine zlt ?_
  refine zcif ?_ ?_<;>intro hc
  ·
   refine zsr ?_
   refine zlv xas ?_
   refine zlt<|zrt<|zbr<|ztr<|zf1 ⟨_,rfl,?_⟩
   exact⟨9,rfl,.inr (.inl ⟨hok9,by omega,rfl⟩),hS.nl⟩
  refine zsk<|zbn<|ztn<|zsr ?_
  refine zlv xas ?_
  refine zx1<|zf1 ⟨_,rfl,?_⟩
  exact⟨0,rfl,.inr (.inr ⟨hok9,by omega,rfl⟩),hS.nl⟩
theorem ZcK{vL vD:Value}{p:Prob}(w0:World)(h:PAt w0 vL vD p):
    Calls Tryz.prog 94 [.agg #[vL,vD,.int .i64 p.stock,.int .i64 p.kerf]].toArray w0 fun e w=>∃v,e= .returned v/\∃g,v= .func (.func 132) #[] #[.pointer (some ⟨g,0,none⟩)]/\Sat w0 w [.blk g [vL,vD,.int .i64 p.stock,.int .i64 p.kerf]]:=by
  refine Zj Tryz.func94 Tryz.ntmps94 fun w hS=> ?_
  refine zsr ?_
  refine zla (xbx (cs:= [_,_,_,_]) hS) ?_;rintro _ w ⟨g1,rfl,hS⟩
  replace hS:=hS.n1
  refine zlv xas ?_
  refine zlz ?_
  refine zlv xmf ?_
  refine zlv xas ?_
  refine zx1<|zf1 ⟨_,rfl,?_⟩
  exact⟨_,rfl,hS⟩
set_option maxRecDepth 20000 in
theorem Zba{vL vD:Value}{p:Prob}{gp:Nat}{St:Type}(hist:St->List Int)(Inv:St->Prop)(s0:St)(hs0:hist s0= [])(hI0:Inv s0)(w0:World)(h:PAt w0 vL vD p)(hok:p.Ok):ItC (St:=St) (X:=Int) (Tt:=Unit) Tryz.prog w0 132 [.pointer (some ⟨gp,0,none⟩)] [.blk gp [vL,vD,.int .i64 p.stock,.int .i64 p.kerf]] (fun x=> [.int .i64 x]) (fun s x rest=>Inv s/\∃c,0<=x/\x<p.m/\0<=c/\c<p.D x/\hist s=pcsTo p.D x c) (fun s x s1=>hist s1=hist s++ [x]/\Inv s1) (fun _ _ _=>False) (s0) (fun s rest=>Inv s/\hist s=pcsTo p.D p.m 0) (fun _ _=>False):=by
  intro l C D w hS hY
  have hm:=h.L.slh.n0;have hm1:=h.L.slh.n1;have hd:=h.D.slh.n0;have hd1:=h.D.slh.n1;have hs:=h.is;have hk:=h.ik
  have hpd:=hok.d;have hpm2:=hok.m2
  refine ZeQ Tryz.func132 Tryz.ntmps132 ?_
  refine hsq<|hrz ?_
  refine zlv (xfb 1 fd_35_1) ?_
  refine zlv (xlb 1 pl_22 hS) ?_
  refine zlv (xln sl_22 h.D.slh) ?_
  refine zlv xmv ?_
  refine zln<|zh<|htn<|hbk<|hlp (fun mm M w=>∃(s:St) (i:Int),mm=((p.d-i).toNat)/\(0<=i)/\(i<=p.d)/\(Inv s)/\(hist s=pcsTo p.D i 0)/\M= [(0,.func (.yield l) #[] #[]),(6,vD),(7,.int .i64 p.d),(8,.int .i64 i)]/\Sat w0 w [.sem (C s),.blk gp [vL,vD,.int .i64 p.stock,.int .i64 p.kerf]]) ⟨s0,0,rfl,(by omega),(by omega),?_,?_,rfl,hS⟩ ?_
  ·
   exact hI0
  ·
   exact hs0
  clear hS w
  rintro mm M w ⟨s,i,rfl,h0,h1,hI,hh,rfl,hS⟩
  refine hsq<|hrz ?_
  refine zlv xlss ?_
  refine zln<|zh<|htn<|hsq ?_
  refine XN ?_ ?_<;>intro hc
  ·
   refine hsk<|htn<|hsq<|hbk<|hsq<|hrz ?_
   refine zlv xmv ?_
   refine zlv (xix (kk:=i) sl_22 h.D.slh) ?_
   refine zlv (xlr (u:= .int .i64 (p.D i)) pl_3 (h.D.below hS.below)) ?_
   have hbv:=h.iD i
   have he:=hok.all i h0 (by omega);unfold Prob.each at he
   refine zs2 ?_
   refine zln<|zh<|htn<|hsq<|hrz ?_
   refine zs2 ?_
   refine zln<|zh<|htn<|hbk<|hlp (fun mm M w=>∃(s2:St) (c:Int),mm=((p.D i-c).toNat)/\(0<=c)/\(c<=p.D i)/\(Inv s2)/\(hist s2=pcsTo p.D i c)/\M= [(0,.func (.yield l) #[] #[]),(3,.int .i64 i),(6,vD),(7,.int .i64 p.d),(8,.int .i64 i),(13,.int .i64 (p.D i)),(14,.int .i64 c)]/\Sat w0 w [.sem (C s2),.blk gp [vL,vD,.int .i64 p.stock,.int .i64 p.kerf]]) ⟨s,0,rfl,(by omega),(by omega),?_,?_,rfl,hS⟩ ?_
   ·
    exact hI
   ·
    exact hh
   clear hS w
   rintro mm M w ⟨s2,c,rfl,c0,c1,hI2,hh2,rfl,hS⟩
   refine hsq<|hrz ?_
   refine zlv xlss ?_
   refine zln<|zh<|htn<|hsq ?_
   refine XN ?_ ?_<;>intro hc
   ·
    refine hsk<|htn<|hsq<|hbk<|hsq<|hrg ?_
    iterate 2 refine hlv xmv ?_
    refine hly (hY s2 i _ w ⟨hI2,c,h0,by omega,c0,by omega,hh2⟩ (Sat.bundle (l1:= [_,_]) (l2:= []) hS)) ?_;rintro _ w (⟨rfl,sy1,hny1,hS⟩|⟨rfl,ty1,hdy1,hS⟩)
    ·
     replace hS:=Sat.unbundle (l1:= [_,_]) (l3:= []) hS
     replace hS:=hS.n2
     refine hlv xnt ?_
     refine hln<|htn<|hcf<|hsk<|zbn<|htn<|hrz ?_
     refine zlv (xadd (r:=c+1)) ?_
     refine zlv xmv ?_
     refine zln<|zh<|hlq ⟨sy1,c+1,rfl,(by omega),(by omega),?_,?_,rfl,hS⟩
     ·
      exact hny1.2
     ·
      rw [hny1.1,hh2,<-Kh _ c0]
    ·
     replace hS:=Sat.unbundle (l1:= [_,_]) (l3:= []) hS
     replace hS:=hS.n2
     refine hlv xnf ?_
     refine hln<|htn<|hct<|hrt<|zbr<|ztr<|ztr<|zbr<|zbr<|ztr<|ztr<|zbr<|zf0 ⟨_,rfl,?_⟩
     exact hdy1.elim
   refine hxt<|ztx<|ztx<|zbh<|zbn<|htn<|hrz ?_
   refine zlv (xadd (r:=i+1)) ?_
   refine zlv xmv ?_
   refine zln<|zh<|hlq ⟨s2,i+1,rfl,(by omega),(by omega),?_,?_,rfl,hS⟩
   ·
    exact hI2
   ·
    rw [Ki _ h0 (c:=c) (by omega)];exact hh2
  refine hxt<|ztx<|ztx<|zbh<|Xw ⟨_,rfl,?_⟩
  exact .inl ⟨s,_,⟨hI,by rw [hh,show i=p.m by omega]⟩,Sat.bundle (l1:= [_,_]) (l2:= []) hS⟩
theorem VT{d:Int->Int}{m i c:Int}(hd:∀k,0<=k->k<m->0<=d k)(i0:0<=i)(i1:i<=m)(c0:0<=c)(c1:i<m->c<=d i)(c2:i=m->c=0):(∀x∈pcsTo d i c,0<=x/\x<m)/\((pcsTo d i c).length:Int)<=psum (fun _=>1) d m.toNat:=by
  constructor
  · intro x hx
    unfold pcsTo at hx
    rcases List.mem_append.1 hx with h|h
    · have:=KV x h;omega
    · have h1:=List.mem_replicate.1 h
      have h2:=h1.2
      rcases Int.lt_or_eq_of_le i1 with h3|h3
      · omega
      · have:=c2 h3;have:=h1.1;omega
  · rw [ZaH d i0 c0 fun k k0 k1=>hd k k0 (by omega)]
    rcases Int.lt_or_eq_of_le i1 with h3|h3
    · have h4:=c1 h3
      have h5:=Yu (fun _=>1) d i0
      have h6:=Xo (d:=d) (f:=fun _=>1) (i:=(i+1).toNat) (n:=m.toNat) (by omega) fun k hk=>by have:=hd k (by omega) (by omega);omega
      rw [h5] at h6;omega
    · have:=c2 h3;rw [h3];omega
theorem To {sz:Int->Int} {p:List Int} (hp:∀v∈p,0<=v) (hs:∀k:Nat,k<p.length->1<=sz k) {j:Nat} (hj:j<p.length):p.getD j 0<=XB sz p:=by
  have key:∀(l:List Nat) (f:Nat->Int),(∀k∈l,0<=f k)->∀j∈l,f j<=(l.map f).sum:=by
    intro l f
    induction l with
    |nil=>intro _ j h;simp at h
    | cons a l ih=>
      intro h0 j h
      have h1:0<=(l.map f).sum:=by
        clear ih h
        induction l with
        |nil=>simp
        |cons b l ih2=>rw [List.map_cons,List.sum_cons];have:=h0 b (by simp);have:=ih2 (fun k hk=>h0 k (by rcases List.mem_cons.1 hk with h|h<;>simp [h]));omega
      rw [List.map_cons,List.sum_cons]
      rcases List.mem_cons.1 h with e|e
      · rw [e];omega
      · have:=ih (fun k hk=>h0 k (by simp [hk])) j e;have:=h0 a (by simp);omega
  have nn:∀k:Nat,k<p.length->0<=p.getD k 0:=fun k hk=>by
    rw [List.getD_eq_getElem?_getD,List.getElem?_eq_getElem hk]
    exact hp _ (List.getElem_mem hk)
  have h1:=key (List.range p.length) (fun k=>p.getD k 0*sz k) (fun k hk=>by
    have hk:=List.mem_range.1 hk
    exact Int.mul_nonneg (nn k hk) (by have:=hs k hk;omega)) j (List.mem_range.2 hj)
  have h2:=nn j hj
  have h3:=hs j hj
  have h4:=Int.mul_le_mul_of_nonneg_left h3 h2
  exact Int.le_trans (show p.getD j 0<=p.getD j 0*sz j by omega) h1
structure FSt where
  h:List Int
  vB:Value
  n:Int
  vv:Int->Value
  P:Int->Int->Int
  vL:Value
  L:Int->Int
abbrev szP(p:Prob):Int->Int:=fun k=>p.L k+p.kerf
def FInv(p:Prob)(s:FSt):Prop:=plL s.n (fun _=>p.m) s.P s.L=Yo p.m (p.stock+p.kerf) (szP p) s.h/\Slh s.vB s.n/\Slh s.vL s.n
def FSt.zer:FSt:=⟨[],.slice none 0 0,0,fun _=> .slice none 0 0,fun _ _=>0,.slice none 0 0,fun _=>0⟩
theorem FInv.zer(p:Prob):FInv p FSt.zer:=⟨rfl,slh_nil,slh_nil⟩
theorem R9{p:Prob}(hok:p.Ok){x:Int}(x0:0<=x)(x1:x<p.m):1<=szP p x/\szP p x<=p.stock+p.kerf:=by
  have he:=hok.all x x0 x1
  unfold Prob.each at he
  have:=hok.k1
  unfold szP;omega
theorem Zag{p:Prob}(hok:p.Ok){l:List Int}(hm:∀x∈l,0<=x/\x<p.m):FFOk p.m (p.stock+p.kerf) (szP p) l (Yo p.m (p.stock+p.kerf) (szP p) l):=
  ZbT fun x hx=>by
    have h1:=hm x hx
    have h2:=R9 hok h1.1 h1.2
    exact⟨h1.1,h1.2,by omega,h2.2⟩
theorem FInv.rng{p:Prob}{s:FSt}(hok:p.Ok)(h:FInv p s)(hm:∀x∈s.h,0<=x/\x<p.m)(hl:(s.h.length:Int)<=1000):s.n<=1000/\∀k,0<=k->k<s.n->(0<=s.L k/\s.L k<=p.stock+p.kerf)/\∀j,0<=j->j<p.m->0<=s.P k j/\s.P k j<=p.stock+p.kerf:=by
  have hk:=Zag hok hm
  rw [<-h.1] at hk
  have h1:=hk.ln
  rw [plL_len] at h1
  refine⟨by omega,fun k k0 k1=> ?_⟩
  have hb:(lst p.m (s.P k),s.L k)∈plL s.n (fun _=>p.m) s.P s.L:=List.mem_iff_getElem?.2 ⟨k.toNat,by rw [plL_get,Int.toNat_of_nonneg k0,if_pos k1]⟩
  obtain⟨h2,h3,h4⟩:=hk.ok _ hb
  have h5:=hk.nn _ hb
  dsimp only at h2 h3 h4 h5
  have hg:∀j,0<=j->j<p.m->(lst p.m (s.P k)).getD j.toNat 0=s.P k j:=fun j j0 j1=>by rw [List.getD_eq_getElem?_getD,lst_get,Int.toNat_of_nonneg j0,if_pos j1];rfl
  have h8:∀j:Nat,j<(lst p.m (s.P k)).length->1<=szP p j:=fun j hj=>by
    rw [Yn] at hj
    exact(R9 hok (by omega) (by omega)).1
  have h9:0<=XB (szP p) (lst p.m (s.P k)):=by
    have hm1:=hok.m1
    have h10:=To h5 h8 (j:=0) (by rw [Yn];omega)
    have h11:=hg 0 (by omega) (by omega)
    have h12:=h5 (s.P k 0) (by
      have:=lst_get p.m (s.P k) 0
      rw [if_pos (by omega)] at this
      exact List.mem_of_getElem? this)
    rw [show(0:Int).toNat=0 from rfl] at h11
    omega
  refine⟨⟨h4,by omega⟩,fun j j0 j1=> ?_⟩
  have h6:=To h5 h8 (j:=j.toNat) (by rw [Yn];omega)
  rw [hg j j0 j1] at h6
  have h7:=h5 (s.P k j) (by
    have:=lst_get p.m (s.P k) j.toNat
    rw [Int.toNat_of_nonneg j0,if_pos j1] at this
    exact List.mem_of_getElem? this)
  exact⟨h7,by omega⟩
theorem ZbS{n m room r x y:Int}{sz L:Int->Int}{P:Int->Int->Int}(n0:0<=n)(x0:0<=x)(r0:0<=r)(r1:r<n)(h:sz x<=L r)(hf:∀j,0<=j->j<r->¬(sz x<=L j))(hy:y=L r-sz x):
    plL n (fun _=>m) (upd P r (upd (P r) x (P r x+1))) (upd L r y)=Z5 m room sz x (plL n (fun _=>m) P L):=
  Zg6 n0 x0 r0 r1 h (fun j j0 j1=>by have:=hf j j0 j1;omega) (fun a a0 a1 b b0 b1=>by
    unfold upd
    by_cases ha:a=r
    · subst ha
      by_cases hb:b=x
      · subst hb;simp
      · simp [hb]
    · simp [ha]) (fun a a0 a1=>by
    unfold upd
    by_cases ha:a=r
    · subst ha;simp [hy]
    · simp [ha])
theorem Zaf{n m room x y:Int}{sz L:Int->Int}{P:Int->Int->Int}(n0:0<=n)(x0:0<=x)(hf:∀j,0<=j->j<n->¬(sz x<=L j))(hy:y=snoc L n room n-sz x):
    plL (n+1) (fun _=>m) (upd (gsn P n (fun _=>0)) n (upd (gsn P n (fun _=>0) n) x (gsn P n (fun _=>0) n x+1))) (upd (snoc L n room) n y)=Z5 m room sz x (plL n (fun _=>m) P L):=by
  have e1:gsn P n (fun _=>0) n=fun _=>0:=Zn (by omega)
  have e2:snoc L n room n=room:=Zl (by omega)
  rw [e2] at hy
  rw [e1]
  refine ZeV n0 x0 (fun j j0 j1=>by have:=hf j j0 j1;omega) (fun a a0 a1 b b0 b1=> ?_) (fun b b0 b1=> ?_) (fun a a0 a1=> ?_) ?_
  · unfold upd;rw [if_neg (by omega),Zo a1]
  · unfold upd;rw [if_pos rfl]
    by_cases hb:b=x
    · simp [hb]
    · simp [hb]
  · unfold upd;rw [if_neg (by omega),Zk a1]
  · unfold upd;rw [if_pos rfl];exact hy
theorem ZbB(n:Int)(ln:Int->Int)(pt:Int->Int->Int)(cnt:Int->Int):Vq (plL n ln pt cnt)=plL n ln pt (fun _=>1):=by
  unfold Vq plL
  rw [List.map_map];rfl
theorem UQ{α:Type}(a:α)(n:Int):gsn (fun _=>a) n a=fun _=>a:=by
  funext k;unfold gsn;split<;>rfl
theorem ZhR{x m:Int}{a1:Addr}(w0:World)(hp1:w0.cell? a1=some (.int .i64 m)):
    Calls Tryz.prog 96 [.int .i64 x,.pointer (some a1)].toArray w0 fun e w=>∃v,e= .returned v/\v=B (m<=x)/\Sat w0 w []:=by
  refine Zj Tryz.func96 Tryz.ntmps96 fun w hS=> ?_
  refine zsr ?_
  refine zlv xas ?_
  refine zlz ?_
  refine zlv xmv ?_
  refine zlv (xlf pl_3 hp1 hS) ?_
  refine zs2 ?_
  refine zx1<|zf1 ⟨_,rfl,?_⟩
  exact⟨Zq (by omega),hS⟩
set_option maxRecDepth 20000 in
theorem Zgy{v:Value}{n m:Int}{f:Int->Int}{a1:Addr}(w0:World)(hR:Row w0 v 1 n (ints f))(hp1:w0.cell? a1=some (.int .i64 m)):
    Calls Tryz.prog 95 [v,.func (.func 96) #[] #[.pointer (some a1)]].toArray w0 fun e w=>∃v,e= .returned v/\∃r:Int,v= .int .i64 r/\((r= -1/\∀k,0<=k->k<n->¬(m<=f k))\/(0<=r/\r<n/\(m<=f r)/\∀k,0<=k->k<r->¬(m<=f k)))/\Sat w0 w []:=by
  have hn:=hR.slh.n0;have hn1:=hR.slh.n1
  refine Zj Tryz.func95 Tryz.ntmps95 fun w hS=> ?_
  refine zsr ?_
  refine zlv xas ?_
  refine zx5 ?_
  refine zlv xmv ?_
  refine zlv (xln sl_22 hR.slh) ?_
  refine zlv xmv ?_
  refine zx6<|zlp (fun mm M w=>∃(i:Int),mm=((n-i).toNat)/\(0<=i)/\(i<=n)/\(∀k,0<=k->k<i->¬(m<=f k))/\M= [(0,v),(1,.func (.func 96) #[] #[.pointer (some a1)]),(7,.int .i64 n),(8,.int .i64 i)]/\Sat w0 w []) ⟨0,rfl,(by omega),(by omega),?_,rfl,hS⟩ ?_
  ·
   intro k h0 h1;omega
  clear hS w
  rintro mm M w ⟨i,rfl,h0,h1,hall,rfl,hS⟩
  refine zsr ?_
  refine zlv xlss ?_
  refine zx7 ?_
  refine zcif ?_ ?_<;>intro hc
  ·
   refine zx3 ?_
   refine zs2 ?_
   refine zlz ?_
   refine zs3 ?_
   refine zlv (xix (kk:=i) sl_22 hR.slh) ?_
   refine zlv (xlr (u:= .int .i64 (f i)) pl_3 (hR.below hS.below)) ?_
   refine zlc (xcc (vs:= [_]) Zhc) (ZhR (x:=(f i)) (m:=m) w (hS.ref hp1)) ?_;rintro _ w ⟨rfl,hS'⟩
   replace hS:=hS.cmp hS';clear hS'
   refine zlt ?_
   refine zcif ?_ ?_<;>intro hc
   ·
    refine zsr ?_
    refine zs2 ?_
    refine zx2<|zf1 ⟨_,rfl,?_⟩
    exact⟨i,rfl,.inr ⟨by omega,by omega,‹m<=f i›,hall⟩,hS⟩
   refine zx4 ?_
   refine zlv (xadd (r:=i+1)) ?_
   refine zlv xmv ?_
   refine zln<|zlq ⟨i+1,rfl,(by omega),(by omega),?_,rfl,hS⟩
   ·
    intro k h0' h1';rcases Int.lt_or_eq_of_le (show k<=i by omega) with hk|hk;exact hall k h0' hk;rw [hk];assumption
  refine zx8 ?_
  refine zlv xas ?_
  refine zx1<|zf1 ⟨_,rfl,?_⟩
  exact⟨-1,rfl,.inl ⟨rfl,fun k h0 h1=>hall k h0 (by omega)⟩,hS⟩
set_option maxHeartbeats 4000000 in
set_option maxRecDepth 20000 in
theorem Ui{vL vD:Value}{p:Prob}(w0:World)(h:PAt w0 vL vD p)(hok:p.Ok)(htot:psum (fun _=>1) p.D p.m.toNat<=1000):
    Calls Tryz.prog 60 [.agg #[vL,vD,.int .i64 p.stock,.int .i64 p.kerf]].toArray w0 fun e w=>∃v,e= .returned v/\∃r n2 pv2 ln2 pt2 cnt2,v=r/\NormR (Vq (Yo p.m (p.stock+p.kerf) (szP p) (pcsTo p.D p.m 0))) (plL n2 ln2 pt2 cnt2)/\0<=n2/\n2<=1000/\(∀k,0<=k->k<n2->1<=cnt2 k/\cnt2 k<=1000000)/\Slh r n2/\Sat w0 w [.own r 2 111 n2 (Zc pv2 cnt2),.sem (Frame.rows 3 n2 pv2 ln2 pt2)]:=by
  have hm:=h.L.slh.n0;have hm1:=h.L.slh.n1;have hd:=h.D.slh.n0;have hd1:=h.D.slh.n1;have hs:=h.is;have hk:=h.ik
  have hpd:=hok.d;have hpm2:=hok.m2;have hpm1:=hok.m1;have hs1:=hok.s1;have hs2:=hok.s2;have hk1:=hok.k1;have hk2:=hok.k2
  refine ZeP Tryz.func60 Tryz.ntmps60 fun w hS=> ?_
  refine hsq<|hrz ?_
  refine zla (xbx (cs:= [_,_,_,_]) hS) ?_;rintro _ w ⟨g1,rfl,hS⟩
  replace hS:=hS.n1
  refine zlv xas ?_
  refine zln<|zh<|htn<|hsq<|hrz ?_
  refine zla (xal (cs:= [_]) Zg9 hS) ?_;rintro _ w ⟨g2,rfl,hS⟩
  replace hS:=hS.n2
  refine zln<|zh<|htn<|hsq<|hrz ?_
  refine zla (xal (cs:= [_]) ZL hS) ?_;rintro _ w ⟨g3,rfl,hS⟩
  replace hS:=hS.n3
  refine zln<|zh<|htn<|hsq<|hsq<|hrz ?_
  refine zlv (xls 0 st_35 hS) ?_
  refine zlc (xc0 Zhd) (ZcK (p:=p) w (h.below hS.below)) ?_;rintro _ w ⟨g4,rfl,hS'⟩
  replace hS:Sat w0 w [.blk g1 [vL,vD,.int .i64 p.stock,.int .i64 p.kerf],.blk g2 [.slice none 0 0],.blk g3 [.slice none 0 0],.blk g4 [vL,vD,.int .i64 p.stock,.int .i64 p.kerf]]:=hS.comp hS';clear hS'
  refine zln<|zh<|htn<|hbk ?_
  replace hS:=hS.addnil 1 22 (fun _=>Value.slice none 0 0)
  replace hS:=hS.n5
  replace hS:=hS.addrows 3 (fun _=>Value.slice none 0 0) (fun _=>p.m) (fun _ _=>0)
  replace hS:=hS.n6
  replace hS:=hS.addnil 1 3 (ints (fun _=>0))
  replace hS:=hS.n7
  refine hrf (St:=FSt) (X:=Int) (Tt:=Unit) (fun s=> [.blk g1 [vL,vD,.int .i64 p.stock,.int .i64 p.kerf],.blk g2 [s.vB],.blk g3 [s.vL],.own s.vB 1 22 s.n s.vv,.sem (Frame.rows 3 s.n s.vv (fun _=>p.m) s.P),.own s.vL 1 3 s.n (ints s.L)]) (fun t=> []) (fun _=> .ret) FSt.zer (fun x M es=>M= [(0,.agg #[vL,vD,.int .i64 p.stock,.int .i64 p.kerf]),(1,.pointer (some ⟨g1,0,none⟩)),(2,.slice none 0 0),(3,.pointer (some ⟨g2,0,none⟩)),(4,.pointer (some ⟨g3,0,none⟩)),(11,.agg #[vL,vD,.int .i64 p.stock,.int .i64 p.kerf]),(12,.func (.func 132) #[] #[.pointer (some ⟨g4,0,none⟩)]),(13,.int .i64 x),(5,.int .i64 x)]/\es= []) (Zba (gp:=g4) (fun s=>s.h) (FInv p) FSt.zer rfl (FInv.zer p) w0 h hok) (hS.pk [0,1,2,4,5,6,3]) ZfZ (fun _=>rfl) (fun _=> .inl rfl) ?_ ?_ ?_ ?_
  ·
   intro lq s x rest w hpre rest1 hrr hS
   replace hS:=hS.n8
   refine hrz ?_
   refine zlv xas ?_
   refine zln<|zh<|Zdz ⟨rfl,rfl⟩ hS
  ·
   rintro lq s x _ _ rest w hpre ⟨rfl,rfl⟩ rest1 hrr hS
   replace hS:=hS.n8
   obtain⟨hIv,c,x0,x1,c0,c1,hh⟩:=hpre
   have hlB:=hIv.2.1;have hlL:=hIv.2.2
   obtain⟨hmem,hlen⟩:=VT (d:=p.D) (i:=x) (c:=c) (fun k k0 k1=>by have he:=hok.all k k0 k1;unfold Prob.each at he;omega) x0 (by omega) c0 (fun _=>by omega) (fun _=>by omega)
   rw [<-hh] at hmem hlen
   obtain⟨hn9,hrg⟩:=hIv.rng hok hmem (by omega)
   have hex:=hok.all x x0 x1;unfold Prob.each at hex
   have hsn:=hlB.n0
   have hrB:=fun k (k0:0<=k) (k1:k<s.n)=>hS.slhIn 4 rfl k0 k1
   refine hbk<|hsq ?_
   refine hdst [0,1,2,3,4,5,6,7] [0,1,2,3,4,5,6,7] 9 mx_ hS ?_;clear hS;intro w hS
   refine zDrv 0 (xfb 0 fd_35_0) ?_
   refine zdla 1 (fun w hS=>(xlb 0 pl_22 hS)) ?_
   refine zDrv 2 xmv ?_
   refine zDrv 3 (xix (kk:=x) sl_22 h.L.slh) ?_
   refine zdla 4 (fun w hS=>(xlr (u:= .int .i64 (p.L x)) pl_3 (h.L.below hS.below))) ?_
   have hbv:=h.iL x
   refine zDrv 5 (xfb 3 fd_35_3) ?_
   refine zdla 6 (fun w hS=>(xlb 0 pl_3 hS)) ?_
   refine zDrv 7 (xadd (r:=p.L x+p.kerf)) ?_
   refine zda 8 (xal (cs:= [_]) el_3 hS) ?_;rintro _ w ⟨g5,rfl,hS⟩
   replace hS:=hS.n9
   refine⟨⟨fun _=>hS.pk [0,1,2,3,4,5,6,7],hS.pk [0,1,2,3,4,5,6,7]⟩,?_⟩
   refine zde 9 (xsb 8 pl_3 hS) ?_;clear hS;rintro w hS
   replace hS:=hS.n9
   refine⟨⟨fun h=>absurd h (by decide),hS.pk [0,1,2,3,4,5,6,7]⟩,?_⟩
   refine zdd<|zh<|htn<|hsq<|hrz ?_
   refine zlv (xlb 2 pl_22 hS) ?_
   refine zlv xmf ?_
   refine zlc (xc0 RQ) (Zgy (n:=s.n) (m:=(p.L x+p.kerf)) (f:=s.L) w (hS.rowN 5 rfl) (hS.cellN 8 rfl rfl)) ?_;rintro _ w ⟨r1,rfl,hr1,hS'⟩
   replace hS:=hS.cmp hS';clear hS'
   have hrr:r1= -1\/(0<=r1/\r1<s.n):=by rcases hr1 with⟨h2,_⟩|⟨h2,h3,_⟩<;>omega
   have hbr:0<=r1->(0<=s.L r1/\s.L r1<=p.stock+p.kerf)/\0<=s.P r1 x/\s.P r1 x<=p.stock+p.kerf:=fun h=>by have h9:=hrg r1 h (by omega);exact⟨h9.1,h9.2 x x0 x1⟩
   refine zlv xas ?_
   refine zln<|zh<|htn<|hsq<|hsq<|hrz ?_
   refine zs2 ?_
   refine zln<|zh<|htn ?_
   refine XN ?_ ?_<;>intro hc
   ·
    refine hsq<|hrz ?_
    refine zlv (xlb 1 pl_27 hS) ?_
    refine zlv (xln sl_27 hlB) ?_
    refine zlv xas ?_
    refine zln<|zh<|htn<|hsq ?_
    refine hdst [0,1,2,6,7,8] [0,2,6,7,8] 7 mx_ hS ?_;clear hS;intro w hS
    refine zdl 0 (fun w hS=>(xlb 1 pl_27 hS)) ?_
    refine zDrv 1 (xfb 0 fd_35_0) ?_
    refine zdla 2 (fun w hS=>(xlb 0 pl_22 hS)) ?_
    refine zDrv 3 (xln sl_22 h.L.slh) ?_
    refine zda 4 (xmk sl_22 el_3 hS) ?_;rintro v1 w ⟨hS,hv1⟩
    replace hS:=hS.n10
    refine⟨⟨fun _=>hS.pk [0,1,2,6,7,8],hS.pk [0,2,6,7,8]⟩,?_⟩
    refine zda 5 (xli (n:=1) (len:=1) (pv:= [(0,v1)]) (cs:= [v1]) (c:=(fun _=>v1)) sl_27 ZL hS (hf:=by obtain⟨_,_,_,_,rfl,_⟩:=hv1;kernel_rfl)) ?_;rintro v2 w ⟨hS,hv2⟩
    replace hS:=hS.n11
    refine⟨⟨fun _=>hS.pk [0,1,2,6,7,8],hS.pk [0,2,6,7,8]⟩,?_⟩
    refine zda 6 (xap 3 (r:=s.n+1) sl_27 ZL hS (hS.rowN 10 rfl) (Ys _ _ _) (h1:=fun _ _ _=>hv1.one)) ?_;rintro v3 w ⟨hS,hv3⟩
    replace hS:=hS.n11
    replace hS:=Sat.merge (l1:= [_,_,_,_]) (l2:= [_,_,_,_]) (l3:= [_]) hS (by omega)
    have hrs1:=fun k (k0:0<=k) (k1:k<s.n+1)=>hS.slhIn 4 rfl k0 k1
    replace hS:=hS.n10
    refine⟨⟨fun _=>hS.pk [0,1,2,6,7,8],hS.pk [0,2,6,7,8]⟩,?_⟩
    refine zde 7 (xsb 1 pl_27 hS (hv:=hv3.one)) ?_;clear hS;rintro w hS
    replace hS:=hS.n10
    refine⟨⟨fun h=>absurd h (by decide),hS.pk [0,2,6,7,8]⟩,?_⟩
    refine zdd<|zh<|htn<|hrz ?_
    refine zlv (xlb 2 pl_22 hS) ?_
    refine zlv (xfb 2 fd_35_2) ?_
    refine zlv (xlb 0 pl_3 hS) ?_
    refine zlv (xfb 3 fd_35_3) ?_
    refine zlv (xlb 0 pl_3 hS) ?_
    refine zlv (xadd (r:=p.stock+p.kerf)) ?_
    refine zla (xli (n:=1) (len:=1) (pv:= [(0,.int .i64 (p.stock+p.kerf))]) (cs:= [.int .i64 (p.stock+p.kerf)]) (c:=ints (fun _=>p.stock+p.kerf)) sl_22 el_3 hS) ?_;rintro v4 w ⟨hS,hv4⟩
    replace hS:=hS.n11
    refine zla (xap 5 (r:=s.n+1) sl_22 el_3 hS (hS.rowN 10 rfl) (ZJ _ _ _)) ?_;rintro v5 w ⟨hS,hv5⟩
    replace hS:=hS.n11
    rw [UQ] at hS hrs1
    have hz9:gsn s.P s.n (fun _=>0) s.n x=0:=by rw [Zn (by omega)]
    have hl9:snoc s.L s.n (p.stock+p.kerf) s.n=p.stock+p.kerf:=Zl (by omega)
    refine zle (xsb 2 pl_22 hS (hv:=hv5.one)) ?_;clear hS;rintro w hS
    replace hS:=hS.n11
    refine zln<|zh<|htn<|hsq<|hrz ?_
    refine zlv (xlb 1 pl_27 hS) ?_
    refine zlv xmv ?_
    refine zlv (xix (kk:=s.n) sl_27 hv3) ?_
    refine zlv (xlr (u:=((gsn s.vv s.n v1) s.n)) pl_22 (hS.rowN 3 rfl)) ?_
    refine zlv xmv ?_
    refine zlv (xix (kk:=x) sl_22 (hrs1 s.n (by omega) (by omega))) ?_
    refine zlv (xlr (u:= .int .i64 ((gsn s.P s.n (fun _=>0)) s.n x)) pl_3 (hS.rowIn (k:=s.n) 4 rfl (by omega) (by omega))) ?_
    refine zlv (xadd (r:=((gsn s.P s.n (fun _=>0)) s.n x)+1)) ?_
    refine zlv (xix (kk:=x) sl_22 (hrs1 s.n (by omega) (by omega))) ?_
    refine zle (xsr 4 pl_3 hS rfl) ?_;clear hS;rintro w hS
    replace hS:=hS.n11
    refine zln<|zh<|htn ?_
    refine hdst [0,1,2,3,4,5,6,7,8,9,10] [0,1,2,3,4,6,7,8,9,10] 7 mx_ hS ?_;clear hS;intro w hS
    refine zdla 0 (fun w hS=>(xlb 2 pl_22 hS)) ?_
    refine zDrv 1 xmv ?_
    refine zDrv 2 (xix (kk:=s.n) sl_22 hv5) ?_
    refine zdl 3 (fun w hS=>(xlr (u:= .int .i64 ((snoc s.L s.n (p.stock+p.kerf)) s.n)) pl_3 (hS.rowN 5 rfl))) ?_
    refine zdla 4 (fun w hS=>(xlb 7 pl_3 hS)) ?_
    refine zdv 5 (fun _=>(xsub (r:=((snoc s.L s.n (p.stock+p.kerf)) s.n)-p.L x-p.kerf))) ?_
    refine zDrv 6 (xix (kk:=s.n) sl_22 hv5) ?_
    refine zde 7 (xso 5 pl_3 hS (Zs _ _ _)) ?_;clear hS;rintro w hS
    replace hS:=hS.n11
    refine⟨⟨fun h=>absurd h (by decide),hS.pk [0,1,2,3,4,6,7,8,9,10]⟩,?_⟩
    refine zdd<|zh<|zbn<|ZaN ⟨s.h++ [x],v3,s.n+1,gsn s.vv s.n v1,upd (gsn s.P s.n (fun _=>0)) s.n (upd ((gsn s.P s.n (fun _=>0)) s.n) x (((gsn s.P s.n (fun _=>0)) s.n x)+1)),v5,(upd (snoc s.L s.n (p.stock+p.kerf)) s.n (((snoc s.L s.n (p.stock+p.kerf)) s.n)-p.L x-p.kerf))⟩ ⟨rfl,(by show plL _ _ _ _=Yo _ _ _ (s.h++ [x]);rw [V6,<-hIv.1];first|exact Zaf (sz:=szP p) hsn x0 (hr1.resolve_right (fun h=>by omega)).2 (by unfold szP;omega)|(have hr9:=hr1.resolve_left (fun h=>by omega);exact ZbS (sz:=szP p) hsn x0 hr9.1 hr9.2.1 hr9.2.2.1 hr9.2.2.2 (by unfold szP;omega))),hv3,hv5⟩ (hS.pk [0,1,2,3,4,5,6,7])
   refine hsk<|htn<|hsq<|hrz ?_
   refine zlv (xlb 1 pl_27 hS) ?_
   refine zlv xmv ?_
   refine zlv (xix (kk:=r1) sl_27 hlB) ?_
   refine zlv (xlr (u:=(s.vv r1)) pl_22 (hS.rowN 3 rfl)) ?_
   refine zlv xmv ?_
   refine zlv (xix (kk:=x) sl_22 (hrB r1 (by omega) (by omega))) ?_
   refine zlv (xlr (u:= .int .i64 (s.P r1 x)) pl_3 (hS.rowIn (k:=r1) 4 rfl (by omega) (by omega))) ?_
   refine zlv (xadd (r:=(s.P r1 x)+1)) ?_
   refine zlv (xix (kk:=x) sl_22 (hrB r1 (by omega) (by omega))) ?_
   refine zle (xsr 4 pl_3 hS rfl) ?_;clear hS;rintro w hS
   replace hS:=hS.n9
   refine zln<|zh<|htn ?_
   refine hdst [0,1,2,3,4,5,6,7,8] [0,1,2,3,4,6,7,8] 7 mx_ hS ?_;clear hS;intro w hS
   refine zdla 0 (fun w hS=>(xlb 2 pl_22 hS)) ?_
   refine zDrv 1 xmv ?_
   refine zDrv 2 (xix (kk:=r1) sl_22 hlL) ?_
   refine zdl 3 (fun w hS=>(xlr (u:= .int .i64 (s.L r1)) pl_3 (hS.rowN 5 rfl))) ?_
   refine zdla 4 (fun w hS=>(xlb 7 pl_3 hS)) ?_
   refine zDrv 5 (xsub (r:=(s.L r1)-p.L x-p.kerf)) ?_
   refine zDrv 6 (xix (kk:=r1) sl_22 hlL) ?_
   refine zde 7 (xso 5 pl_3 hS (Zs _ _ _)) ?_;clear hS;rintro w hS
   replace hS:=hS.n9
   refine⟨⟨fun h=>absurd h (by decide),hS.pk [0,1,2,3,4,6,7,8]⟩,?_⟩
   refine zdd<|zh<|zbn<|ZaN ⟨s.h++ [x],s.vB,s.n,s.vv,upd s.P r1 (upd (s.P r1) x ((s.P r1 x)+1)),s.vL,(upd s.L r1 ((s.L r1)-p.L x-p.kerf))⟩ ⟨rfl,(by show plL _ _ _ _=Yo _ _ _ (s.h++ [x]);rw [V6,<-hIv.1];first|exact Zaf (sz:=szP p) hsn x0 (hr1.resolve_right (fun h=>by omega)).2 (by unfold szP;omega)|(have hr9:=hr1.resolve_left (fun h=>by omega);exact ZbS (sz:=szP p) hsn x0 hr9.1 hr9.2.1 hr9.2.2.1 hr9.2.2.2 (by unfold szP;omega))),hlB,hlL⟩ (hS.pk [0,1,2,3,4,5,6,7])
  ·
   intro Dk s rest w hfin hS
   replace hS:=hS.n9
   obtain⟨hIv,hh⟩:=hfin
   have hlB:=hIv.2.1;have hlL:=hIv.2.2
   obtain⟨hmem,hlen⟩:=VT (d:=p.D) (i:=p.m) (c:=0) (fun k k0 k1=>by have he:=hok.all k k0 k1;unfold Prob.each at he;omega) (by omega) (by omega) (by omega) (fun h=>by omega) (fun _=>rfl)
   rw [<-hh] at hmem hlen
   obtain⟨hn9,hrg⟩:=hIv.rng hok hmem (by omega)
   have hsn:=hlB.n0
   have hrB:=fun k (k0:0<=k) (k1:k<s.n)=>hS.slhIn 4 rfl k0 k1
   refine zbn<|htn<|hsq<|hrz ?_
   refine zlv xas ?_
   refine zln<|zh<|htn<|hsq<|hsq<|hrz ?_
   refine zlv (xlb 1 pl_27 hS) ?_
   refine zlv (xln sl_27 hlB) ?_
   refine zlv xmv ?_
   refine zln<|zh<|htn<|hbk ?_
   replace hS:=hS.addnil 2 111 (Zc (fun _=>Value.slice none 0 0) (fun _=>0))
   replace hS:=hS.n10
   refine hlp (fun mm M w=>∃(nC:Int) (wv:Int->Value) (cC:Int->Int) (i:Int) (wC:Value),mm=((s.n-i).toNat)/\(0<=i)/\(i<=s.n)/\(nC=i)/\(∀k,0<=k->k<i->wv k=s.vv k)/\(∀k,0<=k->k<i->cC k=1)/\(Slh wC nC)/\M= [(2,.slice none 0 0),(8,wC),(60,s.vB),(61,.int .i64 s.n),(62,.int .i64 i)]/\Sat w0 w [.blk g1 [vL,vD,.int .i64 p.stock,.int .i64 p.kerf],.blk g2 [s.vB],.blk g3 [s.vL],.own s.vB 1 22 s.n s.vv,.sem (Frame.rows 3 s.n s.vv (fun _=>p.m) s.P),.own s.vL 1 3 s.n (ints s.L),.blk g4 [vL,vD,.int .i64 p.stock,.int .i64 p.kerf],.sem rest,.sem (Frame.obj Dk (.deferred (some []))),.own wC 2 111 nC (Zc wv cC)]) ⟨0,(fun _=>Value.slice none 0 0),(fun _=>0),0,(.slice none 0 0),rfl,(by omega),(by omega),(by omega),?_,?_,?_,rfl,hS⟩ ?_
   ·
    intro k k0 k1;omega
   ·
    intro k k0 k1;omega
   ·
    exact slh_nil
   clear hS w
   rintro mm M w ⟨nC,wv,cC,i,wC,rfl,h0,h1,hnC,hwv,hcC,hwC,rfl,hS⟩
   refine hsq<|hrz ?_
   refine zlv xlss ?_
   refine zln<|zh<|htn<|hsq ?_
   refine XN ?_ ?_<;>intro hc
   ·
    refine hsk<|htn<|hsq<|hbk<|hsq<|hrz ?_
    refine zlv (xix (kk:=i) sl_27 hlB) ?_
    refine zlv (xlr (u:=(s.vv i)) pl_22 (hS.rowN 3 rfl)) ?_
    refine zlv xas ?_
    refine zln<|zh<|htn<|hrz ?_
    refine zs2 ?_
    refine zlv (xany (v:= .agg #[(s.vv i),.int .i64 1]) (hr:=by have hz:=(hrB i (by omega) (by omega));revert hz;generalize (s.vv i)=z;rintro⟨_,_,_,_,rfl,_⟩;show _=_;kernel_rfl)) ?_
    refine zla (xli (n:=1) (len:=1) (pv:= [(0,.agg #[(s.vv i),.int .i64 1])]) (cs:= [(s.vv i),.int .i64 1]) (c:=Zc (fun _=>(s.vv i)) (fun _=>1)) sl_60 Yl hS (hf:=by have hz:=(hrB i (by omega) (by omega));revert hz;generalize (s.vv i)=z;rintro⟨_,_,_,_,rfl,_⟩;show _=_;kernel_rfl)) ?_;rintro v6 w ⟨hS,hv6⟩
    replace hS:=hS.n11
    refine zla (xap 9 (r:=nC+1) sl_60 Yl hS (hS.rowN 10 rfl) (YJ _ _ _ _ _) (h1:=fun k _ _=>YE (fun _=>(hrB i (by omega) (by omega)).one) k)) ?_;rintro v7 w ⟨hS,hv7⟩
    replace hS:=hS.n11
    refine zlv xas ?_
    refine zln<|zh<|zbn<|htn<|hrz ?_
    refine zlv (xadd (r:=i+1)) ?_
    refine zlv xmv ?_
    refine zln<|zh<|hlq ⟨nC+1,(gsn wv nC (s.vv i)),(snoc cC nC 1),i+1,v7,rfl,(by omega),(by omega),(by omega),?_,?_,?_,rfl,hS.pk [0,1,2,3,4,5,6,7,8,9]⟩
    ·
     intro k k0 k1;by_cases e:k<nC
     · rw [Zo e];exact hwv k k0 (by omega)
     · rw [Zn e,show k=i by omega]
    ·
     intro k k0 k1;by_cases e:k<nC
     · rw [Zk e];exact hcC k k0 (by omega)
     · rw [Zl e]
    ·
     exact hv7
   refine hxt<|ztx<|ztx<|zbh<|htn<|hsq<|hrz ?_
   refine zlv xmv ?_
   have hiN:i=s.n:=by omega
   have hnN:nC=s.n:=by omega
   subst hnN
   replace hS:=hS.recont 9 rfl (d:=Zc s.vv (fun _=>1)) (fun k k0 k1=>by unfold Zc;rw [hwv _ (by omega) (by omega),hcC _ (by omega) (by omega)])
   replace hS:=hS.n10
   refine zlc (xc0 Zcd) (KE (u:=s.n) (pv:=s.vv) (ln:=(fun _=>p.m)) (pt:=s.P) (cnt:=(fun _=>1)) w (⟨(hS.rowN 9 rfl),fun k k0 k1=>hS.rowIn 4 rfl k0 k1,fun k k0 k1=>hS.roomIn 4 rfl k0 k1⟩:VAt _ wC s.n s.vv (fun _=>p.m) s.P (fun _=>1)) (by omega) (fun k k0 k1=>by omega) (fun k k0 k1=>by omega)) ?_;rintro vnn1 w ⟨_,nnn1,pnn1,lnn1,gnn1,cnn1,rfl,hnrn1,hn0n1,hn1n1,hncn1,hvnn1,hS'⟩
   replace hS:Sat w0 w [.blk g1 [vL,vD,.int .i64 p.stock,.int .i64 p.kerf],.blk g2 [s.vB],.blk g3 [s.vL],.own s.vB 1 22 s.n s.vv,.sem (Frame.rows 3 s.n s.vv (fun _=>p.m) s.P),.own s.vL 1 3 s.n (ints s.L),.blk g4 [vL,vD,.int .i64 p.stock,.int .i64 p.kerf],.sem rest,.sem (Frame.obj Dk (.deferred (some []))),.own wC 2 111 s.n (Zc s.vv (fun _=>1)),.own vnn1 2 111 nnn1 (Zc pnn1 cnn1),.sem (Frame.rows 3 nnn1 pnn1 lnn1 gnn1)]:=hS.comp hS';clear hS'
   have hrnn1:=fun k (k0:0<=k) (k1:k<nnn1)=>hS.slhIn 11 rfl k0 k1
   refine zlv xas ?_
   refine zln<|zh<|htn<|hrt<|ZbL 8 hS fun w hS=>zf1 ⟨_,rfl,?_⟩
   exact⟨_,_,_,_,_,_,rfl,(by rw [<-hh,<-hIv.1,ZbB];exact hnrn1),hn0n1,by omega,fun k k0 k1=>by have:=hncn1 k k0 k1;omega,hvnn1,hS.pk [10,11]⟩
  ·
   intro Dk t rest w hfin hS
   replace hS:=hS.n3
   exact hfin.elim
theorem TY(f:List Int->Int){ln:Int->Int}{pt:Int->Int->Int}{cnt:Int->Int}:∀n:Nat,wsum f (plL (n:Int) ln pt cnt)=psum (fun k=>f (lst (ln k) (pt k))) cnt n
  |0=>rfl
  | n+1=>by
    rw [show((n+1:Nat):Int)=(n:Int)+1 by omega,Xq (by omega),Yj,TY f n]
    simp only [wsum,psum];omega
theorem ZV(f:List Int->Int){n:Int}{ln:Int->Int}{pt:Int->Int->Int}{cnt:Int->Int}(n0:0<=n):wsum f (plL n ln pt cnt)=psum (fun k=>f (lst (ln k) (pt k))) cnt n.toNat:=by
  have:=TY f (ln:=ln) (pt:=pt) (cnt:=cnt) n.toNat
  rwa [Int.toNat_of_nonneg n0] at this
theorem sum_range(f:Nat->Int):∀n:Nat,((List.range (n+1)).map f).sum=((List.range n).map f).sum+f n:=fun n=>by
  rw [List.range_succ,List.map_append,List.sum_append];simp
theorem Zbz(sz:Int->Int)(f:Int->Int):∀n:Nat,XB sz (lst (n:Int) f)=psum sz f n:=fun n=>by
  have key:∀j:Nat,j<=n->((List.range j).map fun(k:Nat)=>(lst (n:Int) f).getD k 0*sz k).sum=psum sz f j:=by
    intro j
    induction j with
    |zero=>intro _;rfl
    | succ j ih=>
      intro hj
      rw [sum_range,ih (by omega),psum,List.getD_eq_getElem?_getD,lst_get,if_pos (by omega),Int.mul_comm];rfl
  unfold XB
  rw [Yn,Int.toNat_natCast]
  exact key n (Nat.le_refl _)
theorem UF(sz:Int->Int)(f:Int->Int){n:Int}(n0:0<=n):XB sz (lst n f)=psum sz f n.toNat:=by
  have:=Zbz sz f n.toNat
  rwa [Int.toNat_of_nonneg n0] at this
theorem SameP.of_plL{n n2:Int}{ln ln2:Int->Int}{pt pt2:Int->Int->Int}{cnt cnt2:Int->Int}(n0:0<=n)(m0:0<=n2)(h1:∀k,0<=k->k<n->0<=ln k)(h2:∀k,0<=k->k<n2->0<=ln2 k)(h:plL n ln pt cnt=plL n2 ln2 pt2 cnt2):SameP n n2 ln ln2 pt pt2 cnt cnt2:=by
  have hl:=congrArg List.length h
  rw [plL_len,plL_len] at hl
  refine⟨by omega,fun k k0 k1=> ?_⟩
  have hk:=congrArg (fun l=>l[k.toNat]?) h
  simp only [plL_get] at hk
  rw [Int.toNat_of_nonneg k0,if_pos k1,if_pos (by omega)] at hk
  injection hk with hk
  injection hk with hk1 hk2
  obtain⟨h3,h4⟩:=(Wg (h1 k k0 k1) (h2 k k0 (by omega))).1 hk1
  exact⟨hk2,h3,h4⟩
def FFitR(p:Prob)(l:Us)(e:Int):Prop:=ChkR p e/\(e=0->NormR (Vq (Yo p.m (p.stock+p.kerf) (szP p) (pcsTo p.D p.m 0))) l)/\(e≠0->l= [])
theorem ChkR.same{p:Prob}{e f:Int}(h:ChkR p e)(k:ChkR p f):e=f:=by
  rcases h with⟨h1,h2⟩|⟨h1,h2,h3⟩|⟨h1,h2,h3⟩<;>rcases k with⟨k1,k2⟩|⟨k1,k2,k3⟩|⟨k1,k2,k3⟩<;>first|exact absurd h1 k1|exact absurd k1 h1|omega
theorem FFitR.same{p:Prob}{l m:Us}{e f:Int}(h:FFitR p l e)(k:FFitR p m f):l=m/\e=f:=by
  have he:=h.1.same k.1
  subst he
  refine⟨?_,rfl⟩
  by_cases h0:e=0
  · exact(h.2.1 h0).same (k.2.1 h0)
  · rw [h.2.2 h0,k.2.2 h0]
def pR:Prob:=⟨2,fun k=> [5,3].getD k.toNat 0,2,fun k=> [3,4].getD k.toNat 0,11,1⟩
theorem okR:pR.Ok:=⟨by decide,by decide,rfl,by decide,by decide,by decide,by decide,fun i i0 i1=>by
  have i1':i<2:=i1
  have:i=0\/i=1:=by omega
  rcases this with rfl|rfl<;>(unfold Prob.each;decide)⟩
def Zb2:Int->Int->Int:=fun k j=>([[2,0], [1,1], [0,3]].getD k.toNat []).getD j.toNat 0
theorem ZhV:Vq (Yo pR.m (pR.stock+pR.kerf) (szP pR) (pcsTo pR.D pR.m 0))=plL 3 (fun _=>2) Zb2 (fun _=>1):=by decide+kernel
theorem ZgX:NormR (Vq (Yo pR.m (pR.stock+pR.kerf) (szP pR) (pcsTo pR.D pR.m 0))) (plL 3 (fun _=>2) Zb2 (fun _=>1)):=by
  rw [ZhV]
  refine⟨by decide+kernel,?_⟩
  have e:plL 3 (fun _=>2) Zb2 (fun _=>1)= [([2,0],1),([1,1],1),([0,3],1)]:=by decide+kernel
  rw [e]
  have a1:ahd [2,0] [1,1]:=⟨0,fun k hk=>by omega,by simp [olt]⟩
  have a2:ahd [1,1] [0,3]:=⟨0,fun k hk=>by omega,by simp [olt]⟩
  refine .cons (fun b hb=> ?_) (.cons (fun b hb=> ?_) (.cons (fun b hb=>by simp at hb) .nil))
  · simp at hb;rcases hb with rfl|rfl
    · exact a1
    · exact Vd a1 a2
  · simp at hb;subst hb;exact a2
theorem ZeU{l:Us}{e:Int}(h:FFitR pR l e):e=0/\l=plL 3 (fun _=>2) Zb2 (fun _=>1):=by
  have k:FFitR pR (plL 3 (fun _=>2) Zb2 (fun _=>1)) 0:=⟨.inr (.inr ⟨okR,by decide+kernel,rfl⟩),fun _=>ZgX,fun h=>absurd rfl h⟩
  obtain⟨h1,h2⟩:=h.same k
  exact⟨h2,h1⟩
set_option maxRecDepth 20000 in
theorem KF{vL vD:Value}{p:Prob}(w0:World)(h:PAt w0 vL vD p):
    Calls Tryz.prog 30 [.agg #[vL,vD,.int .i64 p.stock,.int .i64 p.kerf]].toArray w0 fun e w=>∃v,e= .returned v/\∃r n pv ln pt cnt e,v= .tuple #[r,.int .i64 e]/\FFitR p (plL n ln pt cnt) e/\(∀k,0<=k->k<n->1<=cnt k/\cnt k<=1000000)/\n<=1000/\Slh r n/\Sat w0 w [.own r 2 111 n (Zc pv cnt),.sem (Frame.rows 3 n pv ln pt)]:=by
  have hm:=h.L.slh.n0;have hm1:=h.L.slh.n1;have hd:=h.D.slh.n0;have hd1:=h.D.slh.n1;have hs:=h.is;have hk:=h.ik
  refine Zj Tryz.func30 Tryz.ntmps30 fun w hS=> ?_
  refine zsr ?_
  refine zla (xbx (cs:= [_,_,_,_]) hS) ?_;rintro _ w ⟨g1,rfl,hS⟩
  replace hS:=hS.n1
  refine zs2 ?_
  refine zx5 ?_
  refine zlv (xls 0 st_35 hS) ?_
  refine zlc (xc0 Zey) (Zaq (p:=p) w (h.below hS.below)) ?_;rintro _ w ⟨eck1,rfl,hck1,hS'⟩
  replace hS:=hS.cmp hS';clear hS'
  refine zlv xas ?_
  refine zlz ?_
  refine zs2 ?_
  refine zlt ?_
  refine zcif ?_ ?_<;>intro hc
  ·
   refine zsr ?_
   refine zs3 ?_
   refine zx14<|zf2 ⟨_,rfl,?_⟩
   exact⟨_,0,fun _=>undef,fun _=>0,fun _ _=>0,fun _=>0,_,rfl,⟨hck1,fun h=>by omega,fun _=>rfl⟩,fun k k0 k1=>by omega,by omega,slh_nil,((hS.sub (.cons _ .slnil)).addnil 2 111 (Zc (fun _=>undef) (fun _=>0))).addrows 3 (fun _=>undef) (fun _=>0) (fun _ _=>0)⟩
  refine ZR ?_
  refine zlv (xls 0 st_35 hS) ?_
  obtain⟨hok9,htot⟩:p.Ok/\psum (fun _=>1) p.D p.m.toNat<=1000:=by rcases hck1 with⟨_,h9⟩|⟨_,_,h9⟩|⟨h8,h9,_⟩;omega;omega;exact⟨h8,h9⟩
  refine zlc (xc0 Zex) (Ui (p:=p) w (h.below hS.below) hok9 (by omega)) ?_;rintro vnn1 w ⟨_,nnn1,pnn1,lnn1,gnn1,cnn1,rfl,hnrn1,hn0n1,hn1n1,hncn1,hvnn1,hS'⟩
  replace hS:Sat w0 w [.blk g1 [vL,vD,.int .i64 p.stock,.int .i64 p.kerf],.own vnn1 2 111 nnn1 (Zc pnn1 cnn1),.sem (Frame.rows 3 nnn1 pnn1 lnn1 gnn1)]:=hS.comp hS';clear hS'
  have hrnn1:=fun k (k0:0<=k) (k1:k<nnn1)=>hS.slhIn 2 rfl k0 k1
  refine zs2 ?_
  refine zx1<|zf2 ⟨_,rfl,?_⟩
  exact⟨_,_,_,_,_,_,0,rfl,⟨(show eck1=0 by omega)▸hck1,fun _=>hnrn1,fun h=>absurd rfl h⟩,hncn1,hn1n1,hvnn1,hS.pk [1,2]⟩
set_option maxRecDepth 20000 in
theorem c_pbars{vV:Value}{u:Int}{pv:Int->Value}{ln:Int->Int}{pt:Int->Int->Int}{cnt:Int->Int}(w0:World)(hV:VAt w0 vV u pv ln pt cnt)(hu6:u<=1000000)(hbc:∀k,0<=k->k<u->0<=cnt k/\cnt k<=1000000000):
    Calls Tryz.prog 36 [vV].toArray w0 fun e w=>∃v,e= .returned v/\v= .int .i64 (psum (fun _=>1) cnt u.toNat)/\Sat w0 w []:=by
  have hn:=hV.row.slh.n0;have hn1:=hV.row.slh.n1
  refine Zj Tryz.func36 Tryz.ntmps36 fun w hS=> ?_
  refine zsr ?_
  refine zlv xas ?_
  refine zlz ?_
  refine zlv xas ?_
  refine zx5 ?_
  refine zlv xmv ?_
  refine zlv (xln sl_60 hV.row.slh) ?_
  refine zlv xmv ?_
  refine zx6<|zlp (fun mm M w=>∃(s:Int) (i:Int),mm=((u-i).toNat)/\(0<=i)/\(i<=u)/\(s=psum (fun _=>1) cnt i.toNat)/\(0<=s/\s<=1000000000*i)/\M= [(2,.int .i64 0),(3,.int .i64 s),(6,vV),(7,.int .i64 u),(8,.int .i64 i)]/\Sat w0 w []) ⟨0,0,rfl,(by omega),(by omega),?_,(by omega),rfl,hS⟩ ?_
  ·
   rfl
  clear hS w
  rintro mm M w ⟨s,i,rfl,h0,h1,hs9,hsb,rfl,hS⟩
  refine zsr ?_
  refine zlv xlss ?_
  refine zx7 ?_
  refine zcif ?_ ?_<;>intro hc
  ·
   refine zx3 ?_
   refine zlv (xix (kk:=2*i) sl_60 hV.row.slh) ?_
   refine zlv (xlw (cs:= [(pv i),.int .i64 (cnt i)]) Zw (hV.row.below hS.below) (Zr (k:=2*i) (i:=i) pv cnt (by omega))) ?_
   have hci:=hbc i h0 (by omega)
   refine zla (xal (cs:= [_,_]) Yl hS) ?_;rintro _ w ⟨g1,rfl,hS⟩
   replace hS:=hS.n1
   refine zle (xsw 0 Zw hS (hd:=(Za (hV.p i (by omega) (by omega)).slh.one (Za rfl Zd)))) ?_;clear hS;rintro w hS
   replace hS:=hS.n1
   refine zlt<|zrg ?_
   refine zlv xmv ?_
   refine zlv (xfb 1 fd_111_1) ?_
   refine zlv (xlb 0 pl_3 hS) ?_
   refine zlv (xadd (r:=s+(cnt i))) ?_
   refine zlv xas ?_
   refine zx10 ?_
   refine zlv (xadd (r:=i+1)) ?_
   refine zlv xmv ?_
   refine zln<|zlq ⟨s+(cnt i),i+1,rfl,(by omega),(by omega),?_,(by omega),rfl,hS.nl⟩
   ·
    rw [Yu _ _ h0,<-hs9];omega
  refine zx8 ?_
  refine zs2 ?_
  refine zx1<|zf1 ⟨_,rfl,?_⟩
  obtain rfl:i=u:=by omega
  exact⟨congrArg (Value.int .i64) hs9,hS⟩
end Go.Proofs.YtopmifmfecfaaaaGreat
namespace Go.Proofs.Gw
open Go Go.RowKit
section
variable {P:Program} {l rest:List Oper} {Q Q':Exit->Act->World->Prop} {w w' w0:World} {o:Oper} {n d fuel i:Nat} {L M:List (Nat×Value)} {x y:Code} {c:Operand} {e:Exit} {p:Prop} {r:Option Nat} {ds:List Deferred} {listed:Array Bool} {K:Act->World->Prop}
def Hd(P:Program)(r:Option Nat)(n:Nat)(l:List Oper)(Q:Exit->Act->World->Prop)(fuel:Nat)(listed:Array Bool)(ds:List Deferred)(L:List (Nat×Value))(w:World):Prop:=∀a,Frd a n ds L->wpAnyIn (FZ r) 0 P .any l.toArray Q fuel listed a w
def Ho(P:Program)(r:Option Nat)(n:Nat)(l:List Oper)(Q:Exit->Act->World->Prop)(o:Oper)(K:Act->World->Prop)(ds:List Deferred)(L:List (Nat×Value))(w:World):Prop:=∀a,Frd a n ds L->if Region.wanted o (yielded l.toArray a.tmps)=true then o.wpIn (FZ r) 0 P a w K Q else(∀f,o.about P w a.eval=some f->(FZ r).fn f)/\K (a.put o.dst undef) w
theorem Ho.op{i:Nat}(h:Ho P r n l Q o K ds L w)(ho:l[i]? =some o){a:Act}(hF:Frd a n ds L):wpOpIn (FZ r) 0 P l.toArray Q i K a w:=by
  unfold wpOpIn
  rw [show l.toArray[i]? =some o by simpa using ho]
  exact h a hF
theorem hdr{id:Nat}{m:List Ent}(fuel:Nat)(hm:P.follows .mixedOrders=true)(hS:Sat w0 w m)(K:∀w,Sat w0 w m->Hd P r n l Q fuel (Array.replicate fuel false) ds L w)(hn:l.length=fuel:=by exact rfl):Hc P r n Q (.region id l.toArray true) ds L w:=fun a hF=>by
  subst hn
  exact wpIn_region_any hm (by have:=K _ hS.draw a hF;simpa using this)
theorem hd0(h:He n Q .normal ds L w)(hr:Region.ready .any l.toArray listed= []:=by kernel_rfl):Hd P r n l Q fuel listed ds L w:=fun a hF=>wpAnyIn_done hr (h a hF) _
theorem hd1(i:Nat){o:Oper}(h:Ho P r n l Q o (wpAnyIn (FZ r) 0 P .any l.toArray Q fuel (listed.setIfInBounds i true)) ds L w)(hr:Region.ready .any l.toArray listed= [i]:=by kernel_rfl)(ho:l[i]? =some o:=by exact rfl):Hd P r n l Q (fuel+1) listed ds L w:=fun a hF=>
  wpAnyIn_all hr (by simp) fun j hj => by obtain rfl:j=i:=by simpa using hj
                                          exact h.op ho hF
theorem hd2(i j:Nat){o o':Oper}(hi:Ho P r n l Q o (wpAnyIn (FZ r) 0 P .any l.toArray Q fuel (listed.setIfInBounds i true)) ds L w)(hj:Ho P r n l Q o' (wpAnyIn (FZ r) 0 P .any l.toArray Q fuel (listed.setIfInBounds j true)) ds L w)(hr:Region.ready .any l.toArray listed= [i,j]:=by kernel_rfl)(ho:l[i]? =some o:=by exact rfl)(ho':l[j]? =some o':=by exact rfl):Hd P r n l Q (fuel+1) listed ds L w:=fun a hF=>
  wpAnyIn_all hr (by simp) fun k hk=>by
    rcases List.mem_cons.1 hk with rfl|hk
    · exact hi.op ho hF
    · obtain rfl:k=j:=by simpa using hk
      exact hj.op ho' hF
theorem hov{v:Value}(hr:Runs P L w o (.value v) w')(K:Hd P r n l Q fuel listed ds ((d,v)::L) w')(hg:gdB l L o=some true:=by exact rfl)(hd:o.dst=some d:=by exact rfl)(hdn:Nat.blt d n=true:=by exact rfl)(hn:ndf o=true:=by exact rfl):Ho P r n l Q o (wpAnyIn (FZ r) 0 P .any l.toArray Q fuel listed) ds L w:=fun a hF=>by
  rw [if_pos (Vo hF hg)]
  refine⟨fun _ _=>trivial,?_⟩
  rw [Xh hn,hr _ hF.agr,Oper.uponIn_value,hd]
  exact K _ (hF.put (by simpa [Nat.blt_eq] using hdn) v)
theorem hoc{f:FuncId}{args:Array Value}{R:Value->World->Prop}(hr:Runs P L w o (.enter f args) w)(hc:Calls P f args w fun e w'=>∃v,e= .returned v/\R v w')(K:∀v w',R v w'->Hd P r n l Q fuel listed ds ((d,v)::L) w')
    (hg:gdB l L o=some true:=by exact rfl) (hd:o.dst=some d:=by exact rfl) (hdn:Nat.blt d n=true:=by exact rfl) (hn:ndf o=true:=by exact rfl):Ho P r n l Q o (wpAnyIn (FZ r) 0 P .any l.toArray Q fuel listed) ds L w:=fun a hF=>by
  rw [if_pos (Vo hF hg)]
  refine⟨fun _ _=>trivial,?_⟩
  rw [Xh hn,hr _ hF.agr,Oper.uponIn_enter]
  refine⟨fun h=>(by cases h),XT (hc.mono fun e w' ⟨v,he,hR⟩=> ?_)⟩
  subst he
  rw [hd]
  exact K v w' hR _ (hF.put (by simpa [Nat.blt_eq] using hdn) v)
theorem hoy{l0:Nat}{xs:Array Operand}{ts:Array TypeId}{vs:List Value}{z:Operand}{R:Value->World->Prop}(hY:Yld P l0 vs w R)(K:∀v w',R v w'->Hd P r n l Q fuel listed ds ((d,v)::L) w')
    (hop:o.op= .call {callee:= .value z,args:=xs,argTypes:=ts}:=by exact rfl) (hx:evL L z=some (.func (.yield l0) #[] #[]):=by exact rfl) (ha:Vg L xs vs:=by repeat' first|exact RY|apply Xu rfl)
    (hg:gdB l L o=some true:=by exact rfl) (hd:o.dst=some d:=by exact rfl) (hdn:Nat.blt d n=true:=by exact rfl):Ho P r n l Q o (wpAnyIn (FZ r) 0 P .any l.toArray Q fuel listed) ds L w:=fun a hF=>by
  obtain⟨fn,tmps,assign,body,hy,hR⟩:=hY
  have hr:=xyl (P:=P) (L:=L) (o:=o) hy hop hx ha
  rw [if_pos (Vo hF hg)]
  refine⟨fun _ _=>trivial,?_⟩
  rw [Xh (by unfold ndf;rw [hop]),hr _ hF.agr,Oper.uponIn_round]
  refine⟨fun h=>(by cases h),(show RoundIn (FZ r) (0-1) P l0 fn tmps assign body w fun e w'=>∃v,e= .returned v/\R v w' from hR).mono fun e w' ⟨v,he,hR⟩=> ?_⟩
  subst he
  rw [hd]
  exact K v w' hR _ (hF.put (by simpa [Nat.blt_eq] using hdn) v)
theorem Zg2{f:FuncId}{fn:Func}{vs:List Value}{R:Ending->World->Prop}(hf:P.funcs[f]? =some fn)(hn:fn.ntmps=n)(K:Hc P none n (bodyPostM (FZ none) 0 P fn R) x [] (num 0 vs) w)(hb:fn.body=some x:=by exact rfl)(hv:Nat.ble vs.length n=true:=by exact rfl):Calls P f vs.toArray w R:=
  U4 (r:=none) (n:=0) (callsIn_of_wp_marks hf hb trivial (by
    rw [hn]
    exact K _ ((Fr.enter (vs:=vs.toArray) (by simpa using Nat.le_of_ble_eq_true hv) fun t v ht=>by have:=(Tv vs 0 t v ht).2;simpa using this))))
theorem Zg1{fn:Func}{R:Ending->World->Prop}{E:List Ent}{D:Nat}(i:Nat)(hS:Sat w0 w E)(K:∀w',Sat w0 w' (E.set i (dfE D false))->Ge n [] (bodyPost P fn R) .normal L w')(hi:E[i]? =some (dfE D true):=by exact rfl):He n (bodyPostM (FZ none) 0 P fn R) .normal [mrk D] L w:=fun a hF=>ZbL i hS (fun w' h a hF=>K w' h a hF) hi a hF
end
end Go.Proofs.Gw
namespace Go.Proofs.Gw
open Go Go.RowKit
section
variable {P:Program} {Q:Exit->Act->World->Prop} {w w' w0:World} {n:Nat} {L:List (Nat×Value)} {ds:List Deferred}
def ItG {St X Tt:Type} (P:Program) (w0:World) (gf:FuncId) (lb:List Value) (Sh:List Ent) (enc:X->List Value) (Gx:X->List Ent) (Pre:St->X->Frame->Prop) (Nx:St->X->St->Prop) (Sx:St->X->Tt->Prop) (s0:St) (Fin:St->Frame->Prop) (FinX:Tt->Frame->Prop):Prop:=
  ∀ (l:Nat) (C:St->Frame) (D:Tt->Frame) (w:World),Sat w0 w (.sem (C s0)::Sh)->
    (∀s x rest w,Pre s x rest->Sat w0 w (.sem (C s)::(Sh++(Gx x++ [.sem rest])))->Yld P l (enc x) w fun v w'=>
      (v= .bool true/\∃s',Nx s x s'/\Sat w0 w' (.sem (C s')::(Sh++ [.sem rest])))\/(v= .bool false/\∃t,Sx s x t/\Sat w0 w' (.sem (D t)::(Sh++ [.sem rest]))))->
    Calls P gf (.func (.yield l) #[] #[]::lb).toArray w fun e w'=>∃v,e= .returned v/\
      ((∃s rest,Fin s rest/\Sat w0 w' (.sem (C s)::(Sh++ [.sem rest])))\/(∃t rest,FinX t rest/\Sat w0 w' (.sem (D t)::(Sh++ [.sem rest]))))
theorem ZhY {St X Tt:Type} {gf:FuncId} {lb:List Value} {g:Operand} {ps:Array Tmp} {assign body:Code} {Sh:List Ent} {enc:X->List Value} {Gx:X->List Ent} {Pre:St->X->Frame->Prop} {Nx:St->X->St->Prop} {Sx:St->X->Tt->Prop} {Fin:St->Frame->Prop} {FinX:Tt->Frame->Prop}
    (C:St->List Ent) (D:Tt->List Ent) (jc:Tt->Code) (s0:St) (J:X->List (Nat×Value)->List Ent->Prop) (hit:ItG P w0 gf lb Sh enc Gx Pre Nx Sx s0 Fin FinX) (hS:Sat w0 w (C s0++Sh)) (hcl:Zb P gf=true)
    (hpl:∀x,(enc x).length=ps.size) (hjc:∀t,jc t= .ret\/∃id,jc t= .exit id)
    (hassign:∀l s x rest w,Pre s x rest->∀rest',(∀w,rest'.holds w->rest.holds w)->Sat w0 w (C s++(Sh++(.sem rest'::Gx x)))->Hc P (some l) n (Exit.then (fun a w'=>∃M es,J x M es/\Frd a n [] M/\Sat w0 w' (C s++(Sh++(.sem rest'::es)))) (fun _ _ _=>False)) assign [] (U9 ps.toList (enc x) L) w)
    (hbody:∀l s x M es rest w,Pre s x rest->J x M es->∀rest',(∀w,rest'.holds w->rest.holds w)->Sat w0 w (C s++(Sh++(.sem rest'::es)))->Hc P (some l) n (rdQ w0 C D jc Sh (Nx s x) (Sx s x) rest') body [] M w)
    (hdone:∀Dk s rest w',Fin s rest->Sat w0 w' (C s++(Sh++ [.sem rest,dfE Dk true]))->He n Q .normal (mrk Dk::ds) L w')
    (hstop:∀Dk t rest w',FinX t rest->Sat w0 w' (D t++(Sh++ [.sem rest,dfE Dk true]))->He n Q (ZbV (jc t)) (mrk Dk::ds) L w')
    (hg:evL L g=some (.func (.func gf) #[] lb.toArray):=by exact rfl) (hpb:(ps.toList.all fun t=>Nat.blt t n)=true:=by exact rfl):Hc P none n Q (.rangeFunc g ps assign body) ds L w:=by
  intro a hF
  refine wpIn_rangeFunc ?_
  intro fn hfn
  obtain⟨rec,hrec⟩:∃rec:LoopState->Option Code->Loop,rec=fun st pe=>{state:=st,pending:=pe,fn,tmps:=a.tmps,params:=ps,assign,body,defers:=w.heap.size}:=⟨_,rfl⟩
  obtain⟨W1,hW1⟩:∃W1,(w.alloc (.deferred (some []))).alloc (.loop (rec .ready none))=W1:=⟨_,rfl⟩
  obtain⟨l,hl⟩:∃l,w.heap.size+1=l:=⟨_,rfl⟩
  obtain⟨Dk,hDk⟩:∃Dk,w.heap.size=Dk:=⟨_,rfl⟩
  have hS1:Sat w0 W1 ((C s0++Sh)++ [dfE Dk true]++ [.sem (Frame.obj l (.loop (rec .ready none)))]):=by
    rw [<-hW1]
    refine(hS.alloc _ (e:=dfE Dk true) ?_ ?_).alloc _ (e:= .sem (Frame.obj l (.loop (rec .ready none)))) ?_ ?_
    · rw [<-hDk];exact heap_alloc_new w _
    · intro g hg;rw [<-hDk] at hg;exact hg
    · have:=heap_alloc_new (w.alloc (.deferred (some []))) (.loop (rec .ready none))
      rw [World.size_alloc,hl] at this;exact this
    · intro g hg;rw [World.size_alloc,hl];exact hg
  have eval:a.eval g= .func (.func gf) #[] lb.toArray:=hF.agr _ _ hg
  have hfun:∃fnn,P.funcs[gf]? =some fnn/\fnn.body.isSome=true/\(fnn.name== "runtime.NumGoroutine")=false:=by
    unfold Zb at hcl
    cases hf:P.funcs[gf]? with
    |none=>simp [hf] at hcl
    | some fnn=>
      simp only [hf,Bool.and_eq_true,Bool.not_eq_true'] at hcl
      exact⟨fnn,rfl,hcl.1,hcl.2⟩
  obtain⟨fnn,hf1,hf2,hf3⟩:=hfun
  have hf2':fnn.body≠none:=by intro e;rw [e] at hf2;simp at hf2
  have hf3':fnn.name≠ "runtime.NumGoroutine" :=by simpa using hf3
  let C':St->Frame:=fun s=>Frame.bun (C s++ [.sem (Frame.obj l (.loop (rec .ready none))),dfE Dk true])
  let D':Tt->Frame:=fun t=>Frame.bun (D t++ [.sem (Frame.obj l (.loop (rec .done (some (jc t))))),dfE Dk true])
  have hS2:Sat w0 W1 (.sem (C' s0)::Sh):=by
    have h1:Sat w0 W1 (Sh++(C s0++ [.sem (Frame.obj l (.loop (rec .ready none))),dfE Dk true])):=hS1.perm (Z3 fun f=>by simp only [List.map_append,List.map_cons,List.map_nil,List.sum_append,List.sum_cons,List.sum_nil];omega)
    have h2:=h1.bundle
    exact h2.perm List.perm_append_comm
  refine⟨l, [mrk Dk],W1,{target:= .fn (.func gf) lb.toArray,args:= #[.func (.yield l) #[] #[]]},W1,gf, #[.func (.yield l) #[] #[]]++lb.toArray,W1,?_,?_,?_,?_,fun h=>(by cases h),?_⟩
  · rw [<-hW1,hrec,<-hl,<-hDk];exact run_enterLoop_outer _ _ _ _ _
  · simp only [resolve,eval]
    simp [go_sem]
  · intro f' hf';trivial
  · simp [invoke,go_sem,callFunc,hf1,hf2',hf3']
  have eargs:(#[.func (.yield l) #[] #[]]++lb.toArray:Array Value)=(.func (.yield l) #[] #[]::lb).toArray:=by simp
  rw [eargs]
  refine XT ((hit l C' D' W1 hS2 ?_).mono ?_)
  ·
    intro s x rest W hpre hSW
    have h1:Sat w0 W (C s++(Sh++(Gx x++ [.sem rest,.sem (Frame.obj l (.loop (rec .ready none))),dfE Dk true]))):=by
      have:=Sat.unbun (l1:= []) hSW
      exact this.perm (Z3 fun f=>by simp only [List.map_append,List.map_cons,List.map_nil,List.sum_append,List.sum_cons,List.sum_nil];omega)
    have hlr:W.heap[l]? =some (.loop (rec .ready none)):=h1.holds (.sem (Frame.obj l (.loop (rec .ready none)))) (by simp)
    have hy:=run_yield (P:=P) (args:=(enc x).toArray) hlr (by rw [hrec];simp [hpl x])
    rw [hrec] at hy
    refine⟨fn,_,assign,body,hy,roundIn_of_wpIn trivial ?_⟩
    clear hy
    let r1:Frame:=Frame.bun [.sem rest,.sem (Frame.obj l (.loop (rec .ready none))),dfE Dk true]
    have h2:Sat w0 W (C s++(Sh++(.sem r1::Gx x))):=by
      have h1b:Sat w0 W ((C s++(Sh++Gx x))++ [.sem r1]):=by
        have h1c:Sat w0 W ((C s++(Sh++Gx x))++ [.sem rest,.sem (Frame.obj l (.loop (rec .ready none))),dfE Dk true]):=by
          rw [List.append_assoc,List.append_assoc];exact h1
        exact h1c.bundle
      exact h1b.perm (Z3 fun f=>by simp only [List.map_append,List.map_cons,List.map_nil,List.sum_append,List.sum_cons,List.sum_nil];omega)
    have hfr:Frd {tmps:=(ps.zip (enc x).toArray).foldl (fun t (p,v)=>t.setIfInBounds p v) a.tmps,defers:= []} n [] (U9 ps.toList (enc x) L):=by
      have:=U8 (a:=a) (n:=n) ps.toList (enc x) a.tmps (L:=L) ⟨hF.size,rfl,hF.get⟩ hpb
      have e:(ps.zip (enc x).toArray).foldl (fun t (p,v)=>t.setIfInBounds p v) a.tmps=(ps.toList.zip (enc x)).foldl (fun t (p:Nat×Value)=>t.setIfInBounds p.1 p.2) a.tmps:=by
        rw [<-Array.foldl_toList,Array.toList_zip]
      rw [e];exact this
    refine Go.wpIn_mono (hassign l s x rest W hpre r1 (fun w h=>h.1 (.sem rest) (by simp)) h2 _ hfr) ?_
    intro e a1 Wa hp
    cases e<;>try exact hp.elim
    obtain⟨M,es,hJ,hFM,hSa⟩:=hp
    have h3:Sat w0 Wa ((C s++(Sh++([.sem rest]++es))++ [dfE Dk true])++ .sem (Frame.obj l (.loop (rec .ready none))):: []):=by
      have:=Sat.unbun (l1:=C s++Sh) (l3:=es) (by rw [List.append_assoc];exact hSa)
      exact this.perm (Z3 fun f=>by simp only [List.map_append,List.map_cons,List.map_nil,List.sum_append,List.sum_cons,List.sum_nil];omega)
    have hlr:Wa.heap[l]? =some (.loop (rec .ready none)):=h3.get
    refine⟨_,run_beginRound hlr (by rw [hrec]),?_⟩
    have h4:=h3.putObj (o':= .loop {rec .ready none with state:= .busy})
    let r2:Frame:=Frame.bun [.sem rest,.sem (Frame.obj l (.loop {rec .ready none with state:= .busy})),dfE Dk true]
    have h5:Sat w0 (Wa.putObj l (.loop {rec .ready none with state:= .busy})) (C s++(Sh++(.sem r2::es))):=by
      have h:Sat w0 (Wa.putObj l (.loop {rec .ready none with state:= .busy})) ((C s++(Sh++es))++ [.sem rest,.sem (Frame.obj l (.loop {rec .ready none with state:= .busy})),dfE Dk true]):=by
        exact h4.perm (Z3 fun f=>by simp only [List.map_append,List.map_cons,List.map_nil,List.sum_append,List.sum_cons,List.sum_nil];omega)
      have hb:Sat w0 (Wa.putObj l (.loop {rec .ready none with state:= .busy})) ((C s++(Sh++es))++ [.sem r2]):=h.bundle
      exact hb.perm (Z3 fun f=>by simp only [List.map_append,List.map_cons,List.map_nil,List.sum_append,List.sum_cons,List.sum_nil];omega)
    refine Go.wpIn_mono (hbody l s x M es rest _ hpre hJ r2 (fun w h=>h.1 (.sem rest) (by simp)) h5 _ hFM) ?_
    have fin:∀(jump:Option Code) (A:List Ent) (W3:World),Sat w0 W3 (A++(Sh++ [.sem r2]))->
        (Instr.endRound l jump).run P W3= .ok (.bool jump.isNone) (W3.putObj l (.loop (rec (if jump.isNone then .ready else .done) jump)))/\
        Sat w0 (W3.putObj l (.loop (rec (if jump.isNone then .ready else .done) jump))) (.sem (Frame.bun (A++ [.sem (Frame.obj l (.loop (rec (if jump.isNone then .ready else .done) jump))),dfE Dk true]))::(Sh++ [.sem rest])):=fun jump A W3 hA=>by
      have h6:Sat w0 W3 ((Sh++ [.sem rest]++(A++ [dfE Dk true]))++ .sem (Frame.obj l (.loop {rec .ready none with state:= .busy})):: []):=by
        have:=Sat.unbun (l1:=A++Sh) (l3:= []) (by rw [List.append_assoc];exact hA)
        exact this.perm (Z3 fun f=>by simp only [List.map_append,List.map_cons,List.map_nil,List.sum_append,List.sum_cons,List.sum_nil];omega)
      have hlb:W3.heap[l]? =some (.loop {rec .ready none with state:= .busy}):=h6.get
      have hr:=run_endRound (P:=P) jump hlb
      have h7:=h6.putObj (o':= .loop (rec (if jump.isNone then .ready else .done) jump))
      refine⟨by rw [hrec] at hr⊢;exact hr,?_⟩
      have h8:Sat w0 (W3.putObj l (.loop (rec (if jump.isNone then .ready else .done) jump))) ((Sh++ [.sem rest])++(A++ [.sem (Frame.obj l (.loop (rec (if jump.isNone then .ready else .done) jump))),dfE Dk true])):=by
        exact h7.perm (Z3 fun f=>by simp only [List.map_append,List.map_cons,List.map_nil,List.sum_append,List.sum_cons,List.sum_nil];omega)
      exact h8.bundle.perm List.perm_append_comm
    intro e a3 W3 hp
    cases e with
    | normal=>
      obtain⟨s',hn,hA⟩:=hp
      obtain⟨hr,h6⟩:=fin none _ _ hA
      exact⟨_,_,hr,_,rfl,.inl ⟨rfl,s',hn,h6⟩⟩
    | ret=>
      obtain⟨t,hn,hj,hA⟩:=hp
      obtain⟨hr,h6⟩:=fin (some .ret) _ _ hA
      refine⟨_,_,hr,_,rfl,.inr ⟨rfl,t,hn,?_⟩⟩
      simp only [D',hj];exact h6
    | exit id=>
      obtain⟨t,hn,hj,hA⟩:=hp
      obtain⟨hr,h6⟩:=fin (some (.exit id)) _ _ hA
      refine⟨_,_,hr,_,rfl,.inr ⟨rfl,t,hn,?_⟩⟩
      simp only [D',hj];exact h6
    |goto t=>exact hp.elim
    |panic ch=>exact hp.elim
    |outgrown=>exact hp.elim
  ·
    have out:∀(st:LoopState) (pe:Option Code) (A:List Ent) (rest:Frame) (W2:World),st≠ .busy->Sat w0 W2 (.sem (Frame.bun (A++ [.sem (Frame.obj l (.loop (rec st pe))),dfE Dk true]))::(Sh++ [.sem rest]))->
        (Instr.endLoop l).run P W2= .ok pe (W2.putObj l (.loop {rec st pe with state:= .exhausted}))/\Sat w0 (W2.putObj l (.loop {rec st pe with state:= .exhausted})) (A++(Sh++ [.sem rest,dfE Dk true])):=fun st pe A rest W2 hst h=>by
      have h1:=Sat.unbun (l1:= []) h
      have h2:Sat w0 W2 ((A++(Sh++ [.sem rest,dfE Dk true]))++ .sem (Frame.obj l (.loop (rec st pe))):: []):=by
        exact h1.perm (Z3 fun f=>by simp only [List.map_append,List.map_cons,List.map_nil,List.sum_append,List.sum_cons,List.sum_nil];omega)
      have hl:W2.heap[l]? =some (.loop (rec st pe)):=h2.get
      have h3:=h2.putObj (o':= .loop {rec st pe with state:= .exhausted})
      refine⟨?_,h3.sub (List.sublist_append_left _ _)⟩
      have:=run_endLoop (P:=P) hl (by rw [hrec];exact hst)
      rw [hrec] at this⊢;exact this
    rintro e W2 ⟨v,rfl,h⟩
    have hF':∀{L'},Frd a n ds L'->Frd {a with defers:= [mrk Dk]++a.defers} n (mrk Dk::ds) L':=fun h=>⟨h.size,by rw [<-h.defers];rfl,h.get⟩
    rcases h with⟨s,rest,hfin,h⟩|⟨t,rest,hfin,h⟩
    · obtain⟨h1,h2⟩:=out .ready none _ rest W2 (by simp) h
      exact⟨none,_,h1,hdone Dk s rest _ hfin h2 _ (hF' hF)⟩
    · obtain⟨h1,h2⟩:=out .done (some (jc t)) _ rest W2 (by simp) h
      refine⟨some (jc t),_,h1,?_⟩
      have h3:=hstop Dk t rest _ hfin h2 _ (hF' hF)
      rcases hjc t with hj|⟨id,hj⟩
      · rw [hj] at h3⊢;exact wpIn_ret h3
      · rw [hj] at h3⊢;exact wpIn_exit h3
end
end Go.Proofs.Gw
namespace Go.Proofs.Gw
open Go Go.RowKit
section
variable {P:Program} {L:List (Nat×Value)} {w w0:World} {o:Oper} {x y z:Operand} {T T':TypeId} {l:List Ent} {E:TypeId}
theorem Vr{n:Int}{zv z0 z1:Value}{b:Nat}(ho:o.op= .call {callee:= .builtin .append,args:= #[x,y],argTypes:= #[T,T']})(ht:ZB P T=some (E,2))(hk:P.underlying T'=some (.int .i64))(he:ZP P E=some (zv,2,b))(hz:zv.cells= #[z0,z1])(hb0:1<=b)
    (hx:evL L x=some (.slice none 0 0)) (hy:evL L y=some (.int .i64 n)) (h1:1<=n) (hb:b*n<=140737488355328) (hS:Sat w0 w l):
    ∃u w',Runs P L w o (.value u) w'/\Sat w0 w' (l++ [.own u 2 E n (fun k=>if k%2=0 then z0 else z1)])/\Slh u n:=by
  obtain⟨hut,_⟩:=ZT ht
  obtain⟨i,hi,hzz,hsz,hby⟩:=Xj he
  have hle:n<=b*n:=by
    have:=Int.mul_le_mul_of_nonneg_right (show(1:Int)<=b by omega) (show 0<=n by omega)
    omega
  have hw:IntKind.i64.wrap n=n:=by rw [IntKind.wrap_i64];omega
  have h48:¬(281474976710656<n*(i.bytes:Int)):=by rw [hby,Int.mul_comm];omega
  have hn0:¬n<0:=by omega
  have hbn:((n.toNat*i.bytes:Nat):Int)=b*n:=by rw [Int.natCast_mul,hby,Int.toNat_of_nonneg (by omega),Int.mul_comm]
  have hcap:¬(281474976710656<Builtin.nextslicecap n.toNat 0*i.bytes):=by rw [nextslicecap_zero (by omega)];omega
  have h63:¬(9223372036854775807<(n.toNat:Int)):=by omega
  have hnz:¬n.toNat=0:=by omega
  have hnz2:¬n.toNat*i.size=0:=by rw [hsz];omega
  have hr:∀ty,(Builtin.append_ #[T,T'] ty #[.slice none 0 0,.int .i64 n]).run P w= .ok (.slice (some ⟨w.heap.size,0,none⟩) n.toNat (grownCap w n.toNat 0 E)) (w.drew.alloc (.cells (Builtin.zeroCells zv.cells n.toNat++Builtin.zeroCells zv.cells (grownCap w n.toNat 0 E-n.toNat)) E)):=fun ty=>by
    simp [Builtin.append_,run_underlying hut,run_underlying hk,sizeOf,typeInfo,zeroValue,hi,hzz,asInt,asIntOf,hw,hn0,h48,hnz,hcap,h63,Question.forced,newRow,grownCap,Builtin.firstCells,hnz2]
    rw [if_neg (by omega),if_neg (by omega)]
  have hge:=grownCap_ge w n.toNat 0 E
  have hmx:=grownCap_le_maxLen w n.toNat 0 E (by unfold maxLen;omega)
  have hE:(Ent.own (.slice (some ⟨w.heap.size,0,none⟩) n.toNat (grownCap w n.toNat 0 E)) 2 E n (fun k=>if k%2=0 then z0 else z1)).holds (w.drew.alloc (.cells (Builtin.zeroCells zv.cells n.toNat++Builtin.zeroCells zv.cells (grownCap w n.toNat 0 E-n.toNat)) E)):=by
    refine⟨by omega,by omega,.inr ⟨_,_,_,rfl,by have:=heap_alloc_new w.drew (.cells (Builtin.zeroCells zv.cells n.toNat++Builtin.zeroCells zv.cells (grownCap w n.toNat 0 E-n.toNat)) E);simpa using this,hge,hmx,?_,fun k hk=> ?_⟩⟩
    · simp [Builtin.zeroCells,hz];omega
    · have hk2:k<n.toNat*2:=by omega
      rw [Array.getElem?_append_left (by simp [Builtin.zeroCells,hz];omega)]
      rcases Nat.mod_two_eq_zero_or_one k with hm|hm
      · simp [Builtin.zeroCells,hz,hk2,hm];intro hh;omega
      · simp [Builtin.zeroCells,hz,hk2,hm];intro hh;omega
  refine⟨_,_,fun ρ h=> ?_,hS.draw.alloc _ hE (fun g hg=>by simp [Ent.has,Value.ownBlock] at hg;simp [hg]),hE.row.slh⟩
  simp [execOp,ho,resolve,invoke,builtin,h _ _ hx,h _ _ hy,hr]
end
theorem RR(p q:Int->Value)(c d:Int->Int)(n:Int):cat (n*2) (Zc p c) (Zc q d)=Zc (cat n p q) (cat n c d):=by
  funext k
  unfold cat Zc
  by_cases h:k<n*2
  · have h2:k/2<n:=by omega
    simp only [if_pos h,if_pos h2]
  · have h2:¬k/2<n:=by omega
    have h3:(k-n*2)/2=k/2-n:=by omega
    have h4:(k-n*2)%2=k%2:=by omega
    simp only [if_neg h,if_neg h2,h3,h4]
end Go.Proofs.Gw
namespace Go.Proofs.YtopmifmfecfaaaaGreat
open Go Go.RowKit Go.Proofs.Gw
theorem Zgi:Zb Tryz.prog 101=true:=by kernel_rfl
theorem Zgh:Zb Tryz.prog 102=true:=by kernel_rfl
theorem Zgg:Zb Tryz.prog 103=true:=by kernel_rfl
theorem Zgf:Zb Tryz.prog 105=true:=by kernel_rfl
theorem Zge:Zb Tryz.prog 106=true:=by kernel_rfl
theorem ZfR:Zb Tryz.prog 143=true:=by kernel_rfl
theorem cl_145:Zb Tryz.prog 145=true:=by kernel_rfl
theorem ZfQ:Zb Tryz.prog 146=true:=by kernel_rfl
theorem ZfP:Zb Tryz.prog 147=true:=by kernel_rfl
theorem ZfB:Zb Tryz.prog 166=true:=by kernel_rfl
theorem Zal:Zb Tryz.prog 64=true:=by kernel_rfl
theorem Zer:ZP Tryz.prog 60=some (.slice none 0 0,1,24):=by kernel_rfl
theorem pl_168:ZN Tryz.prog 168=true:=by kernel_rfl
theorem pl_60:ZN Tryz.prog 60=true:=by kernel_rfl
theorem VM:ZB Tryz.prog 157=some (60,1):=by kernel_rfl
set_option maxRecDepth 20000 in
theorem ZgI{vL vD:Value}{p:Prob}{gp:Nat}{vB:Value}{m b:Int}{g:Int->Int}(w0:World)(hG:(Ent.blk gp [vL,vD,.int .i64 p.stock,.int .i64 p.kerf]).holds w0)(h:PAt w0 vL vD p)(hB:Row w0 vB 1 m (ints g)):
    Calls Tryz.prog 143 [.agg #[vB,.int .i64 b],.pointer (some ⟨gp,0,none⟩)].toArray w0 fun e w=>∃v,e= .returned v/\v=B (¬(1<=b/\b<=1000/\FitsP p m g))/\Sat w0 w []:=by
  refine Zj Tryz.func143 Tryz.ntmps143 fun w hS=> ?_
  refine zsr ?_
  refine zla (xbx (cs:= [_,_]) hS) ?_;rintro _ w ⟨g1,rfl,hS⟩
  replace hS:=hS.n1
  refine zlv xas ?_
  refine zlz ?_
  refine zlv (xfb 1 fd_111_1) ?_
  refine zlv (xlb 0 pl_3 hS) ?_
  refine zs2 ?_
  refine zlb 7 ?_ ?_<;>intro hc;rotate_left
  refine zlv (xfb 1 fd_111_1) ?_
  refine zlv (xlb 0 pl_3 hS) ?_
  refine zs3 ?_
  refine zlb 12 ?_ ?_<;>intro hc;rotate_left
  refine zlv (xlfs st_35 hG hS) ?_
  refine zlv (xfb 0 fd_111_0) ?_
  refine zlv (xlb 0 pl_22 hS) ?_
  refine zlc (xc0 cl_144) (c_pfits (p:=p) w (h.below hS.below) (hB.below hS.below)) ?_;rintro _ w ⟨rfl,hS'⟩
  replace hS:=hS.cmp hS';clear hS'
  refine zs3 ?_
  refine zx1<|zf1 ⟨_,rfl,?_⟩
  exact⟨Zq ⟨fun h1 hh=>h1 hh.2.2,fun h1 hh=>h1 ⟨by omega,by omega,hh⟩⟩,hS.nl⟩
  all_goals
   refine YC ?_
   refine zx1<|zf1 ⟨_,rfl,?_⟩
   exact⟨ZU (by rintro⟨h1,h2,h3⟩;first|omega|exact absurd h3 ‹_›),hS.nl⟩
set_option maxRecDepth 20000 in
theorem Zea{vV:Value}{u:Int}{pv:Int->Value}{ln:Int->Int}{pt:Int->Int->Int}{cnt:Int->Int}{vL vD:Value}{p:Prob}{gp:Nat}(w0:World)(hV:VAt w0 vV u pv ln pt cnt)(hG:(Ent.blk gp [vL,vD,.int .i64 p.stock,.int .i64 p.kerf]).holds w0)(h:PAt w0 vL vD p):
    Calls Tryz.prog 133 [vV,.func (.func 143) #[] #[.pointer (some ⟨gp,0,none⟩)]].toArray w0 fun e w=>∃v,e= .returned v/\∃r:Int,v= .int .i64 r/\((r= -1/\∀k,0<=k->k<u->¬(¬(1<=(cnt k)/\(cnt k)<=1000/\FitsP p (ln k) (pt k))))\/(0<=r/\r<u/\(¬(1<=(cnt r)/\(cnt r)<=1000/\FitsP p (ln r) (pt r)))/\∀k,0<=k->k<r->¬(¬(1<=(cnt k)/\(cnt k)<=1000/\FitsP p (ln k) (pt k)))))/\Sat w0 w []:=by
  have hn:=hV.row.slh.n0;have hn1:=hV.row.slh.n1
  refine Zj Tryz.func133 Tryz.ntmps133 fun w hS=> ?_
  refine zsr ?_
  refine zlv xas ?_
  refine zx5 ?_
  refine zlv xmv ?_
  refine zlv (xln sl_60 hV.row.slh) ?_
  refine zlv xmv ?_
  refine zx6<|zlp (fun mm M w=>∃(i:Int),mm=((u-i).toNat)/\(0<=i)/\(i<=u)/\(∀k,0<=k->k<i->¬(¬(1<=(cnt k)/\(cnt k)<=1000/\FitsP p (ln k) (pt k))))/\M= [(0,vV),(1,.func (.func 143) #[] #[.pointer (some ⟨gp,0,none⟩)]),(7,.int .i64 u),(8,.int .i64 i)]/\Sat w0 w []) ⟨0,rfl,(by omega),(by omega),?_,rfl,hS⟩ ?_
  ·
   intro k h0 h1;omega
  clear hS w
  rintro mm M w ⟨i,rfl,h0,h1,hall,rfl,hS⟩
  refine zsr ?_
  refine zlv xlss ?_
  refine zx7 ?_
  refine zcif ?_ ?_<;>intro hc
  ·
   refine zx3 ?_
   refine zs2 ?_
   refine zlz ?_
   refine zs3 ?_
   refine zlv (xix (kk:=2*i) sl_60 hV.row.slh) ?_
   refine zlv (xlw (cs:= [(pv i),.int .i64 (cnt i)]) Zw (hV.row.below hS.below) (Zr (k:=2*i) (i:=i) pv cnt (by omega))) ?_
   refine zlc (xcc (vs:= [_]) ZfR) (ZgI (p:=p) (m:=(ln i)) (g:=(pt i)) w (Sat.oldblk hS hG) (h.below hS.below) ((hV.p i (by omega) (by omega)).below hS.below)) ?_;rintro _ w ⟨rfl,hS'⟩
   replace hS:=hS.cmp hS';clear hS'
   refine zlt ?_
   refine zcif ?_ ?_<;>intro hc
   ·
    refine zsr ?_
    refine zs2 ?_
    refine zx2<|zf1 ⟨_,rfl,?_⟩
    exact⟨i,rfl,.inr ⟨by omega,by omega,‹¬(1<=(cnt i)/\(cnt i)<=1000/\FitsP p (ln i) (pt i))›,hall⟩,hS⟩
   refine zx4 ?_
   refine zlv (xadd (r:=i+1)) ?_
   refine zlv xmv ?_
   refine zln<|zlq ⟨i+1,rfl,(by omega),(by omega),?_,rfl,hS⟩
   ·
    intro k h0' h1';rcases Int.lt_or_eq_of_le (show k<=i by omega) with hk|hk;exact hall k h0' hk;rw [hk];assumption
  refine zx8 ?_
  refine zlv xas ?_
  refine zx1<|zf1 ⟨_,rfl,?_⟩
  exact⟨-1,rfl,.inl ⟨rfl,fun k h0 h1=>hall k h0 (by omega)⟩,hS⟩
set_option maxRecDepth 20000 in
theorem c_cobad{vV:Value}{u:Int}{pv:Int->Value}{ln:Int->Int}{pt:Int->Int->Int}{cnt:Int->Int}{vL vD:Value}{p:Prob}{gp:Nat}(w0:World)(hV:VAt w0 vV u pv ln pt cnt)(hG:(Ent.blk gp [vL,vD,.int .i64 p.stock,.int .i64 p.kerf]).holds w0)(h:PAt w0 vL vD p):
    Calls Tryz.prog 145 [vV,.func (.func 143) #[] #[.pointer (some ⟨gp,0,none⟩)]].toArray w0 fun e w=>∃v,e= .returned v/\v=B (∃k,0<=k/\k<u/\¬(1<=(cnt k)/\(cnt k)<=1000/\FitsP p (ln k) (pt k)))/\Sat w0 w []:=by
  refine Zj Tryz.func145 Tryz.ntmps145 fun w hS=> ?_
  refine zsr ?_
  refine zlv xas ?_
  refine zlz ?_
  refine zs2 ?_
  refine zlc (xc0 Kx) (Zea (u:=u) (pv:=pv) (ln:=ln) (pt:=pt) (cnt:=cnt) (p:=p) w (hV.below hS.below) (Sat.oldblk hS hG) (h.below hS.below)) ?_;rintro _ w ⟨r1,rfl,hr1,hS'⟩
  replace hS:=hS.cmp hS';clear hS'
  refine zs2 ?_
  refine zx1<|zf1 ⟨_,rfl,?_⟩
  exact⟨Zq (by
   rcases hr1 with⟨h1,h2⟩|⟨h1,h2,h3,_⟩
   · exact⟨fun h=>by omega,fun⟨k,h4,h5,h6⟩=>absurd h6 (h2 k h4 h5)⟩
   · exact⟨fun _=>⟨_,h1,h2,h3⟩,fun _=>h1⟩),hS⟩
def PlanOk(p:Prob)(u:Int)(ln:Int->Int)(pt:Int->Int->Int)(cnt:Int->Int):Prop:=p.Ok/\u<=1000/\∀k,0<=k->k<u->1<=cnt k/\cnt k<=1000/\FitsP p (ln k) (pt k)
def ZC(u:Int)(pt:Int->Int->Int)(cnt:Int->Int):Int->Int:=fun j=>psum (fun k=>pt k j) cnt u.toNat
theorem Ts{p:Prob}{u:Int}{ln cnt:Int->Int}{pt:Int->Int->Int}:¬(∃k,0<=k/\k<u/\¬(1<=cnt k/\cnt k<=1000/\FitsP p (ln k) (pt k)))↔∀k,0<=k->k<u->1<=cnt k/\cnt k<=1000/\FitsP p (ln k) (pt k):=
  ⟨fun h k k0 k1=>Classical.not_not.1 fun hn=>h ⟨k,k0,k1,hn⟩,fun h ⟨k,k0,k1,hn⟩=>hn (h k k0 k1)⟩
theorem XE{pt:Int->Int->Int}{cnt:Int->Int}{i j:Int}(i0:0<=i):ZC (i+1) pt cnt j=ZC i pt cnt j+pt i j*cnt i:=Yu _ _ i0
theorem Xs{a b A B:Int}(a0:0<=a)(a1:a<=A)(b0:0<=b)(b1:b<=B):0<=a*b/\a*b<=A*B:=
  ⟨Int.mul_nonneg a0 b0,Int.mul_le_mul a1 b1 b0 (by omega)⟩
theorem Xt{p:Prob}{u:Int}{ln cnt:Int->Int}{pt:Int->Int->Int}(h:∀k,0<=k->k<u->1<=cnt k/\cnt k<=1000/\FitsP p (ln k) (pt k)):∀{i:Int},0<=i->i<=u->∀{j:Int},0<=j->j<p.m->0<=ZC i pt cnt j/\ZC i pt cnt j<=2000000*i:=by
  intro i i0
  obtain⟨n,rfl⟩:=Int.eq_ofNat_of_zero_le i0
  induction n with
  |zero=>intro _ j _ _;exact⟨Int.le_refl _,by show(0:Int)<=_;omega⟩
  | succ n ih=>
    intro hi j j0 j1
    have h1:=ih (by omega) (by omega) j0 j1
    obtain⟨h2,h3,h4⟩:=h n (by omega) (by omega)
    have h5:=h4.all j j0 (by have:=h4.eq;omega)
    have h6:=Xs h5.1 h5.2 (show 0<=cnt n by omega) h3
    have h7:=XE (pt:=pt) (cnt:=cnt) (i:=(n:Int)) (j:=j) (by omega)
    rw [show((n+1:Nat):Int)=(n:Int)+1 by omega,h7];omega
set_option maxRecDepth 20000 in
theorem ZcJ{vV:Value}{u:Int}{pv:Int->Value}{ln:Int->Int}{pt:Int->Int->Int}{cnt:Int->Int}{vL vD:Value}{p:Prob}(w0:World)(hV:VAt w0 vV u pv ln pt cnt)(h:PAt w0 vL vD p):
    Calls Tryz.prog 101 [.agg #[vL,vD,.int .i64 p.stock,.int .i64 p.kerf],vV].toArray w0 fun e w=>∃v,e= .returned v/\v=B (PlanOk p u ln pt cnt)/\Sat w0 w []:=by
  have hm:=h.L.slh.n0;have hm1:=h.L.slh.n1;have hd:=h.D.slh.n0;have hd1:=h.D.slh.n1;have hs:=h.is;have hk:=h.ik
  have hu:=hV.row.slh.n0;have hu1:=hV.row.slh.n1
  refine Zj Tryz.func101 Tryz.ntmps101 fun w hS=> ?_
  refine zsr ?_
  refine zla (xbx (cs:= [_,_,_,_]) hS) ?_;rintro _ w ⟨g1,rfl,hS⟩
  replace hS:=hS.n1
  refine zlv xas ?_
  refine zlz ?_
  refine zlv xmf ?_
  refine zlv xas ?_
  refine zlz ?_
  refine zlv (xls 0 st_35 hS) ?_
  refine zlc (xc0 Vp) (YP (p:=p) w (h.below hS.below)) ?_;rintro _ w ⟨rfl,hS'⟩
  replace hS:=hS.cmp hS';clear hS'
  refine zlv xmv ?_
  refine zlb 9 ?_ ?_<;>intro hc
  ·
   refine zlv xmv ?_
   refine zlv (xln sl_60 hV.row.slh) ?_
   refine zs3 ?_
   refine zlb 14 ?_ ?_<;>intro hc
   ·
    refine zs2 ?_
    refine zlc (xc0 cl_145) (c_cobad (u:=u) (pv:=pv) (ln:=ln) (pt:=pt) (cnt:=cnt) (p:=p) w (hV.below hS.below) (hS.holds _ (List.mem_of_getElem? (i:=0) rfl)) (h.below hS.below)) ?_;rintro _ w ⟨rfl,hS'⟩
    replace hS:=hS.cmp hS';clear hS'
    refine zs3 ?_
    refine zx1<|zf1 ⟨_,rfl,?_⟩
    exact⟨Zq ⟨fun hh=>⟨by first|assumption|exact Classical.not_not.1 ‹_›,by omega,Ts.1 hh⟩,fun hh=>Ts.2 hh.2.2⟩,hS.nl⟩
   iterate 4 refine zlo ?_
   refine zs2 ?_
   refine zx1<|zf1 ⟨_,rfl,?_⟩
   exact⟨Zf (by rintro⟨h1,h2,h3⟩;first|exact absurd h1 ‹_›|omega|exact absurd (Ts.2 h3) ‹_›),hS.nl⟩
  iterate 3 refine zlo ?_
  refine zs2 ?_
  iterate 4 refine zlo ?_
  refine zs2 ?_
  refine zx1<|zf1 ⟨_,rfl,?_⟩
  exact⟨Zf (by rintro⟨h1,h2,h3⟩;first|exact absurd h1 ‹_›|omega|exact absurd (Ts.2 h3) ‹_›),hS.nl⟩
set_option maxHeartbeats 4000000 in
set_option maxRecDepth 20000 in
theorem Vz{vV:Value}{u:Int}{pv:Int->Value}{ln:Int->Int}{pt:Int->Int->Int}{cnt:Int->Int}{vL vD:Value}{p:Prob}(w0:World)(hV:VAt w0 vV u pv ln pt cnt)(h:PAt w0 vL vD p):
    Calls Tryz.prog 64 [.agg #[vL,vD,.int .i64 p.stock,.int .i64 p.kerf],vV].toArray w0 fun e w=>∃v,e= .returned v/\∃r n f e,v= .tuple #[r,.int .i64 e]/\((¬PlanOk p u ln pt cnt/\n=0/\e=1)\/(PlanOk p u ln pt cnt/\n=p.m/\f=ZC u pt cnt/\e=0))/\Slh r n/\Sat w0 w [.own r 1 3 n (ints f)]:=by
  have hm:=h.L.slh.n0;have hm1:=h.L.slh.n1;have hd:=h.D.slh.n0;have hd1:=h.D.slh.n1;have hs:=h.is;have hk:=h.ik
  have hu:=hV.row.slh.n0;have hu1:=hV.row.slh.n1
  refine Zj Tryz.func64 Tryz.ntmps64 fun w hS=> ?_
  refine zsr ?_
  refine zla (xbx (cs:= [_,_,_,_]) hS) ?_;rintro _ w ⟨g1,rfl,hS⟩
  replace hS:=hS.n1
  refine zs2 ?_
  refine zx5 ?_
  refine zlv (xls 0 st_35 hS) ?_
  refine zlv xmv ?_
  refine zlc (xc0 Zgi) (ZcJ (u:=u) (pv:=pv) (ln:=ln) (pt:=pt) (cnt:=cnt) (p:=p) w (hV.below hS.below) (h.below hS.below)) ?_;rintro _ w ⟨rfl,hS'⟩
  replace hS:=hS.cmp hS';clear hS'
  refine zlv ZX ?_
  refine zlt ?_
  refine zcif ?_ ?_<;>intro hc
  ·
   refine zsr ?_
   refine zs2 ?_
   refine zx14<|zf2 ⟨_,rfl,?_⟩
   exact⟨_,0,fun _=>0,1,rfl,.inl ⟨‹¬PlanOk p u ln pt cnt›,rfl,rfl⟩,slh_nil,(hS.sub (.cons _ .slnil)).addnil 1 3 (ints fun _=>0)⟩
  refine ZR ?_
  refine zlv (xfb 0 fd_35_0) ?_
  have hplo:PlanOk p u ln pt cnt:=by first|assumption|exact Classical.not_not.1 ‹_›
  have hpm1:=hplo.1.m1;have hpm2:=hplo.1.m2;have hu3:=hplo.2.1
  refine zlv (xlb 0 pl_22 hS) ?_
  refine zlv (xln sl_22 h.L.slh) ?_
  refine zla (xmk sl_22 el_3 hS) ?_;rintro v1 w ⟨hS,hv1⟩
  replace hS:=hS.n2
  refine zlv xas ?_
  refine zx5 ?_
  refine zlv xmv ?_
  refine zlv (xln sl_60 hV.row.slh) ?_
  refine zlv xmv ?_
  refine zx6<|zlp (fun mm M w=>∃(f:Int->Int) (i:Int),mm=((u-i).toNat)/\(0<=i)/\(i<=u)/\(∀k,0<=k->k<p.m->f k=ZC i pt cnt k)/\M= [(4,.slice none 0 0),(5,.int .i64 0),(6,v1),(19,vV),(20,.int .i64 u),(21,.int .i64 i)]/\Sat w0 w [.blk g1 [vL,vD,.int .i64 p.stock,.int .i64 p.kerf],.own v1 1 3 p.m (ints f)]) ⟨(fun _=>0),0,rfl,(by omega),(by omega),?_,rfl,hS⟩ ?_
  ·
   intro k _ _;rfl
  clear hS w
  rintro mm M w ⟨f,i,rfl,h0,h1,hf,rfl,hS⟩
  refine zsr ?_
  refine zlv xlss ?_
  refine zx7 ?_
  refine zcif ?_ ?_<;>intro hc
  ·
   refine zx3 ?_
   refine zlv (xix (kk:=2*i) sl_60 hV.row.slh) ?_
   refine zlv (xlw (cs:= [(pv i),.int .i64 (cnt i)]) Zw (hV.row.below hS.below) (Zr (k:=2*i) (i:=i) pv cnt (by omega))) ?_
   obtain⟨hq1,hq2,hq3⟩:=hplo.2.2 i h0 (by omega)
   have hq4:=hq3.eq
   refine zla (xal (cs:= [_,_]) Yl hS) ?_;rintro _ w ⟨g2,rfl,hS⟩
   replace hS:=hS.n3
   refine zle (xsw 2 Zw hS (hd:=(Za (hV.p i (by omega) (by omega)).slh.one (Za rfl Zd)))) ?_;clear hS;rintro w hS
   replace hS:=hS.n3
   refine zlz ?_
   refine zlv (xfb 0 fd_111_0) ?_
   refine zlv (xlb 2 pl_22 hS) ?_
   refine zlv (xln sl_22 (hV.p i (by omega) (by omega)).slh) ?_
   refine zlv xmv ?_
   refine zx6<|zlp (fun mm M w=>∃(f2:Int->Int) (j:Int),mm=((ln i-j).toNat)/\(0<=j)/\(j<=ln i)/\(∀k,0<=k->k<p.m->f2 k=(if k<j then ZC (i+1) pt cnt k else ZC i pt cnt k))/\M= [(4,.slice none 0 0),(5,.int .i64 0),(6,v1),(8,.pointer (some ⟨g2,0,none⟩)),(19,vV),(20,.int .i64 u),(21,.int .i64 i),(26,(pv i)),(27,.int .i64 (ln i)),(28,.int .i64 j)]/\Sat w0 w [.blk g1 [vL,vD,.int .i64 p.stock,.int .i64 p.kerf],.own v1 1 3 p.m (ints f2),.blk g2 [(pv i),.int .i64 (cnt i)]]) ⟨f,0,rfl,(by omega),(by omega),?_,rfl,hS⟩ ?_
   ·
    intro k k0 k1;rw [if_neg (by omega)];exact hf k k0 k1
   clear hS w
   rintro mm M w ⟨f2,j,rfl,j0,j1,hf2,rfl,hS⟩
   refine zsr ?_
   refine zlv xlss ?_
   refine zx7 ?_
   refine zcif ?_ ?_<;>intro hc
   ·
    refine zx3 ?_
    refine zlv xmv ?_
    refine zlv (xix (kk:=j) sl_22 (hV.p i (by omega) (by omega)).slh) ?_
    refine zlv (xlr (u:= .int .i64 ((pt i) j)) pl_3 ((hV.p i (by omega) (by omega)).below hS.below)) ?_
    have hpj:=hq3.all j j0 (by omega)
    have hmr:=Xt hplo.2.2 h0 (by omega) (j:=j) j0 (by omega)
    have hfj:=hf2 j j0 (by omega)
    rw [if_neg (by omega)] at hfj
    have hmj:=Xs hpj.1 hpj.2 (show 0<=cnt i by omega) hq2
    refine zs2 ?_
    refine zlt ?_
    refine zdst [0,1,2] [0,2] 10 mx_ hS ?_;clear hS;intro w hS
    refine zDrv 0 xmv ?_
    refine zDrv 1 xmv ?_
    refine zDrv 2 (xix (kk:=j) sl_22 hv1) ?_
    refine zdl 3 (fun w hS=>(xlr (u:= .int .i64 (f2 j)) pl_3 (hS.rowN 1 rfl))) ?_
    refine zDrv 4 xmv ?_
    refine zDrv 5 (xfb 1 fd_111_1) ?_
    refine zdla 6 (fun w hS=>(xlb 1 pl_3 hS)) ?_
    refine zdv 7 (fun _=>(xmul (r:=(((pt i) j)*(cnt i))) (e:=rfl))) ?_
    refine zdv 8 (fun _=>(xadd (r:=f2 j+(((pt i) j)*(cnt i))))) ?_
    refine zDrv 9 (xix (kk:=j) sl_22 hv1) ?_
    refine zde 10 (xso 1 pl_3 hS (Zs _ _ _)) ?_;clear hS;rintro w hS
    replace hS:=hS.n3
    refine⟨⟨fun h=>absurd h (by decide),hS.pk [0,2]⟩,?_⟩
    refine zdd<|zbn<|ztn<|zrg ?_
    refine zlv (xadd (r:=j+1)) ?_
    refine zlv xmv ?_
    refine zln<|zlq ⟨(upd f2 j (f2 j+(((pt i) j)*(cnt i)))),j+1,rfl,(by omega),(by omega),?_,rfl,hS⟩
    ·
     intro k k0 k1;unfold upd;by_cases e:k=j
     · rw [if_pos e,if_pos (by omega),e,XE h0];omega
     · rw [if_neg e,hf2 k k0 k1];by_cases e2:k<j
       · rw [if_pos e2,if_pos (by omega)]
       · rw [if_neg e2,if_neg (by omega)]
   refine zxt<|ztx<|ztx<|zbh<|zbn<|ztn<|zrg ?_
   refine zlv (xadd (r:=i+1)) ?_
   refine zlv xmv ?_
   refine zln<|zlq ⟨f2,i+1,rfl,(by omega),(by omega),?_,rfl,hS.pk [0,1]⟩
   ·
    intro k k0 k1;rw [hf2 k k0 k1,if_pos (by omega)]
  refine zx8 ?_
  refine zs3 ?_
  refine zx1<|zf2 ⟨_,rfl,?_⟩
  have hiu:i=u:=by omega
  rw [hiu] at hf
  replace hS:=hS.recont 1 rfl (d:=ints (ZC u pt cnt)) (fun k k0 k1=>congrArg (Value.int .i64) (hf k k0 (by omega)))
  exact⟨_,_,_,0,rfl,.inr ⟨hplo,rfl,rfl,rfl⟩,hv1,hS.pk [1]⟩
set_option maxHeartbeats 4000000 in
set_option maxRecDepth 20000 in
theorem ZcI{vV:Value}{u:Int}{pv:Int->Value}{ln:Int->Int}{pt:Int->Int->Int}{cnt:Int->Int}{vL vD:Value}{p:Prob}(w0:World)(hV:VAt w0 vV u pv ln pt cnt)(h:PAt w0 vL vD p):
    Calls Tryz.prog 102 [.agg #[vL,vD,.int .i64 p.stock,.int .i64 p.kerf],vV].toArray w0 fun e w=>∃v,e= .returned v/\v=B (PlanOk p u ln pt cnt/\∀j,0<=j->j<p.m->p.D j<=ZC u pt cnt j)/\Sat w0 w []:=by
  have hm:=h.L.slh.n0;have hm1:=h.L.slh.n1;have hd:=h.D.slh.n0;have hd1:=h.D.slh.n1;have hs:=h.is;have hk:=h.ik
  refine Zj Tryz.func102 Tryz.ntmps102 fun w hS=> ?_
  refine zsr ?_
  refine zla (xbx (cs:= [_,_,_,_]) hS) ?_;rintro _ w ⟨g1,rfl,hS⟩
  replace hS:=hS.n1
  refine zlv xas ?_
  refine zlz ?_
  refine zlv (xls 0 st_35 hS) ?_
  refine zlv xmv ?_
  refine zlc (xc0 Zal) (Vz (u:=u) (pv:=pv) (ln:=ln) (pt:=pt) (cnt:=cnt) (p:=p) w (hV.below hS.below) (h.below hS.below)) ?_;rintro _ w ⟨vdmd1,ndmd1,fdmd1,edmd1,rfl,hmdmd1,hvdmd1,hS'⟩
  replace hS:Sat w0 w [.blk g1 [vL,vD,.int .i64 p.stock,.int .i64 p.kerf],.own vdmd1 1 3 ndmd1 (ints fdmd1)]:=hS.comp hS';clear hS'
  refine zs3 ?_
  have hnd:=hvdmd1.n0;have hnd1:=hvdmd1.n1
  have hndd:ndmd1<=p.d:=by
    rcases hmdmd1 with⟨_,g2,_⟩|⟨g1,g2,_,_⟩
    · omega
    · have:=g1.1.d;omega
  refine zs2 ?_
  refine zx5 ?_
  refine zlv xmv ?_
  refine zlv (xln sl_22 hvdmd1) ?_
  refine zlv xmv ?_
  refine zx6<|zlp (fun mm M w=>∃(i:Int),mm=((ndmd1-i).toNat)/\(0<=i)/\(i<=ndmd1)/\(∀k,0<=k->k<i->p.D k<=fdmd1 k)/\M= [(2,.pointer (some ⟨g1,0,none⟩)),(6,.int .i64 edmd1),(15,vdmd1),(16,.int .i64 ndmd1),(17,.int .i64 i)]/\Sat w0 w [.blk g1 [vL,vD,.int .i64 p.stock,.int .i64 p.kerf],.own vdmd1 1 3 ndmd1 (ints fdmd1)]) ⟨0,rfl,(by omega),(by omega),?_,rfl,hS⟩ ?_
  ·
   intro k h0 h1;omega
  clear hS w
  rintro mm M w ⟨i,rfl,h0,h1,hall,rfl,hS⟩
  refine zsr ?_
  refine zlv xlss ?_
  refine zx7 ?_
  refine zcif ?_ ?_<;>intro hc
  ·
   refine zx3 ?_
   refine zlv xmv ?_
   refine zlv (xix (kk:=i) sl_22 hvdmd1) ?_
   refine zlv (xlr (u:= .int .i64 (fdmd1 i)) pl_3 (hS.rowN 1 rfl)) ?_
   refine zs2 ?_
   refine zlz ?_
   refine zlv xmv ?_
   refine zlv (xfb 1 fd_35_1) ?_
   refine zlv (xlb 0 pl_22 hS) ?_
   refine zlv xmv ?_
   refine zlv (xix (kk:=i) sl_22 h.D.slh) ?_
   refine zlv (xlr (u:= .int .i64 (p.D i)) pl_3 (h.D.below hS.below)) ?_
   have hbv:=h.iD i
   refine zlv xlss ?_
   refine zlt ?_
   refine zcif ?_ ?_<;>intro hc
   ·
    refine zsr ?_
    refine zlv xas ?_
    refine zx2<|zf1 ⟨_,rfl,?_⟩
    refine⟨Zf ?_,hS.nl⟩
    rcases hmdmd1 with⟨g1,g2,g3⟩|⟨g1,g2,g3,g4⟩
    · exact fun hh=>g1 hh.1
    · intro hh;subst g3;have h9:=hh.2 i h0 (by omega);omega
   refine zx4 ?_
   refine zlv (xadd (r:=i+1)) ?_
   refine zlv xmv ?_
   refine zln<|zlq ⟨i+1,rfl,(by omega),(by omega),?_,rfl,hS⟩
   ·
    intro k h0' h1';rcases Int.lt_or_eq_of_le (show k<=i by omega) with hk|hk;exact hall k h0' hk;rw [hk];omega
  refine zx8 ?_
  refine zs3 ?_
  refine zx1<|zf1 ⟨_,rfl,?_⟩
  refine⟨Zq ?_,hS.nl⟩
  rcases hmdmd1 with⟨g1,g2,g3⟩|⟨g1,g2,g3,g4⟩
  · exact⟨fun hh=>by omega,fun hh=>absurd hh.1 g1⟩
  · exact⟨fun _=>⟨g1,fun j j0 j1=>by have:=hall j j0 (by omega);rw [g3] at this;exact this⟩,fun _=>by omega⟩
def W9(u:Int):Nat->List Int
  |0=> []
  |t+1=>W9 u t++ [u-1-t]
def dwn(u x:Int):List Int:=W9 u (u-1-x).toNat
theorem Zb6{u x:Int}(h:x<u):dwn u (x-1)=dwn u x++ [x]:=by
  unfold dwn
  rw [show(u-1-(x-1)).toNat=(u-1-x).toNat+1 by omega,W9,show u-1-((u-1-x).toNat:Int)=x by omega]
theorem ZaU(u:Int):dwn u (u-1)= []:=by
  unfold dwn;rw [show(u-1-(u-1)).toNat=0 by omega];rfl
def XP(ln:Int->Int)(pt:Int->Int->Int)(cnt:Int->Int)(l:List Int):List (List Int):=l.flatMap fun i=>List.replicate (cnt i).toNat (lst (ln i) (pt i))
theorem Uj(ln:Int->Int)(pt:Int->Int->Int)(cnt:Int->Int)(l:List Int)(x:Int):XP ln pt cnt (l++ [x])=XP ln pt cnt l++List.replicate (cnt x).toNat (lst (ln x) (pt x)):=by simp [XP]
theorem TO{ln cnt:Int->Int}{pt:Int->Int->Int}{u:Int}(u0:0<=u)(hc:∀k,0<=k->k<u->0<=cnt k):∀t:Nat,(t:Int)<=u->((XP ln pt cnt (W9 u t)).length:Int)=psum (fun _=>1) cnt u.toNat-psum (fun _=>1) cnt (u-t).toNat
  |0,_=>by simp [W9,XP]
  | t+1,ht=>by
    have h1:=TO (ln:=ln) (pt:=pt) u0 hc t (by omega)
    have h2:=hc (u-1-t) (by omega) (by omega)
    have h3:=Yu (fun _=>1) cnt (i:=u-1-t) (by omega)
    rw [W9,Uj,List.length_append,List.length_replicate]
    rw [show u-1-(t:Int)+1=u-t by omega] at h3
    rw [show u-((t+1:Nat):Int)=u-1-t by omega]
    push_cast
    rw [h1,h3,Int.toNat_of_nonneg h2];omega
theorem VA{ln cnt:Int->Int}{pt:Int->Int->Int}{u x c:Int}(hc:∀k,0<=k->k<u->0<=cnt k)(x0:0<=x)(x1:x<u)(c0:0<=c)(c1:c<cnt x):((XP ln pt cnt (dwn u x)++List.replicate c.toNat (lst (ln x) (pt x))).length:Int)<psum (fun _=>1) cnt u.toNat:=by
  have h1:=TO (ln:=ln) (pt:=pt) (by omega) hc (u-1-x).toNat (by omega)
  have h2:=Yu (fun _=>1) cnt x0
  have h3:=Xo (d:=cnt) (f:=fun _=>1) (i:=0) (n:=x.toNat) (by omega) fun k hk=>by have:=hc k (by omega) (by omega);omega
  rw [List.length_append,List.length_replicate]
  unfold dwn
  push_cast
  rw [h1,show(u-((u-1-x).toNat:Int)).toNat=(x+1).toNat by omega,h2]
  simp only [psum] at h3
  omega
theorem Zeg{vV:Value}{u:Int}{pv:Int->Value}{ln:Int->Int}{pt:Int->Int->Int}{cnt:Int->Int}(w0:World)(hV:VAt w0 vV u pv ln pt cnt):
    Calls Tryz.prog 147 [vV].toArray w0 fun e w=>∃v,e= .returned v/\∃g,v= .func (.func 166) #[] #[.pointer (some ⟨g,0,none⟩)]/\Sat w0 w [.blk g [vV]]:=by
  refine Zj Tryz.func147 Tryz.ntmps147 fun w hS=> ?_
  refine zsr ?_
  refine zla (xbx (cs:= [_]) hS (hc:=Slh.cells hV.row.slh)) ?_;rintro _ w ⟨g1,rfl,hS⟩
  replace hS:=hS.n1
  refine zlv xas ?_
  refine zlz ?_
  refine zlv xmf ?_
  refine zlv xas ?_
  refine zx1<|zf1 ⟨_,rfl,?_⟩
  exact⟨_,rfl,hS⟩
set_option maxRecDepth 20000 in
theorem Zeh{vV:Value}{u:Int}{pv:Int->Value}{ln:Int->Int}{pt:Int->Int->Int}{cnt:Int->Int}{gq:Nat}{St:Type}(hist:St->List Int)(Inv:St->Prop)(s0:St)(hs0:hist s0= [])(hI0:Inv s0)(w0:World)(hsV:Slh vV u)(hrV:∀k,0<=k->k<u->Slh (pv k) (ln k)):ItC (St:=St) (X:=Int) (Tt:=Unit) Tryz.prog w0 166 [.pointer (some ⟨gq,0,none⟩)] [.blk gq [vV],.own vV 2 111 u (Zc pv cnt),.sem (Frame.rows 3 u pv ln pt)] (fun x=> [.int .i64 x,.agg #[pv x,.int .i64 (cnt x)]]) (fun s x rest=>Inv s/\0<=x/\x<u/\hist s=dwn u x) (fun s x s1=>hist s1=hist s++ [x]/\Inv s1) (fun _ _ _=>False) (s0) (fun s rest=>Inv s/\hist s=dwn u (-1)) (fun _ _=>False):=by
  intro l C D w hS hY
  have hu:=hsV.n0;have hu1:=hsV.n1
  refine ZeQ Tryz.func166 Tryz.ntmps166 ?_
  refine hsq<|hrz ?_
  refine zlv (xlb 1 pl_60 hS) ?_
  refine zlv (xln sl_60 hsV) ?_
  refine zlv (xsub (r:=u-1)) ?_
  refine zlv xas ?_
  refine zln<|zh<|htn<|hbk<|hlp (fun mm M w=>∃(s:St) (i:Int),mm=((i+1).toNat)/\(-1<=i)/\(i<u)/\(Inv s)/\(hist s=dwn u i)/\M= [(0,.func (.yield l) #[] #[]),(1,.pointer (some ⟨gq,0,none⟩)),(3,.int .i64 i)]/\Sat w0 w [.sem (C s),.blk gq [vV],.own vV 2 111 u (Zc pv cnt),.sem (Frame.rows 3 u pv ln pt)]) ⟨s0,u-1,rfl,(by omega),(by omega),?_,?_,rfl,hS⟩ ?_
  ·
   exact hI0
  ·
   rw [hs0];exact(ZaU u).symm
  clear hS w
  rintro mm M w ⟨s,i,rfl,h0,h1,hI,hh,rfl,hS⟩
  refine hsq<|hsq<|hrz ?_
  refine zs2 ?_
  refine zln<|zh<|htn ?_
  refine XN ?_ ?_<;>intro hc
  ·
   refine hsk<|htn<|hsq<|hbk<|hsq<|hrg ?_
   iterate 2 refine hlv xmv ?_
   refine hlv (xlb 1 pl_60 hS) ?_
   refine hlv xmv ?_
   refine hlv (xix (kk:=2*i) sl_60 hsV) ?_
   refine hlv (xlw (cs:= [(pv i),.int .i64 (cnt i)]) Zw (hS.rowN 2 rfl) (Zr (k:=2*i) (i:=i) pv cnt (by omega))) ?_
   refine hly (hY s i _ w ⟨hI,by omega,by omega,hh⟩ (Sat.bundle (l1:= [_,_,_,_]) (l2:= []) hS)) ?_;rintro _ w (⟨rfl,sy1,hny1,hS⟩|⟨rfl,ty1,hdy1,hS⟩)
   ·
    replace hS:=Sat.unbundle (l1:= [_,_,_,_]) (l3:= []) hS
    replace hS:=hS.n4
    refine hlv xnt ?_
    refine hln<|htn<|hcf<|hsk<|zbn<|htn<|hrz ?_
    refine zlv xmv ?_
    refine zlv (xsub (r:=i-1)) ?_
    refine zlv xas ?_
    refine zln<|zh<|hlq ⟨sy1,i-1,rfl,(by omega),(by omega),?_,?_,rfl,hS⟩
    ·
     exact hny1.2
    ·
     rw [hny1.1,hh];exact(Zb6 h1).symm
   ·
    replace hS:=Sat.unbundle (l1:= [_,_,_,_]) (l3:= []) hS
    replace hS:=hS.n4
    refine hlv xnf ?_
    refine hln<|htn<|hct<|hrt<|zbr<|ztr<|ztr<|zbr<|zf0 ⟨_,rfl,?_⟩
    exact hdy1.elim
  refine hxt<|ztx<|ztx<|zbh<|Xw ⟨_,rfl,?_⟩
  exact .inl ⟨s,_,⟨hI,by rw [hh,show i= -1 by omega]⟩,Sat.bundle (l1:= [_,_,_,_]) (l2:= []) hS⟩
structure BX where
  v:Value
  n:Int
  f:Int->Int
set_option maxHeartbeats 4000000 in
set_option maxRecDepth 20000 in
theorem Zef {vV:Value} {u:Int} {pv:Int->Value} {ln:Int->Int} {pt:Int->Int->Int} {cnt:Int->Int} {gq:Nat} {St:Type} (hist:St->List (List Int)) (Inv:St->Prop) (s0:St) (hs0:hist s0= []) (hI0:Inv s0) (w0:World) (hsV:Slh vV u) (hrV:∀k,0<=k->k<u->Slh (pv k) (ln k)) (hlc:∀k,0<=k->k<u->ln k<=1000000) (hcn:∀k,0<=k->k<u->0<=cnt k/\cnt k<=1000000000):ItG (St:=St) (X:=BX) (Tt:=Unit) Tryz.prog w0 146 [.pointer (some ⟨gq,0,none⟩)] [.blk gq [vV],.own vV 2 111 u (Zc pv cnt),.sem (Frame.rows 3 u pv ln pt)] (fun x=> [x.v]) (fun x=> [.own x.v 1 3 x.n (ints x.f)]) (fun s x rest=>Inv s/\Slh x.v x.n/\((hist s).length:Int)<psum (fun _=>1) cnt u.toNat/\∃i,0<=i/\i<u/\x.n=ln i/\x.f=pt i) (fun s x s1=>hist s1=hist s++ [lst x.n x.f]/\Inv s1) (fun _ _ _=>False) (s0) (fun s rest=>Inv s/\hist s=XP ln pt cnt (dwn u (-1))) (fun _ _=>False):=by
  intro l C D w hS hY
  have hu:=hsV.n0;have hu1:=hsV.n1
  refine Zg2 Tryz.func146 Tryz.ntmps146 ?_
  refine hsq<|hrz ?_
  refine zla (xbx (cs:= [_]) hS) ?_;rintro _ w ⟨g1,rfl,hS⟩
  replace hS:=hS.n5
  refine zln<|zh<|htn<|hsq<|hrz ?_
  refine zlv (xlb 1 pl_60 hS) ?_
  refine zlc (xc0 ZfP) (Zeg (u:=u) (pv:=pv) (ln:=ln) (pt:=pt) (cnt:=cnt) w (⟨(hS.rowN 2 rfl),fun k k0 k1=>hS.rowIn 3 rfl k0 k1,fun k k0 k1=>hS.roomIn 3 rfl k0 k1⟩:VAt _ vV u pv ln pt cnt)) ?_;rintro _ w ⟨g2,rfl,hS'⟩
  replace hS:Sat w0 w [.sem (C s0),.blk gq [vV],.own vV 2 111 u (Zc pv cnt),.sem (Frame.rows 3 u pv ln pt),.blk g1 [.func (.yield l) #[] #[]],.blk g2 [vV]]:=hS.comp hS';clear hS'
  refine zln<|zh<|htn<|hbk<| ?_
  refine hrf (St:=St×List Int) (X:=Int) (Tt:=Unit) (fun s=> [.sem (C s.1),.blk gq [vV],.blk g1 [.func (.yield l) #[] #[]]]) (fun t=> []) (fun _=> .ret) (s0, []) (fun x M es=>∃(g3:Nat),M= [(0,.func (.yield l) #[] #[]),(1,.pointer (some ⟨gq,0,none⟩)),(2,.pointer (some ⟨g1,0,none⟩)),(5,vV),(6,.func (.func 166) #[] #[.pointer (some ⟨g2,0,none⟩)]),(7,.int .i64 x),(8,.agg #[(pv x),.int .i64 (cnt x)]),(4,.pointer (some ⟨g3,0,none⟩))]/\es= [.blk g3 [(pv x),.int .i64 (cnt x)]]) (Zeh (gq:=g2) (fun s=>s.2) (fun s=>Inv s.1/\hist s.1=XP ln pt cnt s.2) (s0, []) rfl ⟨hI0,hs0⟩ w0 hsV hrV) (hS.pk [0,1,4,5,2,3]) ZfB (fun _=>rfl) (fun _=> .inl rfl) ?_ ?_ ?_ ?_
  ·
   intro lq s x rest w hpre rest1 hrr hS
   obtain⟨⟨hI1,hh1⟩,x0,x1,hs2⟩:=hpre
   have hlx:=hlc x x0 x1;have hcx:=hcn x x0 x1
   replace hS:=hS.n7
   refine hrz ?_
   refine zla (xal (cs:= [_,_]) Yl hS) ?_;rintro _ w ⟨g3,rfl,hS⟩
   replace hS:=hS.n8
   refine zle (xsw 7 Zw hS (hd:=(Za (hrV x (by omega) (by omega)).one (Za rfl Zd)))) ?_;clear hS;rintro w hS
   replace hS:=hS.n8
   refine zln<|zh<|Zdz ⟨g3,rfl,rfl⟩ hS
  ·
   rintro lq s x _ _ rest w hpre ⟨g3,rfl,rfl⟩ rest1 hrr hS
   obtain⟨⟨hI1,hh1⟩,x0,x1,hs2⟩:=hpre
   have hlx:=hlc x x0 x1;have hcx:=hcn x x0 x1
   replace hS:=hS.n8
   refine hbk<|hsq<|hrz ?_
   refine zlv (xfb 1 fd_111_1) ?_
   refine zlv (xlb 7 pl_3 hS) ?_
   refine zlv xmv ?_
   refine zln<|zh<|htn<|hbk<|hlp (fun mm M w=>∃(s3:St) (c:Int),mm=((cnt x-c).toNat)/\(0<=c)/\(c<=cnt x)/\(Inv s3)/\(hist s3=XP ln pt cnt s.2++List.replicate c.toNat (lst (ln x) (pt x)))/\M= [(2,.pointer (some ⟨g1,0,none⟩)),(4,.pointer (some ⟨g3,0,none⟩)),(10,.int .i64 (cnt x)),(11,.int .i64 c)]/\Sat w0 w [.sem (C s3),.blk gq [vV],.blk g1 [.func (.yield l) #[] #[]],.blk g2 [vV],.own vV 2 111 u (Zc pv cnt),.sem (Frame.rows 3 u pv ln pt),.sem rest1,.blk g3 [(pv x),.int .i64 (cnt x)]]) ⟨s.1,0,rfl,(by omega),(by omega),?_,?_,rfl,hS⟩ ?_
   ·
    exact hI1
   ·
    rw [hh1];simp
   clear hS w
   rintro mm M w ⟨s3,c,rfl,c0,c1,hI3,hh3,rfl,hS⟩
   refine hsq<|hrz ?_
   refine zlv xlss ?_
   refine zln<|zh<|htn<|hsq ?_
   refine XN ?_ ?_<;>intro hc
   ·
    refine hsk<|htn<|hsq<|hbk<|hsq ?_
    refine hdr 6 mx_ hS ?_;clear hS;intro w hS
    refine hd2 0 1 ?_ ?_
    ·
     refine hov (xlb 2 pl_168 hS) ?_
     refine hd1 1 ?_
     refine hov (xfb 0 fd_111_0) ?_
     refine hd1 2 ?_
     refine hov (xlb 7 pl_22 hS) ?_
     refine hd1 3 ?_
     refine hoc (xc0 cl_70) (c_clone (n:=(ln x)) (f:=(pt x)) w (hS.rowIn (k:=x) 5 rfl (by omega) (by omega)) (by omega)) ?_;rintro vq1 w ⟨_,rfl,hslq1,hS'⟩
     replace hS:Sat w0 w [.sem (C s3),.blk gq [vV],.blk g1 [.func (.yield l) #[] #[]],.blk g2 [vV],.own vV 2 111 u (Zc pv cnt),.sem (Frame.rows 3 u pv ln pt),.sem rest1,.blk g3 [(pv x),.int .i64 (cnt x)],.own vq1 1 3 (ln x) (ints (pt x))]:=hS.comp hS';clear hS'
     refine hd1 4 ?_
     replace hS:=hS.pk [0,1,4,5,2,3,6,7,8]
     replace hS:=hS.n9
     replace hS:=hS.pk [0,1,2,3,8,4,5,6,7]
     replace hS:=hS.n9
     refine hoy (hY s3 ⟨vq1,ln x,pt x⟩ _ w ⟨hI3,hslq1,by rw [hh3,hs2];exact VA (fun k k0 k1=>(hcn k k0 k1).1) x0 x1 c0 (by omega),x,x0,x1,rfl,rfl⟩ (Sat.bundle (l1:= [_,_,_,_,_]) hS)) ?_;rintro _ w (⟨rfl,sy1,hny1,hS⟩|⟨rfl,ty1,hdy1,hS⟩)
     ·
      replace hS:=Sat.unbundle (l1:= [_,_,_,_]) (l3:= []) hS
      replace hS:=hS.n8
      refine hd1 5 ?_
      refine hov xnt ?_
      refine hd0<|htn<|hcf<|hsk<|zbn<|htn<|hrz ?_
      refine zlv (xadd (r:=c+1)) ?_
      refine zlv xmv ?_
      refine zln<|zh<|hlq ⟨sy1,c+1,rfl,(by omega),(by omega),?_,?_,rfl,hS.pk [0,1,4,5,2,3,6,7]⟩
      ·
       exact hny1.2
      ·
       rw [hny1.1,hh3,show(c+1).toNat=c.toNat+1 by omega,List.replicate_succ',List.append_assoc]
     ·
      replace hS:=Sat.unbundle (l1:= [_,_,_,_]) (l3:= []) hS
      replace hS:=hS.n8
      refine hd1 5 ?_
      refine hov xnf ?_
      refine hd0<|htn<|hct<|hrt<|zbr<|ztr<|ztr<|zbr<|zbr<|Zdy () hdy1.elim rfl (hS.pk [5,2,3,6])
    ·
     refine hov (xfb 0 fd_111_0) ?_
     refine hd2 0 2 ?_ ?_
     ·
      refine hov (xlb 2 pl_168 hS) ?_
      refine hd1 2 ?_
      refine hov (xlb 7 pl_22 hS) ?_
      refine hd1 3 ?_
      refine hoc (xc0 cl_70) (c_clone (n:=(ln x)) (f:=(pt x)) w (hS.rowIn (k:=x) 5 rfl (by omega) (by omega)) (by omega)) ?_;rintro vq1 w ⟨_,rfl,hslq1,hS'⟩
      replace hS:Sat w0 w [.sem (C s3),.blk gq [vV],.blk g1 [.func (.yield l) #[] #[]],.blk g2 [vV],.own vV 2 111 u (Zc pv cnt),.sem (Frame.rows 3 u pv ln pt),.sem rest1,.blk g3 [(pv x),.int .i64 (cnt x)],.own vq1 1 3 (ln x) (ints (pt x))]:=hS.comp hS';clear hS'
      refine hd1 4 ?_
      replace hS:=hS.pk [0,1,4,5,2,3,6,7,8]
      replace hS:=hS.n9
      replace hS:=hS.pk [0,1,2,3,8,4,5,6,7]
      replace hS:=hS.n9
      refine hoy (hY s3 ⟨vq1,ln x,pt x⟩ _ w ⟨hI3,hslq1,by rw [hh3,hs2];exact VA (fun k k0 k1=>(hcn k k0 k1).1) x0 x1 c0 (by omega),x,x0,x1,rfl,rfl⟩ (Sat.bundle (l1:= [_,_,_,_,_]) hS)) ?_;rintro _ w (⟨rfl,sy1,hny1,hS⟩|⟨rfl,ty1,hdy1,hS⟩)
      ·
       replace hS:=Sat.unbundle (l1:= [_,_,_,_]) (l3:= []) hS
       replace hS:=hS.n8
       refine hd1 5 ?_
       refine hov xnt ?_
       refine hd0<|htn<|hcf<|hsk<|zbn<|htn<|hrz ?_
       refine zlv (xadd (r:=c+1)) ?_
       refine zlv xmv ?_
       refine zln<|zh<|hlq ⟨sy1,c+1,rfl,(by omega),(by omega),?_,?_,rfl,hS.pk [0,1,4,5,2,3,6,7]⟩
       ·
        exact hny1.2
       ·
        rw [hny1.1,hh3,show(c+1).toNat=c.toNat+1 by omega,List.replicate_succ',List.append_assoc]
      ·
       replace hS:=Sat.unbundle (l1:= [_,_,_,_]) (l3:= []) hS
       replace hS:=hS.n8
       refine hd1 5 ?_
       refine hov xnf ?_
       refine hd0<|htn<|hct<|hrt<|zbr<|ztr<|ztr<|zbr<|zbr<|Zdy () hdy1.elim rfl (hS.pk [5,2,3,6])
     ·
      refine hov (xlb 7 pl_22 hS) ?_
      refine hd2 0 3 ?_ ?_
      ·
       refine hov (xlb 2 pl_168 hS) ?_
       refine hd1 3 ?_
       refine hoc (xc0 cl_70) (c_clone (n:=(ln x)) (f:=(pt x)) w (hS.rowIn (k:=x) 5 rfl (by omega) (by omega)) (by omega)) ?_;rintro vq1 w ⟨_,rfl,hslq1,hS'⟩
       replace hS:Sat w0 w [.sem (C s3),.blk gq [vV],.blk g1 [.func (.yield l) #[] #[]],.blk g2 [vV],.own vV 2 111 u (Zc pv cnt),.sem (Frame.rows 3 u pv ln pt),.sem rest1,.blk g3 [(pv x),.int .i64 (cnt x)],.own vq1 1 3 (ln x) (ints (pt x))]:=hS.comp hS';clear hS'
       refine hd1 4 ?_
       replace hS:=hS.pk [0,1,4,5,2,3,6,7,8]
       replace hS:=hS.n9
       replace hS:=hS.pk [0,1,2,3,8,4,5,6,7]
       replace hS:=hS.n9
       refine hoy (hY s3 ⟨vq1,ln x,pt x⟩ _ w ⟨hI3,hslq1,by rw [hh3,hs2];exact VA (fun k k0 k1=>(hcn k k0 k1).1) x0 x1 c0 (by omega),x,x0,x1,rfl,rfl⟩ (Sat.bundle (l1:= [_,_,_,_,_]) hS)) ?_;rintro _ w (⟨rfl,sy1,hny1,hS⟩|⟨rfl,ty1,hdy1,hS⟩)
       ·
        replace hS:=Sat.unbundle (l1:= [_,_,_,_]) (l3:= []) hS
        replace hS:=hS.n8
        refine hd1 5 ?_
        refine hov xnt ?_
        refine hd0<|htn<|hcf<|hsk<|zbn<|htn<|hrz ?_
        refine zlv (xadd (r:=c+1)) ?_
        refine zlv xmv ?_
        refine zln<|zh<|hlq ⟨sy1,c+1,rfl,(by omega),(by omega),?_,?_,rfl,hS.pk [0,1,4,5,2,3,6,7]⟩
        ·
         exact hny1.2
        ·
         rw [hny1.1,hh3,show(c+1).toNat=c.toNat+1 by omega,List.replicate_succ',List.append_assoc]
       ·
        replace hS:=Sat.unbundle (l1:= [_,_,_,_]) (l3:= []) hS
        replace hS:=hS.n8
        refine hd1 5 ?_
        refine hov xnf ?_
        refine hd0<|htn<|hct<|hrt<|zbr<|ztr<|ztr<|zbr<|zbr<|Zdy () hdy1.elim rfl (hS.pk [5,2,3,6])
      ·
       refine hoc (xc0 cl_70) (c_clone (n:=(ln x)) (f:=(pt x)) w (hS.rowIn (k:=x) 5 rfl (by omega) (by omega)) (by omega)) ?_;rintro vq1 w ⟨_,rfl,hslq1,hS'⟩
       replace hS:Sat w0 w [.sem (C s3),.blk gq [vV],.blk g1 [.func (.yield l) #[] #[]],.blk g2 [vV],.own vV 2 111 u (Zc pv cnt),.sem (Frame.rows 3 u pv ln pt),.sem rest1,.blk g3 [(pv x),.int .i64 (cnt x)],.own vq1 1 3 (ln x) (ints (pt x))]:=hS.comp hS';clear hS'
       refine hd1 0 ?_
       refine hov (xlb 2 pl_168 hS) ?_
       refine hd1 4 ?_
       replace hS:=hS.pk [0,1,4,5,2,3,6,7,8]
       replace hS:=hS.n9
       replace hS:=hS.pk [0,1,2,3,8,4,5,6,7]
       replace hS:=hS.n9
       refine hoy (hY s3 ⟨vq1,ln x,pt x⟩ _ w ⟨hI3,hslq1,by rw [hh3,hs2];exact VA (fun k k0 k1=>(hcn k k0 k1).1) x0 x1 c0 (by omega),x,x0,x1,rfl,rfl⟩ (Sat.bundle (l1:= [_,_,_,_,_]) hS)) ?_;rintro _ w (⟨rfl,sy1,hny1,hS⟩|⟨rfl,ty1,hdy1,hS⟩)
       ·
        replace hS:=Sat.unbundle (l1:= [_,_,_,_]) (l3:= []) hS
        replace hS:=hS.n8
        refine hd1 5 ?_
        refine hov xnt ?_
        refine hd0<|htn<|hcf<|hsk<|zbn<|htn<|hrz ?_
        refine zlv (xadd (r:=c+1)) ?_
        refine zlv xmv ?_
        refine zln<|zh<|hlq ⟨sy1,c+1,rfl,(by omega),(by omega),?_,?_,rfl,hS.pk [0,1,4,5,2,3,6,7]⟩
        ·
         exact hny1.2
        ·
         rw [hny1.1,hh3,show(c+1).toNat=c.toNat+1 by omega,List.replicate_succ',List.append_assoc]
       ·
        replace hS:=Sat.unbundle (l1:= [_,_,_,_]) (l3:= []) hS
        replace hS:=hS.n8
        refine hd1 5 ?_
        refine hov xnf ?_
        refine hd0<|htn<|hct<|hrt<|zbr<|ztr<|ztr<|zbr<|zbr<|Zdy () hdy1.elim rfl (hS.pk [5,2,3,6])
   refine hxt<|ztx<|ztx<|zbh<|zbn<|ZaN (s3,s.2++ [x]) ⟨rfl,hI3,by show hist s3=_;rw [hh3,Uj,show c.toNat=(cnt x).toNat by omega]⟩ (hS.pk [0,1,2,3,4,5,6])
  ·
   intro Dk s rest w hfin hS
   replace hS:=hS.n8
   refine zbn<|Zg1 7 hS fun w hS=>Xw ⟨_,rfl,?_⟩
   replace hS:=hS.pk [0,1,4,5,2,3,6,7]
   exact .inl ⟨s.1,_,⟨hfin.1.1,by rw [hfin.1.2,hfin.2]⟩,Sat.bundle (l1:= [_,_,_,_]) hS⟩
  ·
   intro Dk t rest w hfin hS
   replace hS:=hS.n5
   exact hfin.elim
theorem ZcL{vV:Value}{u:Int}{pv:Int->Value}{ln:Int->Int}{pt:Int->Int->Int}{cnt:Int->Int}(w0:World)(hV:VAt w0 vV u pv ln pt cnt):
    Calls Tryz.prog 103 [vV].toArray w0 fun e w=>∃v,e= .returned v/\∃g,v= .func (.func 146) #[] #[.pointer (some ⟨g,0,none⟩)]/\Sat w0 w [.blk g [vV]]:=by
  refine Zj Tryz.func103 Tryz.ntmps103 fun w hS=> ?_
  refine zsr ?_
  refine zla (xbx (cs:= [_]) hS (hc:=Slh.cells hV.row.slh)) ?_;rintro _ w ⟨g1,rfl,hS⟩
  replace hS:=hS.n1
  refine zlv xas ?_
  refine zlz ?_
  refine zlv xmf ?_
  refine zlv xas ?_
  refine zx1<|zf1 ⟨_,rfl,?_⟩
  exact⟨_,rfl,hS⟩
def tA(a m:List Int):List Int:=List.zipWith (fun x y=>x-min x y) a m
def tM(a m:List Int):List Int:=List.zipWith (fun x y=>y-min x y) a m
def YY(s:List Int×Us)(a:List Int):List Int×Us:=(tM a s.1,if(tA a s.1).any (fun x=>decide (0<x)) then s.2++ [(tA a s.1,1)] else s.2)
def Wn(m0:List Int)(h:List (List Int)):List Int×Us:=h.foldl YY (m0, [])
theorem Uy(m0:List Int)(h:List (List Int))(a:List Int):Wn m0 (h++ [a])=YY (Wn m0 h) a:=by simp [Wn]
theorem YS(F:Int->Int->Int)(n:Int)(f g:Int->Int):List.zipWith F (lst n f) (lst n g)=lst n fun k=>F (f k) (g k):=by
  apply List.ext_getElem?
  intro k
  rw [List.getElem?_zipWith,lst_get,lst_get,lst_get]
  by_cases hk:(k:Int)<n
  · rw [if_pos hk,if_pos hk,if_pos hk]
  · rw [if_neg hk,if_neg hk,if_neg hk]
theorem WR{n:Int}{f:Int->Int}:(lst n f).any (fun x=>decide (0<x))=true↔∃k,0<=k/\k<n/\0<f k:=by
  rw [List.any_eq_true]
  constructor
  · rintro⟨x,hx,h0⟩
    unfold lst at hx
    obtain⟨k,hk,rfl⟩:=List.mem_map.1 hx
    have:=List.mem_range.1 hk
    exact⟨(k:Int),by omega,by omega,by simpa using h0⟩
  · rintro⟨k,k0,k1,h⟩
    refine⟨f k,?_,by simpa using h⟩
    have:=lst_get n f k.toNat
    rw [Int.toNat_of_nonneg k0,if_pos k1] at this
    exact List.mem_of_getElem? this
def X8(l:Us):List (List Int):=l.reverse.flatMap fun u=>List.replicate u.2.toNat u.1
theorem UV(u:Int):∀t:Nat,W9 (u+1) (t+1)=u::W9 u t
  |0=>by simp [W9]
  | t+1=>by
    rw [W9,UV u t,W9,List.cons_append]
    congr 2
    congr 1
    push_cast;omega
theorem Zbh(ln:Int->Int)(pt:Int->Int->Int)(cnt:Int->Int){n:Int}(n0:0<=n):XP ln pt cnt (dwn n (-1))=X8 (plL n ln pt cnt):=by
  obtain⟨k,rfl⟩:=Int.eq_ofNat_of_zero_le n0
  have e:∀k:Nat,(W9 (k:Int) k).map (fun i=>(lst (ln i) (pt i),cnt i))=(plL (k:Int) ln pt cnt).reverse:=by
    intro k
    induction k with
    |zero=>simp [W9,plL]
    |succ k ih=>rw [show((k+1:Nat):Int)=(k:Int)+1 by omega,UV,List.map_cons,ih,Xq (by omega),List.reverse_append];rfl
  unfold XP X8 dwn
  rw [show((k:Int)-1-(-1)).toNat=k by omega,<-e k,List.flatMap_map]
structure TSt where
  h:List (List Int)
  M:Int->Int
  vO:Value
  n:Int
  vv:Int->Value
  P:Int->Int->Int
  C:Int->Int
def TInv(p:Prob)(m0:List Int)(s:TSt):Prop:=(lst p.m s.M,plL s.n (fun _=>p.m) s.P s.C)=Wn m0 s.h/\Slh s.vO s.n/\(∀k,0<=k->k<p.m->0<=s.M k/\s.M k<=2000000000)/\s.n<=s.h.length/\∀k,0<=k->k<s.n->s.C k=1
theorem TInv.yes{p:Prob}{m0:List Int}{s:TSt}{a a2 M2:Int->Int}(hs:(lst p.m s.M,plL s.n (fun _=>p.m) s.P s.C)=Wn m0 s.h)(n0:0<=s.n)(ha:∀k,0<=k->k<p.m->a2 k=a k-min (a k) (s.M k))(hM:∀k,0<=k->k<p.m->M2 k=s.M k-min (a k) (s.M k))(hx:∃k,0<=k/\k<p.m/\0<a2 k){P2:Int->Int->Int}{C2:Int->Int}(hP:∀k,0<=k->k<s.n->P2 k=s.P k)(hP2:P2 s.n=a2)(hC:∀k,0<=k->k<s.n->C2 k=s.C k)(hC2:C2 s.n=1):
    (lst p.m M2,plL (s.n+1) (fun _=>p.m) P2 C2)=Wn m0 (s.h++ [lst p.m a]):=by
  rw [Uy,<-hs]
  unfold YY tM tA
  dsimp only
  rw [YS,YS,ZO (f:=fun k=>a k-min (a k) (s.M k)) (g:=a2) fun k k0 k1=>(ha k k0 k1).symm,if_pos (WR.2 hx),ZO (f:=fun k=>s.M k-min (a k) (s.M k)) (g:=M2) fun k k0 k1=>(hM k k0 k1).symm]
  congr 1
  exact VS (ln:=fun _=>p.m) n0 (fun k k0 k1=>⟨rfl,hC k k0 k1,hP k k0 k1⟩) rfl hC2 hP2
theorem TInv.no{p:Prob}{m0:List Int}{s:TSt}{a a2 M2:Int->Int}(hs:(lst p.m s.M,plL s.n (fun _=>p.m) s.P s.C)=Wn m0 s.h)(ha:∀k,0<=k->k<p.m->a2 k=a k-min (a k) (s.M k))(hM:∀k,0<=k->k<p.m->M2 k=s.M k-min (a k) (s.M k))(hx:¬∃k,0<=k/\k<p.m/\0<a2 k):
    (lst p.m M2,plL s.n (fun _=>p.m) s.P s.C)=Wn m0 (s.h++ [lst p.m a]):=by
  rw [Uy,<-hs]
  unfold YY tM tA
  dsimp only
  rw [YS,YS,ZO (f:=fun k=>a k-min (a k) (s.M k)) (g:=a2) fun k k0 k1=>(ha k k0 k1).symm,if_neg (fun h=>hx (WR.1 h)),ZO (f:=fun k=>s.M k-min (a k) (s.M k)) (g:=M2) fun k k0 k1=>(hM k k0 k1).symm]
def TrimR(p:Prob)(u:Int)(ln:Int->Int)(pt:Int->Int->Int)(cnt:Int->Int)(out:Us)(e:Int):Prop:=
  (¬PlanOk p u ln pt cnt/\out= []/\e=1)\/(PlanOk p u ln pt cnt/\¬(∀j,0<=j->j<p.m->p.D j<=ZC u pt cnt j)/\out= []/\e=18)\/
  (PlanOk p u ln pt cnt/\(∀j,0<=j->j<p.m->p.D j<=ZC u pt cnt j)/\e=0/\∃N,NormR (plL u ln pt cnt) N/\NormR (Wn (lst p.m fun j=>ZC u pt cnt j-p.D j) (X8 N)).2 out)
theorem ZaI{p:Prob}{u n2:Int}{ln cnt ln2 cnt2:Int->Int}{pt pt2:Int->Int->Int}(h:PlanOk p u ln pt cnt)(hN:NormR (plL u ln pt cnt) (plL n2 ln2 pt2 cnt2))(hl2:∀k,0<=k->k<n2->0<=ln2 k):∀k,0<=k->k<n2->ln2 k=p.m/\∀j,0<=j->j<p.m->0<=pt2 k j/\pt2 k j<=2000:=by
  intro k k0 k1
  have hm:(lst (ln2 k) (pt2 k),cnt2 k)∈plL n2 ln2 pt2 cnt2:=List.mem_iff_getElem?.2 ⟨k.toNat,by rw [plL_get,Int.toNat_of_nonneg k0,if_pos k1]⟩
  obtain⟨y,hy,e1⟩:=hN.keys _ hm
  obtain⟨i,hi⟩:=List.mem_iff_getElem?.1 hy
  rw [plL_get] at hi
  split at hi
  · rename_i hlt
    injection hi with hi
    obtain⟨_,_,hf⟩:=h.2.2 i (by omega) hlt
    have hm1:=h.1.m1
    rw [<-hi] at e1
    dsimp only at e1
    obtain⟨q1,q2⟩:=(Wg (by have:=hf.eq;omega) (hl2 k k0 k1)).1 e1
    refine⟨by have:=hf.eq;omega,fun j j0 j1=> ?_⟩
    rw [<-q2 j j0 (by have:=hf.eq;omega)]
    exact hf.all j j0 (by have:=hf.eq;omega)
  · cases hi
theorem ZaJ{p:Prob}{u n2:Int}{ln cnt ln2 cnt2:Int->Int}{pt pt2:Int->Int->Int}(u0:0<=u)(n0:0<=n2)(h:PlanOk p u ln pt cnt)(hN:NormR (plL u ln pt cnt) (plL n2 ln2 pt2 cnt2)):psum (fun _=>1) cnt2 n2.toNat<=1000000:=by
  have h1:=hN.wsum fun _=>1
  rw [ZV _ u0,ZV _ n0] at h1
  rw [h1]
  have key:∀t:Nat,(t:Int)<=u->psum (fun _=>1) cnt t<=1000*t:=by
    intro t
    induction t with
    |zero=>intro _;simp [psum]
    |succ t ih=>intro ht;have:=ih (by omega);have:=(h.2.2 t (by omega) (by omega)).2.1;simp only [psum];push_cast;omega
  have h2:=key u.toNat (by omega)
  have h3:=h.2.1
  omega
theorem Ue{p:Prob}(hp:p.Ok){k:Int}(k0:0<=k)(k1:k<p.m):0<=p.D k/\p.D k<=1000:=by
  have he:=hp.all k k0 k1
  unfold Prob.each at he;omega
theorem ZaF{C:Int->Int}{n:Int}(h:∀k,0<=k->k<n->C k=1):∀k,0<=k->k<n+1->snoc C n 1 k=1:=fun k k0 k1=>by
  by_cases e:k<n
  · rw [Zk e];exact h k k0 e
  · exact Zl e
theorem Zgn{x:Int}(w0:World):
    Calls Tryz.prog 105 [.int .i64 x].toArray w0 fun e w=>∃v,e= .returned v/\v=B (0<x)/\Sat w0 w []:=by
  refine Zj Tryz.func105 Tryz.ntmps105 fun w hS=> ?_
  refine zsr ?_
  refine zlv xas ?_
  refine zlz ?_
  refine zs3 ?_
  refine zx1<|zf1 ⟨_,rfl,?_⟩
  exact⟨Zq (by omega),hS⟩
set_option maxRecDepth 20000 in
theorem Zd7{v:Value}{n:Int}{f:Int->Int}(w0:World)(hR:Row w0 v 1 n (ints f)):
    Calls Tryz.prog 95 [v,.func (.func 105) #[] #[]].toArray w0 fun e w=>∃v,e= .returned v/\∃r:Int,v= .int .i64 r/\((r= -1/\∀k,0<=k->k<n->¬(0<f k))\/(0<=r/\r<n/\(0<f r)/\∀k,0<=k->k<r->¬(0<f k)))/\Sat w0 w []:=by
  have hn:=hR.slh.n0;have hn1:=hR.slh.n1
  refine Zj Tryz.func95 Tryz.ntmps95 fun w hS=> ?_
  refine zsr ?_
  refine zlv xas ?_
  refine zx5 ?_
  refine zlv xmv ?_
  refine zlv (xln sl_22 hR.slh) ?_
  refine zlv xmv ?_
  refine zx6<|zlp (fun mm M w=>∃(i:Int),mm=((n-i).toNat)/\(0<=i)/\(i<=n)/\(∀k,0<=k->k<i->¬(0<f k))/\M= [(0,v),(1,.func (.func 105) #[] #[]),(7,.int .i64 n),(8,.int .i64 i)]/\Sat w0 w []) ⟨0,rfl,(by omega),(by omega),?_,rfl,hS⟩ ?_
  ·
   intro k h0 h1;omega
  clear hS w
  rintro mm M w ⟨i,rfl,h0,h1,hall,rfl,hS⟩
  refine zsr ?_
  refine zlv xlss ?_
  refine zx7 ?_
  refine zcif ?_ ?_<;>intro hc
  ·
   refine zx3 ?_
   refine zs2 ?_
   refine zlz ?_
   refine zs3 ?_
   refine zlv (xix (kk:=i) sl_22 hR.slh) ?_
   refine zlv (xlr (u:= .int .i64 (f i)) pl_3 (hR.below hS.below)) ?_
   refine zlc (xc0 Zgf) (Zgn (x:=(f i)) w) ?_;rintro _ w ⟨rfl,hS'⟩
   replace hS:=hS.cmp hS';clear hS'
   refine zlt ?_
   refine zcif ?_ ?_<;>intro hc
   ·
    refine zsr ?_
    refine zs2 ?_
    refine zx2<|zf1 ⟨_,rfl,?_⟩
    exact⟨i,rfl,.inr ⟨by omega,by omega,‹0<f i›,hall⟩,hS⟩
   refine zx4 ?_
   refine zlv (xadd (r:=i+1)) ?_
   refine zlv xmv ?_
   refine zln<|zlq ⟨i+1,rfl,(by omega),(by omega),?_,rfl,hS⟩
   ·
    intro k h0' h1';rcases Int.lt_or_eq_of_le (show k<=i by omega) with hk|hk;exact hall k h0' hk;rw [hk];assumption
  refine zx8 ?_
  refine zlv xas ?_
  refine zx1<|zf1 ⟨_,rfl,?_⟩
  exact⟨-1,rfl,.inl ⟨rfl,fun k h0 h1=>hall k h0 (by omega)⟩,hS⟩
set_option maxRecDepth 20000 in
theorem Zed{v:Value}{n:Int}{f:Int->Int}(w0:World)(hR:Row w0 v 1 n (ints f)):
    Calls Tryz.prog 104 [v,.func (.func 105) #[] #[]].toArray w0 fun e w=>∃v,e= .returned v/\v=B (∃k,0<=k/\k<n/\0<f k)/\Sat w0 w []:=by
  refine Zj Tryz.func104 Tryz.ntmps104 fun w hS=> ?_
  refine zsr ?_
  refine zlv xas ?_
  refine zlz ?_
  refine zs2 ?_
  refine zlc (xc0 RQ) (Zd7 (n:=n) (f:=f) w (hR.below hS.below)) ?_;rintro _ w ⟨r1,rfl,hr1,hS'⟩
  replace hS:=hS.cmp hS';clear hS'
  refine zs2 ?_
  refine zx1<|zf1 ⟨_,rfl,?_⟩
  exact⟨Zq (by
   rcases hr1 with⟨h1,h2⟩|⟨h1,h2,h3,_⟩
   · exact⟨fun h=>by omega,fun⟨k,h4,h5,h6⟩=>absurd h6 (h2 k h4 h5)⟩
   · exact⟨fun _=>⟨_,h1,h2,h3⟩,fun _=>h1⟩),hS⟩
set_option maxHeartbeats 4000000 in
set_option maxRecDepth 20000 in
theorem Zcq{vV:Value}{u:Int}{pv:Int->Value}{ln:Int->Int}{pt:Int->Int->Int}{cnt:Int->Int}{vL vD:Value}{p:Prob}(w0:World)(hV:VAt w0 vV u pv ln pt cnt)(h:PAt w0 vL vD p):
    Calls Tryz.prog 65 [.agg #[vL,vD,.int .i64 p.stock,.int .i64 p.kerf],vV].toArray w0 fun e w=>∃v,e= .returned v/\∃r n2 pv2 ln2 pt2 cnt2 e,v= .tuple #[r,.int .i64 e]/\TrimR p u ln pt cnt (plL n2 ln2 pt2 cnt2) e/\(∀k,0<=k->k<n2->1<=cnt2 k/\cnt2 k<=1000000000)/\n2<=1000000/\Slh r n2/\Sat w0 w [.own r 2 111 n2 (Zc pv2 cnt2),.sem (Frame.rows 3 n2 pv2 ln2 pt2)]:=by
  have hm:=h.L.slh.n0;have hm1:=h.L.slh.n1;have hd:=h.D.slh.n0;have hd1:=h.D.slh.n1;have hs:=h.is;have hk:=h.ik
  have hu:=hV.row.slh.n0;have hu1:=hV.row.slh.n1
  refine ZeP Tryz.func65 Tryz.ntmps65 fun w hS=> ?_
  refine hsq<|hrz ?_
  refine zla (xbx (cs:= [_,_,_,_]) hS) ?_;rintro _ w ⟨g1,rfl,hS⟩
  replace hS:=hS.n1
  refine zs2 ?_
  refine zln<|zh<|htn<|hsq<|hrz ?_
  refine zlv (xls 0 st_35 hS) ?_
  refine zlv xmv ?_
  refine zlc (xc0 Zal) (Vz (u:=u) (pv:=pv) (ln:=ln) (pt:=pt) (cnt:=cnt) (p:=p) w (hV.below hS.below) (h.below hS.below)) ?_;rintro _ w ⟨vdmd1,ndmd1,fdmd1,edmd1,rfl,hmdmd1,hvdmd1,hS'⟩
  replace hS:Sat w0 w [.blk g1 [vL,vD,.int .i64 p.stock,.int .i64 p.kerf],.own vdmd1 1 3 ndmd1 (ints fdmd1)]:=hS.comp hS';clear hS'
  refine zs3 ?_
  refine zla (xal (cs:= [_]) ZL hS) ?_;rintro _ w ⟨g2,rfl,hS⟩
  replace hS:=hS.n3
  refine zle (xsb 2 pl_22 hS (hv:=hvdmd1.one)) ?_;clear hS;rintro w hS
  replace hS:=hS.n3
  refine zlv xas ?_
  refine zln<|zh<|htn<|hsq<|hsq<|hrz ?_
  refine zs2 ?_
  refine zln<|zh<|htn ?_
  refine XN ?_ ?_<;>intro hc
  ·
   refine hsq<|hrz ?_
   refine zs3 ?_
   refine zln<|zh<|htn<|hrt<|ztr<|ZeO<|zf2 ⟨_,rfl,?_⟩
   have hmd:¬PlanOk p u ln pt cnt/\edmd1=1:=by rcases hmdmd1 with⟨g1,_,g3⟩|⟨_,_,_,g4⟩;exact⟨g1,g3⟩;omega
   exact⟨_,0,fun _=>undef,fun _=>0,fun _ _=>0,fun _=>0,_,rfl,.inl ⟨hmd.1,rfl,by omega⟩,fun k k0 k1=>by omega,by omega,slh_nil,((hS.sub (.cons _ (.cons _ (.cons _ .slnil)))).addnil 2 111 (Zc (fun _=>undef) (fun _=>0))).addrows 3 (fun _=>undef) (fun _=>0) (fun _ _=>0)⟩
  refine hsk<|htn<|hsq<|hsq<|hrz ?_
  refine zlv (xls 0 st_35 hS) ?_
  obtain⟨hplo,hnd9,hfd9⟩:PlanOk p u ln pt cnt/\ndmd1=p.m/\fdmd1=ZC u pt cnt:=by rcases hmdmd1 with⟨_,_,g3⟩|⟨g1,g2,g3,_⟩;omega;exact⟨g1,g2,g3⟩
  have hpm1:=hplo.1.m1;have hpm2:=hplo.1.m2;have hpd:=hplo.1.d;have hu3:=hplo.2.1
  refine zlv xmv ?_
  refine zlc (xc0 Zgh) (ZcI (u:=u) (pv:=pv) (ln:=ln) (pt:=pt) (cnt:=cnt) (p:=p) w (hV.below hS.below) (h.below hS.below)) ?_;rintro _ w ⟨rfl,hS'⟩
  replace hS:=hS.cmp hS';clear hS'
  refine zlv ZX ?_
  refine zln<|zh<|htn ?_
  refine XN ?_ ?_<;>intro hc
  ·
   refine hsq<|hrz ?_
   refine zs2 ?_
   refine zln<|zh<|htn<|hrt<|ztr<|ZeO<|zf2 ⟨_,rfl,?_⟩
   exact⟨_,0,fun _=>undef,fun _=>0,fun _ _=>0,fun _=>0,_,rfl,.inr (.inl ⟨hplo,fun hh=>‹¬(_/\_)› ⟨hplo,hh⟩,rfl,rfl⟩),fun k k0 k1=>by omega,by omega,slh_nil,((hS.sub (.cons _ (.cons _ (.cons _ .slnil)))).addnil 2 111 (Zc (fun _=>undef) (fun _=>0))).addrows 3 (fun _=>undef) (fun _=>0) (fun _ _=>0)⟩
  refine hsk<|htn<|hsq<|hsq<|hrz ?_
  refine zlv (xlb 2 pl_22 hS) ?_
  have hmeet:∀j,0<=j->j<p.m->p.D j<=ZC u pt cnt j:=(Classical.not_not.1 ‹¬¬(_/\_)›).2
  refine zlv (xln sl_22 hvdmd1) ?_
  refine zlv xmv ?_
  refine zln<|zh<|htn<|hbk<|hlp (fun mm M w=>∃(fM:Int->Int) (i:Int),mm=((ndmd1-i).toNat)/\(0<=i)/\(i<=ndmd1)/\(∀k,0<=k->k<p.m->fM k=if k<i then ZC u pt cnt k-p.D k else ZC u pt cnt k)/\M= [(1,vV),(2,.pointer (some ⟨g1,0,none⟩)),(4,.slice none 0 0),(5,.int .i64 0),(6,.pointer (some ⟨g2,0,none⟩)),(27,.int .i64 ndmd1),(28,.int .i64 i)]/\Sat w0 w [.blk g1 [vL,vD,.int .i64 p.stock,.int .i64 p.kerf],.own vdmd1 1 3 ndmd1 (ints fM),.blk g2 [vdmd1]]) ⟨fdmd1,0,rfl,(by omega),(by omega),?_,rfl,hS⟩ ?_
  ·
   intro k k0 k1;rw [if_neg (by omega),hfd9]
  clear hS w
  rintro mm M w ⟨fM,i,rfl,h0,h1,hf,rfl,hS⟩
  refine hsq<|hrz ?_
  refine zlv xlss ?_
  refine zln<|zh<|htn<|hsq ?_
  refine XN ?_ ?_<;>intro hc
  ·
   refine hsk<|htn<|hsq<|hbk<|hsq<|hrz ?_
   refine zlv xmv ?_
   have hmi:=Xt hplo.2.2 hu (Int.le_refl _) (j:=i) h0 (by omega)
   have hdi:=Ue hplo.1 h0 (by omega:i<p.m)
   have hfi:=hf i h0 (by omega)
   rw [if_neg (by omega)] at hfi
   refine zlv xas ?_
   refine zln<|zh<|htn ?_
   refine hdst [0,1,2] [0,2] 11 mx_ hS ?_;clear hS;intro w hS
   refine zdla 0 (fun w hS=>(xlb 1 pl_22 hS)) ?_
   refine zDrv 1 xmv ?_
   refine zDrv 2 (xix (kk:=i) sl_22 hvdmd1) ?_
   refine zdl 3 (fun w hS=>(xlr (u:= .int .i64 (fM i)) pl_3 (hS.rowN 1 rfl))) ?_
   refine zDrv 4 (xfb 1 fd_35_1) ?_
   refine zdla 5 (fun w hS=>(xlb 0 pl_22 hS)) ?_
   refine zDrv 6 xmv ?_
   refine zDrv 7 (xix (kk:=i) sl_22 h.D.slh) ?_
   refine zdla 8 (fun w hS=>(xlr (u:= .int .i64 (p.D i)) pl_3 (h.D.below hS.below))) ?_
   have hbv:=h.iD i
   refine zDrv 9 (xsub (r:=fM i-p.D i)) ?_
   refine zDrv 10 (xix (kk:=i) sl_22 hvdmd1) ?_
   refine zde 11 (xso 1 pl_3 hS (Zs _ _ _)) ?_;clear hS;rintro w hS
   replace hS:=hS.n3
   refine⟨⟨fun h=>absurd h (by decide),hS.pk [0,2]⟩,?_⟩
   refine zdd<|zh<|zbn<|htn<|hrz ?_
   refine zlv (xadd (r:=i+1)) ?_
   refine zlv xmv ?_
   refine zln<|zh<|hlq ⟨(upd fM i (fM i-p.D i)),i+1,rfl,(by omega),(by omega),?_,rfl,hS⟩
   ·
    intro k k0 k1;unfold upd;by_cases e:k=i
    · rw [if_pos e,if_pos (by omega),e];omega
    · rw [if_neg e,hf k k0 k1];by_cases e2:k<i
      · rw [if_pos e2,if_pos (by omega)]
      · rw [if_neg e2,if_neg (by omega)]
  refine hxt<|ztx<|ztx<|zbh<|htn<|hsq<|hrz ?_
  refine zla (xal (cs:= [_]) Zer hS) ?_;rintro _ w ⟨g3,rfl,hS⟩
  replace hS:=hS.n4
  refine zln<|zh<|htn<|hsq<|hsq<|hrz ?_
  refine zlv xmv ?_
  refine zlc (xc0 Zcd) (KE (u:=u) (pv:=pv) (ln:=ln) (pt:=pt) (cnt:=cnt) w (hV.below hS.below) (by omega) (fun k k0 k1=>by have h9:=(hplo.2.2 k k0 k1).2.2.eq;omega) (fun k k0 k1=>by have h9:=hplo.2.2 k k0 k1;exact⟨h9.1,h9.2.1⟩)) ?_;rintro vnn1 w ⟨_,nnn1,pnn1,lnn1,gnn1,cnn1,rfl,hnrn1,hn0n1,hn1n1,hncn1,hvnn1,hS'⟩
  replace hS:Sat w0 w [.blk g1 [vL,vD,.int .i64 p.stock,.int .i64 p.kerf],.own vdmd1 1 3 ndmd1 (ints fM),.blk g2 [vdmd1],.blk g3 [.slice none 0 0],.own vnn1 2 111 nnn1 (Zc pnn1 cnn1),.sem (Frame.rows 3 nnn1 pnn1 lnn1 gnn1)]:=hS.comp hS';clear hS'
  have hrnn1:=fun k (k0:0<=k) (k1:k<nnn1)=>hS.slhIn 5 rfl k0 k1
  have hfM:∀k,0<=k->k<p.m->fM k=ZC u pt cnt k-p.D k:=fun k k0 k1=>by rw [hf k k0 k1,if_pos (by omega)]
  have hln0:=fun k k0 k1=>(hrnn1 k k0 k1).n0
  have hfit:=ZaI hplo hnrn1 hln0
  have hbr9:=ZaJ hu hn0n1 hplo hnrn1
  refine zlc (xc0 Zgg) (ZcL (u:=nnn1) (pv:=pnn1) (ln:=lnn1) (pt:=gnn1) (cnt:=cnn1) w (⟨(hS.rowN 4 rfl),fun k k0 k1=>hS.rowIn 5 rfl k0 k1,fun k k0 k1=>hS.roomIn 5 rfl k0 k1⟩:VAt _ vnn1 nnn1 pnn1 lnn1 gnn1 cnn1)) ?_;rintro _ w ⟨g4,rfl,hS'⟩
  replace hS:Sat w0 w [.blk g1 [vL,vD,.int .i64 p.stock,.int .i64 p.kerf],.own vdmd1 1 3 ndmd1 (ints fM),.blk g2 [vdmd1],.blk g3 [.slice none 0 0],.own vnn1 2 111 nnn1 (Zc pnn1 cnn1),.sem (Frame.rows 3 nnn1 pnn1 lnn1 gnn1),.blk g4 [vnn1]]:=hS.comp hS';clear hS'
  refine zln<|zh<|htn<|hbk ?_
  replace hS:=hS.addnil 2 111 (Zc (fun _=>Value.slice none 0 0) (fun _=>0))
  replace hS:=hS.n8
  replace hS:=hS.addrows 3 (fun _=>Value.slice none 0 0) (fun _=>p.m) (fun _ _=>0)
  replace hS:=hS.n9
  refine ZhY (St:=TSt) (X:=BX) (Tt:=Unit) (fun s=> [.blk g1 [vL,vD,.int .i64 p.stock,.int .i64 p.kerf],.blk g2 [vdmd1],.own vdmd1 1 3 ndmd1 (ints s.M),.blk g3 [s.vO],.own s.vO 2 111 s.n (Zc s.vv s.C),.sem (Frame.rows 3 s.n s.vv (fun _=>p.m) s.P)]) (fun t=> []) (fun _=> .ret) (⟨[],fM,.slice none 0 0,0,fun _=> .slice none 0 0,fun _ _=>0,fun _=>0⟩:TSt) (fun x M es=>M= [(1,vV),(2,.pointer (some ⟨g1,0,none⟩)),(4,.slice none 0 0),(5,.int .i64 0),(6,.pointer (some ⟨g2,0,none⟩)),(27,.int .i64 ndmd1),(28,.int .i64 i),(29,B (i<ndmd1)),(9,.pointer (some ⟨g3,0,none⟩)),(43,vV),(44,vnn1),(45,.func (.func 146) #[] #[.pointer (some ⟨g4,0,none⟩)]),(46,x.v),(10,x.v)]/\es= [.own x.v 1 3 x.n (ints x.f)]) (Zef (gq:=g4) (fun s=>s.h) (TInv p (lst p.m fM)) (⟨[],fM,.slice none 0 0,0,fun _=> .slice none 0 0,fun _ _=>0,fun _=>0⟩:TSt) rfl ⟨rfl,slh_nil,fun k k0 k1=>by have h9:=hfM k k0 k1;have h8:=hmeet k k0 k1;have h7:=Xt hplo.2.2 hu (Int.le_refl _) k0 k1;have h6:=(Ue hplo.1 k0 k1).1;have h5:=hplo.2.1;show 0<=fM k/\fM k<=_;omega,by simp,fun k k0 k1=>by(have k1:k<0:=k1);omega⟩ w0 hvnn1 hrnn1 (fun k k0 k1=>by have:=(hfit k k0 k1).1;omega) (fun k k0 k1=>by have:=hncn1 k k0 k1;omega)) (hS.pk [0,2,1,3,7,8,6,4,5]) ZfQ (fun _=>rfl) (fun _=> .inl rfl) ?_ ?_ ?_ ?_
  ·
   intro lq s x rest w hpre rest1 hrr hS
   replace hS:=hS.n11
   refine hrz ?_
   refine zlv xas ?_
   refine zln<|zh<|Zdz ⟨rfl,rfl⟩ hS
  ·
   rintro lq s x _ _ rest w hpre ⟨rfl,rfl⟩ rest1 hrr hS
   replace hS:=hS.n11
   obtain⟨hIv,hxv,hlen,i,i0,i1,hxn,hxf⟩:=hpre
   obtain⟨hIp,hlO,hMr,hnh,hC1⟩:=hIv
   have hrO:=fun k (k0:0<=k) (k1:k<s.n)=>hS.slhIn 5 rfl k0 k1
   obtain⟨hfn,hfr⟩:=hfit i i0 i1
   rw [<-hxn] at hfn
   rw [<-hxf] at hfr
   have hsn:=hlO.n0
   refine hbk<|hsq<|hsq<|hrz ?_
   refine zlv xmv ?_
   refine zlv (xln sl_22 hxv) ?_
   refine zlv xmv ?_
   refine zln<|zh<|htn<|hbk<|hlp (fun mm M w=>∃(fa:Int->Int) (fm2:Int->Int) (j:Int),mm=((x.n-j).toNat)/\(0<=j)/\(j<=x.n)/\(∀k,0<=k->k<p.m->fa k=if k<j then x.f k-min (x.f k) (s.M k) else x.f k)/\(∀k,0<=k->k<p.m->fm2 k=if k<j then s.M k-min (x.f k) (s.M k) else s.M k)/\M= [(4,.slice none 0 0),(5,.int .i64 0),(6,.pointer (some ⟨g2,0,none⟩)),(9,.pointer (some ⟨g3,0,none⟩)),(10,x.v),(48,.int .i64 x.n),(49,.int .i64 j)]/\Sat w0 w [.blk g1 [vL,vD,.int .i64 p.stock,.int .i64 p.kerf],.blk g2 [vdmd1],.own vdmd1 1 3 ndmd1 (ints fm2),.blk g3 [s.vO],.own s.vO 2 111 s.n (Zc s.vv s.C),.sem (Frame.rows 3 s.n s.vv (fun _=>p.m) s.P),.blk g4 [vnn1],.own vnn1 2 111 nnn1 (Zc pnn1 cnn1),.sem (Frame.rows 3 nnn1 pnn1 lnn1 gnn1),.sem rest1,.own x.v 1 3 x.n (ints fa)]) ⟨x.f,s.M,0,rfl,(by omega),(by omega),?_,?_,rfl,hS⟩ ?_
   ·
    intro k k0 k1;rw [if_neg (by omega)]
   ·
    intro k k0 k1;rw [if_neg (by omega)]
   clear hS w
   rintro mm M w ⟨fa,fm2,j,rfl,j0,j1,hfa,hfm2,rfl,hS⟩
   refine hsq<|hrz ?_
   refine zlv xlss ?_
   refine zln<|zh<|htn<|hsq ?_
   refine XN ?_ ?_<;>intro hc
   ·
    refine hsk<|htn<|hsq<|hbk<|hsq<|hrz ?_
    refine zlv xmv ?_
    have hxj:=hfr j j0 (by omega)
    have hMj:=hMr j j0 (by omega)
    have hfaj:=hfa j j0 (by omega)
    have hfmj:=hfm2 j j0 (by omega)
    rw [if_neg (by omega)] at hfaj hfmj
    refine zlv xas ?_
    refine zln<|zh<|htn<|hsq ?_
    refine hdst [0,1,2,3,4,5,6,7,8,9,10] [0,1,2,3,4,5,6,7,8,9,10] 1000 mx_ hS ?_;clear hS;intro w hS
    refine zDrv 0 xmv ?_
    refine zDrv 1 xmv ?_
    refine zDrv 2 (xix (kk:=j) sl_22 hxv) ?_
    refine zdla 3 (fun w hS=>(xlr (u:= .int .i64 (fa j)) pl_3 (hS.rowN 10 rfl))) ?_
    refine zdla 4 (fun w hS=>(xlb 1 pl_22 hS)) ?_
    refine zDrv 5 xmv ?_
    refine zDrv 6 (xix (kk:=j) sl_22 hvdmd1) ?_
    refine zdla 7 (fun w hS=>(xlr (u:= .int .i64 (fm2 j)) pl_3 (hS.rowN 2 rfl))) ?_
    refine zDrv 8 (Zax (r:=(min (fa j) (fm2 j)))) ?_
    refine zDrv 9 xas ?_
    refine zdd<|zh<|htn<|hsq<|hrz ?_
    refine zs2 ?_
    refine zlv (xix (kk:=j) sl_22 hxv) ?_
    refine zlv (xlr (u:= .int .i64 (fa j)) pl_3 (hS.rowN 10 rfl)) ?_
    refine zlv xmv ?_
    refine zlv (xsub (r:=fa j-(min (fa j) (fm2 j)))) ?_
    refine zlv (xix (kk:=j) sl_22 hxv) ?_
    refine zle (xso 10 pl_3 hS (Zs _ _ _)) ?_;clear hS;rintro w hS
    replace hS:=hS.n11
    refine zln<|zh<|htn<|hrz ?_
    refine zlv (xlb 1 pl_22 hS) ?_
    refine zlv xmv ?_
    refine zlv (xix (kk:=j) sl_22 hvdmd1) ?_
    refine zlv (xlr (u:= .int .i64 (fm2 j)) pl_3 (hS.rowN 2 rfl)) ?_
    refine zlv xmv ?_
    refine zlv (xsub (r:=fm2 j-(min (fa j) (fm2 j)))) ?_
    refine zlv (xix (kk:=j) sl_22 hvdmd1) ?_
    refine zle (xso 2 pl_3 hS (Zs _ _ _)) ?_;clear hS;rintro w hS
    replace hS:=hS.n11
    refine zln<|zh<|zbn<|htn<|hrz ?_
    refine zlv (xadd (r:=j+1)) ?_
    refine zlv xmv ?_
    refine zln<|zh<|hlq ⟨(upd fa j (fa j-(min (fa j) (fm2 j)))),(upd fm2 j (fm2 j-(min (fa j) (fm2 j)))),j+1,rfl,(by omega),(by omega),?_,?_,rfl,hS⟩
    ·
     intro k k0 k1;unfold upd;by_cases e:k=j
     · rw [if_pos e,if_pos (by omega),e];omega
     · rw [if_neg e,hfa k k0 k1];by_cases e2:k<j
       · rw [if_pos e2,if_pos (by omega)]
       · rw [if_neg e2,if_neg (by omega)]
    ·
     intro k k0 k1;unfold upd;by_cases e:k=j
     · rw [if_pos e,if_pos (by omega),e];omega
     · rw [if_neg e,hfm2 k k0 k1];by_cases e2:k<j
       · rw [if_pos e2,if_pos (by omega)]
       · rw [if_neg e2,if_neg (by omega)]
   refine hxt<|ztx<|ztx<|zbh<|htn<|hsq<|hrz ?_
   refine zlv xmv ?_
   refine zlc (xc0 cl_104) (Zed (n:=x.n) (f:=fa) w (hS.rowN 10 rfl)) ?_;rintro _ w ⟨rfl,hS'⟩
   replace hS:=hS.cmp hS';clear hS'
   refine zln<|zh<|htn ?_
   refine XN ?_ ?_<;>intro hc
   ·
    refine hrz ?_
    refine zlv (xlb 3 pl_60 hS) ?_
    refine zlv xmv ?_
    refine zlv (xany (v:= .agg #[x.v,.int .i64 1]) (hr:=by have hz:=hxv;revert hz;generalize x.v=z;rintro⟨_,_,_,_,rfl,_⟩;show _=_;kernel_rfl)) ?_
    refine zla (xli (n:=1) (len:=1) (pv:= [(0,.agg #[x.v,.int .i64 1])]) (cs:= [x.v,.int .i64 1]) (c:=Zc (fun _=>x.v) (fun _=>1)) sl_60 Yl hS (hf:=by have hz:=hxv;revert hz;generalize x.v=z;rintro⟨_,_,_,_,rfl,_⟩;show _=_;kernel_rfl)) ?_;rintro v1 w ⟨hS,hv1⟩
    replace hS:=hS.n12
    refine zla (xap 4 (r:=s.n+1) sl_60 Yl hS (hS.rowN 11 rfl) (YJ _ _ _ _ _) (h1:=fun k _ _=>YE (fun _=>hxv.one) k)) ?_;rintro v2 w ⟨hS,hv2⟩
    replace hS:=hS.n12
    replace hS:=Sat.merge (l1:= [_,_,_,_,_]) (l2:= [_,_,_,_]) (l3:= [_]) hS (by omega)
    have hrs1:=fun k (k0:0<=k) (k1:k<s.n+1)=>hS.slhIn 5 rfl k0 k1
    replace hS:=hS.n11
    refine zle (xsb 3 pl_60 hS (hv:=hv2.one)) ?_;clear hS;rintro w hS
    replace hS:=hS.n11
    refine zln<|zh<|zbn ?_
    rw [hfn,UQ] at hS
    refine ZaN ⟨s.h++ [lst x.n x.f],fm2,v2,s.n+1,gsn s.vv s.n x.v,gsn s.P s.n fa,(snoc s.C s.n 1)⟩ ⟨rfl,(by rw [hfn];exact TInv.yes (a2:=fa) hIp hsn (fun k k0 k1=>(hfa k k0 k1).trans (if_pos (by omega))) (fun k k0 k1=>(hfm2 k k0 k1).trans (if_pos (by omega))) (by obtain⟨k,k0,k1,k2⟩:=hc;exact⟨k,k0,by omega,k2⟩) (fun k k0 k1=>Zo k1) (Zn (by omega)) (fun k k0 k1=>Zk k1) (Zl (by omega))),hv2,(fun k k0 k1=>by have h9:=hMr k k0 k1;have h8:=hfr k k0 k1;have h7:=hfm2 k k0 k1;rw [if_pos (by omega)] at h7;show 0<=fm2 k/\fm2 k<=_;omega),by(show s.n+1<=((s.h++ [lst x.n x.f]).length:Int));rw [List.length_append];simp;omega,(ZaF hC1)⟩ (hS.pk [0,1,2,3,4,5,6,7,8,9])
   refine hsk<|zbn<|ZaN ⟨s.h++ [lst x.n x.f],fm2,s.vO,s.n,s.vv,s.P,s.C⟩ ⟨rfl,(by rw [hfn];exact TInv.no (a2:=fa) hIp (fun k k0 k1=>(hfa k k0 k1).trans (if_pos (by omega))) (fun k k0 k1=>(hfm2 k k0 k1).trans (if_pos (by omega))) (fun⟨k,k0,k1,k2⟩=>hc ⟨k,k0,by omega,k2⟩)),hlO,(fun k k0 k1=>by have h9:=hMr k k0 k1;have h8:=hfr k k0 k1;have h7:=hfm2 k k0 k1;rw [if_pos (by omega)] at h7;show 0<=fm2 k/\fm2 k<=_;omega),by(show s.n<=((s.h++ [lst x.n x.f]).length:Int));rw [List.length_append];simp;omega,hC1⟩ (hS.pk [0,1,2,3,4,5,6,7,8,9])
  ·
   intro Dk s rest w hfin hS
   replace hS:=hS.n11
   obtain⟨⟨hIp,hlO,hMr,hnh,hC1⟩,hh⟩:=hfin
   have hrO:=fun k (k0:0<=k) (k1:k<s.n)=>hS.slhIn 5 rfl k0 k1
   have hsn:=hlO.n0
   have hlen9:s.n<=1000000:=by
     have h9:=TO (ln:=lnn1) (pt:=gnn1) (u:=nnn1) (cnt:=cnn1) hn0n1 (fun k k0 k1=>by have:=hncn1 k k0 k1;omega) (nnn1-1-(-1)).toNat (by omega)
     rw [hh] at hnh
     unfold dwn at hnh
     rw [show(nnn1-(nnn1-1-(-1)).toNat).toNat=0 by omega] at h9
     simp only [psum] at h9
     omega
   refine zbn<|htn<|hsq<|hrz ?_
   refine zlv (xlb 3 pl_60 hS) ?_
   refine zlc (xc0 Zcd) (KE (u:=s.n) (pv:=s.vv) (ln:=(fun _=>p.m)) (pt:=s.P) (cnt:=s.C) w (⟨(hS.rowN 4 rfl),fun k k0 k1=>hS.rowIn 5 rfl k0 k1,fun k k0 k1=>hS.roomIn 5 rfl k0 k1⟩:VAt _ s.vO s.n s.vv (fun _=>p.m) s.P s.C) (by omega) (fun k k0 k1=>by omega) (fun k k0 k1=>by have h9:=hC1 k k0 k1;omega)) ?_;rintro vnn2 w ⟨_,nnn2,pnn2,lnn2,gnn2,cnn2,rfl,hnrn2,hn0n2,hn1n2,hncn2,hvnn2,hS'⟩
   replace hS:Sat w0 w [.blk g1 [vL,vD,.int .i64 p.stock,.int .i64 p.kerf],.blk g2 [vdmd1],.own vdmd1 1 3 ndmd1 (ints s.M),.blk g3 [s.vO],.own s.vO 2 111 s.n (Zc s.vv s.C),.sem (Frame.rows 3 s.n s.vv (fun _=>p.m) s.P),.blk g4 [vnn1],.own vnn1 2 111 nnn1 (Zc pnn1 cnn1),.sem (Frame.rows 3 nnn1 pnn1 lnn1 gnn1),.sem rest,.sem (Frame.obj Dk (.deferred (some []))),.own vnn2 2 111 nnn2 (Zc pnn2 cnn2),.sem (Frame.rows 3 nnn2 pnn2 lnn2 gnn2)]:=hS.comp hS';clear hS'
   have hrnn2:=fun k (k0:0<=k) (k1:k<nnn2)=>hS.slhIn 12 rfl k0 k1
   refine zs2 ?_
   refine zln<|zh<|htn<|hrt<|ZbL 10 hS fun w hS=>zf2 ⟨_,rfl,?_⟩
   have hmf:lst p.m fM=lst p.m (fun j=>ZC u pt cnt j-p.D j):=ZO fun k k0 k1=>hfM k k0 k1
   have hTR:NormR (Wn (lst p.m fun j=>ZC u pt cnt j-p.D j) (X8 (plL nnn1 lnn1 gnn1 cnn1))).2 (plL nnn2 lnn2 gnn2 cnn2):=by
     rw [<-Zbh _ _ _ hn0n1,<-hh,<-hmf,<-hIp];exact hnrn2
   exact⟨_,_,_,_,_,_,0,rfl,.inr (.inr ⟨hplo,hmeet,rfl,_,hnrn1,hTR⟩),fun k k0 k1=>by have:=hncn2 k k0 k1;omega,by omega,hvnn2,hS.pk [11,12]⟩
  ·
   intro Dk t rest w hfin hS
   replace hS:=hS.n5
   exact hfin.elim
def Z4(p:Prob)(f:Int->Int):Int->Int:=fun k=>if 0<=k/\k<p.m then max 0 (p.D k-f k) else 0
theorem ZaM{p:Prob}(hp:p.Ok){f:Int->Int}(hf:∀k,0<=k->k<p.m->0<=f k):∀k,-9223372036854775808<=Z4 p f k/\Z4 p f k<=9223372036854775807:=fun k=>by
  unfold Z4
  by_cases h:0<=k/\k<p.m
  · rw [if_pos h];have:=Ue hp h.1 h.2;have:=hf k h.1 h.2;omega
  · rw [if_neg h];omega
structure NUt (w:World) (v:Value) (n:Int) (vv:Int->Value) (ln:Int->Int) (pvs:Int->Int->Value) (cns:Int->Int->Int):Prop where
  row:Row w v 1 n vv
  p:∀i,0<=i->i<n->Row w (vv i) 2 (ln i) (Zc (pvs i) (cns i))
  one:∀i,0<=i->i<n->∀k,0<=k->k<ln i->(pvs i k).oneCell'=true
theorem T2{pv:Int->Value}{cnt:Int->Int}{n:Int}(h:∀k,0<=k->k<n->(pv k).oneCell'=true):∀k,0<=k->k<n*2->(Zc pv cnt k).oneCell'=true:=fun k k0 k1=>by
  unfold Zc
  split
  · exact h _ (by omega) (by omega)
  · rfl
theorem NUt.below{w w':World}{v:Value}{n:Int}{vv:Int->Value}{ln:Int->Int}{pvs:Int->Int->Value}{cns:Int->Int->Int}(h:NUt w v n vv ln pvs cns)(hb:Below w.heap.size w w'):NUt w' v n vv ln pvs cns:=⟨h.row.below hb,fun i a b=>(h.p i a b).below hb,h.one⟩
def TM(ln:Int->Int)(f:Int->Int->Value):Nat->Int->Value
  |0=>fun _=>undef
  |k+1=>cat (tot ln k) (TM ln f k) (f k)
theorem catG_next(ln:Int->Int)(f:Int->Int->Value){i:Int}(h:0<=i):TM ln f (i+1).toNat=cat (tot ln i.toNat) (TM ln f i.toNat) (f i):=by
  rw [show(i+1).toNat=i.toNat+1 by omega,TM,Int.toNat_of_nonneg h]
theorem ZhW{w:World}{v a b:Value}{n m:Int}{pa pb:Int->Value}{ca cb:Int->Int}(h:Row w v 1 2 (ZH a b))(ha:Row w a 2 n (Zc pa ca))(hb:Row w b 2 m (Zc pb cb))(ha1:∀k,0<=k->k<n->(pa k).oneCell'=true)(hb1:∀k,0<=k->k<m->(pb k).oneCell'=true):NUt w v 2 (ZH a b) (ZH n m) (ZH pa pb) (ZH ca cb):=
  ⟨h, fun i i0 i1=>by
    by_cases e:i=0
    · subst e;exact ha
    · obtain rfl:i=1:=by omega
      exact hb,fun i i0 i1=>by
    by_cases e:i=0
    · subst e;exact ha1
    · obtain rfl:i=1:=by omega
      exact hb1⟩
set_option maxHeartbeats 4000000 in
set_option maxRecDepth 20000 in
theorem ZcN{vL vD:Value}{p:Prob}{vA:Value}{f:Int->Int}(w0:World)(h:PAt w0 vL vD p)(hok:p.Ok)(hA:Row w0 vA 1 p.m (ints f))(hfb:∀k,0<=k->k<p.m->0<=f k/\f k<=2000000000):
    Calls Tryz.prog 67 [.agg #[vL,vD,.int .i64 p.stock,.int .i64 p.kerf],vA].toArray w0 fun e w=>∃v,e= .returned v/\∃vL2 vD2,v= .agg #[vL2,vD2,.int .i64 p.stock,.int .i64 p.kerf]/\Slh vL2 p.m/\Slh vD2 p.d/\Sat w0 w [.own vL2 1 3 p.m (ints p.L),.own vD2 1 3 p.d (ints (Z4 p f))]:=by
  have hm:=h.L.slh.n0;have hm1:=h.L.slh.n1;have hd:=h.D.slh.n0;have hd1:=h.D.slh.n1;have hs:=h.is;have hk:=h.ik
  have hpm1:=hok.m1;have hpm2:=hok.m2;have hpd:=hok.d
  refine Zj Tryz.func67 Tryz.ntmps67 fun w hS=> ?_
  refine zsr ?_
  refine zla (xbx (cs:= [_,_,_,_]) hS) ?_;rintro _ w ⟨g1,rfl,hS⟩
  replace hS:=hS.n1
  refine zla (xal (cs:= [_,_,_,_]) Zg8 hS) ?_;rintro _ w ⟨g2,rfl,hS⟩
  replace hS:=hS.n2
  refine zx7 ?_
  refine zdst [0,1] [1] 7 mx_ hS ?_;clear hS;intro w hS
  refine zDrv 0 (xfb 0 fd_35_0) ?_
  refine zdl 1 (fun w hS=>(xlb 0 pl_22 hS)) ?_
  refine zDrv 3 (xfb 1 fd_35_1) ?_
  refine zdl 4 (fun w hS=>(xlb 0 pl_22 hS)) ?_
  refine zdc 2 (xc0 cl_70) (c_clone (n:=p.m) (f:=p.L) w (h.L.below hS.below) (by omega)) ?_;rintro vq1 w ⟨_,rfl,hslq1,hS'⟩
  replace hS:Sat w0 w [.blk g1 [vL,vD,.int .i64 p.stock,.int .i64 p.kerf],.blk g2 [.slice none 0 0,.slice none 0 0,.int .i64 0,.int .i64 0],.own vq1 1 3 p.m (ints p.L)]:=hS.comp hS';clear hS'
  refine⟨⟨fun _=>hS.pk [0,1],hS.pk [1]⟩,?_⟩
  refine zDrv 6 (xfb 0 fd_35_0) ?_
  refine zdc 5 (xc0 cl_70) (c_clone (n:=p.d) (f:=p.D) w (h.D.below hS.below) (by omega)) ?_;rintro vq2 w ⟨_,rfl,hslq2,hS'⟩
  replace hS:Sat w0 w [.blk g1 [vL,vD,.int .i64 p.stock,.int .i64 p.kerf],.blk g2 [.slice none 0 0,.slice none 0 0,.int .i64 0,.int .i64 0],.own vq1 1 3 p.m (ints p.L),.own vq2 1 3 p.d (ints p.D)]:=hS.comp hS';clear hS'
  refine⟨⟨fun _=>hS.pk [0,1],hS.pk [1]⟩,?_⟩
  refine zde 7 (xsb 0 pl_22 hS (hv:=hslq1.one)) ?_;clear hS;rintro w hS
  replace hS:=hS.n4
  refine⟨⟨fun h=>absurd h (by decide),hS.pk [1]⟩,?_⟩
  refine zDrv 8 (xfb 1 fd_35_1) ?_
  refine zde 9 (xsb 0 pl_22 hS (hv:=hslq2.one)) ?_;clear hS;rintro w hS
  replace hS:=hS.n4
  refine⟨⟨fun h=>absurd h (by decide),hS.pk [1]⟩,?_⟩
  refine zdd<|ztn<|zsq<|zsr ?_
  refine zlv xmv ?_
  refine zlv (xln sl_22 hA.slh) ?_
  refine zlv xmv ?_
  refine zx6<|zlp (fun mm M w=>∃(g:Int->Int) (i:Int),mm=((p.m-i).toNat)/\(0<=i)/\(i<=p.m)/\(∀k,0<=k->k<p.m->g k=if k<i then max 0 (p.D k-f k) else p.D k)/\M= [(2,.pointer (some ⟨g1,0,none⟩)),(4,.pointer (some ⟨g2,0,none⟩)),(15,vA),(16,.int .i64 p.m),(17,.int .i64 i)]/\Sat w0 w [.blk g1 [vq1,vq2,.int .i64 p.stock,.int .i64 p.kerf],.blk g2 [.slice none 0 0,.slice none 0 0,.int .i64 0,.int .i64 0],.own vq1 1 3 p.m (ints p.L),.own vq2 1 3 p.d (ints g)]) ⟨p.D,0,rfl,(by omega),(by omega),?_,rfl,hS⟩ ?_
  ·
   intro k k0 k1;rw [if_neg (by omega)]
  clear hS w
  rintro mm M w ⟨g,i,rfl,h0,h1,hg,rfl,hS⟩
  refine zsr ?_
  refine zlv xlss ?_
  refine zx7 ?_
  refine zcif ?_ ?_<;>intro hc
  ·
   refine zx3 ?_
   refine zlv xmv ?_
   refine zlv (xix (kk:=i) sl_22 hA.slh) ?_
   refine zlv (xlr (u:= .int .i64 (f i)) pl_3 (hA.below hS.below)) ?_
   have hdi:=Ue hok h0 (by omega:i<p.m)
   have hfi:=hfb i h0 (by omega)
   have hgi:=hg i h0 (by omega)
   rw [if_neg (by omega)] at hgi
   refine zs2 ?_
   refine zlt ?_
   refine zdst [0,1,2,3] [0,1,2] 12 mx_ hS ?_;clear hS;intro w hS
   refine zDrv 0 (xfb 1 fd_35_1) ?_
   refine zdla 1 (fun w hS=>(xlb 0 pl_22 hS)) ?_
   refine zDrv 2 xmv ?_
   refine zDrv 3 (xfb 1 fd_35_1) ?_
   refine zdla 4 (fun w hS=>(xlb 0 pl_22 hS)) ?_
   refine zDrv 5 xmv ?_
   refine zDrv 6 (xix (kk:=i) sl_22 hslq2) ?_
   refine zdl 7 (fun w hS=>(xlr (u:= .int .i64 (g i)) pl_3 (hS.rowN 3 rfl))) ?_
   refine zDrv 8 xmv ?_
   refine zDrv 9 (xsub (r:=g i-(f i))) ?_
   refine zdv 10 (fun _=>(Zda (r:=(max 0 (g i-(f i)))))) ?_
   refine zDrv 11 (xix (kk:=i) sl_22 hslq2) ?_
   refine zde 12 (xso 3 pl_3 hS (Zs _ _ _)) ?_;clear hS;rintro w hS
   replace hS:=hS.n4
   refine⟨⟨fun h=>absurd h (by decide),hS.pk [0,1,2]⟩,?_⟩
   refine zdd<|zbn<|ztn<|zrg ?_
   refine zlv (xadd (r:=i+1)) ?_
   refine zlv xmv ?_
   refine zln<|zlq ⟨(upd g i (max 0 (g i-(f i)))),i+1,rfl,(by omega),(by omega),?_,rfl,hS⟩
   ·
    intro k k0 k1;unfold upd;by_cases e:k=i
    · rw [if_pos e,if_pos (by omega),e];omega
    · rw [if_neg e,hg k k0 k1];by_cases e2:k<i
      · rw [if_pos e2,if_pos (by omega)]
      · rw [if_neg e2,if_neg (by omega)]
  refine zx8 ?_
  refine zlv (xls 0 st_35 hS) ?_
  refine zle (xsw 1 st_35 hS (hd:=(Za hslq1.one (Za hslq2.one (Za rfl (Za rfl Zd)))))) ?_;clear hS;rintro w hS
  replace hS:=hS.n4
  refine zx1<|zfc 1 st_35 hS ⟨_,rfl,?_⟩
  have hin:i=p.m:=by omega
  replace hS:=hS.recont 3 rfl (d:=ints (Z4 p f)) (fun k k0 k1=>congrArg (Value.int .i64) (by rw [hg k k0 (by omega),if_pos (by omega)];unfold Z4;rw [if_pos ⟨k0,by omega⟩]))
  exact⟨_,_,rfl,hslq1,hslq2,hS.pk [2,3]⟩
set_option maxRecDepth 20000 in
theorem Zeb{n:Int}(w0:World)(h0:0<=n)(h1:n<=100000000):
    Calls Tryz.prog 106 [.slice none 0 0,.int .i64 n].toArray w0 fun e w=>∃v,e= .returned v/\∃r,v=r/\Slh r 0/\Sat w0 w [.own r 2 111 0 (Zc (fun _=>Value.slice none 0 0) (fun _=>0))]:=by
  refine Zj Tryz.func106 Tryz.ntmps106 fun w hS=> ?_
  refine zsr ?_
  refine zlv xas ?_
  refine zx5 ?_
  refine zlv xmv ?_
  refine zlv (xkf xlss) ?_
  refine zlt<|zcf<|zsk<|ztn<|zsq<|zsr ?_
  refine zs2 ?_
  refine zlvr rfl rfl rfl (ex_cap_nil rfl sl_60 rfl) ?_
  refine zlv xmv ?_
  refine zlv (xln sl_60 slh_nil) ?_
  refine zlv (xsub (r:=0)) ?_
  refine zlv (xsub (r:=n)) ?_
  refine zlv xas ?_
  refine zlz ?_
  refine zs2 ?_
  refine zlt ?_
  refine zcif ?_ ?_<;>intro hc
  ·
   refine zrg ?_
   refine zs2 ?_
   refine zlvr rfl rfl rfl (ex_cap_nil rfl sl_60 rfl) ?_
   refine zlv (xany (v:= .slice none 0 0)) ?_
   refine zlv xmv ?_
   refine Zbj rfl rfl rfl (Vr rfl sl_60 Tryz.underlying3 Yl rfl (by omega) rfl rfl (by omega) (by omega) hS) ?_;rintro v1 w ⟨hS,hv1⟩
   replace hS:=hS.n1
   refine zlv xmv ?_
   refine zlv (xln sl_60 slh_nil) ?_
   refine zlvr rfl rfl rfl (WJ rfl sl_60 rfl rfl hv1) ?_
   replace hS:=hS.cut 0 rfl (Zc (fun _=>Value.slice none 0 0) (fun _=>0))
   replace hS:=hS.n1
   refine zlv xas ?_
   refine zlz ?_
   refine zs2 ?_
   refine zx1<|zf1 ⟨_,rfl,?_⟩
   exact⟨_,rfl,(Zai hv1),hS⟩
  refine ZR ?_
  refine zs2 ?_
  refine zx1<|zf1 ⟨_,rfl,?_⟩
  exact⟨_,rfl,slh_nil,(hS.sub .slnil).addnil 2 111 (Zc (fun _=>Value.slice none 0 0) (fun _=>0))⟩
set_option maxRecDepth 20000 in
theorem Zbf{v:Value}{n:Int}{vv:Int->Value}{ln:Int->Int}{pvs:Int->Int->Value}{cns:Int->Int->Int}(w0:World)(hM:NUt w0 v n vv ln pvs cns)(ht:∀k,0<=k->k<=n->tot ln k.toNat<=10000000):
    Calls Tryz.prog 66 [v].toArray w0 fun e w=>∃v,e= .returned v/\∃r,v=r/\Slh r (tot ln n.toNat)/\Sat w0 w [.own r 2 111 (tot ln n.toNat) (Zc (TM ln pvs n.toNat) (XJ ln cns n.toNat))]:=by
  have hn:=hM.row.slh.n0;have hn1:=hM.row.slh.n1
  refine Zj Tryz.func66 Tryz.ntmps66 fun w hS=> ?_
  refine zsr ?_
  refine zlv xas ?_
  refine zlz ?_
  refine zlv xas ?_
  refine zx5 ?_
  refine zlv xmv ?_
  refine zlv (xln VM hM.row.slh) ?_
  refine zlv xmv ?_
  refine zx6<|zlp (fun mm M w=>∃(s:Int) (i:Int),mm=((n-i).toNat)/\(0<=i)/\(i<=n)/\(s=tot ln i.toNat)/\(0<=s)/\M= [(0,v),(2,.slice none 0 0),(3,.int .i64 s),(9,v),(10,.int .i64 n),(11,.int .i64 i)]/\Sat w0 w []) ⟨0,0,rfl,(by omega),(by omega),?_,(by omega),rfl,hS⟩ ?_
  ·
   rfl
  clear hS w
  rintro mm M w ⟨s,i,rfl,h0,h1,hs,hs0,rfl,hS⟩
  refine zsr ?_
  refine zlv xlss ?_
  refine zx7 ?_
  refine zcif ?_ ?_<;>intro hc
  ·
   refine zx3 ?_
   refine zlv (xix (kk:=i) VM hM.row.slh) ?_
   refine zlv (xlr (u:=(vv i)) pl_60 (hM.row.below hS.below)) ?_
   have hl:=(hM.p i h0 (by omega)).slh.n0;have ht1:=ht (i+1) (by omega) (by omega);rw [YM ln h0] at ht1
   refine zlv xas ?_
   refine zlz ?_
   refine zs2 ?_
   refine zlv (xln sl_60 (hM.p i (by omega) (by omega)).slh) ?_
   refine zlv (xadd (r:=s+(ln i))) ?_
   refine zlv xas ?_
   refine zlz ?_
   refine zlv xmv ?_
   refine zlv (xkf xlss) ?_
   refine zlt<|zcf<|zsk<|zbn<|ztn<|zrg ?_
   refine zlv (xadd (r:=i+1)) ?_
   refine zlv xmv ?_
   refine zln<|zlq ⟨s+(ln i),i+1,rfl,(by omega),(by omega),?_,(by omega),rfl,hS⟩
   ·
    rw [YM ln h0,hs]
  refine zx8 ?_
  refine zlv xmv ?_
  have hin:i=n:=by omega
  have ht2:=ht n hn (Int.le_refl _);rw [<-hin] at ht2
  refine zlc (xc0 Zge) (Zeb (n:=s) w (by omega) (by omega)) ?_;rintro vq1 w ⟨_,rfl,hslq1,hS'⟩
  replace hS:Sat w0 w [.own vq1 2 111 0 (Zc (fun _=>Value.slice none 0 0) (fun _=>0))]:=hS.comp hS';clear hS'
  refine zlv xas ?_
  refine zx5 ?_
  refine zlv xmv ?_
  refine zlv (xln VM hM.row.slh) ?_
  refine zlv xmv ?_
  refine zx6<|zlp (fun mm M w=>∃(m:Int) (gq:Int->Value) (gc:Int->Int) (j:Int) (vb:Value),mm=((n-j).toNat)/\(0<=j)/\(j<=n)/\(m=tot ln j.toNat)/\(0<=m)/\(∀k,0<=k->k<m->gq k=TM ln pvs j.toNat k)/\(∀k,0<=k->k<m->gc k=XJ ln cns j.toNat k)/\(Slh vb m)/\M= [(2,.slice none 0 0),(6,vb),(25,v),(26,.int .i64 n),(27,.int .i64 j)]/\Sat w0 w [.own vb 2 111 m (Zc gq gc)]) ⟨0,(fun _=>Value.slice none 0 0),(fun _=>0),0,vq1,rfl,(by omega),(by omega),?_,(by omega),?_,?_,?_,rfl,hS⟩ ?_
  ·
   rfl
  ·
   intro k k0 k1;omega
  ·
   intro k k0 k1;omega
  ·
   exact hslq1
  clear hS w
  rintro mm M w ⟨m,gq,gc,j,vb,rfl,h0,h1,hm,hm0,hg,hc9,hvb,rfl,hS⟩
  refine zsr ?_
  refine zlv xlss ?_
  refine zx7 ?_
  refine zcif ?_ ?_<;>intro hc
  ·
   refine zx3 ?_
   refine zlv (xix (kk:=j) VM hM.row.slh) ?_
   refine zlv (xlr (u:=(vv j)) pl_60 (hM.row.below hS.below)) ?_
   have hl:=(hM.p j h0 (by omega)).slh.n0;have ht1:=ht (j+1) (by omega) (by omega);rw [YM ln h0] at ht1
   refine zlv xas ?_
   refine zlt<|zrg ?_
   refine zs2 ?_
   refine zla (xap 0 (r:=m+(ln j)) (f:=Zc (cat m gq (pvs j)) (cat m gc (cns j))) sl_60 Yl hS ((hM.p j (by omega) (by omega)).below hS.below) (by exact RR _ _ _ _ _) (h1:=(T2 (hM.one j (by omega) (by omega))))) ?_;rintro v1 w ⟨hS,hv1⟩
   replace hS:=hS.n1
   refine zlv xas ?_
   refine zx10 ?_
   refine zlv (xadd (r:=j+1)) ?_
   refine zlv xmv ?_
   refine zln<|zlq ⟨m+(ln j),(cat m gq (pvs j)),(cat m gc (cns j)),j+1,v1,rfl,(by omega),(by omega),?_,(by omega),?_,?_,?_,rfl,hS⟩
   ·
    rw [YM ln h0,hm]
   ·
    intro k k0 k1;rw [catG_next ln pvs h0,<-hm];unfold cat;by_cases e:k<m
    · rw [if_pos e,if_pos e];exact hg k k0 e
    · rw [if_neg e,if_neg e]
   ·
    intro k k0 k1;rw [catN_next ln cns h0,<-hm];unfold cat;by_cases e:k<m
    · rw [if_pos e,if_pos e];exact hc9 k k0 e
    · rw [if_neg e,if_neg e]
   ·
    exact hv1
  refine zx8 ?_
  refine zs2 ?_
  refine zx1<|zf1 ⟨_,rfl,?_⟩
  obtain rfl:j=n:=by omega
  subst hm
  replace hS:=hS.recont 0 rfl (d:=Zc (TM ln pvs j.toNat) (XJ ln cns j.toNat)) (fun k k0 k1=>by unfold Zc;rw [hg _ (by omega) (by omega),hc9 _ (by omega) (by omega)])
  exact⟨_,rfl,hvb,hS⟩
end Go.Proofs.YtopmifmfecfaaaaGreat
