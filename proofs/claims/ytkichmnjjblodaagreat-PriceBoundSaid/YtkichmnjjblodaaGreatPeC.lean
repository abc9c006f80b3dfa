import Derived.Test.YtkichmnjjblodaaGreatPeB
set_option linter.unusedVariables false
set_option linter.unusedSimpArgs false
set_option maxRecDepth 20000
set_option maxHeartbeats 4000000
namespace Go.Proofs.YtkichmnjjblodaaGreat
open Go Go.RowKit Go.Proofs.Gw
theorem Zlb:Zc Oj 203=true:=Ob
theorem YI:ZV Oj 200=some (.agg #[.int Oh 0,.int Oh 0,Og,Og,Og],5,88):=Ob
theorem ZhT {t:Tb} {row col:Int} (ha:RO t row col) (hb:∀a b,0<=a->a<=t.nb->0<=b->b<=t.nf-> -1073741824<=Yb t (row+1) (col+1) a b/\Yb t (row+1) (col+1) a b<=1073741824):TPrp (piv t row col):=by
 obtain⟨D,r0,r1,c0,c1,aa⟩:=ha
 have ab:=D.cell (i:=row+1) (j:=col+1) Oa Oa Oa Oa
 have hs:=ZaV (t.C (row+1) (col+1))
 have Y:1<=(piv t row col).den/\(piv t row col).den<=1073741824:=by
   rw [KZ];unfold sg;split<;>omega
 have ac:=D.c
 refine⟨D.n1,D.n2,D.m2,D.v,Y.1,Y.2,D.c,?_,fun i G F=>⟨(D.rows i G F).1,fun j X W=> ?_⟩⟩
 · have O:∀i,0<=i->i<t.nf+t.nb->∃k,0<=k/\k<t.nf+t.nb/\cat t.nf (upd t.F col (t.B row)) (upd t.B row (t.F col)) i=cat t.nf t.F t.B k/\(i=col->k=t.nf+row)/\(i=t.nf+row->k=col)/\(i≠col->i≠t.nf+row->k=i):=fun i G F=>by
     by_cases I:i=col
     · refine⟨t.nf+row,Oa,Oa,?_,fun _=>rfl,fun h=>Oa,fun h=>absurd I h⟩
       unfold cat;rw [if_pos Oa,if_neg Oa,I,ZA];congr 1;omega
     · by_cases J:i=t.nf+row
       · refine⟨col,Oa,Oa,?_,fun h=>Oa,fun _=>rfl,fun _ h=>absurd J h⟩
         unfold cat;rw [if_neg Oa,if_pos Oa,J,show t.nf+row-t.nf=row by omega,ZA]
       · refine⟨i,Oa,Oa,?_,fun h=>Oa,fun h=>Oa,fun _ _=>rfl⟩
         unfold cat;split
         · rw [upd_ne _ _ I]
         · rw [upd_ne _ _ Oa]
   refine⟨fun i G F=> ?_,fun i j G F X W e=> ?_⟩
   · obtain⟨k,V,U,e,_⟩:=O i G F
     have:=D.perm.1 k V U
     have h3:0<=cat t.nf (upd t.F col (t.B row)) (upd t.B row (t.F col)) i/\cat t.nf (upd t.F col (t.B row)) (upd t.B row (t.F col)) i<t.nf+t.nb:=by rw [e];exact this
     exact h3
   · obtain⟨k,V,U,I,x1,x2,x3⟩:=O i G F
     obtain⟨q,q0,q1,J,y1,y2,Z⟩:=O j X W
     have:=D.perm.2 k q V U q0 q1 (by rw [<-I,<-J];exact e)
     by_cases a1:i=col<;>by_cases a2:i=t.nf+row<;>by_cases b1:j=col<;>by_cases b2:j=t.nf+row<;>simp only [a1,a2,b1,b2,true_implies,false_implies,not_true,not_false_eq_true,ne_eq] at x1 x2 x3 y1 y2 Z<;>omega
 · have h1:t.ln i=t.nf+1:=(D.rows i G F).1
   have j2:j<t.ln i:=W
   have i2:i<t.nc:=F
   have:=hb i j G Oa X Oa
   rw [W7]
   rcases hs with h|h<;>rw [h]<;>omega
theorem ZgJ {vB vF vC:Value} {vv:Int->Value} {t:Tb} {row col:Int} (w0:World) (J:TAt w0 vB vF vC vv t) (fP: -9223372036854775808<=row/\row<=9223372036854775807) (gS: -9223372036854775808<=col/\col<=9223372036854775807):
   Calls Oj 180 [.agg #[.int Oh t.vars,.int Oh t.den,vB,vF,vC],.int Oh row,.int Oh col].toArray w0 fun e w=>∃v,e= .returned v/\∃vB vF vC vv t' e,v= .tuple #[.agg #[.int Oh t'.vars,.int Oh t'.den,vB,vF,vC],.int Oh e]/\Zjm t row col t' e/\Slh vB t'.nb/\Slh vF t'.nf/\Slh vC t'.nc/\Sat w0 w [.own vB 1 3 t'.nb (ints t'.B),.own vF 1 3 t'.nf (ints t'.F),.own vC 1 22 t'.nc vv,.sem (Frame.rows 3 t'.nc vv t'.ln t'.C)]:=by
 have hn:=J.F.cf.n0;have a3:=J.F.cf.n1;have hb:=J.B.cf.n0;have a9:=J.B.cf.n1;have a8:=J.C.row.cf.n0;have a7:=J.C.row.cf.n1
 refine zenG Tryz.func180 Tryz.ntmps180 fun w D=> ?_
 refine zsr<|zla (xbx (cs:= [_,_,_,_,_]) D) ?_;rintro _ w ⟨g1,rfl,D⟩
 refine zla (xal (cs:= [_,_,_,_,_]) YI D) ?_;rintro _ w ⟨g2,rfl,D⟩
 refine(zP)<|zx5<|(zV (xls 0 Zx D))<|zlc (xc0 Zf4) (Kn (t:=t) w (J.below D.below)) ?_;rintro _ w ⟨rfl,ad⟩
 replace D:=D.cmp ad;clear ad
 refine(Om)<|zlb 21 ?_ ?_<;>intro hc;rotate_left
 refine zlv xmv ?_
 have hp:TPrp t:=by first|assumption|exact Oc ‹¬¬(TPrp t)›
 have Y:=hp.n1
 have b2:=hp.n2
 have b3:=hp.m2
 have b4:=hp.v
 have b5:=hp.d1
 have b6:=hp.d2
 have b7:=hp.c
 have a6:=hp.len (i:=0) Oa Oa
 refine(On)<|zlb 25 ?_ ?_<;>intro hc;rotate_left
 refine(zP)<|(zV (xfb 2 fd_200_2))<|(zV (xlb 0 pl_22 D))<|(zV (xln Zb J.B.cf))<|(On)<|zlb 32 ?_ ?_<;>intro hc;rotate_left
 refine zs4 ?_
 refine zlb 36 ?_ ?_<;>intro hc;rotate_left
 refine(zP)<|(zV (xfb 3 fd_200_3))<|(zV (xlb 0 pl_22 D))<|(zV (xln Zb J.F.cf))<|(On)<|zlb 43 ?_ ?_<;>intro hc;rotate_left
 refine(zV (xfb 4 fd_200_4))<|(zV (xlb 0 Zs D))<|(zP)<|(zV (Zg (r:=row+1)))<|(zV (xix (kk:=row+1) Zi J.C.row.cf))<|(zV (xlr (u:=(vv (row+1))) pl_22 (J.C.row.below D.below)))<|zlv xmv ?_
 have a4:=hp.len (i:=row+1) Oa Oa
 refine(zV (Zg (r:=col+1)))<|(zV (xix (kk:=col+1) Zb (J.C.p (row+1) Oa Oa).cf))<|(zV (xlr (u:= .int Oh ((t.C (row+1)) (col+1))) pl_3 ((J.C.p (row+1) Oa Oa).below D.below)))<|(Om)<|zlt<|Ze ?_ ?_<;>intro hc
 ·
  refine zsr<|(zV (xany (v:= .agg #[.int Oh 0,.int Oh 0,Og,Og,Og])))<|zle (xsw 1 Zx D) ?_;clear D;rintro w D
  refine(zP)<|zx14<|ZS 1 Zx D ⟨_,rfl,?_⟩
  exact⟨_,_,_,fun _=>undef,Tb.zero,1,rfl,.inl ⟨by first|exact fun hh=>absurd hh.1 ‹_›|(rintro⟨_,p1,p2,p3,p4,p5⟩;omega),rfl,rfl⟩,slh_nil,slh_nil,slh_nil,((((D.sub (.cons _ (.cons _ .slnil))).cg 1 3 (ints Tb.zero.B)).cg 1 3 (ints Tb.zero.F)).cg 1 22 (fun _=>undef)).fa 3 (fun _=>undef) Tb.zero.ln Tb.zero.C⟩
 refine ZM<|zlv xmv ?_
 have af:t.C (row+1) (col+1)≠0:=Oa
 have az:=hp.cell (i:=row+1) (j:=col+1) Oa Oa Oa Oa
 refine(zV (Zg (r:=row+1)))<|(zP)<|(zV (Zg (r:=col+1)))<|(Om)<|zlz<|(zP)<|zx7 ?_
 refine WR (fun M w=>∃(G:Int),(sg (t.C (row+1) (col+1))=G/\(G=1\/G= -1))/\M= [(0,.agg #[.int Oh t.vars,.int Oh t.den,vB,vF,vC]),(1,.int Oh row),(2,.int Oh col),(3,Oq g1),(6,Oq g2),(7,.int Oh 0),(18,.agg #[.int Oh t.vars,.int Oh t.den,vB,vF,vC]),(19,B (TPrp t)),(20,B (¬(TPrp t))),(21,.bool false),(22,.int Oh row),(23,B (row<0)),(24,B (row<0)),(25,.bool false),(26,.int Oh row),(27,.pointer (some ⟨g1,2,none⟩)),(28,vB),(29,.int Oh t.nb),(30,B (t.nb<=row)),(31,B (t.nb<=row)),(32,.bool false),(33,.int Oh col),(34,B (col<0)),(35,B (col<0)),(36,.bool false),(37,.int Oh col),(38,.pointer (some ⟨g1,3,none⟩)),(39,vF),(40,.int Oh t.nf),(41,B (t.nf<=col)),(42,B (t.nf<=col)),(43,.bool false),(44,.pointer (some ⟨g1,4,none⟩)),(45,vC),(46,.int Oh row),(47,.int Oh (row+1)),(48,.pointer (some (cad vC (row+1)))),(49,(vv (row+1))),(50,.int Oh col),(51,.int Oh (col+1)),(52,.pointer (some (cad (vv (row+1)) (col+1)))),(53,.int Oh ((t.C (row+1)) (col+1))),(54,B (((t.C (row+1)) (col+1))=0)),(55,B (((t.C (row+1)) (col+1))=0)),(57,.int Oh row),(58,.int Oh (row+1)),(59,.int Oh col),(60,.int Oh (col+1)),(8,.int Oh (row+1)),(9,.int Oh (col+1)),(10,.int Oh G)]/\Sat w0 w [.blk g1 [.int Oh t.vars,.int Oh t.den,vB,vF,vC],.blk g2 [.int Oh 0,.int Oh 0,Og,Og,Og]]) ?_ ?_
 ·
  refine zsr<|(zV (xfb 4 fd_200_4))<|(zV (xlb 0 Zs D))<|(zP)<|(zV (xix (kk:=row+1) Zi J.C.row.cf))<|(zV (xlr (u:=(vv (row+1))) pl_22 (J.C.row.below D.below)))<|(zP)<|(zV (xix (kk:=col+1) Zb (J.C.p (row+1) Oa Oa).cf))<|(zV (xlr (u:= .int Oh ((t.C (row+1)) (col+1))) pl_3 ((J.C.p (row+1) Oa Oa).below D.below)))<|(zP)<|zlt<|Ze ?_ ?_<;>intro hc
  ·
   refine zrg<|(zP)<|zln<|zgj ⟨(-1),?_,rfl,D⟩
   · exact⟨by unfold sg;first|rw [if_pos Oa]|rw [if_neg Oa],Oa⟩
  refine zsk<|zgj ⟨1,?_,rfl,D⟩
  · exact⟨by unfold sg;first|rw [if_pos Oa]|rw [if_neg Oa],Oa⟩
 clear D w;rintro M w ⟨G,jA,rfl,D⟩
 obtain⟨ab,ai⟩:=jA
 have kP:G*t.C (row+1) (col+1)=t.C (row+1) (col+1)\/G*t.C (row+1) (col+1)= -t.C (row+1) (col+1):=by rcases ai with h|h<;>rw [h]<;>omega
 refine ztn<|zsq<| ?_
 refine WR (fun M w=>∃(g3:Nat) (Z:Value) (X:Value) (W:Value) (O:Value),(Slh X t.nb)/\(Slh O t.nf)/\M= [(0,.agg #[.int Oh t.vars,.int Oh t.den,vB,vF,vC]),(1,.int Oh row),(2,.int Oh col),(3,Oq g1),(6,Oq g2),(7,.int Oh 0),(18,.agg #[.int Oh t.vars,.int Oh t.den,vB,vF,vC]),(19,B (TPrp t)),(20,B (¬(TPrp t))),(21,.bool false),(22,.int Oh row),(23,B (row<0)),(24,B (row<0)),(25,.bool false),(26,.int Oh row),(27,.pointer (some ⟨g1,2,none⟩)),(28,vB),(29,.int Oh t.nb),(30,B (t.nb<=row)),(31,B (t.nb<=row)),(32,.bool false),(33,.int Oh col),(34,B (col<0)),(35,B (col<0)),(36,.bool false),(37,.int Oh col),(38,.pointer (some ⟨g1,3,none⟩)),(39,vF),(40,.int Oh t.nf),(41,B (t.nf<=col)),(42,B (t.nf<=col)),(43,.bool false),(44,.pointer (some ⟨g1,4,none⟩)),(45,vC),(46,.int Oh row),(47,.int Oh (row+1)),(48,.pointer (some (cad vC (row+1)))),(49,(vv (row+1))),(50,.int Oh col),(51,.int Oh (col+1)),(52,.pointer (some (cad (vv (row+1)) (col+1)))),(53,.int Oh ((t.C (row+1)) (col+1))),(54,B (((t.C (row+1)) (col+1))=0)),(55,B (((t.C (row+1)) (col+1))=0)),(57,.int Oh row),(58,.int Oh (row+1)),(59,.int Oh col),(60,.int Oh (col+1)),(8,.int Oh (row+1)),(9,.int Oh (col+1)),(10,.int Oh G),(70,Oq g1),(71,.int Oh t.vars),(72,.int Oh G),(73,.pointer (some ⟨g1,4,none⟩)),(74,vC),(75,.int Oh (row+1)),(76,.pointer (some (cad vC (row+1)))),(77,(vv (row+1))),(78,.int Oh (col+1)),(79,.pointer (some (cad (vv (row+1)) (col+1)))),(80,.int Oh ((t.C (row+1)) (col+1))),(81,.int Oh (G*((t.C (row+1)) (col+1)))),(83,.pointer (some ⟨g1,2,none⟩)),(84,vB),(87,.pointer (some ⟨g1,3,none⟩)),(88,vF),(82,Z),(85,X),(86,W),(89,O),(90,.agg #[.int Oh t.vars,.int Oh (G*((t.C (row+1)) (col+1))),X,O,Og]),(11,Oq g3)]/\Sat w0 w [.blk g1 [.int Oh t.vars,.int Oh t.den,vB,vF,vC],.blk g2 [.int Oh 0,.int Oh 0,Og,Og,Og],.own X 1 3 t.nb (ints (cat 0 (fun _=>0) t.B)),.own O 1 3 t.nf (ints (cat 0 (fun _=>0) t.F)),.blk g3 [.int Oh t.vars,.int Oh (G*((t.C (row+1)) (col+1))),X,O,Og]]) ?_ ?_
 ·
  refine zdst [0,1] [0,1] 22 mx_ D ?_;clear D;intro w D
  refine(zDw 0 (xfb 0 fd_200_0))<|(zDl 1 (fun w D=>(xlb 0 pl_3 D)))<|(zDw 2 xmv)<|(zDw 3 (xfb 4 fd_200_4))<|(zDl 4 (fun w D=>(xlb 0 Zs D)))<|(zDw 5 xmv)<|(zDw 6 (xix (kk:=row+1) Zi J.C.row.cf))<|(zDl 7 (fun w D=>(xlr (u:=(vv (row+1))) pl_22 (J.C.row.below D.below))))<|(zDw 8 xmv)<|(zDw 9 (xix (kk:=col+1) Zb (J.C.p (row+1) Oa Oa).cf))<|(zDl 10 (fun w D=>(xlr (u:= .int Oh ((t.C (row+1)) (col+1))) pl_3 ((J.C.p (row+1) Oa Oa).below D.below))))<|(zDw 11 (Z2 (r:=(G*((t.C (row+1)) (col+1)))) (e:=rfl)))<|(zDw 13 (xfb 2 fd_200_2))<|(zDl 14 (fun w D=>(xlb 0 pl_22 D)))<|zDrv 17 (xfb 3 fd_200_3) ?_
  refine(zDl 18 (fun w D=>(xlb 0 pl_22 D)))<|Xk (r:= [12,16,21]) ((Z1 ?_ (Z1 ?_ (Z1 ?_ Xj))))
  ·
   refine zka (xl0 (c:=ints (fun _=>0)) Zb D) ?_;rintro Z w ⟨D,ah⟩
   refine⟨⟨fun _=>D.pk [0,1],D.pk [0,1]⟩,?_⟩
   refine Xk (r:= [15,16,21]) ((Z1 ?_ (Z1 ?_ (Z1 ?_ Xj))))
   ·
    refine zka (xap 2 (r:=t.nb) (f:=ints (cat 0 (fun _=>0) t.B)) Zb Zm D (J.B.below D.below) (by exact Zu _ _ _)) ?_;rintro X w ⟨D,U⟩
    refine⟨⟨fun _=>D.pk [0,1],D.pk [0,1]⟩,?_⟩
    refine Xk (r:= [16,21]) ((Z1 ?_ (Z1 ?_ Xj)))
    ·
     refine zka (xl0 (c:=ints (fun _=>0)) Zb D) ?_;rintro W w ⟨D,I⟩
     refine⟨⟨fun _=>D.pk [0,1],D.pk [0,1]⟩,?_⟩
     refine Xk (r:= [19,21]) ((Z1 ?_ (Z1 ?_ Xj)))
     ·
      refine zka (xap 3 (r:=t.nf) (f:=ints (cat 0 (fun _=>0) t.F)) Zb Zm D (J.F.below D.below) (by exact Zu _ _ _)) ?_;rintro O w ⟨D,F⟩
      refine⟨⟨fun _=>D.pk [0,1],D.pk [0,1]⟩,?_⟩
      refine zdv 20 (fun _=>(xany (v:= .agg #[.int Oh t.vars,.int Oh (G*((t.C (row+1)) (col+1))),X,O,Og]) (hr:=by obtain⟨_,_,_,_,rfl,_⟩:=U;obtain⟨_,_,_,_,rfl,_⟩:=F;kernel_rfl))) ?_
      refine zda 21 (xal (cs:= [_,_,_,_,_]) YI D) ?_;rintro _ w ⟨g3,rfl,D⟩
      refine⟨⟨fun _=>D.pk [0,1],D.pk [0,1]⟩,?_⟩
      refine zde 22 (xsw 4 Zx D (hd:=(Za rfl (Za rfl (Za U.one (Za F.one (Za rfl Zh))))))) ?_;clear D;rintro w D
      refine⟨⟨fun h=>absurd h (by decide),D.pk [0,1]⟩,?_⟩
      refine zdd<|zgj ⟨g3,Z,X,W,O,U,F,rfl,D⟩
     refine zka (xal (cs:= [_,_,_,_,_]) YI D) ?_;rintro _ w ⟨g3,rfl,D⟩
     refine⟨⟨fun _=>D.pk [0,1],D.pk [0,1]⟩,?_⟩
     refine zda 19 (xap 3 (r:=t.nf) (f:=ints (cat 0 (fun _=>0) t.F)) Zb Zm D (J.F.below D.below) (by exact Zu _ _ _)) ?_;rintro O w ⟨D,F⟩
     refine⟨⟨fun _=>D.pk [0,1],D.pk [0,1]⟩,?_⟩
     refine zdv 20 (fun _=>(xany (v:= .agg #[.int Oh t.vars,.int Oh (G*((t.C (row+1)) (col+1))),X,O,Og]) (hr:=by obtain⟨_,_,_,_,rfl,_⟩:=U;obtain⟨_,_,_,_,rfl,_⟩:=F;kernel_rfl))) ?_
     refine zde 22 (xsw 4 Zx D (hd:=(Za rfl (Za rfl (Za U.one (Za F.one (Za rfl Zh))))))) ?_;clear D;rintro w D
     refine⟨⟨fun h=>absurd h (by decide),D.pk [0,1]⟩,?_⟩
     refine zdd<|zgj ⟨g3,Z,X,W,O,U,F,rfl,D⟩
    refine zka (xal (cs:= [_,_,_,_,_]) YI D) ?_;rintro _ w ⟨g3,rfl,D⟩
    refine⟨⟨fun _=>D.pk [0,1],D.pk [0,1]⟩,?_⟩
    refine zda 16 (xl0 (c:=ints (fun _=>0)) Zb D) ?_;rintro W w ⟨D,I⟩
    refine⟨⟨fun _=>D.pk [0,1],D.pk [0,1]⟩,?_⟩
    refine zda 19 (xap 4 (r:=t.nf) (f:=ints (cat 0 (fun _=>0) t.F)) Zb Zm D (J.F.below D.below) (by exact Zu _ _ _)) ?_;rintro O w ⟨D,F⟩
    refine⟨⟨fun _=>D.pk [0,1],D.pk [0,1]⟩,?_⟩
    refine zdv 20 (fun _=>(xany (v:= .agg #[.int Oh t.vars,.int Oh (G*((t.C (row+1)) (col+1))),X,O,Og]) (hr:=by obtain⟨_,_,_,_,rfl,_⟩:=U;obtain⟨_,_,_,_,rfl,_⟩:=F;kernel_rfl))) ?_
    refine zde 22 (xsw 3 Zx D (hd:=(Za rfl (Za rfl (Za U.one (Za F.one (Za rfl Zh))))))) ?_;clear D;rintro w D
    refine⟨⟨fun h=>absurd h (by decide),D.pk [0,1]⟩,?_⟩
    refine zdd<|zgj ⟨g3,Z,X,W,O,U,F,rfl,D.pk [0,1,2,4,3]⟩
   ·
    refine zka (xl0 (c:=ints (fun _=>0)) Zb D) ?_;rintro X w ⟨D,U⟩
    refine⟨⟨fun _=>D.pk [0,1],D.pk [0,1]⟩,?_⟩
    refine Xk (r:= [15,21]) ((Z1 ?_ (Z1 ?_ Xj)))
    ·
     refine zka (xap 2 (r:=t.nb) (f:=ints (cat 0 (fun _=>0) t.B)) Zb Zm D (J.B.below D.below) (by exact Zu _ _ _)) ?_;rintro W w ⟨D,I⟩
     refine⟨⟨fun _=>D.pk [0,1],D.pk [0,1]⟩,?_⟩
     refine Xk (r:= [19,21]) ((Z1 ?_ (Z1 ?_ Xj)))
     ·
      refine zka (xap 3 (r:=t.nf) (f:=ints (cat 0 (fun _=>0) t.F)) Zb Zm D (J.F.below D.below) (by exact Zu _ _ _)) ?_;rintro O w ⟨D,F⟩
      refine⟨⟨fun _=>D.pk [0,1],D.pk [0,1]⟩,?_⟩
      refine zdv 20 (fun _=>(xany (v:= .agg #[.int Oh t.vars,.int Oh (G*((t.C (row+1)) (col+1))),W,O,Og]) (hr:=by obtain⟨_,_,_,_,rfl,_⟩:=I;obtain⟨_,_,_,_,rfl,_⟩:=F;kernel_rfl))) ?_
      refine zda 21 (xal (cs:= [_,_,_,_,_]) YI D) ?_;rintro _ w ⟨g3,rfl,D⟩
      refine⟨⟨fun _=>D.pk [0,1],D.pk [0,1]⟩,?_⟩
      refine zde 22 (xsw 4 Zx D (hd:=(Za rfl (Za rfl (Za I.one (Za F.one (Za rfl Zh))))))) ?_;clear D;rintro w D
      refine⟨⟨fun h=>absurd h (by decide),D.pk [0,1]⟩,?_⟩
      refine zdd<|zgj ⟨g3,Z,W,X,O,I,F,rfl,D⟩
     refine zka (xal (cs:= [_,_,_,_,_]) YI D) ?_;rintro _ w ⟨g3,rfl,D⟩
     refine⟨⟨fun _=>D.pk [0,1],D.pk [0,1]⟩,?_⟩
     refine zda 19 (xap 3 (r:=t.nf) (f:=ints (cat 0 (fun _=>0) t.F)) Zb Zm D (J.F.below D.below) (by exact Zu _ _ _)) ?_;rintro O w ⟨D,F⟩
     refine⟨⟨fun _=>D.pk [0,1],D.pk [0,1]⟩,?_⟩
     refine zdv 20 (fun _=>(xany (v:= .agg #[.int Oh t.vars,.int Oh (G*((t.C (row+1)) (col+1))),W,O,Og]) (hr:=by obtain⟨_,_,_,_,rfl,_⟩:=I;obtain⟨_,_,_,_,rfl,_⟩:=F;kernel_rfl))) ?_
     refine zde 22 (xsw 4 Zx D (hd:=(Za rfl (Za rfl (Za I.one (Za F.one (Za rfl Zh))))))) ?_;clear D;rintro w D
     refine⟨⟨fun h=>absurd h (by decide),D.pk [0,1]⟩,?_⟩
     refine zdd<|zgj ⟨g3,Z,W,X,O,I,F,rfl,D⟩
    refine zka (xal (cs:= [_,_,_,_,_]) YI D) ?_;rintro _ w ⟨g3,rfl,D⟩
    refine⟨⟨fun _=>D.pk [0,1],D.pk [0,1]⟩,?_⟩
    refine zda 15 (xap 2 (r:=t.nb) (f:=ints (cat 0 (fun _=>0) t.B)) Zb Zm D (J.B.below D.below) (by exact Zu _ _ _)) ?_;rintro W w ⟨D,I⟩
    refine⟨⟨fun _=>D.pk [0,1],D.pk [0,1]⟩,?_⟩
    refine zda 19 (xap 3 (r:=t.nf) (f:=ints (cat 0 (fun _=>0) t.F)) Zb Zm D (J.F.below D.below) (by exact Zu _ _ _)) ?_;rintro O w ⟨D,F⟩
    refine⟨⟨fun _=>D.pk [0,1],D.pk [0,1]⟩,?_⟩
    refine zdv 20 (fun _=>(xany (v:= .agg #[.int Oh t.vars,.int Oh (G*((t.C (row+1)) (col+1))),W,O,Og]) (hr:=by obtain⟨_,_,_,_,rfl,_⟩:=I;obtain⟨_,_,_,_,rfl,_⟩:=F;kernel_rfl))) ?_
    refine zde 22 (xsw 4 Zx D (hd:=(Za rfl (Za rfl (Za I.one (Za F.one (Za rfl Zh))))))) ?_;clear D;rintro w D
    refine⟨⟨fun h=>absurd h (by decide),D.pk [0,1]⟩,?_⟩
    refine zdd<|zgj ⟨g3,Z,W,X,O,I,F,rfl,D⟩
   refine zka (xal (cs:= [_,_,_,_,_]) YI D) ?_;rintro _ w ⟨g3,rfl,D⟩
   refine⟨⟨fun _=>D.pk [0,1],D.pk [0,1]⟩,?_⟩
   refine Xk (r:= [15,16]) ((Z1 ?_ (Z1 ?_ Xj)))
   ·
    refine zka (xap 2 (r:=t.nb) (f:=ints (cat 0 (fun _=>0) t.B)) Zb Zm D (J.B.below D.below) (by exact Zu _ _ _)) ?_;rintro X w ⟨D,U⟩
    refine⟨⟨fun _=>D.pk [0,1],D.pk [0,1]⟩,?_⟩
    refine zda 16 (xl0 (c:=ints (fun _=>0)) Zb D) ?_;rintro W w ⟨D,I⟩
    refine⟨⟨fun _=>D.pk [0,1],D.pk [0,1]⟩,?_⟩
    refine zda 19 (xap 4 (r:=t.nf) (f:=ints (cat 0 (fun _=>0) t.F)) Zb Zm D (J.F.below D.below) (by exact Zu _ _ _)) ?_;rintro O w ⟨D,F⟩
    refine⟨⟨fun _=>D.pk [0,1],D.pk [0,1]⟩,?_⟩
    refine zdv 20 (fun _=>(xany (v:= .agg #[.int Oh t.vars,.int Oh (G*((t.C (row+1)) (col+1))),X,O,Og]) (hr:=by obtain⟨_,_,_,_,rfl,_⟩:=U;obtain⟨_,_,_,_,rfl,_⟩:=F;kernel_rfl))) ?_
    refine zde 22 (xsw 3 Zx D (hd:=(Za rfl (Za rfl (Za U.one (Za F.one (Za rfl Zh))))))) ?_;clear D;rintro w D
    refine⟨⟨fun h=>absurd h (by decide),D.pk [0,1]⟩,?_⟩
    refine zdd<|zgj ⟨g3,Z,X,W,O,U,F,rfl,D.pk [0,1,2,4,3]⟩
   refine zka (xl0 (c:=ints (fun _=>0)) Zb D) ?_;rintro X w ⟨D,U⟩
   refine⟨⟨fun _=>D.pk [0,1],D.pk [0,1]⟩,?_⟩
   refine zda 15 (xap 2 (r:=t.nb) (f:=ints (cat 0 (fun _=>0) t.B)) Zb Zm D (J.B.below D.below) (by exact Zu _ _ _)) ?_;rintro W w ⟨D,I⟩
   refine⟨⟨fun _=>D.pk [0,1],D.pk [0,1]⟩,?_⟩
   refine zda 19 (xap 4 (r:=t.nf) (f:=ints (cat 0 (fun _=>0) t.F)) Zb Zm D (J.F.below D.below) (by exact Zu _ _ _)) ?_;rintro O w ⟨D,F⟩
   refine⟨⟨fun _=>D.pk [0,1],D.pk [0,1]⟩,?_⟩
   refine zdv 20 (fun _=>(xany (v:= .agg #[.int Oh t.vars,.int Oh (G*((t.C (row+1)) (col+1))),W,O,Og]) (hr:=by obtain⟨_,_,_,_,rfl,_⟩:=I;obtain⟨_,_,_,_,rfl,_⟩:=F;kernel_rfl))) ?_
   refine zde 22 (xsw 3 Zx D (hd:=(Za rfl (Za rfl (Za I.one (Za F.one (Za rfl Zh))))))) ?_;clear D;rintro w D
   refine⟨⟨fun h=>absurd h (by decide),D.pk [0,1]⟩,?_⟩
   refine zdd<|zgj ⟨g3,Z,W,X,O,I,F,rfl,D.pk [0,1,2,4,3]⟩
  ·
   refine zka (xl0 (c:=ints (fun _=>0)) Zb D) ?_;rintro Z w ⟨D,ah⟩
   refine⟨⟨fun _=>D.pk [0,1],D.pk [0,1]⟩,?_⟩
   refine Xk (r:= [12,21]) ((Z1 ?_ (Z1 ?_ Xj)))
   ·
    refine zka (xl0 (c:=ints (fun _=>0)) Zb D) ?_;rintro X w ⟨D,U⟩
    refine⟨⟨fun _=>D.pk [0,1],D.pk [0,1]⟩,?_⟩
    refine Xk (r:= [15,21]) ((Z1 ?_ (Z1 ?_ Xj)))
    ·
     refine zka (xap 3 (r:=t.nb) (f:=ints (cat 0 (fun _=>0) t.B)) Zb Zm D (J.B.below D.below) (by exact Zu _ _ _)) ?_;rintro W w ⟨D,I⟩
     refine⟨⟨fun _=>D.pk [0,1],D.pk [0,1]⟩,?_⟩
     refine Xk (r:= [19,21]) ((Z1 ?_ (Z1 ?_ Xj)))
     ·
      refine zka (xap 2 (r:=t.nf) (f:=ints (cat 0 (fun _=>0) t.F)) Zb Zm D (J.F.below D.below) (by exact Zu _ _ _)) ?_;rintro O w ⟨D,F⟩
      refine⟨⟨fun _=>D.pk [0,1],D.pk [0,1]⟩,?_⟩
      refine zdv 20 (fun _=>(xany (v:= .agg #[.int Oh t.vars,.int Oh (G*((t.C (row+1)) (col+1))),W,O,Og]) (hr:=by obtain⟨_,_,_,_,rfl,_⟩:=I;obtain⟨_,_,_,_,rfl,_⟩:=F;kernel_rfl))) ?_
      refine zda 21 (xal (cs:= [_,_,_,_,_]) YI D) ?_;rintro _ w ⟨g3,rfl,D⟩
      refine⟨⟨fun _=>D.pk [0,1],D.pk [0,1]⟩,?_⟩
      refine zde 22 (xsw 4 Zx D (hd:=(Za rfl (Za rfl (Za I.one (Za F.one (Za rfl Zh))))))) ?_;clear D;rintro w D
      refine⟨⟨fun h=>absurd h (by decide),D.pk [0,1]⟩,?_⟩
      refine zdd<|zgj ⟨g3,X,W,Z,O,I,F,rfl,D.pk [0,1,3,2,4]⟩
     refine zka (xal (cs:= [_,_,_,_,_]) YI D) ?_;rintro _ w ⟨g3,rfl,D⟩
     refine⟨⟨fun _=>D.pk [0,1],D.pk [0,1]⟩,?_⟩
     refine zda 19 (xap 2 (r:=t.nf) (f:=ints (cat 0 (fun _=>0) t.F)) Zb Zm D (J.F.below D.below) (by exact Zu _ _ _)) ?_;rintro O w ⟨D,F⟩
     refine⟨⟨fun _=>D.pk [0,1],D.pk [0,1]⟩,?_⟩
     refine zdv 20 (fun _=>(xany (v:= .agg #[.int Oh t.vars,.int Oh (G*((t.C (row+1)) (col+1))),W,O,Og]) (hr:=by obtain⟨_,_,_,_,rfl,_⟩:=I;obtain⟨_,_,_,_,rfl,_⟩:=F;kernel_rfl))) ?_
     refine zde 22 (xsw 4 Zx D (hd:=(Za rfl (Za rfl (Za I.one (Za F.one (Za rfl Zh))))))) ?_;clear D;rintro w D
     refine⟨⟨fun h=>absurd h (by decide),D.pk [0,1]⟩,?_⟩
     refine zdd<|zgj ⟨g3,X,W,Z,O,I,F,rfl,D.pk [0,1,3,2,4]⟩
    refine zka (xal (cs:= [_,_,_,_,_]) YI D) ?_;rintro _ w ⟨g3,rfl,D⟩
    refine⟨⟨fun _=>D.pk [0,1],D.pk [0,1]⟩,?_⟩
    refine zda 15 (xap 3 (r:=t.nb) (f:=ints (cat 0 (fun _=>0) t.B)) Zb Zm D (J.B.below D.below) (by exact Zu _ _ _)) ?_;rintro W w ⟨D,I⟩
    refine⟨⟨fun _=>D.pk [0,1],D.pk [0,1]⟩,?_⟩
    refine zda 19 (xap 2 (r:=t.nf) (f:=ints (cat 0 (fun _=>0) t.F)) Zb Zm D (J.F.below D.below) (by exact Zu _ _ _)) ?_;rintro O w ⟨D,F⟩
    refine⟨⟨fun _=>D.pk [0,1],D.pk [0,1]⟩,?_⟩
    refine zdv 20 (fun _=>(xany (v:= .agg #[.int Oh t.vars,.int Oh (G*((t.C (row+1)) (col+1))),W,O,Og]) (hr:=by obtain⟨_,_,_,_,rfl,_⟩:=I;obtain⟨_,_,_,_,rfl,_⟩:=F;kernel_rfl))) ?_
    refine zde 22 (xsw 4 Zx D (hd:=(Za rfl (Za rfl (Za I.one (Za F.one (Za rfl Zh))))))) ?_;clear D;rintro w D
    refine⟨⟨fun h=>absurd h (by decide),D.pk [0,1]⟩,?_⟩
    refine zdd<|zgj ⟨g3,X,W,Z,O,I,F,rfl,D.pk [0,1,3,2,4]⟩
   refine zka (xal (cs:= [_,_,_,_,_]) YI D) ?_;rintro _ w ⟨g3,rfl,D⟩
   refine⟨⟨fun _=>D.pk [0,1],D.pk [0,1]⟩,?_⟩
   refine zda 12 (xl0 (c:=ints (fun _=>0)) Zb D) ?_;rintro X w ⟨D,U⟩
   refine⟨⟨fun _=>D.pk [0,1],D.pk [0,1]⟩,?_⟩
   refine zda 15 (xap 4 (r:=t.nb) (f:=ints (cat 0 (fun _=>0) t.B)) Zb Zm D (J.B.below D.below) (by exact Zu _ _ _)) ?_;rintro W w ⟨D,I⟩
   refine⟨⟨fun _=>D.pk [0,1],D.pk [0,1]⟩,?_⟩
   refine zda 19 (xap 2 (r:=t.nf) (f:=ints (cat 0 (fun _=>0) t.F)) Zb Zm D (J.F.below D.below) (by exact Zu _ _ _)) ?_;rintro O w ⟨D,F⟩
   refine⟨⟨fun _=>D.pk [0,1],D.pk [0,1]⟩,?_⟩
   refine zdv 20 (fun _=>(xany (v:= .agg #[.int Oh t.vars,.int Oh (G*((t.C (row+1)) (col+1))),W,O,Og]) (hr:=by obtain⟨_,_,_,_,rfl,_⟩:=I;obtain⟨_,_,_,_,rfl,_⟩:=F;kernel_rfl))) ?_
   refine zde 22 (xsw 3 Zx D (hd:=(Za rfl (Za rfl (Za I.one (Za F.one (Za rfl Zh))))))) ?_;clear D;rintro w D
   refine⟨⟨fun h=>absurd h (by decide),D.pk [0,1]⟩,?_⟩
   refine zdd<|zgj ⟨g3,X,W,Z,O,I,F,rfl,D.pk [0,1,4,2,3]⟩
  refine zka (xal (cs:= [_,_,_,_,_]) YI D) ?_;rintro _ w ⟨g3,rfl,D⟩
  refine⟨⟨fun _=>D.pk [0,1],D.pk [0,1]⟩,?_⟩
  refine Xk (r:= [12,16]) ((Z1 ?_ (Z1 ?_ Xj)))
  ·
   refine zka (xl0 (c:=ints (fun _=>0)) Zb D) ?_;rintro Z w ⟨D,ah⟩
   refine⟨⟨fun _=>D.pk [0,1],D.pk [0,1]⟩,?_⟩
   refine Xk (r:= [15,16]) ((Z1 ?_ (Z1 ?_ Xj)))
   ·
    refine zka (xap 3 (r:=t.nb) (f:=ints (cat 0 (fun _=>0) t.B)) Zb Zm D (J.B.below D.below) (by exact Zu _ _ _)) ?_;rintro X w ⟨D,U⟩
    refine⟨⟨fun _=>D.pk [0,1],D.pk [0,1]⟩,?_⟩
    refine zda 16 (xl0 (c:=ints (fun _=>0)) Zb D) ?_;rintro W w ⟨D,I⟩
    refine⟨⟨fun _=>D.pk [0,1],D.pk [0,1]⟩,?_⟩
    refine zda 19 (xap 4 (r:=t.nf) (f:=ints (cat 0 (fun _=>0) t.F)) Zb Zm D (J.F.below D.below) (by exact Zu _ _ _)) ?_;rintro O w ⟨D,F⟩
    refine⟨⟨fun _=>D.pk [0,1],D.pk [0,1]⟩,?_⟩
    refine zdv 20 (fun _=>(xany (v:= .agg #[.int Oh t.vars,.int Oh (G*((t.C (row+1)) (col+1))),X,O,Og]) (hr:=by obtain⟨_,_,_,_,rfl,_⟩:=U;obtain⟨_,_,_,_,rfl,_⟩:=F;kernel_rfl))) ?_
    refine zde 22 (xsw 2 Zx D (hd:=(Za rfl (Za rfl (Za U.one (Za F.one (Za rfl Zh))))))) ?_;clear D;rintro w D
    refine⟨⟨fun h=>absurd h (by decide),D.pk [0,1]⟩,?_⟩
    refine zdd<|zgj ⟨g3,Z,X,W,O,U,F,rfl,D.pk [0,1,3,4,2]⟩
   refine zka (xl0 (c:=ints (fun _=>0)) Zb D) ?_;rintro X w ⟨D,U⟩
   refine⟨⟨fun _=>D.pk [0,1],D.pk [0,1]⟩,?_⟩
   refine zda 15 (xap 3 (r:=t.nb) (f:=ints (cat 0 (fun _=>0) t.B)) Zb Zm D (J.B.below D.below) (by exact Zu _ _ _)) ?_;rintro W w ⟨D,I⟩
   refine⟨⟨fun _=>D.pk [0,1],D.pk [0,1]⟩,?_⟩
   refine zda 19 (xap 4 (r:=t.nf) (f:=ints (cat 0 (fun _=>0) t.F)) Zb Zm D (J.F.below D.below) (by exact Zu _ _ _)) ?_;rintro O w ⟨D,F⟩
   refine⟨⟨fun _=>D.pk [0,1],D.pk [0,1]⟩,?_⟩
   refine zdv 20 (fun _=>(xany (v:= .agg #[.int Oh t.vars,.int Oh (G*((t.C (row+1)) (col+1))),W,O,Og]) (hr:=by obtain⟨_,_,_,_,rfl,_⟩:=I;obtain⟨_,_,_,_,rfl,_⟩:=F;kernel_rfl))) ?_
   refine zde 22 (xsw 2 Zx D (hd:=(Za rfl (Za rfl (Za I.one (Za F.one (Za rfl Zh))))))) ?_;clear D;rintro w D
   refine⟨⟨fun h=>absurd h (by decide),D.pk [0,1]⟩,?_⟩
   refine zdd<|zgj ⟨g3,Z,W,X,O,I,F,rfl,D.pk [0,1,3,4,2]⟩
  refine zka (xl0 (c:=ints (fun _=>0)) Zb D) ?_;rintro Z w ⟨D,ah⟩
  refine⟨⟨fun _=>D.pk [0,1],D.pk [0,1]⟩,?_⟩
  refine zda 12 (xl0 (c:=ints (fun _=>0)) Zb D) ?_;rintro X w ⟨D,U⟩
  refine⟨⟨fun _=>D.pk [0,1],D.pk [0,1]⟩,?_⟩
  refine zda 15 (xap 4 (r:=t.nb) (f:=ints (cat 0 (fun _=>0) t.B)) Zb Zm D (J.B.below D.below) (by exact Zu _ _ _)) ?_;rintro W w ⟨D,I⟩
  refine⟨⟨fun _=>D.pk [0,1],D.pk [0,1]⟩,?_⟩
  refine zda 19 (xap 3 (r:=t.nf) (f:=ints (cat 0 (fun _=>0) t.F)) Zb Zm D (J.F.below D.below) (by exact Zu _ _ _)) ?_;rintro O w ⟨D,F⟩
  refine⟨⟨fun _=>D.pk [0,1],D.pk [0,1]⟩,?_⟩
  refine zdv 20 (fun _=>(xany (v:= .agg #[.int Oh t.vars,.int Oh (G*((t.C (row+1)) (col+1))),W,O,Og]) (hr:=by obtain⟨_,_,_,_,rfl,_⟩:=I;obtain⟨_,_,_,_,rfl,_⟩:=F;kernel_rfl))) ?_
  refine zde 22 (xsw 2 Zx D (hd:=(Za rfl (Za rfl (Za I.one (Za F.one (Za rfl Zh))))))) ?_;clear D;rintro w D
  refine⟨⟨fun h=>absurd h (by decide),D.pk [0,1]⟩,?_⟩
  refine zdd<|zgj ⟨g3,X,W,Z,O,I,F,rfl,D.pk [0,1,4,3,2]⟩
 clear D w;rintro M w ⟨g3,Z,X,W,O,U,F,rfl,D⟩
 refine ztn<|zsq<|zdst [0,1,2,3,4] [0,1,4] 17 mx_ D ?_;clear D;intro w D
 refine(zDw 0 (xfb 2 fd_200_2))<|(zDl 1 (fun w D=>(xlb 2 pl_22 D)))<|(zDw 2 xmv)<|(zDw 3 (xfb 3 fd_200_3))<|(zDl 4 (fun w D=>(xlb 2 pl_22 D)))<|(zDw 5 xmv)<|(zDw 6 (xfb 3 fd_200_3))<|(zDl 7 (fun w D=>(xlb 0 pl_22 D)))<|(zDw 8 xmv)<|(zDw 9 (xix (kk:=col) Zb J.F.cf))<|(zDl 10 (fun w D=>(xlr (u:= .int Oh (t.F col)) pl_3 (J.F.below D.below))))<|(zDw 11 (xfb 2 fd_200_2))<|(zDl 12 (fun w D=>(xlb 0 pl_22 D)))<|(zDw 13 xmv)<|zDrv 14 (xix (kk:=row) Zb J.B.cf) ?_
 refine(zDl 15 (fun w D=>(xlr (u:= .int Oh (t.B row)) pl_3 (J.B.below D.below))))<|(zDw 16 (xix (kk:=row) Zb U))<|zde 17 (xso 2 pl_3 D (Zy _ _ _)) ?_;clear D;rintro w D
 refine⟨⟨fun h=>absurd h (by decide),D.pk [0,1,4]⟩,?_⟩
 refine(zDw 18 (xix (kk:=col) Zb F))<|zde 19 (xso 3 pl_3 D (Zy _ _ _)) ?_;clear D;rintro w D
 refine⟨⟨fun h=>absurd h (by decide),D.pk [0,1,4]⟩,?_⟩
 refine zdd<|ztn<|zsr ?_
 refine(zP)<|ZbV 12 (u:=B (True)) (ZP trivial).symm ?_
 refine zx5<|(zP)<|zx6 ?_
 replace D:=D.cg 1 22 (fun _=>Og)
 replace D:=D.fa 3 (fun _=>Og) t.ln ((piv t row col).C)
 have yz:=fun k (k0:0<=k) (k1:k<0)=>D.db 6 rfl k0 k1
 refine zlp (fun mm M w=>∃(sm:Prop) (nC:Int) (wv:Int->Value) (i:Int) (wC:Value),mm=((t.nc-i).toNat)/\(0<=i)/\(i<=t.nc)/\(nC=i)/\(sm↔(∀a b,0<=a->a<i->0<=b->b<=t.nf-> -1073741824<=Yb t (row+1) (col+1) a b/\Yb t (row+1) (col+1) a b<=1073741824))/\(∀a b,0<=a->a<i->0<=b->b<=t.nf->Zaj t (row+1) (col+1) a b)/\(Slh wC nC)/\M= [(3,Oq g1),(6,Oq g2),(8,.int Oh (row+1)),(9,.int Oh (col+1)),(10,.int Oh G),(11,Oq g3),(12,B (sm)),(13,.int Oh i)]/\Sat w0 w [.blk g1 [.int Oh t.vars,.int Oh t.den,vB,vF,vC],.blk g2 [.int Oh 0,.int Oh 0,Og,Og,Og],.own X 1 3 t.nb (ints (upd (cat 0 (fun _=>0) t.B) row (t.F col))),.own O 1 3 t.nf (ints (upd (cat 0 (fun _=>0) t.F) col (t.B row))),.blk g3 [.int Oh t.vars,.int Oh (G*((t.C (row+1)) (col+1))),X,O,wC],.own wC 1 22 nC wv,.sem (Frame.rows 3 nC wv t.ln ((piv t row col).C))]) ⟨True,0,(fun _=>Og),0,Og,rfl,Oa,Oa,Oa,?_,?_,?_,rfl,D⟩ ?_
 ·
  exact⟨fun _ a b a0 a1=>Oa,fun _=>trivial⟩
 ·
  intro a b a0 a1;omega
 ·
  exact slh_nil
 clear D w
 rintro mm M w ⟨sm,nC,wv,i,wC,rfl,h0,h1,au,ae,aj,al,rfl,D⟩
 have qG:=fun k (k0:0<=k) (k1:k<nC)=>D.db 6 rfl k0 k1
 refine zx11<|(zP)<|(zV (xfb 4 fd_200_4))<|(zV (xlb 0 Zs D))<|(zV (xln Zi J.C.row.cf))<|(zP)<|zlt<|Ze ?_ ?_<;>intro hc
 ·
  refine zx3<|(zP)<|zx5<|(zP)<|zx6 ?_
  replace D:=D.cg 1 3 (ints (fun _=>0))
  refine zlp (fun mm M w=>∃(sn:Prop) (nl:Int) (j:Int) (wl:Value) (fl:Oe),mm=((t.nf+1-j).toNat)/\(0<=j)/\(j<=t.nf+1)/\(nl=j)/\(sn↔((∀a b,0<=a->a<i->0<=b->b<=t.nf-> -1073741824<=Yb t (row+1) (col+1) a b/\Yb t (row+1) (col+1) a b<=1073741824)/\∀b,0<=b->b<j-> -1073741824<=Yb t (row+1) (col+1) i b/\Yb t (row+1) (col+1) i b<=1073741824))/\(∀b,0<=b->b<j->Zaj t (row+1) (col+1) i b)/\(∀b,0<=b->b<j->fl b=(piv t row col).C i b)/\(Slh wl nl)/\M= [(3,Oq g1),(6,Oq g2),(8,.int Oh (row+1)),(9,.int Oh (col+1)),(10,.int Oh G),(11,Oq g3),(12,B (sn)),(13,.int Oh i),(14,wl),(15,.int Oh j)]/\Sat w0 w [.blk g1 [.int Oh t.vars,.int Oh t.den,vB,vF,vC],.blk g2 [.int Oh 0,.int Oh 0,Og,Og,Og],.own X 1 3 t.nb (ints (upd (cat 0 (fun _=>0) t.B) row (t.F col))),.own O 1 3 t.nf (ints (upd (cat 0 (fun _=>0) t.F) col (t.B row))),.blk g3 [.int Oh t.vars,.int Oh (G*((t.C (row+1)) (col+1))),X,O,wC],.own wC 1 22 nC wv,.sem (Frame.rows 3 nC wv t.ln ((piv t row col).C)),.own wl 1 3 nl (ints fl)]) ⟨sm,0,0,Og,(fun _=>0),rfl,Oa,Oa,Oa,?_,?_,?_,?_,rfl,D⟩ ?_
  ·
   exact⟨fun h=>⟨ae.1 h,fun b V Y=>Oa⟩,fun h=>ae.2 h.1⟩
  ·
   intro b V Y;omega
  ·
   intro b V Y;omega
  ·
   exact slh_nil
  clear D w
  rintro mm M w ⟨sn,nl,j,wl,fl,rfl,j0,j1,a2,aa,hdr,ag,ak,rfl,D⟩
  refine zx11<|(zP)<|(zV (xfb 4 fd_200_4))<|zlv (xlb 0 Zs D) ?_
  have a5:=hp.len (i:=i) Oa Oa
  refine(zP)<|(zV (xix (kk:=i) Zi J.C.row.cf))<|(zV (xlr (u:=(vv i)) pl_22 (J.C.row.below D.below)))<|(zV (xln Zb (J.C.p i Oa Oa).cf))<|(zP)<|zlt<|Ze ?_ ?_<;>intro hc
  ·
   refine zx3<|(zV (xls 0 Zx D))<|zs4 ?_
   refine zlc (xc0 Zlb) (ZmV (t:=t) (i:=i) (j:=j) (r:=(row+1)) (s:=(col+1)) w (J.below D.below) hp Oa Oa Oa Oa Oa Oa Oa Oa) ?_;rintro _ w ⟨nn1,_,rfl,yA,rfl,ad⟩
   replace D:=D.cmp ad;clear ad
   refine zs2 ?_
   have jJ:=Za1 hp (r:=row+1) (s:=col+1) (i:=i) (j:=j) Oa Oa Oa Oa Oa Oa Oa Oa;rw [<-yA] at jJ
   have kQ:G*nn1=nn1\/G*nn1= -nn1:=by rcases ai with h|h<;>rw [h]<;>omega
   refine(On)<|zx5<|(Om)<|zlt<|Ze ?_ ?_<;>intro hc
   ·
    refine zsr<|(zV (xany (v:= .agg #[.int Oh 0,.int Oh 0,Og,Og,Og])))<|zle (xsw 1 Zx D) ?_;clear D;rintro w D
    refine(zP)<|zlt<|zrt<|ztr<|zbr<|ztr<|ztr<|zbr<|ztr<|zbr<|ztr<|ztr<|zbr<|ztr<|ZS 1 Zx D ⟨_,rfl,?_⟩
    exact⟨_,_,_,fun _=>undef,Tb.zero,4,rfl,.inr (.inl ⟨⟨hp,Oa,Oa,Oa,Oa,af⟩,fun hd=>absurd (hd i j Oa Oa Oa Oa) ‹_›,rfl,rfl⟩),slh_nil,slh_nil,slh_nil,((((D.sub (.cons _ (.cons _ (.cons _ (.cons _ (.cons _ (.cons _ (.cons _ (.cons _ .slnil))))))))).cg 1 3 (ints Tb.zero.B)).cg 1 3 (ints Tb.zero.F)).cg 1 22 (fun _=>undef)).fa 3 (fun _=>undef) Tb.zero.ln Tb.zero.C⟩
   refine ZM<|(Om)<|zlb 139 ?_ ?_<;>intro hc
   ·
    refine zs4 ?_
    refine zlb 143 ?_ ?_<;>intro hc
    ·
     refine zs4 ?_
     refine zlt<|zrg<|(On)<|(zV (Z2 (r:=(G*nn1)) (e:=rfl)))<|zla (xli (n:=1) (len:=1) (pv:= [(0,.int Oh (G*nn1))]) (cs:= [.int Oh (G*nn1)]) (c:=ints (fun _=>(G*nn1))) Zb Zm D) ?_;rintro v5 w ⟨D,ay⟩
     refine zla (xap 7 (r:=nl+1) Zb Zm D (D.c7 8 rfl) (Ya _ _ _)) ?_;rintro v6 w ⟨D,ar⟩
     refine(zP)<|zx10<|(zP)<|(zV (Zg (r:=j+1)))<|(zP)<|zln<|zlq ⟨nn1<=1073741824,nl+1,j+1,v6,(snoc fl nl (G*nn1)),rfl,Oa,Oa,Oa,?_,?_,?_,?_,rfl,D.pk [0,1,2,3,4,5,6,7]⟩
     ·
      constructor
      · intro hx
        first
        |exact hx.elim
        | exact⟨(aa.1 (by assumption)).1,fun b V Y=>by
          by_cases e:b=j
          · rw [e];omega
          · exact(aa.1 (by assumption)).2 b V Oa⟩
      · rintro⟨h1,h2⟩
        have h3:=h2 j j0 Oa
        first
        |omega
        |exact absurd (aa.2 ⟨h1,fun b V Y=>h2 b V Oa⟩) (by assumption)
     ·
      have ac:Zaj t (row+1) (col+1) i j:=by first|assumption|exact Oc ‹_›
      intro b V Y
      by_cases e:b=j
      · rw [e];exact ac
      · exact hdr b V Oa
     ·
      intro b V Y;by_cases e:b<nl
      · rw [Zl e];exact ag b V Oa
      · obtain rfl:b=j:=Oa
        rw [Zk e,W7,ab,<-yA]
     ·
      exact ar
    refine(zO)<|(zO)<|(Om)<|ZbV 12 (u:=B (False)) (B_false not_false).symm ?_
    refine zlt<|zrg<|(On)<|(zV (Z2 (r:=(G*nn1)) (e:=rfl)))<|zla (xli (n:=1) (len:=1) (pv:= [(0,.int Oh (G*nn1))]) (cs:= [.int Oh (G*nn1)]) (c:=ints (fun _=>(G*nn1))) Zb Zm D) ?_;rintro v7 w ⟨D,ax⟩
    refine zla (xap 7 (r:=nl+1) Zb Zm D (D.c7 8 rfl) (Ya _ _ _)) ?_;rintro v8 w ⟨D,aq⟩
    refine(zP)<|zx10<|(zP)<|(zV (Zg (r:=j+1)))<|(zP)<|zln<|zlq ⟨False,nl+1,j+1,v8,(snoc fl nl (G*nn1)),rfl,Oa,Oa,Oa,?_,?_,?_,?_,rfl,D.pk [0,1,2,3,4,5,6,7]⟩
    ·
     constructor
     · intro hx
       first
       |exact hx.elim
       | exact⟨(aa.1 (by assumption)).1,fun b V Y=>by
         by_cases e:b=j
         · rw [e];omega
         · exact(aa.1 (by assumption)).2 b V Oa⟩
     · rintro⟨h1,h2⟩
       have h3:=h2 j j0 Oa
       first
       |omega
       |exact absurd (aa.2 ⟨h1,fun b V Y=>h2 b V Oa⟩) (by assumption)
    ·
     have ac:Zaj t (row+1) (col+1) i j:=by first|assumption|exact Oc ‹_›
     intro b V Y
     by_cases e:b=j
     · rw [e];exact ac
     · exact hdr b V Oa
    ·
     intro b V Y;by_cases e:b<nl
     · rw [Zl e];exact ag b V Oa
     · obtain rfl:b=j:=Oa
       rw [Zk e,W7,ab,<-yA]
    ·
     exact aq
   refine(zO)<|(zO)<|(Om)<|(zO)<|zlo ?_
   refine(Om)<|ZbV 12 (u:=B (False)) (B_false not_false).symm ?_
   refine zlt<|zrg<|(On)<|(zV (Z2 (r:=(G*nn1)) (e:=rfl)))<|zla (xli (n:=1) (len:=1) (pv:= [(0,.int Oh (G*nn1))]) (cs:= [.int Oh (G*nn1)]) (c:=ints (fun _=>(G*nn1))) Zb Zm D) ?_;rintro v9 w ⟨D,aw⟩
   refine zla (xap 7 (r:=nl+1) Zb Zm D (D.c7 8 rfl) (Ya _ _ _)) ?_;rintro ap w ⟨D,ci⟩
   refine(zP)<|zx10<|(zP)<|(zV (Zg (r:=j+1)))<|(zP)<|zln<|zlq ⟨False,nl+1,j+1,ap,(snoc fl nl (G*nn1)),rfl,Oa,Oa,Oa,?_,?_,?_,?_,rfl,D.pk [0,1,2,3,4,5,6,7]⟩
   ·
    constructor
    · intro hx
      first
      |exact hx.elim
      | exact⟨(aa.1 (by assumption)).1,fun b V Y=>by
        by_cases e:b=j
        · rw [e];omega
        · exact(aa.1 (by assumption)).2 b V Oa⟩
    · rintro⟨h1,h2⟩
      have h3:=h2 j j0 Oa
      first
      |omega
      |exact absurd (aa.2 ⟨h1,fun b V Y=>h2 b V Oa⟩) (by assumption)
   ·
    have ac:Zaj t (row+1) (col+1) i j:=by first|assumption|exact Oc ‹_›
    intro b V Y
    by_cases e:b=j
    · rw [e];exact ac
    · exact hdr b V Oa
   ·
    intro b V Y;by_cases e:b<nl
    · rw [Zl e];exact ag b V Oa
    · obtain rfl:b=j:=Oa
      rw [Zk e,W7,ab,<-yA]
   ·
    exact ci
  refine zxt<|ztx<|ztx<|zbh<|ztn<|zrg<|(zV (xfb 4 fd_200_4))<|(zV (xlb 4 Zs D))<|(zP)<|zla (xli (n:=1) (len:=1) (pv:= [(0,wl)]) (cs:= [wl]) (c:=(fun _=>wl)) Zi Z9 D (hf:=by obtain⟨_,_,_,_,rfl,_⟩:=ak;kernel_rfl)) ?_;rintro av w ⟨D,bx⟩
  refine zla (xap 5 (r:=nC+1) Zi Z9 D (D.c7 8 rfl) (Xa _ _ _) (h1:=fun _ _ _=>ak.one)) ?_;rintro ao w ⟨D,fz⟩
  replace D:=Sat.merge (l1:= [_,_,_,_,_,_]) (l2:= []) (l3:= [_]) D Oa
  have xd:=fun k (k0:0<=k) (k1:k<nC+1)=>D.db 6 rfl k0 k1
  replace D:=D.gj (vv':=gsn wv nC wl) (ln':=t.ln) (f':=(piv t row col).C) 6 rfl (fun k k0 k1=>by
    by_cases e:k<i
    · exact⟨rfl,Zp Oa,fun j _ _=>by rw [Zp Oa]⟩
    · have an:k=i:=Oa
      refine⟨rfl,?_,fun b V Y=> ?_⟩
      · rw [Zq Oa,an];omega
      · rw [Zq Oa,an];exact ag b V (by rw [Zq Oa] at Y;omega))
  have bl:=fun k (k0:0<=k) (k1:k<nC+1)=>D.db 6 rfl k0 k1
  refine(zV (xfb 4 fd_200_4))<|zle (xsb 4 Zs D (hv:=fz.one)) ?_;clear D;rintro w D
  refine zx10<|(zP)<|(zV (Zg (r:=i+1)))<|(zP)<|zln<|zlq ⟨sn,nC+1,gsn wv nC wl,i+1,ao,rfl,Oa,Oa,Oa,?_,?_,?_,rfl,D.pk [0,1,2,3,4,5,6]⟩
  ·
   exact aa.trans ⟨fun⟨h1,h2⟩ a b a0 a1 V Y=>by
    by_cases e:a=i
    · rw [e];exact h2 b V Oa
    · exact h1 a b a0 Oa V Y,fun h=>⟨fun a b a0 a1 V Y=>h a b a0 Oa V Y,fun b V Y=>h i b h0 Oa V Oa⟩⟩
  ·
   intro a b a0 a1 V Y
   by_cases e:a=i
   · subst e;exact hdr b V Oa
   · exact aj a b a0 Oa V Y
  ·
   exact fz
 refine zx18<|(Om)<|zlt<|Ze ?_ ?_<;>intro hc
 ·
  refine zsr<|(zV (xany (v:= .agg #[.int Oh 0,.int Oh 0,Og,Og,Og])))<|zle (xsw 1 Zx D) ?_;clear D;rintro w D
  refine(zP)<|zx14<|ZS 1 Zx D ⟨_,rfl,?_⟩
  exact⟨_,_,_,fun _=>undef,Tb.zero,2,rfl,.inr (.inr (.inl ⟨⟨hp,Oa,Oa,Oa,Oa,af⟩,fun a b a0 a1 V Y=>aj a b a0 Oa V Y,fun hq=>absurd (ae.2 fun a b a0 a1 V Y=>by have am:=hq.cell (i:=a) (j:=b) a0 (by show a<=t.nb;omega) V Y;rw [W7,ab] at am;rcases ai with h|h<;>rw [h] at am<;>omega) ‹_›,rfl,rfl⟩)),slh_nil,slh_nil,slh_nil,((((D.sub (.cons _ (.cons _ (.cons _ (.cons _ (.cons _ (.cons _ (.cons _ .slnil)))))))).cg 1 3 (ints Tb.zero.B)).cg 1 3 (ints Tb.zero.F)).cg 1 22 (fun _=>undef)).fa 3 (fun _=>undef) Tb.zero.ln Tb.zero.C⟩
 refine ZM<|(zV (xls 4 Zx D))<|zle (xsw 1 Zx D (hd:=(Za rfl (Za rfl (Za U.one (Za F.one (Za al.one Zh))))))) ?_;clear D;rintro w D
 refine(zP)<|zx1<|ZS 1 Zx D ⟨_,rfl,?_⟩
 obtain rfl:i=t.nc:=Oa
 have yQ:(G*((t.C (row+1)) (col+1)))=(piv t row col).den:=by rw [KZ,ab]
 replace D:=D.gi 2 rfl (d:=ints (piv t row col).B) (fun k k0 k1=>by unfold ints;show Value.int Oh (upd (cat 0 (fun _=>0) t.B) row (t.F col) k)=Value.int Oh (upd t.B row (t.F col) k);congr 1;by_cases e:k=row;rw [e,ZA,ZA];rw [upd_ne _ _ e,upd_ne _ _ e];unfold cat;rw [if_neg Oa,Int.sub_zero])
 replace D:=D.gi 3 rfl (d:=ints (piv t row col).F) (fun k k0 k1=>by unfold ints;show Value.int Oh (upd (cat 0 (fun _=>0) t.F) col (t.B row) k)=Value.int Oh (upd t.F col (t.B row) k);congr 1;by_cases e:k=col;rw [e,ZA,ZA];rw [upd_ne _ _ e,upd_ne _ _ e];unfold cat;rw [if_neg Oa,Int.sub_zero])
 have jz:=ae.1 Od
 subst au
 exact⟨_,_,_,_,piv t row col,0,by rw [<-yQ];rfl,.inr (.inr (.inr ⟨⟨hp,Oa,Oa,Oa,Oa,af⟩,fun a b a0 a1 V Y=>aj a b a0 Oa V Y,ZhT ⟨hp,Oa,Oa,Oa,Oa,af⟩ (fun a b a0 a1 V Y=>jz a b a0 Oa V Y),rfl,rfl⟩)),U,F,al,D.pk [2,3,5,6]⟩
 all_goals
  refine zOps ?_
  refine zlt<|zct<|zsr ?_
  refine(zV (xany (v:= .agg #[.int Oh 0,.int Oh 0,Og,Og,Og])))<|zle (xsw 1 Zx D) ?_;clear D;rintro w D
  refine zOps ?_
  refine zx14<|ZS 1 Zx D ⟨_,rfl,?_⟩
  exact⟨_,_,_,fun _=>undef,Tb.zero,1,rfl,.inl ⟨by first|exact fun hh=>absurd hh.1 ‹_›|(rintro⟨_,p1,p2,p3,p4,p5⟩;omega),rfl,rfl⟩,slh_nil,slh_nil,slh_nil,((((D.sub (.cons _ (.cons _ .slnil))).cg 1 3 (ints Tb.zero.B)).cg 1 3 (ints Tb.zero.F)).cg 1 22 (fun _=>undef)).fa 3 (fun _=>undef) Tb.zero.ln Tb.zero.C⟩
theorem Zlr:Zc Oj 179=true:=Ob
theorem Zlq:Zc Oj 180=true:=Ob
theorem ZgK{vB D F:Value}{vv:Int->Value}{t:Tb}(w0:World)(I:TAt w0 vB D F vv t):Calls Oj 179 [.agg #[.int Oh t.vars,.int Oh t.den,vB,D,F]].toArray w0 fun e w=>∃v,e= .returned v/\∃r c d e,v= .tuple #[.int Oh r,.int Oh c,B (d=true),.int Oh e]/\NextR t r c d e/\Sat w0 w []:=
 (ZiL w0 I).mono fun e w h=>by
   obtain⟨v,G,r,c,d,O,hv,hn,J⟩:=h
   exact⟨v,G,r,c,d,O,by rw [hv,Zhg],hn,J⟩
theorem Zmk{vB O U:Value}{vv:Int->Value}{t:Tb}(w0:World)(hT:TAt w0 vB O U vv t):
   Calls Oj 144 [.agg #[.int Oh t.vars,.int Oh t.den,vB,O,U]].toArray w0 fun e w=>∃v,e= .returned v/\∃J G I W u z e,v= .tuple #[.agg #[.int Oh u.vars,.int Oh u.den,J,G,I],.int Oh e]/\Run 1000 t z e/\(e=0\/e=19->z=u)/\Slh J u.nb/\Slh G u.nf/\Slh I u.nc/\Sat w0 w [.sem (Frame.lc (u=t/\J=vB/\G=O/\I=U/\W=vv) (Frame.gm [.own J 1 3 u.nb (ints u.B),.own G 1 3 u.nf (ints u.F),.own I 1 22 u.nc W,.sem (Frame.rows 3 u.nc W u.ln u.C)]))]:=by
 refine zenG Tryz.func144 Tryz.ntmps144 fun w D=> ?_
 refine zsr<|zla (xbx (cs:= [_,_,_,_,_]) D) ?_;rintro _ w ⟨g1,rfl,D⟩
 refine zla (xal (cs:= [_,_,_,_,_]) YI D) ?_;rintro _ w ⟨g2,rfl,D⟩
 refine(zP)<|zlz<|(zP)<|zx6 ?_
 replace D:=D.nk (Frame.gm [.own vB 1 3 t.nb (ints t.B),.own O 1 3 t.nf (ints t.F),.own U 1 22 t.nc vv,.sem (Frame.rows 3 t.nc vv t.ln t.C)]) (p:=t=t/\vB=vB/\O=O/\U=U/\vv=vv) ⟨rfl,rfl,rfl,rfl,rfl⟩
 refine zlp (fun mm M w=>∃(u:Tb) (J:Value) (G:Value) (I:Value) (W:Int->Value) (n:Int),mm=(((1001:Int)-n).toNat)/\(0<=n)/\(n<=1000)/\(Slh J u.nb)/\(Slh G u.nf)/\(Slh I u.nc)/\(∀z e,Run (1000-n).toNat u z e->Run 1000 t z e)/\M= [(1,Oq g1),(2,Oq g2),(4,.int Oh n)]/\Sat w0 w [.blk g1 [.int Oh u.vars,.int Oh u.den,J,G,I],.blk g2 [.int Oh 0,.int Oh 0,Og,Og,Og],.sem (Frame.lc (u=t/\J=vB/\G=O/\I=U/\W=vv) (Frame.gm [.own J 1 3 u.nb (ints u.B),.own G 1 3 u.nf (ints u.F),.own I 1 22 u.nc W,.sem (Frame.rows 3 u.nc W u.ln u.C)]))]) ⟨t,vB,O,U,vv,0,rfl,Oa,Oa,?_,?_,?_,?_,rfl,D.sub (List.Sublist.refl _)⟩ ?_
 ·
  exact hT.B.cf
 ·
  exact hT.F.cf
 ·
  exact hT.C.row.cf
 ·
  exact fun z e h=>h
 clear D w
 rintro mm M w ⟨u,J,G,I,W,n,rfl,n0,n1,Z,X,Y,yE,rfl,D⟩
 have aa:=Yq (hT.below D.below) D 2 rfl
 have ak:=aa.B.cf.n0;have jw:=aa.B.cf.n1;have aj:=aa.F.cf.n0;have jv:=aa.F.cf.n1
 refine zsq<|zbk<|zsr<|(zV (xls 0 Zx D))<|zlc (xc0 Zlr) (ZgK (t:=u) w (Yq (hT.below D.below) D 2 rfl)) ?_;rintro _ w ⟨ac,af,ae,ah,rfl,yA,V⟩
 replace D:=D.cmp V;clear V
 have al:=yA.ia
 refine zs6 ?_
 refine(On)<|zlt<|zsq<|zbk<|zsr<|(On)<|zlb 22 ?_ ?_<;>intro hc
 ·
  refine(zO)<|(Om)<|zlt<|zct<|zsr ?_
  refine(zV (xls 0 Zx D))<|(zP)<|zle (xsw 1 Zx D (hd:=(Za rfl (Za rfl (Za Z.one (Za X.one (Za Y.one Zh))))))) ?_;clear D;rintro w D
  refine(zP)<|zlt<|zrt<|zbr<|ztr<|zbr<|ztr<|ztr<|zbr<|ZS 1 Zx D ⟨_,rfl,?_⟩
  exact⟨J,G,I,W,u,u,_,rfl,yE _ _ (.stop yA (by first|exact .inl hc|exact .inr Oa|exact .inl ‹_›)),fun _=>rfl,Z,X,Y,D.pk [2]⟩
 refine(On)<|zlt<|Ze ?_ ?_<;>intro hc
 ·
  refine zsr<|(zV (xls 0 Zx D))<|(zP)<|zle (xsw 1 Zx D (hd:=(Za rfl (Za rfl (Za Z.one (Za X.one (Za Y.one Zh))))))) ?_;clear D;rintro w D
  refine(zP)<|zlt<|zrt<|zbr<|ztr<|zbr<|ztr<|ztr<|zbr<|ZS 1 Zx D ⟨_,rfl,?_⟩
  exact⟨J,G,I,W,u,u,_,rfl,yE _ _ (.stop yA (by first|exact .inl hc|exact .inr Oa|exact .inl ‹_›)),fun _=>rfl,Z,X,Y,D.pk [2]⟩
 refine zsr<|zlv xmv ?_
 have ab:NextR u ac af false 0:=by have h1:ae=false:=(by simpa using‹¬(ae=true)›);have h2:ah=0:=Oa;have h3:=yA;rw [h1,h2] at h3;exact h3
 have ad:=(ab.ns Oa).1;have an:=ad.n2;have am:=ad.m2
 refine(Om)<|zlt<|Ze ?_ ?_<;>intro hc
 ·
  refine zsr<|(zV (xany (v:= .agg #[.int Oh 0,.int Oh 0,Og,Og,Og])))<|zle (xsw 1 Zx D) ?_;clear D;rintro w D
  refine(zP)<|zlt<|zrt<|zbr<|ztr<|zbr<|ztr<|ztr<|zbr<|ZS 1 Zx D ⟨_,rfl,?_⟩
  replace D:=((((D.sub (.cons _ (.cons _ (.cons _ .slnil)))).cg 1 3 (ints Tb.zero.B)).cg 1 3 (ints Tb.zero.F)).cg 1 22 (fun _=>undef)).fa 3 (fun _=>undef) Tb.zero.ln Tb.zero.C
  exact⟨_,_,_,fun _=>undef,Tb.zero,_,_,rfl,yE _ _ (by rw [show(1000-n).toNat=0 by omega];exact .lim ab),fun h=>Oa,slh_nil,slh_nil,slh_nil,Sat.lm (Tb.zero=t/\Og=vB/\Og=O/\Og=U/\(fun _=>undef)=vv) (l1:= []) (l2:= []) (Sat.gg (l1:= []) D)⟩
 refine zsk<|zbn<|ztn<|zsr<|(zV (xls 0 Zx D))<|(Om)<|zlc (xc0 Zlq) (ZgJ (t:=u) (row:=ac) (col:=af) w (Yq (hT.below D.below) D 2 rfl) Oa Oa) ?_;rintro _ w ⟨qz,qy,qn,qq,F,ai,rfl,yW,x7,x5,x6,V⟩
 replace D:=(D.comp V).n7;clear V
 have cm:=fun k (k0:0<=k) (k1:k<F.nc)=>D.db 6 rfl k0 k1
 refine(On)<|zla (xal (cs:= [_,_,_,_,_]) YI D) ?_;rintro _ w ⟨g3,rfl,D⟩
 refine zle (xsw 7 Zx D (hd:=(Za rfl (Za rfl (Za x7.one (Za x5.one (Za x6.one Zh))))))) ?_;clear D;rintro w D
 refine(zP)<|zx5<|(Om)<|zlt<|Ze ?_ ?_<;>intro hc
 ·
  refine zsr<|(zV (xany (v:= .agg #[.int Oh 0,.int Oh 0,Og,Og,Og])))<|(zP)<|zle (xsw 1 Zx D) ?_;clear D;rintro w D
  refine(zP)<|zlt<|zrt<|ztr<|zbr<|ztr<|ztr<|zbr<|ZS 1 Zx D ⟨_,rfl,?_⟩
  replace D:=((((D.sub (.cons _ (.cons _ (.cons _ (.cons _ (.cons _ (.cons _ (.cons _ (.cons _ .slnil))))))))).cg 1 3 (ints Tb.zero.B)).cg 1 3 (ints Tb.zero.F)).cg 1 22 (fun _=>undef)).fa 3 (fun _=>undef) Tb.zero.ln Tb.zero.C
  exact⟨_,_,_,fun _=>undef,Tb.zero,_,_,rfl,yE _ _ (by rw [show(1000-n).toNat=(1000-(n+1)).toNat+1 by omega];exact .bad ab yW Oa),fun h=>by rcases yW with⟨_,_,h1⟩|⟨_,_,_,h1⟩|⟨_,_,_,_,h1⟩|⟨_,_,_,_,h1⟩<;>omega,slh_nil,slh_nil,slh_nil,Sat.lm (Tb.zero=t/\Og=vB/\Og=O/\Og=U/\(fun _=>undef)=vv) (l1:= []) (l2:= []) (Sat.gg (l1:= []) D)⟩
 refine zsk<|ztn<|zrg<|(zV (xls 7 Zx D))<|zle (xsw 0 Zx D (hd:=(Za rfl (Za rfl (Za x7.one (Za x5.one (Za x6.one Zh))))))) ?_;clear D;rintro w D
 refine zx10<|zlv xmv ?_
 replace D:=D.sub (.cons_cons _ (.cons_cons _ (.cons _ (.cons_cons _ (.cons_cons _ (.cons_cons _ (.cons_cons _ (.cons _ .slnil))))))))
 replace D:=Sat.lm (F=t/\qz=vB/\qy=O/\qn=U/\qq=vv) (l1:= [.blk g1 [.int Oh F.vars,.int Oh F.den,qz,qy,qn],.blk g2 [.int Oh 0,.int Oh 0,Og,Og,Og]]) (l2:= []) (Sat.gg (l1:= [.blk g1 [.int Oh F.vars,.int Oh F.den,qz,qy,qn],.blk g2 [.int Oh 0,.int Oh 0,Og,Og,Og]]) (l2:= [.own qz 1 3 F.nb (ints F.B),.own qy 1 3 F.nf (ints F.F),.own qn 1 22 F.nc qq,.sem (Frame.rows 3 F.nc qq F.ln F.C)]) D)
 refine(zV (Zg (r:=n+1)))<|(zP)<|zln<|zlq ⟨F,qz,qy,qn,qq,n+1,rfl,Oa,Oa,?_,?_,?_,?_,rfl,D.sub (List.Sublist.refl _)⟩
 ·
  exact x7
 ·
  exact x5
 ·
  exact x6
 ·
  intro z e hz;have ag:ai=0:=Oa;rw [ag] at yW;exact yE z e (by rw [show(1000-n).toNat=(1000-(n+1)).toNat+1 by omega];exact .go ab yW hz)
theorem Zls:Zc Oj 178=true:=Ob
theorem TC:ZC Oj 166=some 3:=Ob
theorem ZgG{vc vA vb:Value}{vq:Int->Value}{p:Lp}(w0:World)(I:LAt w0 vc vA vb vq p):
   Calls Oj 143 [.agg #[vc,vA,vb]].toArray w0 fun e w=>∃v,e= .returned v/\∃vB vF vC vv J e,v= .tuple #[.agg #[.int Oh J.vars,.int Oh J.den,vB,vF,vC],.int Oh e]/\StartR p J e/\Slh vB J.nb/\Slh vF J.nf/\Slh vC J.nc/\Sat w0 w [.own vB 1 3 J.nb (ints J.B),.own vF 1 3 J.nf (ints J.F),.own vC 1 22 J.nc vv,.sem (Frame.rows 3 J.nc vv J.ln J.C)]:=by
 have hn:=I.c.cf.n0;have av:=I.c.cf.n1;have hm:=I.A.row.cf.n0;have ax:=I.A.row.cf.n1;have hk:=I.b.cf.n0;have az:=I.b.cf.n1
 refine zenG Tryz.func143 Tryz.ntmps143 fun w D=> ?_
 refine zsr<|zla (xbx (cs:= [_,_,_]) D) ?_;rintro _ w ⟨g1,rfl,D⟩
 refine zla (xal (cs:= [_,_,_,_,_]) YI D) ?_;rintro _ w ⟨g2,rfl,D⟩
 refine(zP)<|zx5<|(zV (xls 0 TC D))<|zlc (xc0 Zls) (ZgF (p:=p) w (I.below D.below)) ?_;rintro _ w ⟨rfl,ai⟩
 replace D:=D.cmp ai;clear ai
 refine(zP)<|zlt<|Ze ?_ ?_<;>intro hc
 ·
  refine zsr<|(zV (xany (v:= .agg #[.int Oh 0,.int Oh 0,Og,Og,Og])))<|zle (xsw 1 Zx D) ?_;clear D;rintro w D
  refine(zP)<|zx14<|ZS 1 Zx D ⟨_,rfl,?_⟩
  exact⟨_,_,_,fun _=>undef,Tb.zero,1,rfl,.inl ⟨‹_›,rfl,rfl⟩,slh_nil,slh_nil,slh_nil,((((D.sub (.cons _ (.cons _ .slnil))).cg 1 3 (ints Tb.zero.B)).cg 1 3 (ints Tb.zero.F)).cg 1 22 (fun _=>undef)).fa 3 (fun _=>undef) Tb.zero.ln Tb.zero.C⟩
 refine ZM<|zlv (xfb 0 fd_166_0) ?_
 have Y:LOk p:=by first|assumption|exact Oc ‹¬¬(LOk p)›
 have b1:=Y.n1
 have b2:=Y.n2
 have b3:=Y.m2
 have b4:=Y.k
 refine(zV (xlb 0 pl_22 D))<|(zV (xln Zb I.c.cf))<|(zP)<|zlz<|(zP)<|zla (xli (n:=1) (len:=1) (pv:= [(0,.int Oh 0)]) (cs:= [.int Oh 0]) (c:=ints (fun _=>0)) Zb Zm D) ?_;rintro v1 w ⟨D,ap⟩
 refine(zV (xfb 0 fd_166_0))<|(zV (xlb 0 pl_22 D))<|zla (xap 2 (r:=p.n+1) (f:=ints (cat 1 (fun _=>0) p.c)) Zb Zm D (I.c.below D.below) (by exact Zu _ _ _)) ?_;rintro W w ⟨D,ak⟩
 refine zla (xli (n:=1) (len:=1) (pv:= [(0,W)]) (cs:= [W]) (c:=(fun _=>W)) Zi Z9 D (hf:=by obtain⟨_,_,_,_,rfl,_⟩:=ak;kernel_rfl)) ?_;rintro v3 w ⟨D,X⟩
 refine zlv (xany (v:= .agg #[.int Oh p.n,.int Oh 1,Og,Og,v3]) (hr:=by obtain⟨_,_,_,_,rfl,_⟩:=X;kernel_rfl)) ?_
 refine zla (xal (cs:= [_,_,_,_,_]) YI D) ?_;rintro _ w ⟨g3,rfl,D⟩
 refine zle (xsw 4 Zx D (hd:=(Za rfl (Za rfl (Za rfl (Za rfl (Za X.one Zh))))))) ?_;clear D;rintro w D
 refine zx5<|(zP)<|zx6 ?_
 replace D:=D.fa 3 (fun _=>Og) (fun _=>0) (fun _ _=>0)
 replace D:=Sat.iz (l1:= [.blk g1 [vc,vA,vb],.blk g2 [.int Oh 0,.int Oh 0,Og,Og,Og]]) (l2:= [.own v3 1 22 1 (fun _=>W),.blk g3 [.int Oh p.n,.int Oh 1,Og,Og,v3]]) (l3:= []) D Oa
 replace D:=D.gj (vv':=(fun _=>W)) (ln':=(ZD p).ln) (f':=(ZD p).C) 4 rfl (fun k F G=>by
   obtain rfl:k=0:=Oa
   refine⟨YE _ _ _,?_,fun j j0 j1=> ?_⟩
   · rw [YE];show _=p.n+1;omega
   · rw [YE];unfold ZD cat;dsimp only;(repeat' split)<;>first|rfl|omega)
 have yz:=fun k (F:0<=k) (G:k<1)=>D.db 4 rfl F G
 replace D:=D.cg 1 3 (ints (fun _=>0))
 replace D:=D.cg 1 3 (ints (fun _=>0))
 refine zlp (fun mm M w=>∃(U:Int) (j:Int) (Z:Value) (fF:Oe),mm=((p.n-j).toNat)/\(0<=j)/\(j<=p.n)/\(U=j)/\(∀k,0<=k->k<j->fF k=k)/\(Slh Z U)/\M= [(1,Oq g1),(2,Oq g2),(3,.int Oh 0),(4,.int Oh p.n),(5,Oq g3),(6,.int Oh j)]/\Sat w0 w [.blk g1 [vc,vA,vb],.blk g2 [.int Oh 0,.int Oh 0,Og,Og,Og],.own v3 1 22 1 (fun _=>W),.blk g3 [.int Oh p.n,.int Oh 1,Og,Z,v3],.sem (Frame.rows 3 1 (fun _=>W) ((ZD p).ln) ((ZD p).C)),.own Z 1 3 U (ints fF),.own Og 1 3 0 (ints (fun _=>0))]) ⟨0,0,Og,(fun _=>0),rfl,Oa,Oa,Oa,?_,?_,rfl,D⟩ ?_
 ·
  intro k F G;omega
 ·
  exact slh_nil
 clear D w
 rintro mm M w ⟨U,j,Z,fF,rfl,j0,j1,ar,ag,aa,rfl,D⟩
 refine zx11<|(On)<|zlt<|Ze ?_ ?_<;>intro hc
 ·
  refine zsk<|ztn<|zsq<|zbk<|zrg<|(zV (xfb 3 fd_200_3))<|(zV (xlb 3 pl_22 D))<|(zP)<|zla (xli (n:=1) (len:=1) (pv:= [(0,.int Oh j)]) (cs:= [.int Oh j]) (c:=ints (fun _=>j)) Zb Zm D) ?_;rintro v4 w ⟨D,ao⟩
  refine zla (xap 5 (r:=U+1) Zb Zm D (D.c7 7 rfl) (Ya _ _ _)) ?_;rintro v5 w ⟨D,af⟩
  refine(zV (xfb 3 fd_200_3))<|zle (xsb 3 pl_22 D (hv:=af.one)) ?_;clear D;rintro w D
  refine zx10<|(zP)<|(zV (Zg (r:=j+1)))<|(zP)<|zln<|zlq ⟨U+1,j+1,v5,(snoc fF U j),rfl,Oa,Oa,Oa,?_,?_,rfl,D.pk [0,1,2,3,4,5,6]⟩
  ·
   intro k F G;by_cases e:k<U
   · rw [Zl e];exact ag k F Oa
   · rw [Zk e];omega
  ·
   exact af
 refine zx18<|(zP)<|zx6<|zlp (fun mm M w=>∃(V:Int) (O:Int) (wv:Int->Value) (i:Int) (wB:Value) (fB:Oe) (wC:Value),mm=((p.m-i).toNat)/\(0<=i)/\(i<=p.m)/\(V=i)/\(O=i+1)/\(∀k,0<=k->k<i->fB k=p.n+k)/\(Slh wB V)/\(Slh wC O)/\M= [(1,Oq g1),(2,Oq g2),(3,.int Oh 0),(4,.int Oh p.n),(5,Oq g3),(7,.int Oh i)]/\Sat w0 w [.blk g1 [vc,vA,vb],.blk g2 [.int Oh 0,.int Oh 0,Og,Og,Og],.own wC 1 22 O wv,.blk g3 [.int Oh p.n,.int Oh 1,wB,Z,wC],.sem (Frame.rows 3 O wv ((ZD p).ln) ((ZD p).C)),.own Z 1 3 U (ints fF),.own wB 1 3 V (ints fB)]) ⟨0,1,(fun _=>W),0,Og,(fun _=>0),v3,rfl,Oa,Oa,Oa,Oa,?_,?_,?_,rfl,D⟩ ?_
 ·
  intro k F G;omega
 ·
  exact slh_nil
 ·
  exact X
 clear D w
 rintro mm M w ⟨V,O,wv,i,wB,fB,wC,rfl,i0,i1,aw,au,ah,ac,ab,rfl,D⟩
 have qG:=fun k (F:0<=k) (G:k<O)=>D.db 4 rfl F G
 refine zx11<|(zP)<|(zV (xfb 1 fd_166_1))<|(zV (xlb 0 Zs D))<|(zV (xln Zi I.A.row.cf))<|(zP)<|zlt<|Ze ?_ ?_<;>intro hc
 ·
  refine zx3<|(zV (xfb 2 fd_200_2))<|(zV (xlb 3 pl_22 D))<|(Om)<|(zV (Zg (r:=p.n+i)))<|zla (xli (n:=1) (len:=1) (pv:= [(0,.int Oh (p.n+i))]) (cs:= [.int Oh (p.n+i)]) (c:=ints (fun _=>p.n+i)) Zb Zm D) ?_;rintro v6 w ⟨D,an⟩
  refine zla (xap 6 (r:=V+1) Zb Zm D (D.c7 7 rfl) (Ya _ _ _)) ?_;rintro v7 w ⟨D,ae⟩
  refine(zV (xfb 2 fd_200_2))<|zle (xsb 3 pl_22 D (hv:=ae.one)) ?_;clear D;rintro w D
  refine zlt<|zdst [0,1,3] [0,1] 18 mx_ D ?_;clear D;intro w D
  refine zDrv 0 (xfb 4 fd_200_4) ?_
  have aq:=Y.rows i i0 Oa
  refine zdl 1 (fun w D=>(xlb 2 Zs D)) ?_
  refine(zDw 2 (xfb 2 fd_166_2))<|(zDl 3 (fun w D=>(xlb 0 pl_22 D)))<|(zDw 4 xmv)<|(zDw 5 (xix (kk:=i) Zb I.b.cf))<|zdla 6 (fun w D=>(xlr (u:= .int Oh (p.b i)) pl_3 (I.b.below D.below))) ?_
  have a0:=Y.b i i0 Oa
  refine(zDw 7 (ZbX (r:= -((p.b i)))))<|(zDw 9 (xfb 1 fd_166_1))<|(zDl 10 (fun w D=>(xlb 0 Zs D)))<|(zDw 11 xmv)<|(zDw 12 (xix (kk:=i) Zi I.A.row.cf))<|(zDl 13 (fun w D=>(xlr (u:=(vq i)) pl_22 (I.A.row.below D.below))))<|zda 8 (xli (n:=1) (len:=1) (pv:= [(0,.int Oh (-((p.b i))))]) (cs:= [.int Oh (-((p.b i)))]) (c:=ints (fun _=> -((p.b i)))) Zb Zm D) ?_;rintro v8 w ⟨D,am⟩
  refine⟨⟨fun _=>D.pk [0,1,3],D.pk [0,1]⟩,?_⟩
  refine zda 14 (xap 8 (r:=(p.ln i)+1) (f:=ints (cat 1 (fun _=> -(p.b i)) (p.A i))) Zb Zm D ((I.A.p i Oa Oa).below D.below) (by exact Zu _ _ _)) ?_;rintro v9 w ⟨D,ad⟩
  refine⟨⟨fun _=>D.pk [0,1,3],D.pk [0,1]⟩,?_⟩
  refine zda 15 (xli (n:=1) (len:=1) (pv:= [(0,v9)]) (cs:= [v9]) (c:=(fun _=>v9)) Zi Z9 D (hf:=by obtain⟨_,_,_,_,rfl,_⟩:=ad;kernel_rfl)) ?_;rintro al w ⟨D,ci⟩
  refine⟨⟨fun _=>D.pk [0,1,3],D.pk [0,1]⟩,?_⟩
  refine zda 16 (xap 2 (r:=O+1) Zi Z9 D (D.c7 9 rfl) (Xa _ _ _) (h1:=fun _ _ _=>ad.one)) ?_;rintro aj w ⟨D,bx⟩
  replace D:=Sat.merge (l1:= [_,_,_,_]) (l2:= [_,_,_]) (l3:= [_]) D Oa
  have xd:=fun k (F:0<=k) (G:k<O+1)=>D.db 4 rfl F G
  refine⟨⟨fun _=>D.pk [0,1,3],D.pk [0,1]⟩,?_⟩
  refine(zDw 17 (xfb 4 fd_200_4))<|zde 18 (xsb 3 Zs D (hv:=bx.one)) ?_;clear D;rintro w D
  refine⟨⟨fun h=>absurd h (by decide),D.pk [0,1]⟩,?_⟩
  refine zdd<|zbn<|ztn<|zrg ?_
  refine zlv xmv ?_
  replace D:=D.gj (vv':=gsn wv O v9) (ln':=(ZD p).ln) (f':=(ZD p).C) 4 rfl (fun k F G=>by
    by_cases e:k<i+1
    · exact⟨rfl,Zp Oa,fun j _ _=>by rw [Zp Oa]⟩
    · have ay:k=i+1:=Oa
      refine⟨rfl,?_,fun j j0 j1=> ?_⟩
      · rw [Zq Oa];show _=p.n+1;omega
      · rw [Zq Oa];unfold ZD cat;dsimp only;(repeat' split)<;>first|rfl|omega|(congr 2;omega)|(congr 1;omega))
  have bl:=fun k (F:0<=k) (G:k<O+1)=>D.db 4 rfl F G
  refine(zV (Zg (r:=i+1)))<|(zP)<|zln<|zlq ⟨V+1,O+1,gsn wv O v9,i+1,v7,(snoc fB V (p.n+i)),aj,rfl,Oa,Oa,Oa,Oa,?_,?_,?_,rfl,D.pk [0,1,2,3,4,5,6]⟩
  ·
   intro k F G;by_cases e:k<V
   · rw [Zl e];exact ah k F Oa
   · rw [Zk e];omega
  ·
   exact ae
  ·
   exact bx
 refine zx8<|(zV (xls 3 Zx D))<|zle (xsw 1 Zx D (hd:=(Za rfl (Za rfl (Za ac.one (Za aa.one (Za ab.one Zh))))))) ?_;clear D;rintro w D
 refine(zP)<|zx1<|ZS 1 Zx D ⟨_,rfl,?_⟩
 obtain rfl:i=p.m:=Oa
 obtain rfl:V=p.m:=Oa
 obtain rfl:O=p.m+1:=Oa
 obtain rfl:U=p.n:=Oa
 replace D:=D.gi 6 rfl (d:=ints (ZD p).B) (fun k F G=>by unfold ints;rw [ah k F (by simp at G;omega)];rfl)
 replace D:=D.gi 5 rfl (d:=ints (ZD p).F) (fun k F G=>by unfold ints;rw [ag k F (by simp at G;omega)];rfl)
 exact⟨_,_,_,_,ZD p,0,rfl,.inr ⟨Y,rfl,rfl⟩,ac,aa,ab,(D.pk [2,4,5,6]).perm (Vs (l1:= [_,_,_]) (l2:= []) (Vs (l1:= [_,_]) (l2:= []) (List.Perm.refl _)))⟩
theorem Va:ZV Oj 85=some (.agg #[Og,Og,.int Oh 0,.int Oh 0],4,64):=Ob
theorem fd_85_0:Zv Oj 85 0=some 0:=Ob
theorem fd_85_1:Zv Oj 85 1=some 1:=Ob
theorem st_85:ZC Oj 85=some 4:=Ob
theorem Zmn{vB Z W:Value}{vv:Int->Value}{t:Tb}(w0:World)(I:TAt w0 vB Z W vv t)(U:TPrp t):
   Calls Oj 145 [.agg #[.int Oh t.vars,.int Oh t.den,vB,Z,W]].toArray w0 fun e w=>∃v,e= .returned v/\∃vX vY,v= .agg #[vX,vY,.int Oh (t.C 0 0),.int Oh t.den]/\Slh vX t.nf/\Slh vY t.nb/\Sat w0 w [.own vX 1 3 t.nf (ints (rdX t t.nb.toNat)),.own vY 1 3 t.nb (ints (rdY t t.nf.toNat))]:=by
 have hn:=I.F.cf.n0;have ab:=I.F.cf.n1;have hb:=I.B.cf.n0;have ag:=I.B.cf.n1;have af:=I.C.row.cf.n0;have ae:=I.C.row.cf.n1
 have b1:=U.n1;have b2:=U.n2;have b3:=U.m2;have b4:=U.v;have b5:=U.d1;have b6:=U.d2;have b7:=U.c
 have ad:=U.len (i:=0) Oa Oa
 refine zenG Tryz.func145 Tryz.ntmps145 fun w D=> ?_
 refine zsr<|zla (xbx (cs:= [_,_,_,_,_]) D) ?_;rintro _ w ⟨V,rfl,D⟩
 refine zla (xal (cs:= [_,_,_,_]) Va D) ?_;rintro _ w ⟨g2,rfl,D⟩
 refine zx7 ?_
 refine WR (fun M w=>∃(O:Value) (J:Value) (g3:Nat),(Slh O t.vars)/\(Slh J t.nb)/\M= [(0,.agg #[.int Oh t.vars,.int Oh t.den,vB,Z,W]),(1,Oq V),(2,Oq g2),(6,Oq V),(7,.int Oh t.vars),(9,.pointer (some ⟨V,2,none⟩)),(10,vB),(11,.int Oh t.nb),(13,.pointer (some ⟨V,4,none⟩)),(14,W),(15,.pointer (some (cad W 0))),(16,(vv 0)),(17,.pointer (some (cad (vv 0) 0))),(18,.int Oh ((t.C 0) 0)),(19,.pointer (some ⟨V,1,none⟩)),(20,.int Oh t.den),(8,O),(12,J),(21,.agg #[O,J,.int Oh ((t.C 0) 0),.int Oh t.den]),(3,Oq g3)]/\Sat w0 w [.blk V [.int Oh t.vars,.int Oh t.den,vB,Z,W],.blk g2 [Og,Og,.int Oh 0,.int Oh 0],.own O 1 3 t.vars (ints (fun _=>0)),.own J 1 3 t.nb (ints (fun _=>0)),.blk g3 [O,J,.int Oh ((t.C 0) 0),.int Oh t.den]]) ?_ ?_
 ·
  refine zdst [0,1] [0,1] 17 mx_ D ?_;clear D;intro w D
  refine(zDw 0 (xfb 0 fd_200_0))<|(zDl 1 (fun w D=>(xlb 0 pl_3 D)))<|(zDw 3 (xfb 2 fd_200_2))<|(zDl 4 (fun w D=>(xlb 0 pl_22 D)))<|(zDw 5 (xln Zb I.B.cf))<|(zDw 7 (xfb 4 fd_200_4))<|(zDl 8 (fun w D=>(xlb 0 Zs D)))<|(zDw 9 (xix (kk:=0) Zi I.C.row.cf))<|(zDl 10 (fun w D=>(xlr (u:=(vv 0)) pl_22 (I.C.row.below D.below))))<|(zDw 11 (xix (kk:=0) Zb (I.C.p 0 Oa Oa).cf))<|(zDl 12 (fun w D=>(xlr (u:= .int Oh ((t.C 0) 0)) pl_3 ((I.C.p 0 Oa Oa).below D.below))))<|(zDw 13 (xfb 1 fd_200_1))<|(zDl 14 (fun w D=>(xlb 0 pl_3 D)))<|Xk (r:= [2,6,16]) ((Z1 ?_ (Z1 ?_ (Z1 ?_ Xj))))
  ·
   refine zka (xmk Zb Zm D) ?_;rintro O w ⟨D,G⟩
   refine⟨⟨fun _=>D.pk [0,1],D.pk [0,1]⟩,?_⟩
   refine Xk (r:= [6,16]) ((Z1 ?_ (Z1 ?_ Xj)))
   ·
    refine zka (xmk Zb Zm D) ?_;rintro J w ⟨D,F⟩
    refine⟨⟨fun _=>D.pk [0,1],D.pk [0,1]⟩,?_⟩
    refine zDrv 15 (xany (v:= .agg #[O,J,.int Oh ((t.C 0) 0),.int Oh t.den]) (hr:=by obtain⟨_,_,_,_,rfl,_⟩:=G;obtain⟨_,_,_,_,rfl,_⟩:=F;kernel_rfl)) ?_
    refine zda 16 (xal (cs:= [_,_,_,_]) Va D) ?_;rintro _ w ⟨g3,rfl,D⟩
    refine⟨⟨fun _=>D.pk [0,1],D.pk [0,1]⟩,?_⟩
    refine zde 17 (xsw 4 st_85 D (hd:=(Za G.one (Za F.one (Za rfl (Za rfl Zh)))))) ?_;clear D;rintro w D
    refine⟨⟨fun h=>absurd h (by decide),D.pk [0,1]⟩,?_⟩
    refine zdd<|zgj ⟨O,J,g3,G,F,rfl,D⟩
   refine zka (xal (cs:= [_,_,_,_]) Va D) ?_;rintro _ w ⟨g3,rfl,D⟩
   refine⟨⟨fun _=>D.pk [0,1],D.pk [0,1]⟩,?_⟩
   refine zda 6 (xmk Zb Zm D) ?_;rintro J w ⟨D,F⟩
   refine⟨⟨fun _=>D.pk [0,1],D.pk [0,1]⟩,?_⟩
   refine zDrv 15 (xany (v:= .agg #[O,J,.int Oh ((t.C 0) 0),.int Oh t.den]) (hr:=by obtain⟨_,_,_,_,rfl,_⟩:=G;obtain⟨_,_,_,_,rfl,_⟩:=F;kernel_rfl)) ?_
   refine zde 17 (xsw 3 st_85 D (hd:=(Za G.one (Za F.one (Za rfl (Za rfl Zh)))))) ?_;clear D;rintro w D
   refine⟨⟨fun h=>absurd h (by decide),D.pk [0,1]⟩,?_⟩
   refine zdd<|zgj ⟨O,J,g3,G,F,rfl,D.pk [0,1,2,4,3]⟩
  ·
   refine zka (xmk Zb Zm D) ?_;rintro O w ⟨D,G⟩
   refine⟨⟨fun _=>D.pk [0,1],D.pk [0,1]⟩,?_⟩
   refine Xk (r:= [2,16]) ((Z1 ?_ (Z1 ?_ Xj)))
   ·
    refine zka (xmk Zb Zm D) ?_;rintro J w ⟨D,F⟩
    refine⟨⟨fun _=>D.pk [0,1],D.pk [0,1]⟩,?_⟩
    refine zDrv 15 (xany (v:= .agg #[J,O,.int Oh ((t.C 0) 0),.int Oh t.den]) (hr:=by obtain⟨_,_,_,_,rfl,_⟩:=F;obtain⟨_,_,_,_,rfl,_⟩:=G;kernel_rfl)) ?_
    refine zda 16 (xal (cs:= [_,_,_,_]) Va D) ?_;rintro _ w ⟨g3,rfl,D⟩
    refine⟨⟨fun _=>D.pk [0,1],D.pk [0,1]⟩,?_⟩
    refine zde 17 (xsw 4 st_85 D (hd:=(Za F.one (Za G.one (Za rfl (Za rfl Zh)))))) ?_;clear D;rintro w D
    refine⟨⟨fun h=>absurd h (by decide),D.pk [0,1]⟩,?_⟩
    refine zdd<|zgj ⟨J,O,g3,F,G,rfl,D.pk [0,1,3,2,4]⟩
   refine zka (xal (cs:= [_,_,_,_]) Va D) ?_;rintro _ w ⟨g3,rfl,D⟩
   refine⟨⟨fun _=>D.pk [0,1],D.pk [0,1]⟩,?_⟩
   refine zda 2 (xmk Zb Zm D) ?_;rintro J w ⟨D,F⟩
   refine⟨⟨fun _=>D.pk [0,1],D.pk [0,1]⟩,?_⟩
   refine zDrv 15 (xany (v:= .agg #[J,O,.int Oh ((t.C 0) 0),.int Oh t.den]) (hr:=by obtain⟨_,_,_,_,rfl,_⟩:=F;obtain⟨_,_,_,_,rfl,_⟩:=G;kernel_rfl)) ?_
   refine zde 17 (xsw 3 st_85 D (hd:=(Za F.one (Za G.one (Za rfl (Za rfl Zh)))))) ?_;clear D;rintro w D
   refine⟨⟨fun h=>absurd h (by decide),D.pk [0,1]⟩,?_⟩
   refine zdd<|zgj ⟨J,O,g3,F,G,rfl,D.pk [0,1,4,2,3]⟩
  refine zka (xal (cs:= [_,_,_,_]) Va D) ?_;rintro _ w ⟨g3,rfl,D⟩
  refine⟨⟨fun _=>D.pk [0,1],D.pk [0,1]⟩,?_⟩
  refine Xk (r:= [2,6]) ((Z1 ?_ (Z1 ?_ Xj)))
  ·
   refine zka (xmk Zb Zm D) ?_;rintro O w ⟨D,G⟩
   refine⟨⟨fun _=>D.pk [0,1],D.pk [0,1]⟩,?_⟩
   refine zda 6 (xmk Zb Zm D) ?_;rintro J w ⟨D,F⟩
   refine⟨⟨fun _=>D.pk [0,1],D.pk [0,1]⟩,?_⟩
   refine zDrv 15 (xany (v:= .agg #[O,J,.int Oh ((t.C 0) 0),.int Oh t.den]) (hr:=by obtain⟨_,_,_,_,rfl,_⟩:=G;obtain⟨_,_,_,_,rfl,_⟩:=F;kernel_rfl)) ?_
   refine zde 17 (xsw 2 st_85 D (hd:=(Za G.one (Za F.one (Za rfl (Za rfl Zh)))))) ?_;clear D;rintro w D
   refine⟨⟨fun h=>absurd h (by decide),D.pk [0,1]⟩,?_⟩
   refine zdd<|zgj ⟨O,J,g3,G,F,rfl,D.pk [0,1,3,4,2]⟩
  refine zka (xmk Zb Zm D) ?_;rintro O w ⟨D,G⟩
  refine⟨⟨fun _=>D.pk [0,1],D.pk [0,1]⟩,?_⟩
  refine zda 2 (xmk Zb Zm D) ?_;rintro J w ⟨D,F⟩
  refine⟨⟨fun _=>D.pk [0,1],D.pk [0,1]⟩,?_⟩
  refine zDrv 15 (xany (v:= .agg #[J,O,.int Oh ((t.C 0) 0),.int Oh t.den]) (hr:=by obtain⟨_,_,_,_,rfl,_⟩:=F;obtain⟨_,_,_,_,rfl,_⟩:=G;kernel_rfl)) ?_
  refine zde 17 (xsw 2 st_85 D (hd:=(Za F.one (Za G.one (Za rfl (Za rfl Zh)))))) ?_;clear D;rintro w D
  refine⟨⟨fun h=>absurd h (by decide),D.pk [0,1]⟩,?_⟩
  refine zdd<|zgj ⟨J,O,g3,F,G,rfl,D.pk [0,1,4,3,2]⟩
 clear D w;rintro M w ⟨O,J,g3,G,F,rfl,D⟩
 refine ztn<|zsq<|zsr<|(zP)<|zx6<|zlp (fun mm M w=>∃(i:Int) (fX:Oe),mm=((t.nb-i).toNat)/\(0<=i)/\(i<=t.nb)/\(fX=rdX t i.toNat)/\M= [(1,Oq V),(2,Oq g2),(3,Oq g3),(4,.int Oh i)]/\Sat w0 w [.blk V [.int Oh t.vars,.int Oh t.den,vB,Z,W],.blk g2 [Og,Og,.int Oh 0,.int Oh 0],.own O 1 3 t.vars (ints fX),.own J 1 3 t.nb (ints (fun _=>0)),.blk g3 [O,J,.int Oh ((t.C 0) 0),.int Oh t.den]]) ⟨0,(fun _=>0),rfl,Oa,Oa,?_,rfl,D⟩ ?_
 ·
  rfl
 clear D w
 rintro mm M w ⟨i,fX,rfl,h0,h1,Y,rfl,D⟩
 refine zx11<|(zP)<|(zV (xfb 2 fd_200_2))<|(zV (xlb 0 pl_22 D))<|(zV (xln Zb I.B.cf))<|(zP)<|zlt<|Ze ?_ ?_<;>intro hc
 ·
  refine zx27<|zdst [0,1,2,3,4] [0,1,2,3,4] 1000 mx_ D ?_;clear D;intro w D
  refine(zDw 0 (xfb 2 fd_200_2))<|zdla 1 (fun w D=>(xlb 0 pl_22 D)) ?_
  have hrg:=U.lz (i:=i) h0 Oa;have ac:=U.len (i:=i+1) Oa Oa
  refine(zDw 2 xmv)<|(zDw 3 (xix (kk:=i) Zb I.B.cf))<|(zDl 4 (fun w D=>(xlr (u:= .int Oh (t.B i)) pl_3 (I.B.below D.below))))<|(zDw 5 (xfb 0 fd_200_0))<|(zDl 6 (fun w D=>(xlb 0 pl_3 D)))<|(zDw 7 Z7)<|zdd<|ztn ?_
  refine Ze ?_ ?_<;>intro hc
  ·
   refine zdst [0,1,2,3,4] [0,1,3,4] 16 mx_ D ?_;clear D;intro w D
   refine(zDw 0 (xfb 0 fd_85_0))<|(zDl 1 (fun w D=>(xlb 3 pl_22 D)))<|(zDw 2 (xfb 2 fd_200_2))<|(zDl 3 (fun w D=>(xlb 0 pl_22 D)))<|(zDw 4 xmv)<|(zDw 5 (xix (kk:=i) Zb I.B.cf))<|(zDl 6 (fun w D=>(xlr (u:= .int Oh (t.B i)) pl_3 (I.B.below D.below))))<|(zDw 7 (xfb 4 fd_200_4))<|(zDl 8 (fun w D=>(xlb 0 Zs D)))<|(zDw 9 xmv)<|(zDw 10 (Zg (r:=i+1)))<|(zDw 11 (xix (kk:=i+1) Zi I.C.row.cf))<|(zDl 12 (fun w D=>(xlr (u:=(vv (i+1))) pl_22 (I.C.row.below D.below))))<|(zDw 13 (xix (kk:=0) Zb (I.C.p (i+1) Oa Oa).cf))<|zdla 14 (fun w D=>(xlr (u:= .int Oh ((t.C (i+1)) 0)) pl_3 ((I.C.p (i+1) Oa Oa).below D.below))) ?_
   refine(zDw 15 (xix (kk:=(t.B i)) Zb G))<|zde 16 (xso 2 pl_3 D (Zy _ _ _)) ?_;clear D;rintro w D
   refine⟨⟨fun h=>absurd h (by decide),D.pk [0,1,3,4]⟩,?_⟩
   refine zdd<|zbn<|ztn<|zrg ?_
   refine(zP)<|(zV (Zg (r:=i+1)))<|(zP)<|zln<|zlq ⟨i+1,(upd fX (t.B i) ((t.C (i+1)) 0)),rfl,Oa,Oa,?_,rfl,D⟩
   ·
    rw [V6 t h0,<-Y];first|rw [if_pos Oa]|rw [if_neg Oa]
  refine zx4<|(zP)<|(zV (Zg (r:=i+1)))<|(zP)<|zln<|zlq ⟨i+1,fX,rfl,Oa,Oa,?_,rfl,D⟩
  ·
   rw [V6 t h0,<-Y];first|rw [if_pos Oa]|rw [if_neg Oa]
 refine zx18<|(zP)<|zx6<|zlp (fun mm M w=>∃(j:Int) (fY:Oe),mm=((t.nf-j).toNat)/\(0<=j)/\(j<=t.nf)/\(fY=rdY t j.toNat)/\M= [(1,Oq V),(2,Oq g2),(3,Oq g3),(5,.int Oh j)]/\Sat w0 w [.blk V [.int Oh t.vars,.int Oh t.den,vB,Z,W],.blk g2 [Og,Og,.int Oh 0,.int Oh 0],.own O 1 3 t.vars (ints fX),.own J 1 3 t.nb (ints fY),.blk g3 [O,J,.int Oh ((t.C 0) 0),.int Oh t.den]]) ⟨0,(fun _=>0),rfl,Oa,Oa,?_,rfl,D⟩ ?_
 ·
  rfl
 clear D w
 rintro mm M w ⟨j,fY,rfl,j0,j1,X,rfl,D⟩
 refine zx11<|(zP)<|(zV (xfb 3 fd_200_3))<|(zV (xlb 0 pl_22 D))<|(zV (xln Zb I.F.cf))<|(zP)<|zlt<|Ze ?_ ?_<;>intro hc
 ·
  refine zx27<|zdst [0,1,2,3,4] [0,1,2,3,4] 1000 mx_ D ?_;clear D;intro w D
  refine zDrv 0 (xfb 3 fd_200_3) ?_
  have hrg:=U.ly (i:=j) j0 Oa Oa
  refine(zDl 1 (fun w D=>(xlb 0 pl_22 D)))<|(zDw 2 xmv)<|(zDw 3 (xix (kk:=j) Zb I.F.cf))<|(zDl 4 (fun w D=>(xlr (u:= .int Oh (t.F j)) pl_3 (I.F.below D.below))))<|(zDw 5 (xfb 0 fd_200_0))<|(zDl 6 (fun w D=>(xlb 0 pl_3 D)))<|(zDw 7 Xw)<|zdd<|ztn ?_
  refine Ze ?_ ?_<;>intro hc
  ·
   refine zdst [0,1,2,3,4] [0,1,2,4] 19 mx_ D ?_;clear D;intro w D
   refine(zDw 0 (xfb 1 fd_85_1))<|(zDl 1 (fun w D=>(xlb 3 pl_22 D)))<|(zDw 2 (xfb 3 fd_200_3))<|(zDl 3 (fun w D=>(xlb 0 pl_22 D)))<|(zDw 4 xmv)<|(zDw 5 (xix (kk:=j) Zb I.F.cf))<|(zDl 6 (fun w D=>(xlr (u:= .int Oh (t.F j)) pl_3 (I.F.below D.below))))<|(zDw 7 (xfb 0 fd_200_0))<|(zDl 8 (fun w D=>(xlb 0 pl_3 D)))<|(zDw 9 (Zw (r:=(t.F j)-t.vars)))<|(zDw 10 (xfb 4 fd_200_4))<|(zDl 11 (fun w D=>(xlb 0 Zs D)))<|(zDw 12 (xix (kk:=0) Zi I.C.row.cf))<|(zDl 13 (fun w D=>(xlr (u:=(vv 0)) pl_22 (I.C.row.below D.below))))<|zDrv 14 xmv ?_
   refine(zDw 15 (Zg (r:=j+1)))<|(zDw 16 (xix (kk:=j+1) Zb (I.C.p 0 Oa Oa).cf))<|(zDl 17 (fun w D=>(xlr (u:= .int Oh ((t.C 0) (j+1))) pl_3 ((I.C.p 0 Oa Oa).below D.below))))<|(zDw 18 (xix (kk:=(t.F j)-t.vars) Zb F))<|zde 19 (xso 3 pl_3 D (Zy _ _ _)) ?_;clear D;rintro w D
   refine⟨⟨fun h=>absurd h (by decide),D.pk [0,1,2,4]⟩,?_⟩
   refine zdd<|zbn<|ztn<|zrg ?_
   refine(zP)<|(zV (Zg (r:=j+1)))<|(zP)<|zln<|zlq ⟨j+1,(upd fY ((t.F j)-t.vars) ((t.C 0) (j+1))),rfl,Oa,Oa,?_,rfl,D⟩
   ·
    rw [V5 t j0,<-X];first|rw [if_pos Oa]|rw [if_neg Oa]
  refine zx4<|(zP)<|(zV (Zg (r:=j+1)))<|(zP)<|zln<|zlq ⟨j+1,fY,rfl,Oa,Oa,?_,rfl,D⟩
  ·
   rw [V5 t j0,<-X];first|rw [if_pos Oa]|rw [if_neg Oa]
 refine zx8<|(zV (xls 4 st_85 D))<|zle (xsw 1 st_85 D (hd:=(Za G.one (Za F.one (Za rfl (Za rfl Zh)))))) ?_;clear D;rintro w D
 refine zx1<|zfc 1 st_85 D ⟨_,rfl,?_⟩
 obtain rfl:i=t.nb:=Oa
 obtain rfl:j=t.nf:=Oa
 have aa:=U.v
 rw [aa] at G
 replace D:=D.pk [2,3];rw [aa] at D;subst Y;subst X
 exact⟨_,_,rfl,G,F,D⟩
theorem ZlR:Zc Oj 143=true:=Ob
theorem ZlQ:Zc Oj 144=true:=Ob
theorem ZlP:Zc Oj 145=true:=Ob
theorem ZgH{vc vA vb:Value}{vq:Int->Value}{p:Lp}(w0:World)(W:LAt w0 vc vA vb vq p):
   Calls Oj 110 [.agg #[vc,vA,vb]].toArray w0 fun e w=>∃v,e= .returned v/\∃vX vY s e,v= .tuple #[.agg #[vX,vY,.int Oh s.val,.int Oh s.den],.int Oh e]/\SolveR p s e/\Slh vX s.n/\Slh vY s.m/\Sat w0 w [.own vX 1 3 s.n (ints s.X),.own vY 1 3 s.m (ints s.Y)]:=by
 have hn:=W.c.cf.n0;have af:=W.c.cf.n1;have hm:=W.A.row.cf.n0;have ag:=W.A.row.cf.n1;have hk:=W.b.cf.n0;have ah:=W.b.cf.n1
 refine zenG Tryz.func110 Tryz.ntmps110 fun w D=> ?_
 refine zsr<|zla (xbx (cs:= [_,_,_]) D) ?_;rintro _ w ⟨g1,rfl,D⟩
 refine zla (xal (cs:= [_,_,_,_]) Va D) ?_;rintro _ w ⟨g2,rfl,D⟩
 refine(zP)<|zlz<|(zV (xls 0 TC D))<|zlc (xc0 ZlR) (ZgG (p:=p) w (W.below D.below)) ?_;rintro _ w ⟨qz,qy,Y,X,F,ai,rfl,yU,x7,x5,x6,G⟩
 replace D:=(D.comp G).n6;clear G
 have cm:=fun k (J:0<=k) (I:k<F.nc)=>D.db 5 rfl J I
 refine(On)<|zla (xal (cs:= [_,_,_,_,_]) YI D) ?_;rintro _ w ⟨g3,rfl,D⟩
 refine zle (xsw 6 Zx D (hd:=(Za rfl (Za rfl (Za x7.one (Za x5.one (Za x6.one Zh))))))) ?_;clear D;rintro w D
 refine(zP)<|zx5<|(Om)<|zlt<|Ze ?_ ?_<;>intro hc
 ·
  refine zsr<|(zV (xany (v:= .agg #[Og,Og,.int Oh 0,.int Oh 0])))<|(zP)<|zle (xsw 1 st_85 D) ?_;clear D;rintro w D
  refine(zP)<|zx14<|ZS 1 st_85 D ⟨_,rfl,?_⟩
  obtain⟨ad,ac⟩:=yU.err Oa
  exact⟨_,_,So.zero,_,rfl,.inl ⟨ad,rfl,ac⟩,slh_nil,slh_nil,((D.sub (.cons _ (.cons _ (.cons _ (.cons _ (.cons _ (.cons _ (.cons _ .slnil)))))))).cg 1 3 (ints So.zero.X)).cg 1 3 (ints So.zero.Y)⟩
 refine ZM<|(zV (xls 6 Zx D))<|zlc (xc0 ZlQ) (Zmk (t:=F) w (⟨(D.c7 2 rfl),(D.c7 3 rfl),(⟨(D.c7 4 rfl),fun k J I=>D.fq 5 rfl J I,fun k J I=>D.gb 5 rfl J I⟩:MAt _ Y F.nc X F.ln F.C)⟩:TAt _ qz qy Y X F)) ?_;rintro _ w ⟨yw,yv,yi,yh,O,kI,aa,rfl,Z,fm,ak,aj,zJ,G⟩
 replace D:=(D.comp G).n8;clear G
 have bk:=fun k (J:0<=k) (I:k<O.nc)=>((Yq (⟨(D.c7 2 rfl),(D.c7 3 rfl),(⟨(D.c7 4 rfl),fun k J I=>D.fq 5 rfl J I,fun k J I=>D.gb 5 rfl J I⟩:MAt _ Y F.nc X F.ln F.C)⟩:TAt _ qz qy Y X F) D 7 rfl).C.p k J I).cf
 refine(On)<|zle (xsw 6 Zx D (hd:=(Za rfl (Za rfl (Za ak.one (Za aj.one (Za zJ.one Zh))))))) ?_;clear D;rintro w D
 refine(zP)<|zx5<|(Om)<|zlt<|Ze ?_ ?_<;>intro hc
 ·
  refine zsr<|(zV (xany (v:= .agg #[Og,Og,.int Oh 0,.int Oh 0])))<|(zP)<|zle (xsw 1 st_85 D) ?_;clear D;rintro w D
  refine(zP)<|zx14<|ZS 1 st_85 D ⟨_,rfl,?_⟩
  obtain⟨hl,V⟩:=yU.ok Oa;rw [V] at Z
  exact⟨_,_,So.zero,_,rfl,.inr ⟨hl,_,Z,.inl ⟨by omega,rfl⟩⟩,slh_nil,slh_nil,((D.sub (.cons _ (.cons _ (.cons _ (.cons _ (.cons _ (.cons _ (.cons _ (.cons _ .slnil))))))))).cg 1 3 (ints So.zero.X)).cg 1 3 (ints So.zero.Y)⟩
 refine ZM<|zlv (xls 6 Zx D) ?_
 have ab:=fm (.inl Oa);rw [ab] at Z
 obtain⟨U,_,_,_⟩:=Z.fin (.inl Oa)
 have b1:=U.n1
 have b2:=U.n2
 have b3:=U.m2
 have b4:=U.v
 have b5:=U.d1
 have b6:=U.d2
 have b7:=U.c
 refine zlc (xc0 ZlP) (Zmn (t:=O) w (Yq (⟨(D.c7 2 rfl),(D.c7 3 rfl),(⟨(D.c7 4 rfl),fun k J I=>D.fq 5 rfl J I,fun k J I=>D.gb 5 rfl J I⟩:MAt _ Y F.nc X F.ln F.C)⟩:TAt _ qz qy Y X F) D 7 rfl) U) ?_;rintro _ w ⟨kK,kJ,rfl,dt,dr,G⟩
 replace D:=(D.comp G).n10;clear G
 refine zle (xsw 1 st_85 D (hd:=(Za dt.one (Za dr.one (Za rfl (Za rfl Zh)))))) ?_;clear D;rintro w D
 refine(zP)<|zx1<|ZS 1 st_85 D ⟨_,rfl,?_⟩
 have ae:aa=0:=Oa
 obtain⟨hl,V⟩:=yU.ok Oa;rw [V,ae] at Z
 exact⟨_,_,XU O,0,rfl,.inr ⟨hl,O,Z,.inr ⟨rfl,rfl⟩⟩,dt,dr,D.pk [8,9]⟩
variable {i:Int} {f:Oe} {vA vD:Value}
theorem Zl1:Zc Oj 131=true:=Ob
theorem X0:Zc Oj 148=true:=Ob
theorem Zgb:Zc Oj 155=true:=Ob
theorem Zlp:Zc Oj 181=true:=Ob
theorem Ut:Zc Oj 28=true:=Ob
theorem XZ:Zc Oj 56=true:=Ob
theorem Zf1:Zc Oj 58=true:=Ob
theorem ZnB:Zc Oj 89=true:=Ob
theorem Zf0:Zc Oj 90=true:=Ob
theorem YQ:Zv Oj 103 0=some 0:=Ob
theorem YF:Zv Oj 103 1=some 1:=Ob
theorem fd_24_0:Zv Oj 24 0=some 0:=Ob
theorem fd_24_1:Zv Oj 24 1=some 1:=Ob
theorem fd_24_2:Zv Oj 24 2=some 2:=Ob
theorem fd_24_3:Zv Oj 24 3=some 3:=Ob
theorem fd_32_0:Zv Oj 32 0=some 0:=Ob
theorem fd_32_1:Zv Oj 32 1=some 1:=Ob
theorem fd_32_2:Zv Oj 32 2=some 2:=Ob
theorem fd_32_3:Zv Oj 32 3=some 3:=Ob
theorem ZF:ZJ Oj 46=some (103,2):=Ob
theorem ZE:ZC Oj 24=some 4:=Ob
theorem st_32:ZC Oj 32=some 4:=Ob
theorem Yn{vL:Value}{p:Prob}(w0:World)(h:PAt w0 vL vD p):
   Calls Oj 56 [.agg #[vL,vD,.int Oh p.b8,.int Oh p.bo]].toArray w0 fun e w=>∃v,e= .returned v/\v=B p.Ok/\Sat w0 w []:=by
 have hm:=h.L.cf.n0;have aa:=h.L.cf.n1;have hd:=h.D.cf.n0;have hs:=h.is;have D:=h.ik
 refine zenG Tryz.func56 Tryz.ntmps56 fun w F=> ?_
 refine zsr<|zla (xbx (cs:= [_,_,_,_]) F) ?_;rintro _ w ⟨g1,rfl,F⟩
 refine(zP)<|zx5<|(zV (xfb 0 fd_32_0))<|(zV (xlb 0 pl_22 F))<|(zV (xln Zb h.L.cf))<|(Om)<|zlb 9 ?_ ?_<;>intro hc;rotate_left
 refine(zV (xfb 0 fd_32_0))<|(zV (xlb 0 pl_22 F))<|(zV (xln Zb h.L.cf))<|(On)<|zlb 15 ?_ ?_<;>intro hc;rotate_left
 refine(zV (xfb 1 fd_32_1))<|(zV (xlb 0 pl_22 F))<|(zV (xln Zb h.D.cf))<|(zV (xfb 0 fd_32_0))<|(zV (xlb 0 pl_22 F))<|(zV (xln Zb h.L.cf))<|(On)<|zlb 24 ?_ ?_<;>intro hc;rotate_left
 refine(zV (xfb 2 fd_32_2))<|(zV (xlb 0 pl_3 F))<|(On)<|zlb 29 ?_ ?_<;>intro hc;rotate_left
 refine(zV (xfb 2 fd_32_2))<|(zV (xlb 0 pl_3 F))<|(On)<|zlb 34 ?_ ?_<;>intro hc;rotate_left
 refine(zV (xfb 3 fd_32_3))<|(zV (xlb 0 pl_3 F))<|(On)<|zlb 39 ?_ ?_<;>intro hc;rotate_left
 refine(zV (xfb 3 fd_32_3))<|(zV (xlb 0 pl_3 F))<|(Om)<|zlt<|Ze ?_ ?_<;>intro hc
 ·
  refine zsr<|(zP)<|zx14<|Oi ?_
  first
  |exact⟨false_B (by intro D;have h1:=D.m1;have X:=D.m2;have W:=D.d;have V:=D.s1;have U:=D.s2;have O:=D.k1;have J:=D.k2;omega),F.nl⟩
  |exact⟨false_B (by intro D;have:=D.all i Oa Oa;unfold Prob.each at this;omega),F.nl⟩
 refine YL<|(zV (xfb 0 fd_32_0))<|(zV (xlb 0 pl_22 F))<|(zV (xln Zb h.L.cf))<|(zP)<|zx6<|zlp (fun mm M w=>∃(i:Int),mm=((p.m-i).toNat)/\(0<=i)/\(i<=p.m)/\(∀k,0<=k->k<i->p.each k)/\M= [(1,Oq g1),(45,vL),(46,.int Oh p.m),(47,.int Oh i)]/\Sat w0 w [.blk g1 [vL,vD,.int Oh p.b8,.int Oh p.bo]]) ⟨0,rfl,Oa,Oa,?_,rfl,F⟩ ?_
 ·
  intro k h0 h1;omega
 clear F w
 rintro mm M w ⟨i,rfl,h0,h1,Y,rfl,F⟩
 refine zsr<|(zP)<|zx7<|Ze ?_ ?_<;>intro hc
 ·
  refine zx3<|(zP)<|(zV (xix (kk:=i) Zb h.L.cf))<|zlv (xlr (u:= .int Oh (p.L i)) pl_3 (h.L.below F.below)) ?_
  have G:=h.iL i
  refine(Om)<|zlz<|(On)<|zlb 54 ?_ ?_<;>intro hc;rotate_left
  refine(zP)<|(zV (xfb 2 fd_32_2))<|(zV (xlb 0 pl_3 F))<|(On)<|zlb 60 ?_ ?_<;>intro hc;rotate_left
  refine(On)<|zlb 63 ?_ ?_<;>intro hc
  ·
   refine(zP)<|(zV (xfb 0 fd_32_0))<|(zV (xlb 0 pl_22 F))<|(zP)<|(zV (Zw (r:=i-1)))<|(zV (xix (kk:=i-1) Zb h.L.cf))<|zlv (xlr (u:= .int Oh (p.L (i-1))) pl_3 (h.L.below F.below)) ?_
   have G:=h.iL (i-1)
   refine zs4 ?_
   refine zlb 74 ?_ ?_<;>intro hc;rotate_left
   refine(zV (xfb 1 fd_32_1))<|(zV (xlb 0 pl_22 F))<|(zP)<|(zV (xix (kk:=i) Zb h.D.cf))<|zlv (xlr (u:= .int Oh (p.D i)) pl_3 (h.D.below F.below)) ?_
   have G:=h.iD i
   refine(On)<|zlb 82 ?_ ?_<;>intro hc;rotate_left
   refine(zV (xfb 1 fd_32_1))<|(zV (xlb 0 pl_22 F))<|(zP)<|(zV (xix (kk:=i) Zb h.D.cf))<|zlv (xlr (u:= .int Oh (p.D i)) pl_3 (h.D.below F.below)) ?_
   have G:=h.iD i
   refine(Om)<|zlt<|Ze ?_ ?_<;>intro hc
   ·
    refine zsr<|(zP)<|zx2<|Oi ?_
    first
    |exact⟨false_B (by intro D;have h1:=D.m1;have X:=D.m2;have W:=D.d;have V:=D.s1;have U:=D.s2;have O:=D.k1;have J:=D.k2;omega),F.nl⟩
    |exact⟨false_B (by intro D;have:=D.all i Oa Oa;unfold Prob.each at this;omega),F.nl⟩
   refine zx4<|(zV (Zg (r:=i+1)))<|(zP)<|zln<|zlq ⟨i+1,rfl,Oa,Oa,?_,rfl,F⟩
   ·
    intro k I Z;rcases Int.lt_or_eq_of_le (show k<=i by omega) with D|D;exact Y k I D;rw [D];unfold Prob.each;omega
   all_goals
    refine zOps ?_
    refine zlt<|zct<|zsr ?_
    refine zOps ?_
    refine zx2<|Oi ?_
    first
    |exact⟨false_B (by intro D;have h1:=D.m1;have X:=D.m2;have W:=D.d;have V:=D.s1;have U:=D.s2;have O:=D.k1;have J:=D.k2;omega),F.nl⟩
    |exact⟨false_B (by intro D;have:=D.all i Oa Oa;unfold Prob.each at this;omega),F.nl⟩
  iterate 8 refine zlo ?_
  refine(On)<|(zV (xfb 1 fd_32_1))<|(zV (xlb 0 pl_22 F))<|(zP)<|(zV (xix (kk:=i) Zb h.D.cf))<|zlv (xlr (u:= .int Oh (p.D i)) pl_3 (h.D.below F.below)) ?_
  have G:=h.iD i
  refine(On)<|zlb 82 ?_ ?_<;>intro hc;rotate_left
  refine(zV (xfb 1 fd_32_1))<|(zV (xlb 0 pl_22 F))<|(zP)<|(zV (xix (kk:=i) Zb h.D.cf))<|zlv (xlr (u:= .int Oh (p.D i)) pl_3 (h.D.below F.below)) ?_
  have G:=h.iD i
  refine(Om)<|zlt<|Ze ?_ ?_<;>intro hc
  ·
   refine zsr<|(zP)<|zx2<|Oi ?_
   first
   |exact⟨false_B (by intro D;have h1:=D.m1;have X:=D.m2;have W:=D.d;have V:=D.s1;have U:=D.s2;have O:=D.k1;have J:=D.k2;omega),F.nl⟩
   |exact⟨false_B (by intro D;have:=D.all i Oa Oa;unfold Prob.each at this;omega),F.nl⟩
  refine zx4<|(zV (Zg (r:=i+1)))<|(zP)<|zln<|zlq ⟨i+1,rfl,Oa,Oa,?_,rfl,F⟩
  ·
   intro k I Z;rcases Int.lt_or_eq_of_le (show k<=i by omega) with D|D;exact Y k I D;rw [D];unfold Prob.each;omega
  all_goals
   refine zOps ?_
   refine zlt<|zct<|zsr ?_
   refine zOps ?_
   refine zx2<|Oi ?_
   first
   |exact⟨false_B (by intro D;have h1:=D.m1;have X:=D.m2;have W:=D.d;have V:=D.s1;have U:=D.s2;have O:=D.k1;have J:=D.k2;omega),F.nl⟩
   |exact⟨false_B (by intro D;have:=D.all i Oa Oa;unfold Prob.each at this;omega),F.nl⟩
 refine zx8<|(zP)<|zx1<|Oi ?_
 exact⟨ZT ⟨by omega,Oa,Oa,Oa,Oa,Oa,Oa,fun k h0 h1=>Y k h0 Oa⟩,F.nl⟩
 all_goals
  refine zOps ?_
  refine zlt<|zct<|zsr ?_
  refine zOps ?_
  refine zx14<|Oi ?_
  first
  |exact⟨false_B (by intro D;have h1:=D.m1;have X:=D.m2;have W:=D.d;have V:=D.s1;have U:=D.s2;have O:=D.k1;have J:=D.k2;omega),F.nl⟩
  |exact⟨false_B (by intro D;have:=D.all i Oa Oa;unfold Prob.each at this;omega),F.nl⟩
theorem YB{vL:Value}{p:Prob}(w0:World)(h:PAt w0 vL vD p):
   Calls Oj 28 [.agg #[vL,vD,.int Oh p.b8,.int Oh p.bo]].toArray w0 fun e w=>∃v,e= .returned v/\v=B p.Ok/\Sat w0 w []:=by
 have hm:=h.L.cf.n0;have aa:=h.L.cf.n1;have hd:=h.D.cf.n0;have hs:=h.is;have D:=h.ik
 refine zenG Tryz.func28 Tryz.ntmps28 fun w F=> ?_
 refine zsr<|zla (xbx (cs:= [_,_,_,_]) F) ?_;rintro _ w ⟨g1,rfl,F⟩
 refine(zP)<|zlz<|(zV (xfb 0 fd_24_0))<|(zV (xlb 0 pl_22 F))<|(zV (xln Zb h.L.cf))<|(zP)<|zx5<|(On)<|zlb 10 ?_ ?_<;>intro hc;rotate_left
 refine zs4 ?_
 refine zlb 14 ?_ ?_<;>intro hc;rotate_left
 refine(zV (xfb 1 fd_24_1))<|(zV (xlb 0 pl_22 F))<|(zV (xln Zb h.D.cf))<|zs4 ?_
 refine zlb 21 ?_ ?_<;>intro hc;rotate_left
 refine(zV (xfb 2 fd_24_2))<|(zV (xlb 0 pl_3 F))<|(On)<|zlb 26 ?_ ?_<;>intro hc;rotate_left
 refine(zV (xfb 2 fd_24_2))<|(zV (xlb 0 pl_3 F))<|(On)<|zlb 31 ?_ ?_<;>intro hc;rotate_left
 refine(zV (xfb 3 fd_24_3))<|(zV (xlb 0 pl_3 F))<|(On)<|zlb 36 ?_ ?_<;>intro hc;rotate_left
 refine(zV (xfb 3 fd_24_3))<|(zV (xlb 0 pl_3 F))<|(Om)<|zlt<|Ze ?_ ?_<;>intro hc
 ·
  refine zsr<|(zP)<|zx14<|Oi ?_
  first
  |exact⟨false_B (by intro D;have h1:=D.m1;have W:=D.m2;have V:=D.d;have U:=D.s1;have O:=D.s2;have J:=D.k1;have I:=D.k2;omega),F.nl⟩
  |exact⟨false_B (by intro D;have:=D.all i Oa Oa;unfold Prob.each at this;omega),F.nl⟩
 refine YL<|(zP)<|zx6<|zlp (fun mm M w=>∃(i:Int),mm=((p.m-i).toNat)/\(0<=i)/\(i<=p.m)/\(∀k,0<=k->k<i->p.each k)/\M= [(1,Oq g1),(3,.int Oh p.m),(4,.int Oh i)]/\Sat w0 w [.blk g1 [vL,vD,.int Oh p.b8,.int Oh p.bo]]) ⟨0,rfl,Oa,Oa,?_,rfl,F⟩ ?_
 ·
  intro k h0 h1;omega
 clear F w
 rintro mm M w ⟨i,rfl,h0,h1,Y,rfl,F⟩
 refine zx11<|(On)<|zlt<|Ze ?_ ?_<;>intro hc
 ·
  refine zx27<|zdst [0] [0] 1000 mx_ F ?_;clear F;intro w F
  refine(zDw 0 (xfb 0 fd_24_0))<|(zDl 1 (fun w F=>(xlb 0 pl_22 F)))<|(zDw 2 xmv)<|(zDw 3 (xix (kk:=i) Zb h.L.cf))<|zdla 4 (fun w F=>(xlr (u:= .int Oh (p.L i)) pl_3 (h.L.below F.below))) ?_
  have G:=h.iL i
  refine(zDw 5 Z7)<|(zDw 6 xmv)<|zdb 52 ?_ ?_<;>intro hc
  ·
   refine(zDo 7)<|(zDo 8)<|(zDo 9)<|(zDo 10)<|(zDo 11)<|(zDo 12)<|(zDo 13)<|(zDo 14)<|(zDw 15 xpt)<|(zDw 16 xmv)<|(zDo 17)<|(zDo 18)<|(zDo 19)<|(zDo 20)<|U8 21 ?_
   refine(zDo 22)<|(zDo 23)<|(zDo 24)<|(zDo 25)<|(zDo 26)<|(zDo 27)<|(zDo 28)<|(zDo 29)<|(zDo 30)<|(zDo 31)<|(zDo 32)<|(zDw 33 xpt)<|(zDw 34 xmv)<|(zDo 35)<|U8 36 ?_
   refine(zDo 37)<|(zDo 38)<|(zDo 39)<|(zDo 40)<|(zDw 41 xpt)<|(zDw 42 xmv)<|(zDo 43)<|(zDo 44)<|(zDo 45)<|(zDo 46)<|(zDo 47)<|(zDo 48)<|(zDw 49 xpt)<|zdd<|ztn<|zct<|zsr ?_
   refine(zP)<|zx2<|Oi ?_
   first
   |exact⟨false_B (by intro D;have h1:=D.m1;have W:=D.m2;have V:=D.d;have U:=D.s1;have O:=D.s2;have J:=D.k1;have I:=D.k2;omega),F.nl⟩
   |exact⟨false_B (by intro D;have:=D.all i Oa Oa;unfold Prob.each at this;omega),F.nl⟩
  refine(zDw 7 (xfb 0 fd_24_0))<|(zDl 8 (fun w F=>(xlb 0 pl_22 F)))<|(zDw 9 xmv)<|(zDw 10 (xix (kk:=i) Zb h.L.cf))<|zdla 11 (fun w F=>(xlr (u:= .int Oh (p.L i)) pl_3 (h.L.below F.below))) ?_
  have G:=h.iL i
  refine(zDw 12 (xfb 2 fd_24_2))<|(zDl 13 (fun w F=>(xlb 0 pl_3 F)))<|(zDw 14 Yu)<|(zDw 15 xpf)<|(zDw 16 xmv)<|zdb 62 ?_ ?_<;>intro hc
  ·
   refine(zDo 17)<|(zDo 18)<|(zDo 19)<|(zDo 20)<|(zDo 21)<|(zDo 22)<|(zDo 23)<|(zDo 24)<|(zDo 25)<|(zDo 26)<|(zDo 27)<|(zDo 28)<|(zDo 29)<|(zDo 30)<|U8 31 ?_
   refine(zDo 32)<|(zDw 33 xpt)<|(zDw 34 xmv)<|(zDo 35)<|(zDo 36)<|(zDo 37)<|(zDo 38)<|(zDo 39)<|(zDo 40)<|(zDw 41 xpt)<|(zDw 42 xmv)<|(zDo 43)<|(zDo 44)<|(zDo 45)<|U8 46 ?_
   refine(zDo 47)<|(zDo 48)<|(zDw 49 xpt)<|zdd<|ztn<|zct<|zsr ?_
   refine(zP)<|zx2<|Oi ?_
   first
   |exact⟨false_B (by intro D;have h1:=D.m1;have W:=D.m2;have V:=D.d;have U:=D.s1;have O:=D.s2;have J:=D.k1;have I:=D.k2;omega),F.nl⟩
   |exact⟨false_B (by intro D;have:=D.all i Oa Oa;unfold Prob.each at this;omega),F.nl⟩
  refine(zDw 17 xmv)<|(zDw 18 Yu)<|(zDw 19 xmv)<|zdb 65 ?_ ?_<;>intro hc
  ·
   refine(zDw 20 (xfb 0 fd_24_0))<|(zDl 21 (fun w F=>(xlb 0 pl_22 F)))<|(zDw 22 xmv)<|(zDw 23 (xix (kk:=i) Zb h.L.cf))<|zdla 24 (fun w F=>(xlr (u:= .int Oh (p.L i)) pl_3 (h.L.below F.below))) ?_
   have G:=h.iL i
   refine(zDw 25 (xfb 0 fd_24_0))<|(zDl 26 (fun w F=>(xlb 0 pl_22 F)))<|(zDw 27 xmv)<|(zDw 28 (Zw (r:=i-1)))<|(zDw 29 (xix (kk:=i-1) Zb h.L.cf))<|zdla 30 (fun w F=>(xlr (u:= .int Oh (p.L (i-1))) pl_3 (h.L.below F.below))) ?_
   have G:=h.iL (i-1)
   refine(zDw 31 Xw)<|(zDw 32 xpt)<|(zDw 33 xpf)<|(zDw 34 xmv)<|zdb 80 ?_ ?_<;>intro hc
   ·
    refine(zDo 35)<|(zDo 36)<|(zDo 37)<|(zDo 38)<|(zDo 39)<|(zDo 40)<|(zDw 41 xpt)<|(zDw 42 xmv)<|(zDo 43)<|(zDo 44)<|(zDo 45)<|(zDo 46)<|(zDo 47)<|(zDo 48)<|zDrv 49 xpt ?_
    refine zdd<|ztn<|zct<|zsr ?_
    refine(zP)<|zx2<|Oi ?_
    first
    |exact⟨false_B (by intro D;have h1:=D.m1;have W:=D.m2;have V:=D.d;have U:=D.s1;have O:=D.s2;have J:=D.k1;have I:=D.k2;omega),F.nl⟩
    |exact⟨false_B (by intro D;have:=D.all i Oa Oa;unfold Prob.each at this;omega),F.nl⟩
   refine(zDw 35 (xfb 1 fd_24_1))<|(zDl 36 (fun w F=>(xlb 0 pl_22 F)))<|(zDw 37 xmv)<|(zDw 38 (xix (kk:=i) Zb h.D.cf))<|zdla 39 (fun w F=>(xlr (u:= .int Oh (p.D i)) pl_3 (h.D.below F.below))) ?_
   have G:=h.iD i
   refine(zDw 40 Z7)<|(zDw 41 xpf)<|(zDw 42 xmv)<|zdb 88 ?_ ?_<;>intro hc
   ·
    refine(zDo 43)<|(zDo 44)<|(zDo 45)<|(zDo 46)<|(zDo 47)<|(zDo 48)<|(zDw 49 xpt)<|zdd<|ztn<|zct<|zsr ?_
    refine(zP)<|zx2<|Oi ?_
    first
    |exact⟨false_B (by intro D;have h1:=D.m1;have W:=D.m2;have V:=D.d;have U:=D.s1;have O:=D.s2;have J:=D.k1;have I:=D.k2;omega),F.nl⟩
    |exact⟨false_B (by intro D;have:=D.all i Oa Oa;unfold Prob.each at this;omega),F.nl⟩
   refine(zDw 43 (xfb 1 fd_24_1))<|(zDl 44 (fun w F=>(xlb 0 pl_22 F)))<|(zDw 45 xmv)<|(zDw 46 (xix (kk:=i) Zb h.D.cf))<|zdla 47 (fun w F=>(xlr (u:= .int Oh (p.D i)) pl_3 (h.D.below F.below))) ?_
   have G:=h.iD i
   refine(zDw 48 Yu)<|(zDw 49 xpf)<|zdd<|ztn ?_
   refine Ze ?_ ?_<;>intro hc
   ·
    refine zsr<|(zP)<|zx2<|Oi ?_
    first
    |exact⟨false_B (by intro D;have h1:=D.m1;have W:=D.m2;have V:=D.d;have U:=D.s1;have O:=D.s2;have J:=D.k1;have I:=D.k2;omega),F.nl⟩
    |exact⟨false_B (by intro D;have:=D.all i Oa Oa;unfold Prob.each at this;omega),F.nl⟩
   refine zx4<|(zP)<|(zV (Zg (r:=i+1)))<|(zP)<|zln<|zlq ⟨i+1,rfl,Oa,Oa,?_,rfl,F⟩
   ·
    intro k X Z;rcases Int.lt_or_eq_of_le (show k<=i by omega) with D|D;exact Y k X D;rw [D];unfold Prob.each;omega
  refine(zDo 20)<|(zDo 21)<|(zDo 22)<|(zDo 23)<|(zDo 24)<|(zDo 25)<|(zDo 26)<|(zDo 27)<|(zDo 28)<|(zDo 29)<|(zDo 30)<|(zDo 31)<|(zDw 32 xpf)<|(zDw 33 xpf)<|zDrv 34 xmv ?_
  refine(zDw 35 (xfb 1 fd_24_1))<|(zDl 36 (fun w F=>(xlb 0 pl_22 F)))<|(zDw 37 xmv)<|(zDw 38 (xix (kk:=i) Zb h.D.cf))<|zdla 39 (fun w F=>(xlr (u:= .int Oh (p.D i)) pl_3 (h.D.below F.below))) ?_
  have G:=h.iD i
  refine(zDw 40 Z7)<|(zDw 41 xpf)<|(zDw 42 xmv)<|zdb 88 ?_ ?_<;>intro hc
  ·
   refine(zDo 43)<|(zDo 44)<|(zDo 45)<|(zDo 46)<|(zDo 47)<|(zDo 48)<|(zDw 49 xpt)<|zdd<|ztn<|zct<|zsr ?_
   refine(zP)<|zx2<|Oi ?_
   first
   |exact⟨false_B (by intro D;have h1:=D.m1;have W:=D.m2;have V:=D.d;have U:=D.s1;have O:=D.s2;have J:=D.k1;have I:=D.k2;omega),F.nl⟩
   |exact⟨false_B (by intro D;have:=D.all i Oa Oa;unfold Prob.each at this;omega),F.nl⟩
  refine(zDw 43 (xfb 1 fd_24_1))<|(zDl 44 (fun w F=>(xlb 0 pl_22 F)))<|(zDw 45 xmv)<|(zDw 46 (xix (kk:=i) Zb h.D.cf))<|zdla 47 (fun w F=>(xlr (u:= .int Oh (p.D i)) pl_3 (h.D.below F.below))) ?_
  have G:=h.iD i
  refine(zDw 48 Yu)<|(zDw 49 xpf)<|zdd<|ztn ?_
  refine Ze ?_ ?_<;>intro hc
  ·
   refine zsr<|(zP)<|zx2<|Oi ?_
   first
   |exact⟨false_B (by intro D;have h1:=D.m1;have W:=D.m2;have V:=D.d;have U:=D.s1;have O:=D.s2;have J:=D.k1;have I:=D.k2;omega),F.nl⟩
   |exact⟨false_B (by intro D;have:=D.all i Oa Oa;unfold Prob.each at this;omega),F.nl⟩
  refine zx4<|(zP)<|(zV (Zg (r:=i+1)))<|(zP)<|zln<|zlq ⟨i+1,rfl,Oa,Oa,?_,rfl,F⟩
  ·
   intro k X Z;rcases Int.lt_or_eq_of_le (show k<=i by omega) with D|D;exact Y k X D;rw [D];unfold Prob.each;omega
 refine zx8<|(zP)<|zx1<|Oi ?_
 exact⟨ZT ⟨by omega,Oa,Oa,Oa,Oa,Oa,Oa,fun k h0 h1=>Y k h0 Oa⟩,F.nl⟩
 all_goals
  refine zOps ?_
  refine zlt<|zct<|zsr ?_
  refine zOps ?_
  refine zx14<|Oi ?_
  first
  |exact⟨false_B (by intro D;have h1:=D.m1;have W:=D.m2;have V:=D.d;have U:=D.s1;have O:=D.s2;have J:=D.k1;have I:=D.k2;omega),F.nl⟩
  |exact⟨false_B (by intro D;have:=D.all i Oa Oa;unfold Prob.each at this;omega),F.nl⟩
theorem Zi3{vL:Value}{p:Prob}(w0:World)(h:PAt w0 vL vD p):
   Calls Oj 12 [.agg #[vL,vD,.int Oh p.b8,.int Oh p.bo]].toArray w0 fun e w=>∃v,e= .returned v/\v=B (Zop p)/\Sat w0 w []:=by
 obtain⟨hm,ac,hd,hd1,hs,I⟩:=h.Oo
 refine zenG Tryz.func12 Tryz.ntmps12 fun w D=> ?_
 refine zsr<|zla (xbx (cs:= [_,_,_,_]) D) ?_;rintro _ w ⟨g1,rfl,D⟩
 refine(zP)<|zx5<|(zV (xfb 0 fd_24_0))<|(zV (xlb 0 pl_22 D))<|(zV (xln Zb h.L.cf))<|(Om)<|zlb 8 ?_ ?_<;>intro hc
 ·
  iterate 4 refine zlo ?_
  refine(zP)<|zlt<|zct<|zsr ?_
  refine(zP)<|zx14<|Oi ?_
  exact⟨false_B (by rintro⟨U,O,F⟩;first|omega|(have G:=(F (Oc ‹¬¬(p.Ok)›)).1 i Oa Oa;omega)|(have G:=(F (Oc ‹¬¬(p.Ok)›)).2;omega)),D.nl⟩
 refine(zV (xfb 1 fd_24_1))<|(zV (xlb 0 pl_22 D))<|(zV (xln Zb h.D.cf))<|(Om)<|zlt<|Ze ?_ ?_<;>intro hc
 ·
  refine zsr<|(zP)<|zx14<|Oi ?_
  exact⟨false_B (by rintro⟨U,O,F⟩;first|omega|(have G:=(F (Oc ‹¬¬(p.Ok)›)).1 i Oa Oa;omega)|(have G:=(F (Oc ‹¬¬(p.Ok)›)).2;omega)),D.nl⟩
 refine YL<|(zV (xls 0 ZE D))<|zlc (xc0 Ut) (YB (p:=p) w (h.below D.below)) ?_;rintro _ w ⟨rfl,J⟩
 replace D:=D.cmp J;clear J
 refine(zP)<|zlt<|Ze ?_ ?_<;>intro hc
 ·
  refine zsr<|(zP)<|zx14<|Oi ?_
  exact⟨ZT (by first|exact⟨by omega,Oa,fun I=>absurd I ‹¬p.Ok›⟩),D.nl⟩
 refine YL<|(zP)<|zx6<|zlp (fun Z M w=>∃(i:Int),Z=((p.d-i).toNat)/\(0<=i)/\(i<=p.d)/\(∀k,0<=k->k<i->p.D k<=30)/\M= [(1,Oq g1),(3,.int Oh i)]/\Sat w0 w [.blk g1 [vL,vD,.int Oh p.b8,.int Oh p.bo]]) ⟨0,rfl,Oa,Oa,?_,rfl,D⟩ ?_
 ·
  intro k h0 h1;omega
 clear D w
 rintro Z M w ⟨i,rfl,h0,h1,Y,rfl,D⟩
 refine zx11<|(zP)<|(zV (xfb 1 fd_24_1))<|(zV (xlb 0 pl_22 D))<|(zV (xln Zb h.D.cf))<|(zP)<|zlt<|Ze ?_ ?_<;>intro hc
 ·
  refine zx3<|(zV (xfb 1 fd_24_1))<|(zV (xlb 0 pl_22 D))<|(zP)<|(zV (xix (kk:=i) Zb h.D.cf))<|zlv (xlr (u:= .int Oh (p.D i)) pl_3 (h.D.below D.below)) ?_
  have W:=h.iD i
  refine(zP)<|zlt<|Ze ?_ ?_<;>intro hc
  ·
   refine zsr<|(zP)<|zx2<|Oi ?_
   exact⟨false_B (by rintro⟨U,O,F⟩;first|omega|(have G:=(F (Oc ‹¬¬(p.Ok)›)).1 i Oa Oa;omega)|(have G:=(F (Oc ‹¬¬(p.Ok)›)).2;omega)),D.nl⟩
  refine zx4<|(zP)<|(zV (Zg (r:=i+1)))<|(zP)<|zln<|zlq ⟨i+1,rfl,Oa,Oa,?_,rfl,D⟩
  ·
   intro k X ad;rcases Int.lt_or_eq_of_le (show k<=i by omega) with I|I;exact Y k X I;rw [I];omega
 refine zxt<|ztx<|ztx<|zbh<|ztn<|zsq<|zdst [0] [0] 1000 mx_ D ?_;clear D;intro w D
 refine zDrv 0 (xfb 0 fd_24_0) ?_
 have V:=(Oc ‹¬¬(p.Ok)›);have ab:=V.m1;have hL:=(V.all (p.m-1) Oa Oa);unfold Prob.each at hL;have aa:=V.s2
 refine(zDl 1 (fun w D=>(xlb 0 pl_22 D)))<|(zDw 2 (xln Zb h.L.cf))<|(zDw 3 Xv)<|(zDw 4 xmv)<|zdb 34 ?_ ?_<;>intro hc
 ·
  refine(zDw 5 (xfb 2 fd_24_2))<|(zDl 6 (fun w D=>(xlb 0 pl_3 D)))<|(zDw 7 (xfb 0 fd_24_0))<|(zDl 8 (fun w D=>(xlb 0 pl_22 D)))<|(zDw 9 (xfb 0 fd_24_0))<|(zDl 10 (fun w D=>(xlb 0 pl_22 D)))<|(zDw 11 (xln Zb h.L.cf))<|(zDw 12 (Zw (r:=p.m-1)))<|(zDw 13 (xix (kk:=p.m-1) Zb h.L.cf))<|zdla 14 (fun w D=>(xlr (u:= .int Oh (p.L (p.m-1))) pl_3 (h.L.below D.below))) ?_
  have W:=h.iL (p.m-1)
  refine(zDw 15 (Z2 (r:=12*p.L (p.m-1))))<|(zDw 16 Xv)<|(zDw 17 xpt)<|(zDw 18 xas)<|zdd<|ztn<|zrt<|Oi ?_
  exact⟨Zn (by constructor;exact fun G=>⟨by omega,Oa,fun _=>⟨fun k h6 h7=>Y k h6 Oa,Oa,Oa⟩⟩;rintro⟨U,O,F⟩;have G:=(F (Oc ‹¬¬(p.Ok)›)).2.2;omega),D.nl⟩
 refine(zDo 5)<|(zDo 6)<|(zDo 7)<|(zDo 8)<|(zDo 9)<|(zDo 10)<|(zDo 11)<|(zDo 12)<|(zDo 13)<|(zDo 14)<|(zDo 15)<|(zDo 16)<|(zDw 17 xpf)<|(zDw 18 xas)<|zdd<|ztn<|zrt<|Oi ?_
 exact⟨false_B (by rintro⟨U,O,F⟩;first|omega|(have G:=(F (Oc ‹¬¬(p.Ok)›)).1 i Oa Oa;omega)|(have G:=(F (Oc ‹¬¬(p.Ok)›)).2;omega)),D.nl⟩
theorem Zmg{vL:Value}{p:Prob}{n:Int}(w0:World)(h:PAt w0 vL vD p)(F:p.Ok)(V:Row w0 vA 1 n (ints f))(hn:n=p.m)(I:∀i,0<=i->i<p.m->0<=f i/\f i<=2000):
   Calls Oj 131 [.agg #[vL,vD,.int Oh p.b8,.int Oh p.bo],vA].toArray w0 fun e w=>∃v,e= .returned v/\v= .int Oh (ZI p f p.m.toNat)/\Sat w0 w []:=by
 subst hn;have hm:=F.m1;have Y:=F.m2
 refine zenG Tryz.func131 Tryz.ntmps131 fun w D=> ?_
 refine zsr<|zla (xbx (cs:= [_,_,_,_]) D) ?_;rintro _ w ⟨W,rfl,D⟩
 refine(zP)<|zlz<|(zP)<|zx5<|(zP)<|zx6<|zlp (fun O M w=>∃(s:Int) (i:Int),O=((p.m-i).toNat)/\(0<=i)/\(i<=p.m)/\(s=ZI p f i.toNat)/\M= [(1,vA),(2,Oq W),(4,.int Oh 0),(5,.int Oh s),(6,.int Oh i)]/\Sat w0 w [.blk W [vL,vD,.int Oh p.b8,.int Oh p.bo]]) ⟨0,0,rfl,Oa,Oa,?_,rfl,D⟩ ?_
 ·
  rfl
 clear D w
 rintro O M w ⟨s,i,rfl,J,h1,U,rfl,D⟩
 refine zx11<|(zP)<|(zV (xfb 0 fd_24_0))<|(zV (xlb 0 pl_22 D))<|(zV (xln Zb h.L.cf))<|(zP)<|zlt<|Ze ?_ ?_<;>intro hc
 ·
  refine zx38<|zdst [0] [0] 1000 mx_ D ?_;clear D;intro w D
  refine zDrv 0 xmv ?_
  have he:=F.all i Oa Oa;unfold Prob.each at he;have G:=I i Oa Oa;have aa:=F.k1;have Z:=F.k2;have X:=F.s2;have ht:=Rs F J (by omega:i<p.m) G;have hb:=Tv F I J (by omega:i<=p.m);have ac:=Tv F I (by omega:0<=i+1) (by omega:i+1<=p.m)
  refine(zDw 1 xmv)<|(zDw 2 xmv)<|(zDw 3 (xix (kk:=i) Zb V.cf))<|(zDl 4 (fun w D=>(xlr (u:= .int Oh (f i)) pl_3 (V.below D.below))))<|(zDw 5 (xfb 0 fd_24_0))<|(zDl 6 (fun w D=>(xlb 0 pl_22 D)))<|(zDw 7 xmv)<|(zDw 8 (xix (kk:=i) Zb h.L.cf))<|zdla 9 (fun w D=>(xlr (u:= .int Oh (p.L i)) pl_3 (h.L.below D.below))) ?_
  have ab:=h.iL i
  refine(zDw 10 (xfb 3 fd_24_3))<|(zDl 11 (fun w D=>(xlb 0 pl_3 D)))<|(zDw 12 (Zg (r:=p.L i+p.bo)))<|zDrv 13 (Z2 (r:=((f i)*(p.L i+p.bo))) (e:=rfl) (hr:=(by unfold I64;omega))) ?_
  refine zDrv 14 (Zg (r:=s+((f i)*(p.L i+p.bo))) (hr:=(by unfold I64;omega))) ?_
  refine(zDw 15 xas)<|zdd<|zbn<|ztn<|zrg ?_
  refine(zP)<|(zV (Zg (r:=i+1)))<|(zP)<|zln<|zlq ⟨s+((f i)*(p.L i+p.bo)),i+1,rfl,Oa,Oa,?_,rfl,D⟩
  ·
   rw [U];exact(ZH _ J).symm
 refine zx8<|(Om)<|zx1<|Oi ?_
 obtain rfl:i=p.m:=Oa
 exact⟨congrArg (Value.int .i64) U,D.nl⟩
theorem ZcI{vL:Value}{p:Prob}{n:Int}(w0:World)(h:PAt w0 vL vD p)(I:Row w0 vA 1 n (ints f)):
   Calls Oj 90 [.agg #[vL,vD,.int Oh p.b8,.int Oh p.bo],vA].toArray w0 fun e w=>∃v,e= .returned v/\v=B (FitsP p n f)/\Sat w0 w []:=by
 have hm:=h.L.cf.n0;have ad:=h.L.cf.n1;have hd:=h.D.cf.n0;have hs:=h.is;have F:=h.ik;have hn:=I.cf.n0;have ac:=I.cf.n1
 refine zenG Tryz.func90 Tryz.ntmps90 fun w D=> ?_
 refine zsr<|zla (xbx (cs:= [_,_,_,_]) D) ?_;rintro _ w ⟨X,rfl,D⟩
 refine(zP)<|zx5<|(zV (xls 0 ZE D))<|zlc (xc0 Ut) (YB (p:=p) w (h.below D.below)) ?_;rintro _ w ⟨rfl,G⟩
 replace D:=D.cmp G;clear G
 refine(Om)<|zlb 9 ?_ ?_<;>intro hc
 ·
  iterate 6 refine zlo ?_
  refine(zP)<|zlt<|zct<|zsr ?_
  refine(zP)<|zx14<|Oi ?_
  first
  |exact⟨false_B (by intro F;exact absurd F.ok ‹¬p.Ok›),D.nl⟩
  |exact⟨false_B (by intro F;have:=F.eq;omega),D.nl⟩
  |exact⟨false_B (by intro F;have:=F.all i Oa (by have:=F.eq;omega);omega),D.nl⟩
 refine(zP)<|(zV (xln Zb I.cf))<|(zV (xfb 0 fd_24_0))<|(zV (xlb 0 pl_22 D))<|(zV (xln Zb h.L.cf))<|(Om)<|zlt<|Ze ?_ ?_<;>intro hc
 ·
  refine zsr<|(zP)<|zx14<|Oi ?_
  first
  |exact⟨false_B (by intro F;exact absurd F.ok ‹¬p.Ok›),D.nl⟩
  |exact⟨false_B (by intro F;have:=F.eq;omega),D.nl⟩
  |exact⟨false_B (by intro F;have:=F.all i Oa (by have:=F.eq;omega);omega),D.nl⟩
 refine YL<|(zP)<|zx6<|zlp (fun W M w=>∃(i:Int),W=((n-i).toNat)/\(0<=i)/\(i<=n)/\(∀k,0<=k->k<i->0<=f k/\f k<=2000)/\M= [(1,vA),(2,Oq X),(5,.int Oh i)]/\Sat w0 w [.blk X [vL,vD,.int Oh p.b8,.int Oh p.bo]]) ⟨0,rfl,Oa,Oa,?_,rfl,D⟩ ?_
 ·
  intro k h0 h1;omega
 clear D w
 rintro W M w ⟨i,rfl,h0,h1,O,rfl,D⟩
 refine zx11<|(Om)<|(zV (xln Zb I.cf))<|(zP)<|zlt<|Ze ?_ ?_<;>intro hc
 ·
  refine zx3<|(Om)<|(zV (xix (kk:=i) Zb I.cf))<|(zV (xlr (u:= .int Oh (f i)) pl_3 (I.below D.below)))<|(Om)<|zlb 28 ?_ ?_<;>intro hc
  ·
   iterate 5 refine zlo ?_
   refine(zP)<|zlt<|zct<|zsr ?_
   refine(zP)<|zx2<|Oi ?_
   first
   |exact⟨false_B (by intro F;exact absurd F.ok ‹¬p.Ok›),D.nl⟩
   |exact⟨false_B (by intro F;have:=F.eq;omega),D.nl⟩
   |exact⟨false_B (by intro F;have:=F.all i Oa (by have:=F.eq;omega);omega),D.nl⟩
  refine(Om)<|(zV (xix (kk:=i) Zb I.cf))<|(zV (xlr (u:= .int Oh (f i)) pl_3 (I.below D.below)))<|(Om)<|zlt<|Ze ?_ ?_<;>intro hc
  ·
   refine zsr<|(zP)<|zx2<|Oi ?_
   first
   |exact⟨false_B (by intro F;exact absurd F.ok ‹¬p.Ok›),D.nl⟩
   |exact⟨false_B (by intro F;have:=F.eq;omega),D.nl⟩
   |exact⟨false_B (by intro F;have:=F.all i Oa (by have:=F.eq;omega);omega),D.nl⟩
  refine zx4<|(zP)<|(zV (Zg (r:=i+1)))<|(zP)<|zln<|zlq ⟨i+1,rfl,Oa,Oa,?_,rfl,D⟩
  ·
   intro k V ag;rcases Int.lt_or_eq_of_le (show k<=i by omega) with F|F;exact O k V F;rw [F];omega
 refine zxt<|ztx<|ztx<|zbh<|ztn<|zsq<|zdst [0] [0] 1000 mx_ D ?_;clear D;intro w D
 refine zdla 0 (fun w D=>(xls 0 ZE D)) ?_
 have J:=(Oc ‹¬¬(p.Ok)›);have ab:=J.s1;have aa:=J.s2;have af:=J.k1;have ae:=J.k2
 refine(zDw 1 xmv)<|(zDw 3 (xfb 2 fd_24_2))<|(zDl 4 (fun w D=>(xlb 0 pl_3 D)))<|(zDw 5 (xfb 3 fd_24_3))<|(zDl 6 (fun w D=>(xlb 0 pl_3 D)))<|(zDw 7 (Zg (r:=p.b8+p.bo)))<|zdc 2 (xc0 Zl1) (Zmg (p:=p) w (h.below D.below) (Oc ‹¬¬(p.Ok)›) (I.below D.below) Oa (fun k U Y=>O k U Oa)) ?_;rintro _ w ⟨rfl,G⟩
 replace D:=D.cmp G;clear G
 refine⟨⟨fun _=>D,D⟩,?_⟩
 refine(zDw 8 Xv)<|(zDw 9 xas)<|zdd<|ztn<|zrt<|Oi ?_
 exact⟨Zn ⟨fun Z=>⟨(Oc ‹¬¬(p.Ok)›),Oa,fun k U Y=>O k U Oa,Z⟩,fun F=>F.used⟩,D.nl⟩
def ZU(p:Prob)(n:Int)(f:Oe):Prop:=FitsP p n f/\∀k,0<=k->k<n->f k<=p.D k
theorem Xi {p:Prob} {n:Int} (hf:FitsP p n f) (J:0<=i) (X:i<n):0<=f i/\f i<=(p.b8+p.bo-ZI p f i.toNat).tdiv (p.L i+p.bo):=by
 have F:=hf.ok
 have hn:=hf.eq
 have W:=F.all i J Oa
 unfold Prob.each at W
 have Z:=F.k1
 have Y:∀j:Nat,i.toNat+j<=n.toNat->ZI p f i.toNat<=ZI p f (i.toNat+j):=fun j=>by
   induction j with
   |zero=>intro _;exact Int.le_refl _
   | succ j ih=>
     intro V
     have h1:=ih Oa
     have I:=hf.all ((i.toNat+j:Nat):Int) Oa Oa
     have D:=F.all ((i.toNat+j:Nat):Int) Oa Oa
     unfold Prob.each at D
     have G:=Int.mul_nonneg I.1 (show 0<=p.L ((i.toNat+j:Nat):Int)+p.bo by omega)
     have O:=ZH (fun i=>f i*(p.L i+p.bo)) (i:=((i.toNat+j:Nat):Int)) Oa
     have e:ZI p f (i.toNat+(j+1))=ZI p f (i.toNat+j)+f ((i.toNat+j:Nat):Int)*(p.L ((i.toNat+j:Nat):Int)+p.bo):=by
       unfold ZI
       rw [show i.toNat+(j+1)=(((i.toNat+j:Nat):Int)+1).toNat by omega,O];rfl
     rw [e];omega
 have h1:ZI p f (i+1).toNat=ZI p f i.toNat+f i*(p.L i+p.bo):=ZH _ J
 have I :ZI p f (i+1).toNat<=ZI p f n.toNat:=by
   have D:∀j:Nat,(i+1).toNat+j<=n.toNat->ZI p f (i+1).toNat<=ZI p f ((i+1).toNat+j):=fun j=>by
     induction j with
     |zero=>intro _;exact Int.le_refl _
     | succ j ih=>
       intro V
       have h1:=ih Oa
       have I:=hf.all (((i+1).toNat+j:Nat):Int) Oa Oa
       have D:=F.all (((i+1).toNat+j:Nat):Int) Oa Oa
       unfold Prob.each at D
       have G:=Int.mul_nonneg I.1 (show 0<=p.L (((i+1).toNat+j:Nat):Int)+p.bo by omega)
       have O:=ZH (fun i=>f i*(p.L i+p.bo)) (i:=(((i+1).toNat+j:Nat):Int)) Oa
       have e:ZI p f ((i+1).toNat+(j+1))=ZI p f ((i+1).toNat+j)+f (((i+1).toNat+j:Nat):Int)*(p.L (((i+1).toNat+j:Nat):Int)+p.bo):=by
         unfold ZI
         rw [show(i+1).toNat+(j+1)=((((i+1).toNat+j:Nat):Int)+1).toNat by omega,O];rfl
       rw [e];omega
   have G:=D (n.toNat-(i+1).toNat) Oa
   rwa [show(i+1).toNat+(n.toNat-(i+1).toNat)=n.toNat by omega] at G
 have D:=hf.used
 rw [<-hn] at D
 have U:=(hf.all i J Oa).1
 have G:=Int.mul_nonneg U (show 0<=p.L i+p.bo by omega)
 refine⟨U,?_⟩
 rw [Int.tdiv_eq_ediv_of_nonneg Oa]
 exact(Int.le_ediv_iff_mul_le Oa).2 Oa
theorem Zeb{p:Prob}(D:p.Ok){l x:Int}(O:0<=i)(J:i<p.m)(I:0<=l)(l1:l<=p.b8+p.bo)(G:0<=x)(F:x<=l.tdiv (p.L i+p.bo)):0<=x*(p.L i+p.bo)/\x*(p.L i+p.bo)<=l/\x<=2000:=by
 have V:=D.all i O J
 unfold Prob.each at V
 have U:=D.k1;have X:=D.s2
 rw [Int.tdiv_eq_ediv_of_nonneg I] at F
 have h1:=(Int.le_ediv_iff_mul_le (show 0<p.L i+p.bo by omega)).1 F
 have W:=Int.mul_nonneg G (show 0<=p.L i+p.bo by omega)
 refine⟨W,h1,?_⟩
 by_cases hx:x<=2000
 · exact hx
 · exfalso
   have h3:=Int.mul_le_mul_of_nonneg_left (show 1+p.bo<=p.L i+p.bo by omega) G
   have Z:=Int.mul_le_mul_of_nonneg_right (show 1<=x by omega) U
   have Y:x*(1+p.bo)=x+x*p.bo:=by rw [Int.mul_add,Int.mul_one]
   omega
theorem X1{vL:Value}{p:Prob}(w0:World)(h:PAt w0 vL vD p)(G:p.Ok)(J:0<=i)(I:i<p.m):
   Calls Oj 148 [.agg #[vL,vD,.int Oh p.b8,.int Oh p.bo],.int Oh i].toArray w0 fun e w=>∃v,e= .returned v/\v= .int Oh (p.L i+p.bo)/\Sat w0 w []:=by
 have F:=G;have W:=F.all i J I;unfold Prob.each at W;have O:=F.s2;have V:=F.k1;have U:=F.k2
 refine zenG Tryz.func148 Tryz.ntmps148 fun w D=> ?_
 refine zsr<|zla (xbx (cs:= [_,_,_,_]) D) ?_;rintro _ w ⟨Y,rfl,D⟩
 refine(zP)<|zx7<|zdst [0] [0] 1000 mx_ D ?_;clear D;intro w D
 refine(zDw 0 (xfb 0 fd_32_0))<|(zDl 1 (fun w D=>(xlb 0 pl_22 D)))<|(zDw 2 xmv)<|(zDw 3 (xix (kk:=i) Zb h.L.cf))<|zdla 4 (fun w D=>(xlr (u:= .int Oh (p.L i)) pl_3 (h.L.below D.below))) ?_
 have X:=h.iL i
 refine(zDw 5 (xfb 3 fd_32_3))<|(zDl 6 (fun w D=>(xlb 0 pl_3 D)))<|(zDw 7 (Zg (r:=p.L i+p.bo)))<|(zDw 8 xas)<|zdd<|ztn<|zrt<|Oi ?_
 exact⟨rfl,D.nl⟩
theorem ZmI{vL:Value}{p:Prob}{n:Int}(w0:World)(h:PAt w0 vL vD p)(U:Row w0 vA 1 n (ints f)):
   Calls Oj 181 [.agg #[vL,vD,.int Oh p.b8,.int Oh p.bo],vA].toArray w0 fun e w=>∃v,e= .returned v/\∃(r:Int) (ok:Prop),v= .tuple #[.int Oh r,B ok]/\(ok↔FitsP p n f)/\Sat w0 w []:=by
 obtain⟨hm,af,hd,hd1,hs,V⟩:=h.Oo
 have hn:=U.cf.n0;have ae:=U.cf.n1
 refine zenG Tryz.func181 Tryz.ntmps181 fun w D=> ?_
 refine zsr<|zla (xbx (cs:= [_,_,_,_]) D) ?_;rintro _ w ⟨g1,rfl,D⟩
 refine(Om)<|zx5<|(zV (xls 0 st_32 D))<|zlc (xc0 XZ) (Yn (p:=p) w (h.below D.below)) ?_;rintro _ w ⟨rfl,F⟩
 replace D:=D.cmp F;clear F
 refine(Om)<|zlb 12 ?_ ?_<;>intro hc
 ·
  iterate 6 refine zlo ?_
  refine(zP)<|zlt<|zct<|zsr ?_
  refine(Om)<|zx14<|zf2 ⟨_,rfl,?_⟩
  exact⟨_,False,by rw [B_false not_false],⟨fun J=>J.elim,fun hf=>by
    first
    |exact absurd hf.ok ‹¬p.Ok›
    |(have:=hf.eq;omega)
    |(have O:=Xi hf G Oa;rw [<-show p.b8+p.bo-ZI p f i.toNat=l by omega] at*;omega)
    |(have O:=Xi hf G Oa;omega)⟩,D.nl⟩
 refine(zP)<|(zV (xln Zb U.cf))<|(zV (xfb 0 fd_32_0))<|(zV (xlb 0 pl_22 D))<|(zV (xln Zb h.L.cf))<|(Om)<|zlt<|Ze ?_ ?_<;>intro hc
 ·
  refine zsr<|(Om)<|zx14<|zf2 ⟨_,rfl,?_⟩
  exact⟨_,False,by rw [B_false not_false],⟨fun J=>J.elim,fun hf=>by
    first
    |exact absurd hf.ok ‹¬p.Ok›
    |(have:=hf.eq;omega)
    |(have O:=Xi hf G Oa;rw [<-show p.b8+p.bo-ZI p f i.toNat=l by omega] at*;omega)
    |(have O:=Xi hf G Oa;omega)⟩,D.nl⟩
 refine ZM<|zlv (xfb 2 fd_32_2) ?_
 have I:p.Ok:=by first|assumption|exact Oc ‹_›
 have W:n=p.m:=Oa
 have ac:=I.s1;have ab:=I.s2;have ah:=I.k1;have ag:=I.k2
 refine(zV (xlb 0 pl_3 D))<|(zV (xfb 3 fd_32_3))<|(zV (xlb 0 pl_3 D))<|(zV (Zg (r:=p.b8+p.bo)))<|(zP)<|zx5<|(zP)<|(zV (xln Zb U.cf))<|(zP)<|zx6<|zlp (fun mm M w=>∃(l:Int) (i:Int),mm=((n-i).toNat)/\(0<=i)/\(i<=n)/\(l=p.b8+p.bo-ZI p f i.toNat)/\(0<=l)/\(l<=p.b8+p.bo)/\(∀k,0<=k->k<i->0<=f k/\f k<=2000)/\M= [(2,Oq g1),(6,.int Oh l),(25,vA),(26,.int Oh n),(27,.int Oh i)]/\Sat w0 w [.blk g1 [vL,vD,.int Oh p.b8,.int Oh p.bo]]) ⟨p.b8+p.bo,0,rfl,Oa,Oa,?_,Oa,Oa,?_,rfl,D⟩ ?_
 ·
  show _=_-0;omega
 ·
  intro k k0 k1;omega
 clear D w
 rintro mm M w ⟨l,i,rfl,G,h1,hl,Y,X,qa,rfl,D⟩
 refine zsr<|(zP)<|zx7<|Ze ?_ ?_<;>intro hc
 ·
  refine zx3<|zlv xmv ?_
  have he:=I.all i G Oa;unfold Prob.each at he
  have ad:=YC (a:=l) (d:=p.L i+p.bo) (A:=2100) Oa Oa
  refine(zV (xix (kk:=i) Zb U.cf))<|(zV (xlr (u:= .int Oh (f i)) pl_3 (U.below D.below)))<|(Om)<|zx5<|(On)<|zlb 34 ?_ ?_<;>intro hc
  ·
   iterate 7 refine zlo ?_
   refine(zP)<|zlt<|zct<|zsr ?_
   refine(Om)<|zlt<|zrt<|ztr<|zbr<|ztr<|ztr<|zbr<|ztr<|zf2 ⟨_,rfl,?_⟩
   exact⟨_,False,by rw [B_false not_false],⟨fun J=>J.elim,fun hf=>by
     first
     |exact absurd hf.ok ‹¬p.Ok›
     |(have:=hf.eq;omega)
     |(have O:=Xi hf G Oa;rw [<-show p.b8+p.bo-ZI p f i.toNat=l by omega] at*;omega)
     |(have O:=Xi hf G Oa;omega)⟩,D.nl⟩
  refine(Om)<|(zV (xls 0 st_32 D))<|(zP)<|zlc (xc0 X0) (X1 (p:=p) (i:=i) w (h.below D.below) I Oa Oa) ?_;rintro _ w ⟨rfl,F⟩
  replace D:=D.cmp F;clear F
  refine(zV (VC (r:=(Int.tdiv l (p.L i+p.bo)))))<|(Om)<|zlt<|Ze ?_ ?_<;>intro hc
  ·
   refine zsr<|(Om)<|zlt<|zrt<|ztr<|zbr<|ztr<|ztr<|zbr<|ztr<|zf2 ⟨_,rfl,?_⟩
   exact⟨_,False,by rw [B_false not_false],⟨fun J=>J.elim,fun hf=>by
     first
     |exact absurd hf.ok ‹¬p.Ok›
     |(have:=hf.eq;omega)
     |(have O:=Xi hf G Oa;rw [<-show p.b8+p.bo-ZI p f i.toNat=l by omega] at*;omega)
     |(have O:=Xi hf G Oa;omega)⟩,D.nl⟩
  refine zsk<|ztn<|zrg<|zlv xmv ?_
  have aa:=Zeb I G Oa Y X (x:=f i) Oa Oa
  refine(zP)<|(zV (xls 0 st_32 D))<|(zP)<|zlc (xc0 X0) (X1 (p:=p) (i:=i) w (h.below D.below) I Oa Oa) ?_;rintro _ w ⟨rfl,F⟩
  replace D:=D.cmp F;clear F
  refine(zV (Z2 (r:=((f i)*(p.L i+p.bo))) (e:=rfl)))<|(zV (Zw (r:=l-((f i)*(p.L i+p.bo)))))<|(zP)<|zx10<|(zV (Zg (r:=i+1)))<|(zP)<|zln<|zlq ⟨l-((f i)*(p.L i+p.bo)),i+1,rfl,Oa,Oa,?_,Oa,Oa,?_,rfl,D⟩
  ·
   have h9:ZI p f (i+1).toNat=ZI p f i.toNat+f i*(p.L i+p.bo):=ZH _ G
   rw [h9];omega
  ·
   intro k Z ai;rcases Int.lt_or_eq_of_le (show k<=i by omega) with V|V;exact qa k Z V;rw [V];omega
 refine zx8<|(On)<|zx1<|zf2 ⟨_,rfl,?_⟩
 exact⟨_,True,by rw [ZP trivial],⟨fun _=>⟨I,Oa,fun k k0 k1=>(qa k k0 Oa),by rw [<-W,show n=i by omega];omega⟩,fun _=>trivial⟩,D.nl⟩
theorem ZdH{vL:Value}{p:Prob}{n:Int}(w0:World)(h:PAt w0 vL vD p)(I:Row w0 vA 1 n (ints f)):
   Calls Oj 155 [.agg #[vL,vD,.int Oh p.b8,.int Oh p.bo],vA].toArray w0 fun e w=>∃v,e= .returned v/\v=B (FitsP p n f)/\Sat w0 w []:=by
 refine zenG Tryz.func155 Tryz.ntmps155 fun w D=> ?_
 refine zsr<|zla (xbx (cs:= [_,_,_,_]) D) ?_;rintro _ w ⟨U,rfl,D⟩
 refine(zP)<|zlz<|(zV (xls 0 st_32 D))<|(zP)<|zlc (xc0 Zlp) (ZmI (p:=p) w (h.below D.below) (I.below D.below)) ?_;rintro _ w ⟨G,O,rfl,J,F⟩
 replace D:=D.cmp F;clear F
 refine zs5 ?_
 refine zlz<|(Om)<|zx1<|Oi ?_
 exact⟨Zn J,D.nl⟩
theorem Kp{vL:Value}{p:Prob}{n:Int}(w0:World)(h:PAt w0 vL vD p)(F:Row w0 vA 1 n (ints f)):
   Calls Oj 186 [.agg #[vL,vD,.int Oh p.b8,.int Oh p.bo],vA].toArray w0 fun e w=>∃v,e= .returned v/\v=B (ZU p n f)/\Sat w0 w []:=by
 obtain⟨hm,ab,hd,hd1,hs,J⟩:=h.Oo
 have hn:=F.cf.n0;have aa:=F.cf.n1
 refine zenG Tryz.func186 Tryz.ntmps186 fun w D=> ?_
 refine zsr<|zla (xbx (cs:= [_,_,_,_]) D) ?_;rintro _ w ⟨Z,rfl,D⟩
 refine(zP)<|zx5<|(zV (xls 0 st_32 D))<|(zP)<|zlc (xc0 Zgb) (ZdH (p:=p) w (h.below D.below) (F.below D.below)) ?_;rintro _ w ⟨rfl,I⟩
 replace D:=D.cmp I;clear I
 refine(zP)<|zlt<|Ze ?_ ?_<;>intro hc
 ·
  refine zsr<|(zP)<|zx14<|Oi ?_
  exact⟨false_B (by intro G;first|exact absurd G.1 ‹_›|(have:=G.2 i Y Oa;omega)),D.nl⟩
 refine YL<|(zP)<|(zV (xln Zb F.cf))<|(zP)<|zx6 ?_
 have O:FitsP p n f:=by first|assumption|exact Oc ‹_›
 have ac:=O.eq;have ad:=O.ok.d
 refine zlp (fun W M w=>∃(i:Int),W=((n-i).toNat)/\(0<=i)/\(i<=n)/\(∀k,0<=k->k<i->f k<=p.D k)/\M= [(2,Oq Z),(11,vA),(12,.int Oh n),(13,.int Oh i)]/\Sat w0 w [.blk Z [vL,vD,.int Oh p.b8,.int Oh p.bo]]) ⟨0,rfl,Oa,Oa,?_,rfl,D⟩ ?_
 ·
  intro k X k1;omega
 clear D w
 rintro W M w ⟨i,rfl,Y,h1,V,rfl,D⟩
 refine zsr<|(zP)<|zx7<|Ze ?_ ?_<;>intro hc
 ·
  refine zx3<|(zP)<|(zV (xix (kk:=i) Zb F.cf))<|(zV (xlr (u:= .int Oh (f i)) pl_3 (F.below D.below)))<|(Om)<|zlz<|(zP)<|(zV (xfb 1 fd_32_1))<|(zV (xlb 0 pl_22 D))<|(zP)<|(zV (xix (kk:=i) Zb h.D.cf))<|zlv (xlr (u:= .int Oh (p.D i)) pl_3 (h.D.below D.below)) ?_
  have ae:=h.iD i
  refine(zP)<|zlt<|Ze ?_ ?_<;>intro hc
  ·
   refine zsr<|(zP)<|zx2<|Oi ?_
   exact⟨false_B (by intro G;first|exact absurd G.1 ‹_›|(have:=G.2 i Y Oa;omega)),D.nl⟩
  refine zx4<|(zV (Zg (r:=i+1)))<|(zP)<|zln<|zlq ⟨i+1,rfl,Oa,Oa,?_,rfl,D⟩
  ·
   intro k U af;rcases Int.lt_or_eq_of_le (show k<=i by omega) with J|J;exact V k U J;rw [J];omega
 refine zx8<|(zP)<|zx1<|Oi ?_
 exact⟨ZT (by exact⟨O,fun k X k1=>V k X Oa⟩),D.nl⟩
theorem U7{vL:Value}{p:Prob}{n:Int}(w0:World)(h:PAt w0 vL vD p)(F:Row w0 vA 1 n (ints f)):
   Calls Oj 109 [.agg #[vL,vD,.int Oh p.b8,.int Oh p.bo],vA].toArray w0 fun e w=>∃v,e= .returned v/\v=B (ZU p n f)/\Sat w0 w []:=by
 obtain⟨hm,ab,hd,hd1,hs,J⟩:=h.Oo
 have hn:=F.cf.n0;have aa:=F.cf.n1
 refine zenG Tryz.func109 Tryz.ntmps109 fun w D=> ?_
 refine zsr<|zla (xbx (cs:= [_,_,_,_]) D) ?_;rintro _ w ⟨Z,rfl,D⟩
 refine(zP)<|zx5<|(zV (xls 0 ZE D))<|(zP)<|zlc (xc0 Zf0) (ZcI (p:=p) w (h.below D.below) (F.below D.below)) ?_;rintro _ w ⟨rfl,I⟩
 replace D:=D.cmp I;clear I
 refine(zP)<|zlt<|Ze ?_ ?_<;>intro hc
 ·
  refine zsr<|(zP)<|zx14<|Oi ?_
  exact⟨false_B (by intro G;first|exact absurd G.1 ‹_›|(have:=G.2 i Y Oa;omega)),D.nl⟩
 refine YL<|(zP)<|zx6 ?_
 have O:FitsP p n f:=by first|assumption|exact Oc ‹_›
 have ac:=O.eq;have ad:=O.ok.d
 refine zlp (fun W M w=>∃(i:Int),W=((n-i).toNat)/\(0<=i)/\(i<=n)/\(∀k,0<=k->k<i->f k<=p.D k)/\M= [(1,vA),(2,Oq Z),(5,.int Oh i)]/\Sat w0 w [.blk Z [vL,vD,.int Oh p.b8,.int Oh p.bo]]) ⟨0,rfl,Oa,Oa,?_,rfl,D⟩ ?_
 ·
  intro k X k1;omega
 clear D w
 rintro W M w ⟨i,rfl,Y,h1,V,rfl,D⟩
 refine zx11<|(Om)<|(zV (xln Zb F.cf))<|(zP)<|zlt<|Ze ?_ ?_<;>intro hc
 ·
  refine zx27<|zdst [0] [0] 1000 mx_ D ?_;clear D;intro w D
  refine(zDw 0 xmv)<|(zDw 1 xmv)<|(zDw 2 (xix (kk:=i) Zb F.cf))<|(zDl 3 (fun w D=>(xlr (u:= .int Oh (f i)) pl_3 (F.below D.below))))<|(zDw 4 (xfb 1 fd_24_1))<|(zDl 5 (fun w D=>(xlb 0 pl_22 D)))<|(zDw 6 xmv)<|(zDw 7 (xix (kk:=i) Zb h.D.cf))<|zdla 8 (fun w D=>(xlr (u:= .int Oh (p.D i)) pl_3 (h.D.below D.below))) ?_
  have ae:=h.iD i
  refine(zDw 9 Yu)<|zdd<|ztn ?_
  refine Ze ?_ ?_<;>intro hc
  ·
   refine zsr<|(zP)<|zx2<|Oi ?_
   exact⟨false_B (by intro G;first|exact absurd G.1 ‹_›|(have:=G.2 i Y Oa;omega)),D.nl⟩
  refine zx4<|(zP)<|(zV (Zg (r:=i+1)))<|(zP)<|zln<|zlq ⟨i+1,rfl,Oa,Oa,?_,rfl,D⟩
  ·
   intro k U af;rcases Int.lt_or_eq_of_le (show k<=i by omega) with J|J;exact V k U J;rw [J];omega
 refine zx8<|(zP)<|zx1<|Oi ?_
 exact⟨ZT (by exact⟨O,fun k X k1=>V k X Oa⟩),D.nl⟩
end Go.Proofs.YtkichmnjjblodaaGreat
namespace Go.Proofs.YtkichmnjjblodaaGreat
open Go Go.RowKit Go.Proofs.Gw
variable {gp:Nat} {vD:Value}
theorem Zlm:Zc Oj 185=true:=Ob
theorem Zf7:Zc Oj 186=true:=Ob
theorem Sat.ig{w0 w:World}{l:List Ent}{g:Nat}{cs:List Value}(D:Sat w0 w l)(h:(Ent.blk g cs).holds w0):(Ent.blk g cs).holds w:=by
 obtain⟨T,h⟩:=h
 exact⟨T,by rw [D.below.block g (by rw [Array.getElem?_eq_some_iff] at h;exact h.1)];exact h⟩
theorem xlfs{L:List (Nat×Value)}{w0 w:World}{l:List Ent}{o:Oper}{x:Operand}{T:TypeId}{k g:Nat}{cs:List Value}(F:ZC Oj T=some k)(h:(Ent.blk g cs).holds w0)(J:Sat w0 w l)(G:o.op= .load T x:=by exact rfl)
 (D:evL L x=some (Oq g):=by exact rfl) (I:cs.length=k:=by exact rfl):Runs Oj L w o (.value (.agg cs.toArray)) w:=Up G (by rw [F,I]) D (Sat.ig J h).cells
theorem ZiJ{vL:Value}{p:Prob}{vA:Value}{n:Int}{f:Oe}(w0:World)(G:(Ent.blk gp [vL,vD,.int Oh p.b8,.int Oh p.bo]).holds w0)(h:PAt w0 vL vD p)(I:Row w0 vA 1 n (ints f)):
   Calls Oj 185 [vA,Oq gp].toArray w0 fun e w=>∃v,e= .returned v/\v=B (¬ZU p n f)/\Sat w0 w []:=by
 refine zenG Tryz.func185 Tryz.ntmps185 fun w D=> ?_
 refine zsr<|(zP)<|zlz<|(zV (xlfs st_32 G D))<|(zP)<|zlc (xc0 Zf7) (Kp (p:=p) w (h.below D.below) (I.below D.below)) ?_;rintro _ w ⟨rfl,F⟩
 replace D:=D.cmp F;clear F
 refine(Om)<|zx1<|Oi ?_
 exact⟨rfl,D⟩
theorem Zg3{vL:Value}{p:Prob}{G:Value}{u:Int}{V:Int->Value}{ml:Oe}{mf:Of}(w0:World)(Y:(Ent.blk gp [vL,vD,.int Oh p.b8,.int Oh p.bo]).holds w0)(h:PAt w0 vL vD p)(hM:MAt w0 G u V ml mf):
   Calls Oj 204 [G,.func (.func 185) #[] #[Oq gp]].toArray w0 fun e w=>∃v,e= .returned v/\∃r:Int,v= .int Oh r/\((r= -1/\∀k,0<=k->k<u->¬(¬ZU p (ml k) (mf k)))\/(0<=r/\r<u/\(¬ZU p (ml r) (mf r))))/\Sat w0 w []:=by
 have hn:=hM.row.cf.n0;have X:=hM.row.cf.n1
 refine zenG Tryz.func204 Tryz.ntmps204 fun w D=> ?_
 refine zsr<|(zP)<|zx5<|(zP)<|(zV (xln Zi hM.row.cf))<|(zP)<|zx6<|zlp (fun W M w=>∃(i:Int),W=((u-i).toNat)/\(0<=i)/\(i<=u)/\(∀k,0<=k->k<i->¬(¬ZU p (ml k) (mf k)))/\M= [(0,G),(1,.func (.func 185) #[] #[Oq gp]),(7,.int Oh u),(8,.int Oh i)]/\Sat w0 w []) ⟨0,rfl,Oa,Oa,?_,rfl,D⟩ ?_
 ·
  intro k O h1;omega
 clear D w
 rintro W M w ⟨i,rfl,O,h1,U,rfl,D⟩
 refine zsr<|(zP)<|zx7<|Ze ?_ ?_<;>intro hc
 ·
  refine zx3<|(Om)<|zlz<|(On)<|(zV (xix (kk:=i) Zi hM.row.cf))<|(zV (xlr (u:=(V i)) pl_22 (hM.row.below D.below)))<|zlc (xcc (vs:= [_]) Zlm) (ZiJ (p:=p) w (Sat.ig D Y) (h.below D.below) ((hM.p i Oa Oa).below D.below)) ?_;rintro _ w ⟨rfl,F⟩
  replace D:=D.cmp F;clear F
  refine zlt<|Ze ?_ ?_<;>intro hc
  ·
   refine zsr<|(Om)<|zx2<|Oi ?_
   exact⟨i,rfl,.inr ⟨by omega,Oa,‹¬ZU p (ml i) (mf i)›⟩,D⟩
  refine zx4<|(zV (Zg (r:=i+1)))<|(zP)<|zln<|zlq ⟨i+1,rfl,Oa,Oa,?_,rfl,D⟩
  ·
   intro k J Z;rcases Int.lt_or_eq_of_le (show k<=i by omega) with I|I;exact U k J I;rw [I];assumption
 refine zx8<|(zP)<|zx1<|Oi ?_
 exact⟨-1,rfl,.inl ⟨rfl,fun k O h1=>U k O Oa⟩,D⟩
theorem Zg8{vL:Value}{p:Prob}{I:Value}{u:Int}{J:Int->Value}{ml:Oe}{mf:Of}(w0:World)(O:(Ent.blk gp [vL,vD,.int Oh p.b8,.int Oh p.bo]).holds w0)(h:PAt w0 vL vD p)(hM:MAt w0 I u J ml mf):
   Calls Oj 184 [I,.func (.func 185) #[] #[Oq gp]].toArray w0 fun e w=>∃v,e= .returned v/\v=B (∃k,0<=k/\k<u/\(¬ZU p (ml k) (mf k)))/\Sat w0 w []:=by
 refine zenG Tryz.func184 Tryz.ntmps184 fun w D=> ?_
 refine zsr<|(zP)<|zlz<|(Om)<|zlc (xc0 Zcu) (Zg3 w (Sat.ig D O) (h.below D.below) (hM.below D.below)) ?_;rintro _ w ⟨X,rfl,G,F⟩
 replace D:=D.cmp F;clear F
 refine(Om)<|zx1<|Oi ?_
 exact⟨Zn (by
  rcases G with⟨h1,h2⟩|⟨h1,h2,h3⟩
  · exact⟨fun h=>Oa,fun⟨k,W,V,U⟩=>absurd U (h2 k W V)⟩
  · exact⟨fun _=>⟨_,h1,h2,h3⟩,fun _=>h1⟩),D⟩
end Go.Proofs.YtkichmnjjblodaaGreat
namespace Go.Proofs.Gw
open Go Go.RowKit
def Rm(v:Value)(q:Nat):Value:=match v with
  | .slice a _ cap=> .slice a q cap
  |u=>u
section
variable {P:Program} {L:List (Nat×Value)} {w w0:World} {o:Oper} {x y z:Operand} {T T':TypeId} {l:List Ent} {E:TypeId}
theorem ZcX{v:Value}{n:Int}{q:Nat}(h:Slh v n)(F:(q:Int)<=n):Slh (Rm v q) q:=by
 obtain⟨G,h1,a,cap,rfl,D⟩:=h
 refine⟨by omega,Oa,a,cap,rfl,?_⟩
 rcases D with D|D
 · left;omega
 · exact .inr D
theorem ZhP{v:Value}{n:Int}{q:Nat}{c:Int->Value}(h:Row w v 1 n c)(D:(q:Int)<=n):Row w (Rm v q) 1 q c:=by
 refine⟨ZcX h.cf D,fun k G=> ?_⟩
 have F:=h.2 k Oa
 obtain⟨_,_,a,cap,rfl,_⟩:=h.cf
 cases a<;>exact F
theorem ZeI{v:Value}{n i:Int}(q:Nat)(V:ZJ P T=some (E,1))(hv:Slh v n)(W:(q:Int)=i:=by omega)(hn:0<n:=by omega)(h1:i<=n:=by omega)(X:o.op= .slice T x (some y) none none:=by exact rfl)(O:evL L x=some v:=by exact rfl)(J:evL L y=some (.int Oh i):=by exact rfl):
   Runs P L w o (.value (XF v q)) w:=fun ρ h=>by
 obtain⟨U,I,F,D⟩:=Z8 V
 obtain⟨_,_,a,cap,rfl,G⟩:=hv
 subst W
 have Y:(Instr.sliceBounds true n.toNat cap (some (.int Oh (q:Int))) none none).run P w= .ok (q,n.toNat,cap) w:=by
   simp [Instr.sliceBounds,Instr.sliceBound,asIntOf]
   omega
 have e:(Instr.sliceAt T (.slice a n.toNat cap) (some (.int Oh (q:Int))) none none).run P w= .ok (XF (.slice a n.toNat cap) q) w:=by
   unfold Instr.sliceAt
   simp only [Sem.run_bind,run_underlying U,Result.andThen_ok,Instr.slice,Y]
   simp [sizeOf,typeInfo,F,D,XF]
   rcases G with G|⟨b,off,rfl⟩
   · omega
   · by_cases hc:cap=q
     · simp [hc]
     · simp [hc,Addr.add_eq]
 simp [execOp,X,h _ _ O,h _ _ J,e]
theorem ZbW{v:Value}{n i:Int}(q:Nat)(V:ZJ P T=some (E,1))(hv:Slh v n)(hr:X2 v)(W:(q:Int)=i:=by omega)(hn:0<n:=by omega)(h1:i<=n:=by omega)(X:o.op= .slice T x none (some y) none:=by exact rfl)(O:evL L x=some v:=by exact rfl)(J:evL L y=some (.int Oh i):=by exact rfl):
   Runs P L w o (.value (Rm v q)) w:=fun ρ h=>by
 obtain⟨U,I,F,D⟩:=Z8 V
 obtain⟨_,_,a,cap,rfl,G⟩:=hv
 have hc:=hr _ _ _ rfl
 subst W
 have Y:(Instr.sliceBounds true n.toNat cap none (some (.int Oh (q:Int))) none).run P w= .ok (0,q,cap) w:=by
   simp [Instr.sliceBounds,Instr.sliceBound,asIntOf]
   omega
 have e:(Instr.sliceAt T (.slice a n.toNat cap) none (some (.int Oh (q:Int))) none).run P w= .ok (Rm (.slice a n.toNat cap) q) w:=by
   unfold Instr.sliceAt
   simp only [Sem.run_bind,run_underlying U,Result.andThen_ok,Instr.slice,Y]
   rcases G with G|⟨b,off,rfl⟩
   · omega
   · simp [sizeOf,typeInfo,F,D,Rm,Addr.add]
 simp [execOp,X,h _ _ O,h _ _ J,e]
def cpy(q:Nat)(r:Int)(d c:Int->Value):Int->Value:=fun k=>if(q:Int)<=k/\k<q+r then d (k-q) else c k
theorem TW{v D u:Value}{n m r:Int}{q:Nat}{c d:Int->Value}(i:Nat)(ho:o.op= .call {callee:= .builtin .copy,args:= #[x,y],argTypes:= #[T,T']})(G:ZJ P T=some (E,1))(hx:evL L x=some D)(hy:evL L y=some u)(hS:Sat w0 w l)(hi:l[i]? =some (.own v 1 E n c))(hD:D=XF v q\/(D=v/\q=0))
   (hR:Row w u 1 m d) (hq:(q:Int)<n) (hm:0<m) (hr:r=min (n-q) m) (h1:∀k,0<=k->k<m->(d k).oneCell'=true):
   ∃rv w',Runs P L w o (.value rv) w'/\rv= .int Oh r/\Sat w0 w' (l.set i (.own v 1 E n (cpy q r d c))):=by
 obtain⟨hu,aa,Y,V⟩:=Z8 G
 have O:=hS
 rw [Yf hi] at O
 rw [YN hi]
 have yV:(P.info? E).map (·.size)=some 1:=by rw [Y];simp [V]
 have hg:=O.get
 obtain⟨_,_,a,cap,rfl,U⟩:=hR.cf
 rcases U with U|⟨b,off,rfl⟩
 · omega
 obtain⟨_,_,⟨rfl,U⟩|⟨g,F,cur,rfl,hh,h2,h3,Z,h5⟩⟩:=hg
 · omega
 obtain⟨dCap,rfl⟩:∃dCap,D= .slice (some ⟨g,q,none⟩) (n.toNat-q) dCap:=by
   rcases hD with rfl|⟨rfl,rfl⟩
   · exact⟨F-q,by unfold XF;dsimp only;rw [if_neg Oa];simp⟩
   · exact⟨F,by simp⟩
 have done:∀{w':World} (r:Value),(Builtin.copy_ #[T,T'] 0 #[.slice (some ⟨g,q,none⟩) (n.toNat-q) dCap,.slice (some ⟨b,off,none⟩) m.toNat cap]).run P w= .ok r w'->Runs P L w o (.value r) w':=fun r hr ρ h=>by
   have W:∀ty,(Builtin.copy_ #[T,T'] ty #[.slice (some ⟨g,q,none⟩) (n.toNat-q) dCap,.slice (some ⟨b,off,none⟩) m.toNat cap])=Builtin.copy_ #[T,T'] 0 #[.slice (some ⟨g,q,none⟩) (n.toNat-q) dCap,.slice (some ⟨b,off,none⟩) m.toNat cap]:=fun _=>rfl
   simp [execOp,ho,resolve,invoke,builtin,h _ _ hx,h _ _ hy,W,hr]
 have J:=ZY d r.toNat
 have hr:=run_copy_row (P:=P) w T T' 0 E g q (n.toNat-q) dCap ⟨b,off,none⟩ m.toNat cap cur E (cellsOf d r.toNat) hu yV hh (by rw [J];show r.toNat=min m.toNat (n.toNat-q);omega) (fun j t I=>by
   rw [cellsOf_get] at I
   split at I
   · rename_i hlt
     cases I
     have:=hR.2 j Oa
     rw [Addr.add_eq _ rfl]
     simpa [cad] using this
   · cases I) (by rw [J,Z];omega) (fun t G=>by
   obtain⟨j,I⟩:=List.getElem?_of_mem G
   rw [cellsOf_get] at I
   split at I
   · cases I;exact h1 _ Oa Oa
   · cases I)
 rw [J] at hr
 refine⟨_,_,done _ hr,by simp [goInt];omega,?_⟩
 refine O.turn (fun k _ X=> ?_) rfl rfl rfl (by simp [World.setRow]) ⟨by omega,Oa,.inr ⟨g,F,_,rfl,setRow_heap w g cur _ E _ hh,h2,h3,?_,fun k X=> ?_⟩⟩ (fun _ h=> .inl h)
 · have:k≠g:=fun e=>X (by rw [e];rfl)
   simp [World.setRow,Array.getElem?_modify,Ne.symm this]
 · simp [J,Z];omega
 · have ab:k<n.toNat:=Oa
   have h6:=h5 k X
   have G:(cur.toList.take q).length=q:=by simp [Z];omega
   show(cur.toList.take q++cellsOf d r.toNat++cur.toList.drop (q+r.toNat)).toArray[k]? =_
   rw [List.getElem?_toArray]
   unfold cpy
   by_cases k1:k<q
   · rw [if_neg Oa,List.getElem?_append_left (by rw [List.length_append,G];omega),List.getElem?_append_left Oa,List.getElem?_take,if_pos k1,Array.getElem?_toList];exact h6
   · by_cases k2:k<q+r.toNat
     · rw [if_pos Oa,List.getElem?_append_left (by rw [List.length_append,G,J];omega),List.getElem?_append_right Oa,G,cellsOf_get,if_pos Oa,show(((k-q:Nat)):Int)=(k:Int)-q by omega]
     · rw [if_neg Oa,List.getElem?_append_right (by rw [List.length_append,G,J];omega),List.length_append,G,J,List.getElem?_drop,Array.getElem?_toList,show q+r.toNat+(k-(q+r.toNat))=k by omega];exact h6
end
end Go.Proofs.Gw
namespace Go.Proofs.YtkichmnjjblodaaGreat
open Go Go.RowKit Go.Proofs.Gw
theorem Zk8:Zc Oj 207=true:=Ob
theorem Wk:Tryz.prog.underlying 259=some (.int .u64):=Ob
theorem Zab:Tryz.prog.underlying 3=some (.int .i64):=Ob
theorem Wz:(Tryz.prog.underlying 259).isSome=true:=Ob
theorem Rl:(Tryz.prog.underlying 3).isSome=true:=Ob
def cpyI(q:Nat)(r:Int)(d c:Oe):Oe:=fun k=>if(q:Int)<=k/\k<q+r then d (k-q) else c k
theorem T4(q:Nat)(r:Int)(d c:Oe):cpy q r (ints d) (ints c)=ints (cpyI q r d c):=by
 funext k
 by_cases h:(q:Int)<=k/\k<q+r
 · simp only [cpy,ints,cpyI,if_pos h]
 · simp only [cpy,ints,cpyI,if_neg h]
theorem Zn8(n:Int)(h:0<=n/\n<=1000000)(w0:World):Calls Oj 207 [.int .u64 1,.int .u64 n].toArray w0 fun e w=>∃v,e= .returned v/\v= .tuple #[.int .u64 0,.int .u64 n]/\Sat w0 w []:=by
 obtain⟨k,rfl⟩:=Int.eq_ofNat_of_zero_le h.1
 have D:=Tryz.bits_Mul 1 k (by decide) Oa w0
 refine D.mono fun e w ⟨he,hw⟩=>⟨_,he,?_,by rw [hw];exact Sat.start _⟩
 rw [Nat.one_mul,Nat.div_eq_of_lt Oa,Nat.mod_eq_of_lt Oa];rfl
theorem ZgL{v:Value}{f:Oe}{n:Int}(w0:World)(Y:Row w0 v 1 1 (ints f))(hn:1<=n/\n<=1000):
   Calls Oj 189 [v,.int Oh n].toArray w0 fun e w=>∃v,e= .returned v/\∃r,v=r/\Slh r n/\Sat w0 w [.own r 1 3 n (ints fun _=>f 0)]:=by
 refine zenG Tryz.func189 Tryz.ntmps189 fun w D=> ?_
 refine zsr<|(zP)<|zx5<|(zP)<|(zV (xkf Z7))<|zlt<|zcf<|zsk<|ztn<|zsr ?_
 refine(zP)<|(zV (xln Zb Y.cf))<|(zV (xcv Rl Wk))<|(zP)<|(zV (xcv Rl Wk))<|zlc (xc0 Zk8) (Zn8 n Oa w) ?_;rintro _ w ⟨rfl,O⟩
 replace D:=D.cmp O;clear O
 refine zs5 ?_
 refine zx5<|(zP)<|(zV (xkf Yu))<|(Om)<|(zV (xkf Yu))<|(zP)<|zlt<|zcf<|zsk<|ztn<|zsr ?_
 refine(zP)<|(zV (xcv Wz Zab))<|zla (xmk Zb Zm D) ?_;rintro W w ⟨D,F⟩
 refine(zP)<|zlz<|(Om)<|KA rfl rfl rfl (TW (q:=0) (r:=1) 0 rfl Zb rfl rfl D rfl (.inr ⟨rfl,rfl⟩) (Y.below D.below) Oa Oa Oa (fun _ _ _=>rfl)) ?_;rintro _ w ⟨rfl,D⟩
 replace D:=D.gi 0 rfl (d:=ints (cpyI 0 1 f (fun _=>0))) (fun k J U=>congrFun (T4 0 1 f (fun _=>0)) k)
 refine(zP)<|zlt<|zsq<|zbk<|zlp (fun X M w=>∃(b:Int) (g:Oe),X=((n-b).toNat)/\(1<=b)/\(b<=n)/\(∀k,0<=k->k<b->g k=f 0)/\M= [(4,Og),(7,W),(8,.int Oh b)]/\Sat w0 w [.own W 1 3 n (ints g)]) ⟨1,(cpyI 0 1 f (fun _=>0)),rfl,Oa,Oa,?_,rfl,D⟩ ?_
 ·
  intro k J U;obtain rfl:k=0:=Oa
  rfl
 clear D w
 rintro X M w ⟨b,g,rfl,h0,h1,V,rfl,D⟩
 refine zx11<|(Om)<|(zV (xln Zb F))<|(zP)<|zlt<|Ze ?_ ?_<;>intro hc
 ·
  refine zsk<|ztn<|zbk<|zdst [] [] 1000 mx_ D ?_;clear D;intro w D
  refine zDrv 0 xmv ?_
  obtain⟨I,aa⟩:∃I:Nat,(I:Int)=b:=⟨b.toNat,Oa⟩
  obtain⟨G,Z⟩:∃G:Int,G=min (n-b) b:=⟨_,rfl⟩
  refine(zDw 1 xmv)<|(zDw 2 xmv)<|(zDw 3 (ZeI I Zb F))<|(zDw 4 xmv)<|(zDw 5 xmv)<|(zDw 6 (ZbW I Zb F (D.holds _ (List.mem_of_getElem? (i:=0) rfl)).roomy))<|Zor 7 rfl rfl rfl rfl (by kernel_rfl) (TW (q:=I) (r:=G) 0 rfl Zb rfl rfl D rfl (.inl rfl) (ZhP (D.c7 0 rfl) Oa) Oa Oa Oa (fun _ _ _=>rfl)) ?_;rintro _ w ⟨rfl,D⟩
  refine⟨⟨fun _=>D.nl,D.nl⟩,?_⟩
  refine zDrv 8 (Zg (r:=b+G)) ?_
  replace D:=D.gi 0 rfl (d:=ints (cpyI I G g g)) (fun k J U=>congrFun (T4 I G g g) k)
  refine(zDw 9 xas)<|zdd<|zbn<|zlq ⟨b+G,(cpyI I G g g),rfl,Oa,Oa,?_,rfl,D⟩
  ·
   intro k J U;unfold cpyI;split
   · exact V _ Oa Oa
   · exact V k J Oa
 refine zx8<|(Om)<|zx1<|Oi ?_
 obtain rfl:b=n:=Oa
 exact⟨_,rfl,F,(D.gi 0 rfl (d:=ints fun _=>f 0) (fun k J U=>by unfold ints;rw [V k J Oa])).pk [0]⟩
theorem Znm{u i D k F:Int}(J:0<=k)(I:k<u)(G:0<=F)(l1:F<u)(e:D*u+F=i*u+k):D=i/\F=k:=by
 have hi:D=i:=by
   rcases Int.lt_trichotomy D i with h|h|h
   · have:=Int.mul_le_mul_of_nonneg_right (show D+1<=i by omega) (show 0<=u by omega);rw [Int.add_mul] at this;omega
   · exact h
   · have:=Int.mul_le_mul_of_nonneg_right (show i+1<=D by omega) (show 0<=u by omega);rw [Int.add_mul] at this;omega
 subst hi
 exact⟨rfl,Oa⟩
theorem Zac{u n i:Int}(D:0<=u)(F:0<=i)(G:i<n):0<=i*u/\i*u+u<=n*u:=by
 refine⟨Int.mul_nonneg F D,?_⟩
 have:=Int.mul_le_mul_of_nonneg_right (show i+1<=n by omega) D
 rw [Int.add_mul] at this;omega
theorem ZiG{U:Value}{u:Int}{mv:Int->Value}{ml:Oe}{mf:Of}{n:Int}(w0:World)(hM:MAt w0 U u mv ml mf)(hu:1<=u/\u<=60)(hn:1<=n/\n<=20)(ag:∀k,0<=k->k<u->ml k=n):
   Calls Oj 190 [U,.int Oh n].toArray w0 fun e w=>∃v,e= .returned v/\∃r vv,v=r/\Slh r n/\Sat w0 w [.own r 1 22 n vv,.sem (Frame.rows 3 n vv (fun _=>u) (fun i j=>mf j i))]:=by
 have al:=Zac (u:=u) (n:=n+1) (i:=n) Oa Oa Oa
 have kV:=Xo (a:=n) (b:=u) (A:=20) (B:=60) Oa Oa
 refine zenG Tryz.func190 Tryz.ntmps190 fun w D=> ?_
 refine zsr<|(zP)<|zlz<|(Om)<|(zV (xln Zi hM.row.cf))<|(zV (Z2 (r:=(n*u)) (e:=rfl)))<|zla (xmk Zb Zm D) ?_;rintro X w ⟨D,W⟩
 refine(zP)<|zx5<|(zP)<|(zV (xln Zi hM.row.cf))<|(zP)<|zx6<|zlp (fun O M w=>∃(k:Int) (g:Oe),O=((u-k).toNat)/\(0<=k)/\(k<=u)/\(∀j,0<=j->j<k->∀i,0<=i->i<n->g (i*u+j)=mf j i)/\M= [(0,U),(1,.int Oh n),(4,Og),(5,X),(17,U),(18,.int Oh u),(19,.int Oh k)]/\Sat w0 w [.own X 1 3 (n*u) (ints g)]) ⟨0,(fun _=>0),rfl,Oa,Oa,?_,rfl,D⟩ ?_
 ·
  intro j j0 j1;omega
 clear D w
 rintro O M w ⟨k,g,rfl,G,J,hg,rfl,D⟩
 refine zsr<|(zP)<|zx7<|Ze ?_ ?_<;>intro hc
 ·
  refine zx3<|zlv xmv ?_
  have k7:=ag k G Oa
  refine(zV (xix (kk:=k) Zi hM.row.cf))<|(zV (xlr (u:=(mv k)) pl_22 (hM.row.below D.below)))<|(Om)<|zlz<|(Om)<|zx6<|zlp (fun O M w=>∃(i:Int) (g:Oe),O=((n-i).toNat)/\(0<=i)/\(i<=n)/\(∀j,0<=j->j<k->∀i,0<=i->i<n->g (i*u+j)=mf j i)/\(∀q,0<=q->q<i->g (q*u+k)=mf k q)/\M= [(0,U),(1,.int Oh n),(4,Og),(5,X),(6,.int Oh k),(7,(mv k)),(17,U),(18,.int Oh u),(19,.int Oh k),(24,.int Oh n),(25,.int Oh i)]/\Sat w0 w [.own X 1 3 (n*u) (ints g)]) ⟨0,g,rfl,Oa,Oa,?_,?_,rfl,D⟩ ?_
  ·
   exact hg
  ·
   intro q V F;omega
  clear D w
  rintro O M w ⟨i,g,rfl,i0,i1,ac,ab,rfl,D⟩
  refine zsr<|(zP)<|zx7<|Ze ?_ ?_<;>intro hc
  ·
   refine zx3<|zlv xmv ?_
   have ai:=Zac (u:=u) (n:=n) Oa i0 Oa
   refine(zP)<|zlt<|zrg<|(On)<|(zV (xln Zi hM.row.cf))<|(zV (Z2 (r:=(i*u)) (e:=rfl)))<|(zP)<|(zV (Zg (r:=(i*u)+k)))<|(Om)<|(zV (xix (kk:=i) Zb (hM.p k Oa Oa).cf))<|(zV (xlr (u:= .int Oh ((mf k) i)) pl_3 ((hM.p k Oa Oa).below D.below)))<|(zV (xix (kk:=(i*u)+k) Zb W))<|zle (xso 0 pl_3 D (Zy _ _ _)) ?_;clear D;rintro w D
   refine zx10<|(zV (Zg (r:=i+1)))<|(zP)<|zln<|zlq ⟨i+1,(upd g ((i*u)+k) ((mf k) i)),rfl,Oa,Oa,?_,?_,rfl,D⟩
   ·
    intro j j0 j1 q V F;rw [upd_ne _ _ (fun e=>by have:=Znm G Oa j0 Oa e;omega)];exact ac j j0 j1 q V F
   ·
    intro q V F;by_cases e:q=i
    · rw [e,ZA]
    · rw [upd_ne _ _ (fun e9=>e (Znm G Oa G Oa e9).1)];exact ab q V Oa
  refine zx21<|(zV (Zg (r:=k+1)))<|(zP)<|zln<|zlq ⟨k+1,g,rfl,Oa,Oa,?_,rfl,D⟩
  ·
   intro j j0 j1 q V F;by_cases e:j=k
   · rw [e];exact ab q V Oa
   · exact ac j j0 Oa q V F
 refine zx8<|(zP)<|zx5<|(Om)<|zx6 ?_
 replace D:=D.cg 1 22 (fun _=>Og)
 replace D:=D.fa 3 (fun _=>Og) (fun _=>u) (fun i j=>mf j i)
 have yz:=fun k (G:0<=k) (J:k<0)=>D.db 2 rfl G J
 refine zlp (fun O M w=>∃(I:Int) (Y:Int->Value) (i:Int) (wC:Value),O=((n-i).toNat)/\(0<=i)/\(i<=n)/\(I=i)/\(Slh wC I)/\M= [(0,U),(4,Og),(5,X),(9,wC),(42,.int Oh n),(43,.int Oh i)]/\Sat w0 w [.own X 1 3 (n*u) (ints g),.own wC 1 22 I Y,.sem (Frame.rows 3 I Y (fun _=>u) (fun i j=>mf j i))]) ⟨0,(fun _=>Og),0,Og,rfl,Oa,Oa,Oa,?_,rfl,D⟩ ?_
 ·
  exact slh_nil
 clear D w
 rintro O M w ⟨I,Y,i,wC,rfl,i0,i1,af,ad,rfl,D⟩
 have qG:=fun k (G:0<=k) (J:k<I)=>D.db 2 rfl G J
 refine zsr<|(zP)<|zx7<|Ze ?_ ?_<;>intro hc
 ·
  refine zx3<|zlv xmv ?_
  have ai:=Zac (u:=u) (n:=n) Oa i0 Oa
  refine(zP)<|zlz<|(zP)<|(zV (xln Zi hM.row.cf))<|zla (xmk Zb Zm D) ?_;rintro Z w ⟨D,aa⟩
  refine(zP)<|zlz<|zs4 ?_
  obtain⟨F,ak⟩:∃F:Nat,(F:Int)=i*u:=⟨(i*u).toNat,Oa⟩
  refine(zV (xln Zi hM.row.cf))<|(zV (Z2 (r:=(i*u)) (e:=rfl)))<|(zV (ZeI F Zb W))<|KA rfl rfl rfl (TW (q:=0) (r:=u) 3 rfl Zb rfl rfl D rfl (.inr ⟨rfl,rfl⟩) ((Xb (q:=F) W (D.holds _ (List.mem_of_getElem? (i:=0) rfl)).roomy Oa).row Oa (D.c7 0 rfl)) Oa Oa Oa (fun _ _ _=>rfl)) ?_;rintro _ w ⟨rfl,D⟩
  refine zlt<|zrg<|zlv xmv ?_
  replace D:=D.gi 3 rfl (d:=ints (cpyI 0 u (fun k=>g (k+(F:Int))) (fun _=>0))) (fun k G J=>congrFun (T4 0 u (fun k=>g (k+(F:Int))) (fun _=>0)) k)
  refine(zP)<|zla (xli (n:=1) (len:=1) (pv:= [(0,Z)]) (cs:= [Z]) (c:=(fun _=>Z)) Zi Z9 D (hf:=by obtain⟨_,_,_,_,rfl,_⟩:=aa;kernel_rfl)) ?_;rintro v3 w ⟨D,aj⟩
  refine zla (xap 1 (r:=I+1) Zi Z9 D (D.c7 4 rfl) (Xa _ _ _) (h1:=fun _ _ _=>aa.one)) ?_;rintro v4 w ⟨D,ae⟩
  replace D:=Sat.merge (l1:= [_,_]) (l2:= []) (l3:= [_]) D Oa
  have xd:=fun k (G:0<=k) (J:k<I+1)=>D.db 2 rfl G J
  refine zlv xas ?_
  replace D:=D.gj (vv':=gsn Y I Z) (ln':=fun _=>u) (f':=fun i j=>mf j i) 2 rfl (fun k G J=>by
    by_cases e:k<i
    · exact⟨rfl,Zp Oa,fun j _ _=>by rw [Zp Oa]⟩
    · have ah:k=i:=Oa
      refine⟨rfl,?_,fun b b0 b1=> ?_⟩
      · rw [Zq Oa]
      · rw [Zq Oa] at b1
        rw [Zq Oa,ah];unfold cpyI;rw [if_pos Oa];show g (b-(0:Nat)+F)=_;rw [show b-((0:Nat):Int)+F=i*u+b by omega];exact hg b b0 Oa i i0 Oa)
  have bl:=fun k (G:0<=k) (J:k<I+1)=>D.db 2 rfl G J
  refine zx10<|(zV (Zg (r:=i+1)))<|(zP)<|zln<|zlq ⟨I+1,gsn Y I Z,i+1,v4,rfl,Oa,Oa,Oa,?_,rfl,D.pk [0,1,2]⟩
  ·
   exact ae
 refine zx8<|(Om)<|zx1<|Oi ?_
 obtain rfl:i=n:=Oa
 subst af
 exact⟨_,_,rfl,ad,D.pk [1,2]⟩
theorem Zcv:Zc Oj 187=true:=Ob
theorem Zll:Zc Oj 188=true:=Ob
theorem Zlk:Zc Oj 189=true:=Ob
theorem Zlj:Zc Oj 190=true:=Ob
def Zd9(p:Prob)(u:Int)(mf:Of):Lp:=⟨u,p.m,p.d,fun _=>1,fun _=>u,fun i j=>mf j i,p.D⟩
def so0(p:Prob):So:=⟨0,p.m,fun _=>0,fun _=>0,0,1⟩
def Rh(p:Prob)(u:Int)(ml:Oe)(mf:Of):Prop:=p.Ok/\∀k,0<=k->k<u->ZU p (ml k) (mf k)
def MSolveR (p:Prob) (u:Int) (ml:Oe) (mf:Of) (s:So) (e:Int):Prop:=
  (¬Rh p u ml mf/\s=So.zero/\e=1)\/(Rh p u ml mf/\(16<p.m\/60<u)/\s=So.zero/\e=9)\/
    (Rh p u ml mf/\p.m<=16/\u<=60/\u=0/\(∃k,0<=k/\k<p.d/\0<p.D k)/\s=So.zero/\e=19)\/(Rh p u ml mf/\p.m<=16/\u<=60/\u=0/\(∀k,0<=k->k<p.d->p.D k<=0)/\s=so0 p/\e=0)\/
    (Rh p u ml mf/\p.m<=16/\u<=60/\1<=u/\SolveR (Zd9 p u mf) s e)
theorem c_msolve{vL vD:Value}{p:Prob}{vM:Value}{u:Int}{mv:Int->Value}{ml:Oe}{mf:Of}(w0:World)(h:PAt w0 vL vD p)(hM:MAt w0 vM u mv ml mf):
   Calls Oj 164 [.agg #[vL,vD,.int Oh p.b8,.int Oh p.bo],vM].toArray w0 fun e w=>∃v,e= .returned v/\∃Y vY s e,v= .tuple #[.agg #[Y,vY,.int Oh s.val,.int Oh s.den],.int Oh e]/\MSolveR p u ml mf s e/\Slh Y s.n/\Slh vY s.m/\Sat w0 w [.own Y 1 3 s.n (ints s.X),.own vY 1 3 s.m (ints s.Y)]:=by
 obtain⟨hm,ae,hd,hd1,hs,W⟩:=h.Oo
 have hu:=hM.row.cf.n0;have ab:=hM.row.cf.n1
 refine zenG Tryz.func164 Tryz.ntmps164 fun w D=> ?_
 refine zsr<|zla (xbx (cs:= [_,_,_,_]) D) ?_;rintro _ w ⟨g1,rfl,D⟩
 refine zla (xal (cs:= [_,_,_,_]) WM D) ?_;rintro _ w ⟨g2,rfl,D⟩
 refine(zP)<|zlt<|zsq<|zbk<|zsr<|(zV (xls 0 st_32 D))<|zlc (xc0 XZ) (Yn (p:=p) w (h.below D.below)) ?_;rintro _ w ⟨rfl,F⟩
 replace D:=D.cmp F;clear F
 refine(Om)<|zlb 10 ?_ ?_<;>intro hc
 ·
  iterate 3 refine zlo ?_
  refine(Om)<|zlt<|zct<|zsr ?_
  refine(zV (xany (v:= .agg #[Og,Og,.int Oh 0,.int Oh 0])))<|zle (xsw 1 ZN D) ?_;clear D;rintro w D
  refine(zP)<|Xt<|ZS 1 ZN D ⟨_,rfl,?_⟩
  exact⟨_,_,So.zero,1,rfl,.inl ⟨fun⟨h1,X⟩=>by
    first
    |exact absurd h1 ‹¬p.Ok›
    |exact hc (X q q0 Oa)
    |(obtain⟨k,G,I,W⟩:=‹∃k,0<=k/\k<u/\¬ZU p (ml k) (mf k)›;exact W (X k G I)),rfl,rfl⟩,slh_nil,slh_nil,((D.sub (.cons _ (.cons _ .slnil))).cg 1 3 (ints So.zero.X)).cg 1 3 (ints So.zero.Y)⟩
 refine(zP)<|(zV xmf)<|zlc (xc0 Zcw) (Zg8 (p:=p) (u:=u) (ml:=ml) (mf:=mf) w (D.holds _ (List.mem_of_getElem? (i:=0) rfl)) (h.below D.below) (hM.below D.below)) ?_;rintro _ w ⟨rfl,F⟩
 replace D:=D.cmp F;clear F
 refine(Om)<|zlt<|Ze ?_ ?_<;>intro hc
 ·
  refine zsr<|(zV (xany (v:= .agg #[Og,Og,.int Oh 0,.int Oh 0])))<|zle (xsw 1 ZN D) ?_;clear D;rintro w D
  refine(zP)<|Xt<|ZS 1 ZN D ⟨_,rfl,?_⟩
  exact⟨_,_,So.zero,1,rfl,.inl ⟨fun⟨h1,X⟩=>by
    first
    |exact absurd h1 ‹¬p.Ok›
    |exact hc (X q q0 Oa)
    |(obtain⟨k,G,I,W⟩:=‹∃k,0<=k/\k<u/\¬ZU p (ml k) (mf k)›;exact W (X k G I)),rfl,rfl⟩,slh_nil,slh_nil,((D.sub (.cons _ (.cons _ .slnil))).cg 1 3 (ints So.zero.X)).cg 1 3 (ints So.zero.Y)⟩
 refine zsr<|zlv (xfb 0 fd_32_0) ?_
 have J:p.Ok:=by first|assumption|exact Oc ‹_›
 have O:∀k,0<=k->k<u->ZU p (ml k) (mf k):=fun k G I=>Oc fun hh=>‹¬∃k,0<=k/\k<u/\¬ZU p (ml k) (mf k)› ⟨k,G,I,hh⟩
 have ad:=J.d;have ac:=J.m1;have qH:=J.m2
 refine(zV (xlb 0 pl_22 D))<|(zV (xln Zb h.L.cf))<|(Om)<|zlb 21 ?_ ?_<;>intro hc
 ·
  iterate 3 refine zlo ?_
  refine(Om)<|zlt<|zct<|zsr ?_
  refine(zV (xany (v:= .agg #[Og,Og,.int Oh 0,.int Oh 0])))<|zle (xsw 1 ZN D) ?_;clear D;rintro w D
  refine(zP)<|Xt<|ZS 1 ZN D ⟨_,rfl,?_⟩
  exact⟨_,_,So.zero,9,rfl,.inr (.inl ⟨⟨J,O⟩,Oa,rfl,rfl⟩),slh_nil,slh_nil,((D.sub (.cons _ (.cons _ .slnil))).cg 1 3 (ints So.zero.X)).cg 1 3 (ints So.zero.Y)⟩
 refine(zP)<|(zV (xln Zi hM.row.cf))<|(On)<|zlt<|Ze ?_ ?_<;>intro hc
 ·
  refine zsr<|(zV (xany (v:= .agg #[Og,Og,.int Oh 0,.int Oh 0])))<|zle (xsw 1 ZN D) ?_;clear D;rintro w D
  refine(zP)<|Xt<|ZS 1 ZN D ⟨_,rfl,?_⟩
  exact⟨_,_,So.zero,9,rfl,.inr (.inl ⟨⟨J,O⟩,Oa,rfl,rfl⟩),slh_nil,slh_nil,((D.sub (.cons _ (.cons _ .slnil))).cg 1 3 (ints So.zero.X)).cg 1 3 (ints So.zero.Y)⟩
 refine zsr<|(zP)<|(zV (xln Zi hM.row.cf))<|(Om)<|zlb 31 ?_ ?_<;>intro hc
 ·
  refine(zV (xfb 1 fd_32_1))<|(zV (xlb 0 pl_22 D))<|zlc (xc0 Zcv) (ZgV (n:=p.d) (f:=p.D) w (h.D.below D.below) Oa) ?_;rintro _ w ⟨x1,rfl,yO,y8,F⟩
  replace D:=D.cmp F;clear F
  refine(On)<|zlt<|Ze ?_ ?_<;>intro hc
  ·
   refine zsr<|(zV (xany (v:= .agg #[Og,Og,.int Oh 0,.int Oh 0])))<|zle (xsw 1 ZN D) ?_;clear D;rintro w D
   refine(zP)<|Xt<|ZS 1 ZN D ⟨_,rfl,?_⟩
   exact⟨_,_,So.zero,19,rfl,.inr (.inr (.inl ⟨⟨J,O⟩,Oa,Oa,Oa,by first|(obtain⟨k,G,I,W⟩:=yO;exact⟨k,G,I,Oa⟩)|exact⟨_,‹0<=j›,‹j<p.d›,‹_›⟩|exact⟨j,Oa,Oa,Oa⟩,rfl,rfl⟩)),slh_nil,slh_nil,((D.sub (.cons _ (.cons _ .slnil))).cg 1 3 (ints So.zero.X)).cg 1 3 (ints So.zero.Y)⟩
  refine zsr<|(zP)<|(zV (xln Zi hM.row.cf))<|(zV (xkt YT))<|(zP)<|zlt<|zct<|zsr ?_
  refine(zV (xfb 0 fd_32_0))<|(zV (xlb 0 pl_22 D))<|(zV (xln Zb h.L.cf))<|zla (xmk Zb Zm D) ?_;rintro v1 w ⟨D,U⟩
  refine zlv (xany (v:= .agg #[Og,v1,.int Oh 0,.int Oh 1]) (hr:=by obtain⟨_,_,_,_,rfl,_⟩:=U;kernel_rfl)) ?_
  refine zle (xsw 1 ZN D (hd:=(Za rfl (Za U.one (Za rfl (Za rfl Zh)))))) ?_;clear D;rintro w D
  refine(zP)<|Xt<|ZS 1 ZN D ⟨_,rfl,?_⟩
  exact⟨_,_,so0 p,0,rfl,.inr (.inr (.inr (.inl ⟨⟨J,O⟩,Oa,Oa,Oa,(fun k G I=>by first|(have:=y8 k G I;omega)|(have:=qa k G Oa;omega)),rfl,rfl⟩))),slh_nil,U,(D.cg 1 3 (ints fun _=>0)).pk [3,2]⟩
 iterate 4 refine zlo ?_
 refine(Om)<|zlt<|zcf<|zsr ?_
 refine(zP)<|(zV (xln Zi hM.row.cf))<|(Om)<|zlt<|Ze ?_ ?_<;>intro hc
 ·
  exfalso;omega
 refine zsk<|zbn<|ztn<|zsq<|zdst [0,1] [0] 16 mx_ D ?_;clear D;intro w D
 refine(zDw 1 xmv)<|(zDw 2 (xln Zi hM.row.cf))<|(zDw 4 xmv)<|(zDw 5 (xfb 0 fd_32_0))<|(zDl 6 (fun w D=>(xlb 0 pl_22 D)))<|(zDw 7 (xln Zb h.L.cf))<|(zDw 9 (xfb 1 fd_32_1))<|(zDl 10 (fun w D=>(xlb 0 pl_22 D)))<|zda 0 (xli (n:=1) (len:=1) (pv:= [(0,.int Oh 1)]) (cs:= [.int Oh 1]) (c:=ints (fun _=>1)) Zb Zm D) ?_;rintro v2 w ⟨D,aa⟩
 refine⟨⟨fun _=>D.pk [0,1],D.pk [0]⟩,?_⟩
 refine zdc 3 (xc0 Zlk) (ZgL (n:=u) w (D.c7 2 rfl) Oa) ?_;rintro eM w ⟨_,rfl,fu,F⟩
 replace D:=(D.comp F).n4;clear F
 refine⟨⟨fun _=>D.pk [0,1],D.pk [0]⟩,?_⟩
 refine zdc 8 (xc0 Zlj) (ZiG (n:=p.m) w (hM.below D.below) Oa Oa (fun k G I=>(O k G I).1.eq)) ?_;rintro dF w ⟨_,eZ,rfl,ft,F⟩
 replace D:=(D.comp F).n6;clear F
 have kw:=fun k (G:0<=k) (I:k<p.m)=>D.db 5 rfl G I
 refine⟨⟨fun _=>D.pk [0,1],D.pk [0]⟩,?_⟩
 refine zdc 11 (xc0 cl_65) (c_clone (n:=p.d) (f:=p.D) w (h.D.below D.below) Oa) ?_;rintro V w ⟨_,rfl,qs,F⟩
 replace D:=(D.comp F).n7;clear F
 refine⟨⟨fun _=>D.pk [0,1],D.pk [0]⟩,?_⟩
 refine zDrv 12 (xany (v:= .agg #[eM,dF,V]) (hr:=by obtain⟨_,_,_,_,rfl,_⟩:=fu;obtain⟨_,_,_,_,rfl,_⟩:=ft;obtain⟨_,_,_,_,rfl,_⟩:=qs;kernel_rfl)) ?_
 refine zdc 13 (xc0 Zll) (ZiK (p:=(⟨u,p.m,p.d,(fun _=>(fun _=>1) 0),(fun _=>u),(fun i j=>mf j i),p.D⟩:Lp)) w (⟨(D.c7 3 rfl),(⟨(D.c7 4 rfl),fun k G I=>D.fq 5 rfl G I,fun k G I=>D.gb 5 rfl G I⟩:MAt _ dF p.m eZ (fun _=>u) (fun i j=>mf j i)),(D.c7 6 rfl)⟩:LAt _ eM dF V eZ (⟨u,p.m,p.d,(fun _=>(fun _=>1) 0),(fun _=>u),(fun i j=>mf j i),p.D⟩:Lp))) ?_;rintro _ w ⟨ji,jh,Z,af,rfl,ck,ap,ao,F⟩
 replace D:=(D.comp F).n9;clear F
 refine⟨⟨fun _=>D.pk [0,1],D.pk [0]⟩,?_⟩
 refine(zDw 14 xex)<|(zDw 15 xex)<|zde 16 (xsw 1 ZN D (hd:=(Za ap.one (Za ao.one (Za rfl (Za rfl Zh)))))) ?_;clear D;rintro w D
 refine⟨⟨fun h=>absurd h (by decide),D.pk [0]⟩,?_⟩
 refine(zDw 17 xas)<|zdd<|ztn<|zrt<|ZS 1 ZN D ⟨_,rfl,?_⟩
 exact⟨_,_,Z,_,rfl,.inr (.inr (.inr (.inr ⟨⟨J,O⟩,Oa,Oa,Oa,ck⟩))),ap,ao,D.pk [7,8]⟩
theorem Zgj:Zc Oj 109=true:=Ob
theorem Zmc:Zc Oj 110=true:=Ob
theorem Zmb:Zc Oj 111=true:=Ob
theorem ZfS:ZV Oj 166=some (.agg #[Og,Og,Og],3,72):=Ob
theorem Zev{vL vD:Value}{p:Prob}{vM:Value}{u:Int}{mv:Int->Value}{ml:Oe}{mf:Of}(w0:World)(h:PAt w0 vL vD p)(hM:MAt w0 vM u mv ml mf)(Z:p.Ok)(aw:u<=60)(ao:∀k,0<=k->k<u->ml k=p.m):
   Calls Oj 111 [.agg #[vL,vD,.int Oh p.b8,.int Oh p.bo],vM].toArray w0 fun e w=>∃v,e= .returned v/\∃vc vA vb vq,v= .agg #[vc,vA,vb]/\Slh vc u/\Slh vA p.m/\Slh vb p.m/\Sat w0 w [.own vc 1 3 u (ints fun _=>1),.own vA 1 22 p.m vq,.own vb 1 3 p.m (ints p.D),.sem (Frame.rows 3 p.m vq (fun _=>u) (fun i j=>mf j i))]:=by
 obtain⟨hm,a1,hd,hd1,hs,hk⟩:=h.Oo
 have hu:=hM.row.cf.n0;have ax:=hM.row.cf.n1
 have az:=Z.d;have ay:=Z.m1;have qH:=Z.m2
 refine zenG Tryz.func111 Tryz.ntmps111 fun w D=> ?_
 refine zsr<|zla (xbx (cs:= [_,_,_,_]) D) ?_;rintro _ w ⟨g1,rfl,D⟩
 refine zla (xal (cs:= [_,_,_]) ZfS D) ?_;rintro _ w ⟨g2,rfl,D⟩
 refine zlz<|zla (xal (cs:= [_,_,_]) ZfS D) ?_;rintro _ w ⟨g3,rfl,D⟩
 refine zx5<|(zP)<|zx6 ?_
 replace D:=D.cg 1 3 (ints (fun _=>0))
 replace D:=D.cg 1 22 (fun _=>Og)
 replace D:=D.fa 3 (fun _=>Og) (fun _=>u) (fun i j=>mf j i)
 have yz:=fun k (F:0<=k) (G:k<0)=>D.db 5 rfl F G
 replace D:=D.cg 1 3 (ints (fun _=>0))
 refine zlp (fun X M w=>∃(J:Int) (O:Int) (V:Value) (fc:Oe),X=((u-O).toNat)/\(0<=O)/\(O<=u)/\(J=O)/\(∀k,0<=k->k<O->fc k=1)/\(Slh V J)/\M= [(1,vM),(2,Oq g1),(4,Oq g2),(5,Oq g3),(6,.int Oh O)]/\Sat w0 w [.blk g1 [vL,vD,.int Oh p.b8,.int Oh p.bo],.blk g2 [Og,Og,Og],.blk g3 [V,Og,Og],.own V 1 3 J (ints fc),.own Og 1 22 0 (fun _=>Og),.sem (Frame.rows 3 0 (fun _=>Og) (fun _=>u) (fun i j=>mf j i)),.own Og 1 3 0 (ints (fun _=>0))]) ⟨0,0,Og,(fun _=>0),rfl,Oa,Oa,Oa,?_,?_,rfl,D⟩ ?_
 ·
  intro k F G;omega
 ·
  exact slh_nil
 clear D w
 rintro X M w ⟨J,O,V,fc,rfl,a4,a3,al,ai,ab,rfl,D⟩
 refine zx11<|(Om)<|(zV (xln Zi hM.row.cf))<|(zP)<|zlt<|Ze ?_ ?_<;>intro hc
 ·
  refine zsk<|ztn<|zsq<|zbk<|zrg<|(zV (xfb 0 fd_166_0))<|(zV (xlb 2 pl_22 D))<|zla (xli (n:=1) (len:=1) (pv:= [(0,.int Oh 1)]) (cs:= [.int Oh 1]) (c:=ints (fun _=>1)) Zb Zm D) ?_;rintro v1 w ⟨D,av⟩
  refine zla (xap 3 (r:=J+1) Zb Zm D (D.c7 7 rfl) (Ya _ _ _)) ?_;rintro v2 w ⟨D,ag⟩
  refine(zV (xfb 0 fd_166_0))<|zle (xsb 2 pl_22 D (hv:=ag.one)) ?_;clear D;rintro w D
  refine zx10<|(zP)<|(zV (Zg (r:=O+1)))<|(zP)<|zln<|zlq ⟨J+1,O+1,v2,(snoc fc J 1),rfl,Oa,Oa,Oa,?_,?_,rfl,D.pk [0,1,2,3,4,5,6]⟩
  ·
   intro k F G;by_cases e:k<J
   · rw [Zl e];exact ai k F Oa
   · rw [Zk e]
  ·
   exact ag
 refine zx18<|(zP)<|zx6<|zlp (fun X M w=>∃(nb:Int) (I:Int) (Y:Int->Value) (i:Int) (wb:Value) (fb:Oe) (wC:Value),X=((p.m-i).toNat)/\(0<=i)/\(i<=p.m)/\(nb=i)/\(I=i)/\(∀k,0<=k->k<i->fb k=p.D k)/\(Slh wb nb)/\(Slh wC I)/\M= [(1,vM),(2,Oq g1),(4,Oq g2),(5,Oq g3),(7,.int Oh i)]/\Sat w0 w [.blk g1 [vL,vD,.int Oh p.b8,.int Oh p.bo],.blk g2 [Og,Og,Og],.blk g3 [V,wC,wb],.own V 1 3 J (ints fc),.own wC 1 22 I Y,.sem (Frame.rows 3 I Y (fun _=>u) (fun i j=>mf j i)),.own wb 1 3 nb (ints fb)]) ⟨0,0,(fun _=>Og),0,Og,(fun _=>0),Og,rfl,Oa,Oa,Oa,Oa,?_,?_,?_,rfl,D⟩ ?_
 ·
  intro k F G;omega
 ·
  exact slh_nil
 ·
  exact slh_nil
 clear D w
 rintro X M w ⟨nb,I,Y,i,wb,fb,wC,rfl,h0,h1,am,an,aj,ac,ad,rfl,D⟩
 have qG:=fun k (F:0<=k) (G:k<I)=>D.db 5 rfl F G
 refine zx11<|(zP)<|(zV (xfb 0 fd_24_0))<|(zV (xlb 0 pl_22 D))<|(zV (xln Zb h.L.cf))<|(zP)<|zlt<|Ze ?_ ?_<;>intro hc
 ·
  refine zx3<|(zP)<|zx5<|(zP)<|zx6 ?_
  replace D:=D.cg 1 3 (ints (fun _=>0))
  refine zlp (fun X M w=>∃(W:Int) (j:Int) (U:Value) (fr:Oe),X=((u-j).toNat)/\(0<=j)/\(j<=u)/\(W=j)/\(∀k,0<=k->k<j->fr k=mf k i)/\(Slh U W)/\M= [(1,vM),(2,Oq g1),(4,Oq g2),(5,Oq g3),(7,.int Oh i),(8,U),(9,.int Oh j)]/\Sat w0 w [.blk g1 [vL,vD,.int Oh p.b8,.int Oh p.bo],.blk g2 [Og,Og,Og],.blk g3 [V,wC,wb],.own V 1 3 J (ints fc),.own wC 1 22 I Y,.sem (Frame.rows 3 I Y (fun _=>u) (fun i j=>mf j i)),.own wb 1 3 nb (ints fb),.own U 1 3 W (ints fr)]) ⟨0,0,Og,(fun _=>0),rfl,Oa,Oa,Oa,?_,?_,rfl,D⟩ ?_
  ·
   intro k F G;omega
  ·
   exact slh_nil
  clear D w
  rintro X M w ⟨W,j,U,fr,rfl,j0,j1,a0,ah,aa,rfl,D⟩
  refine zx11<|(Om)<|(zV (xln Zi hM.row.cf))<|(zP)<|zlt<|Ze ?_ ?_<;>intro hc
  ·
   refine zsk<|ztn<|zsq<|zbk<|zrg<|zs3 ?_
   have k8:=ao j j0 Oa
   refine(zV (xix (kk:=j) Zi hM.row.cf))<|(zV (xlr (u:=(mv j)) pl_22 (hM.row.below D.below)))<|(zP)<|(zV (xix (kk:=i) Zb (hM.p j Oa Oa).cf))<|(zV (xlr (u:= .int Oh ((mf j) i)) pl_3 ((hM.p j Oa Oa).below D.below)))<|zla (xli (n:=1) (len:=1) (pv:= [(0,.int Oh ((mf j) i))]) (cs:= [.int Oh ((mf j) i)]) (c:=ints (fun _=>((mf j) i))) Zb Zm D) ?_;rintro v3 w ⟨D,au⟩
   refine zla (xap 7 (r:=W+1) Zb Zm D (D.c7 8 rfl) (Ya _ _ _)) ?_;rintro v4 w ⟨D,ak⟩
   refine(zP)<|zx10<|(zP)<|(zV (Zg (r:=j+1)))<|(zP)<|zln<|zlq ⟨W+1,j+1,v4,(snoc fr W ((mf j) i)),rfl,Oa,Oa,Oa,?_,?_,rfl,D.pk [0,1,2,3,4,5,6,7]⟩
   ·
    intro k F G;by_cases e:k<W
    · rw [Zl e];exact ah k F Oa
    · rw [Zk e];rw [show k=j by omega]
   ·
    exact ak
  refine zx8<|(zV (xfb 1 fd_166_1))<|(zV (xlb 2 Zs D))<|(zP)<|zla (xli (n:=1) (len:=1) (pv:= [(0,U)]) (cs:= [U]) (c:=(fun _=>U)) Zi Z9 D (hf:=by obtain⟨_,_,_,_,rfl,_⟩:=aa;kernel_rfl)) ?_;rintro v5 w ⟨D,ar⟩
  refine zla (xap 4 (r:=I+1) Zi Z9 D (D.c7 8 rfl) (Xa _ _ _) (h1:=fun _ _ _=>aa.one)) ?_;rintro v6 w ⟨D,af⟩
  replace D:=Sat.merge (l1:= [_,_,_,_,_]) (l2:= [_]) (l3:= [_]) D Oa
  have xd:=fun k (F:0<=k) (G:k<I+1)=>D.db 5 rfl F G
  refine(zV (xfb 1 fd_166_1))<|zle (xsb 2 Zs D (hv:=af.one)) ?_;clear D;rintro w D
  refine zlt<|zdst [0,1,2,3,4,5,7] [0,1,3,4,5,7] 10 mx_ D ?_;clear D;intro w D
  refine(zDw 0 (xfb 2 fd_166_2))<|zdl 1 (fun w D=>(xlb 2 pl_22 D)) ?_
  refine(zDw 2 (xfb 1 fd_24_1))<|(zDl 3 (fun w D=>(xlb 0 pl_22 D)))<|(zDw 4 xmv)<|(zDw 5 (xix (kk:=i) Zb h.D.cf))<|zdla 6 (fun w D=>(xlr (u:= .int Oh (p.D i)) pl_3 (h.D.below D.below))) ?_
  have a2:=h.iD i
  refine zda 7 (xli (n:=1) (len:=1) (pv:= [(0,.int Oh (p.D i))]) (cs:= [.int Oh (p.D i)]) (c:=ints (fun _=>p.D i)) Zb Zm D) ?_;rintro v7 w ⟨D,aq⟩
  refine⟨⟨fun _=>D.pk [0,1,2,3,4,5,7],D.pk [0,1,3,4,5,7]⟩,?_⟩
  refine zda 8 (xap 6 (r:=nb+1) Zb Zm D (D.c7 8 rfl) (Ya _ _ _)) ?_;rintro v8 w ⟨D,ae⟩
  refine⟨⟨fun _=>D.pk [0,1,2,3,4,5,7],D.pk [0,1,3,4,5,7]⟩,?_⟩
  refine(zDw 9 (xfb 2 fd_166_2))<|zde 10 (xsb 2 pl_22 D (hv:=ae.one)) ?_;clear D;rintro w D
  refine⟨⟨fun h=>absurd h (by decide),D.pk [0,1,3,4,5,7]⟩,?_⟩
  refine zdd<|zbn<|ztn<|zrg ?_
  refine(zP)<|(zV (Zg (r:=i+1)))<|(zP)<|zln ?_
  replace D:=D.gj (vv':=gsn Y I U) (ln':=fun _=>u) (f':=fun i j=>mf j i) 5 rfl (fun k F G=>by
    by_cases e:k<i
    · exact⟨rfl,Zp Oa,fun j _ _=>by rw [Zp Oa]⟩
    · have ap:k=i:=Oa
      refine⟨rfl,?_,fun b b0 b1=> ?_⟩
      · rw [Zq Oa];omega
      · rw [Zq Oa] at b1
        rw [Zq Oa,ap];exact ah b b0 Oa)
  have bl:=fun k (F:0<=k) (G:k<I+1)=>D.db 5 rfl F G
  refine zlq ⟨nb+1,I+1,gsn Y I U,i+1,v8,(snoc fb nb (p.D i)),v6,rfl,Oa,Oa,Oa,Oa,?_,?_,?_,rfl,D.pk [0,1,2,3,4,5,6]⟩
  ·
   intro k F G;by_cases e:k<nb
   · rw [Zl e];exact aj k F Oa
   · rw [Zk e];rw [show k=i by omega]
  ·
   exact ae
  ·
   exact af
 refine zx8<|(zV (xls 2 TC D))<|zle (xsw 1 TC D (hd:=(Za ab.one (Za ad.one (Za ac.one Zh))))) ?_;clear D;rintro w D
 refine zx1<|zfc 1 TC D ⟨_,rfl,?_⟩
 obtain rfl:i=p.m:=Oa
 obtain rfl:O=u:=Oa
 replace D:=D.gi 3 rfl (d:=ints fun _=>1) (fun k F G=>by unfold ints;rw [ai k F Oa])
 replace D:=D.gi 6 rfl (d:=ints p.D) (fun k F G=>by unfold ints;rw [aj k F Oa])
 subst al;subst an;subst am
 exact⟨_,_,_,_,rfl,ab,ad,ac,D.pk [3,4,6,5]⟩
theorem Zer{vL vD:Value}{p:Prob}{Z:Value}{u:Int}{mv:Int->Value}{ml:Oe}{mf:Of}(w0:World)(h:PAt w0 vL vD p)(hM:MAt w0 Z u mv ml mf):
   Calls Oj 75 [.agg #[vL,vD,.int Oh p.b8,.int Oh p.bo],Z].toArray w0 fun e w=>∃v,e= .returned v/\∃vX vY s e,v= .tuple #[.agg #[vX,vY,.int Oh s.val,.int Oh s.den],.int Oh e]/\MSolveR p u ml mf s e/\Slh vX s.n/\Slh vY s.m/\Sat w0 w [.own vX 1 3 s.n (ints s.X),.own vY 1 3 s.m (ints s.Y)]:=by
 obtain⟨hm,ag,hd,hd1,hs,U⟩:=h.Oo
 have hu:=hM.row.cf.n0;have ae:=hM.row.cf.n1
 refine zenG Tryz.func75 Tryz.ntmps75 fun w D=> ?_
 refine zsr<|zla (xbx (cs:= [_,_,_,_]) D) ?_;rintro _ w ⟨g1,rfl,D⟩
 refine zla (xal (cs:= [_,_,_,_]) Va D) ?_;rintro _ w ⟨g2,rfl,D⟩
 refine(zP)<|zx5<|(zV (xls 0 ZE D))<|zlc (xc0 Ut) (YB (p:=p) w (h.below D.below)) ?_;rintro _ w ⟨rfl,F⟩
 replace D:=D.cmp F;clear F
 refine(zP)<|zlt<|Ze ?_ ?_<;>intro hc
 ·
  refine zsr<|(zV (xany (v:= .agg #[Og,Og,.int Oh 0,.int Oh 0])))<|zle (xsw 1 st_85 D) ?_;clear D;rintro w D
  refine(zP)<|zx14<|ZS 1 st_85 D ⟨_,rfl,?_⟩
  exact⟨_,_,So.zero,1,rfl,.inl ⟨fun⟨h1,Y⟩=>by
    first
    |exact absurd h1 ‹¬p.Ok›
    |exact hc (Y q q0 Oa)
    |(obtain⟨k,G,I,U⟩:=‹∃k,0<=k/\k<u/\¬ZU p (ml k) (mf k)›;exact U (Y k G I)),rfl,rfl⟩,slh_nil,slh_nil,((D.sub (.cons _ (.cons _ .slnil))).cg 1 3 (ints So.zero.X)).cg 1 3 (ints So.zero.Y)⟩
 refine YL<|(zP)<|zx6 ?_
 have J:p.Ok:=by first|assumption|exact Oc ‹_›
 have ac:=J.d;have af:=J.m1;have qH:=J.m2
 refine zlp (fun W M w=>∃(q:Int),W=((u-q).toNat)/\(0<=q)/\(q<=u)/\(∀k,0<=k->k<q->ZU p (ml k) (mf k))/\M= [(1,Z),(2,Oq g1),(4,Oq g2),(6,.int Oh q)]/\Sat w0 w [.blk g1 [vL,vD,.int Oh p.b8,.int Oh p.bo],.blk g2 [Og,Og,.int Oh 0,.int Oh 0]]) ⟨0,rfl,Oa,Oa,?_,rfl,D⟩ ?_
 ·
  intro k G I;omega
 clear D w
 rintro W M w ⟨q,rfl,q0,q1,X,rfl,D⟩
 refine zx11<|(Om)<|(zV (xln Zi hM.row.cf))<|(zP)<|zlt<|Ze ?_ ?_<;>intro hc
 ·
  refine zx27<|zdst [0,1] [0,1] 1000 mx_ D ?_;clear D;intro w D
  refine(zDl 0 (fun w D=>(xls 0 ZE D)))<|(zDw 1 xmv)<|(zDw 2 xmv)<|(zDw 3 (xix (kk:=q) Zi hM.row.cf))<|(zDl 4 (fun w D=>(xlr (u:=(mv q)) pl_22 (hM.row.below D.below))))<|zdc 5 (xc0 Zgj) (U7 (p:=p) w (h.below D.below) ((hM.p q Oa Oa).below D.below)) ?_;rintro _ w ⟨rfl,F⟩
  replace D:=D.cmp F;clear F
  refine⟨⟨fun _=>D,D⟩,?_⟩
  refine(zDw 6 YH)<|zdd<|ztn ?_
  refine Ze ?_ ?_<;>intro hc
  ·
   refine zsr<|(zV (xany (v:= .agg #[Og,Og,.int Oh 0,.int Oh 0])))<|zle (xsw 1 st_85 D) ?_;clear D;rintro w D
   refine(zP)<|zx2<|ZS 1 st_85 D ⟨_,rfl,?_⟩
   exact⟨_,_,So.zero,1,rfl,.inl ⟨fun⟨h1,Y⟩=>by
     first
     |exact absurd h1 ‹¬p.Ok›
     |exact hc (Y q q0 Oa)
     |(obtain⟨k,G,I,U⟩:=‹∃k,0<=k/\k<u/\¬ZU p (ml k) (mf k)›;exact U (Y k G I)),rfl,rfl⟩,slh_nil,slh_nil,((D.sub (.cons _ (.cons _ .slnil))).cg 1 3 (ints So.zero.X)).cg 1 3 (ints So.zero.Y)⟩
  refine zx4<|(zP)<|(zV (Zg (r:=q+1)))<|(zP)<|zln<|zlq ⟨q+1,rfl,Oa,Oa,?_,rfl,D⟩
  ·
   have ab:ZU p (ml q) (mf q):=by first|assumption|exact Oc ‹_›
   intro k G I;rcases Int.lt_or_eq_of_le (show k<=q by omega) with U|U
   · exact X k G U
   · rw [U];exact ab
 refine zx18<|zlv (xfb 0 fd_24_0) ?_
 have O:∀k,0<=k->k<u->ZU p (ml k) (mf k):=fun k G I=>X k G Oa
 refine(zV (xlb 0 pl_22 D))<|(zV (xln Zb h.L.cf))<|(Om)<|zlb 30 ?_ ?_<;>intro hc
 ·
  iterate 3 refine zlo ?_
  refine(zP)<|zlt<|zct<|zsr ?_
  refine(zV (xany (v:= .agg #[Og,Og,.int Oh 0,.int Oh 0])))<|zle (xsw 1 st_85 D) ?_;clear D;rintro w D
  refine(zP)<|zx14<|ZS 1 st_85 D ⟨_,rfl,?_⟩
  exact⟨_,_,So.zero,9,rfl,.inr (.inl ⟨⟨J,O⟩,Oa,rfl,rfl⟩),slh_nil,slh_nil,((D.sub (.cons _ (.cons _ .slnil))).cg 1 3 (ints So.zero.X)).cg 1 3 (ints So.zero.Y)⟩
 refine(zP)<|(zV (xln Zi hM.row.cf))<|(Om)<|zlt<|Ze ?_ ?_<;>intro hc
 ·
  refine zsr<|(zV (xany (v:= .agg #[Og,Og,.int Oh 0,.int Oh 0])))<|zle (xsw 1 st_85 D) ?_;clear D;rintro w D
  refine(zP)<|zx14<|ZS 1 st_85 D ⟨_,rfl,?_⟩
  exact⟨_,_,So.zero,9,rfl,.inr (.inl ⟨⟨J,O⟩,Oa,rfl,rfl⟩),slh_nil,slh_nil,((D.sub (.cons _ (.cons _ .slnil))).cg 1 3 (ints So.zero.X)).cg 1 3 (ints So.zero.Y)⟩
 refine YL<|(zP)<|(zV (xln Zi hM.row.cf))<|(zP)<|zlt<|Ze ?_ ?_<;>intro hc
 ·
  refine zx11<|(zP)<|zx6<|zlp (fun W M w=>∃(j:Int),W=((p.d-j).toNat)/\(0<=j)/\(j<=p.d)/\(∀k,0<=k->k<j->p.D k<=0)/\M= [(1,Z),(2,Oq g1),(4,Oq g2),(7,.int Oh j)]/\Sat w0 w [.blk g1 [vL,vD,.int Oh p.b8,.int Oh p.bo],.blk g2 [Og,Og,.int Oh 0,.int Oh 0]]) ⟨0,rfl,Oa,Oa,?_,rfl,D⟩ ?_
  ·
   intro k G I;omega
  clear D w
  rintro W M w ⟨j,rfl,j0,j1,qa,rfl,D⟩
  refine zx11<|(zP)<|(zV (xfb 1 fd_24_1))<|(zV (xlb 0 pl_22 D))<|(zV (xln Zb h.D.cf))<|(zP)<|zlt<|Ze ?_ ?_<;>intro hc
  ·
   refine zx3<|(zV (xfb 1 fd_24_1))<|(zV (xlb 0 pl_22 D))<|(zP)<|(zV (xix (kk:=j) Zb h.D.cf))<|zlv (xlr (u:= .int Oh (p.D j)) pl_3 (h.D.below D.below)) ?_
   have ah:=h.iD j
   refine(zP)<|zlt<|Ze ?_ ?_<;>intro hc
   ·
    refine zsr<|(zV (xany (v:= .agg #[Og,Og,.int Oh 0,.int Oh 0])))<|zle (xsw 1 st_85 D) ?_;clear D;rintro w D
    refine(zP)<|zlt<|zrt<|zbr<|ztr<|ztr<|zbr<|ztr<|ztr<|ZS 1 st_85 D ⟨_,rfl,?_⟩
    exact⟨_,_,So.zero,19,rfl,.inr (.inr (.inl ⟨⟨J,O⟩,Oa,Oa,Oa,by first|(obtain⟨k,G,I,U⟩:=yO;exact⟨k,G,I,Oa⟩)|exact⟨_,‹0<=j›,‹j<p.d›,‹_›⟩|exact⟨j,Oa,Oa,Oa⟩,rfl,rfl⟩)),slh_nil,slh_nil,((D.sub (.cons _ (.cons _ .slnil))).cg 1 3 (ints So.zero.X)).cg 1 3 (ints So.zero.Y)⟩
   refine zx4<|(zP)<|(zV (Zg (r:=j+1)))<|(zP)<|zln<|zlq ⟨j+1,rfl,Oa,Oa,?_,rfl,D⟩
   ·
    intro k ad ai;rcases Int.lt_or_eq_of_le (show k<=j by omega) with U|U
    · exact qa k ad U
    · rw [U];omega
  refine zx8<|(zV (xfb 0 fd_24_0))<|(zV (xlb 0 pl_22 D))<|(zV (xln Zb h.L.cf))<|zla (xmk Zb Zm D) ?_;rintro v1 w ⟨D,V⟩
  refine zlv (xany (v:= .agg #[Og,v1,.int Oh 0,.int Oh 1]) (hr:=by obtain⟨_,_,_,_,rfl,_⟩:=V;kernel_rfl)) ?_
  refine zle (xsw 1 st_85 D (hd:=(Za rfl (Za V.one (Za rfl (Za rfl Zh)))))) ?_;clear D;rintro w D
  refine(zP)<|zx14<|ZS 1 st_85 D ⟨_,rfl,?_⟩
  exact⟨_,_,so0 p,0,rfl,.inr (.inr (.inr (.inl ⟨⟨J,O⟩,Oa,Oa,Oa,(fun k G I=>by first|(have:=y8 k G I;omega)|(have:=qa k G Oa;omega)),rfl,rfl⟩))),slh_nil,V,(D.cg 1 3 (ints fun _=>0)).pk [3,2]⟩
 refine ZM<|(zV (xls 0 ZE D))<|(zP)<|zlc (xc0 Zmb) (Zev (p:=p) w (h.below D.below) (hM.below D.below) J Oa (fun k G I=>(O k G I).1.eq)) ?_;rintro _ w ⟨fe,dg,ff,df,rfl,jI,jL,jK,F⟩
 replace D:=(D.comp F).n6;clear F
 have jH:=fun k (G:0<=k) (I:k<p.m)=>D.db 5 rfl G I
 refine zlc (xc0 Zmc) (ZgH (p:=(⟨u,p.m,p.m,(fun _=>1),(fun _=>u),(fun i j=>mf j i),p.D⟩:Lp)) w (⟨(D.c7 2 rfl),(⟨(D.c7 3 rfl),fun k G I=>D.fq 5 rfl G I,fun k G I=>D.gb 5 rfl G I⟩:MAt _ dg p.m df (fun _=>u) (fun i j=>mf j i)),(D.c7 4 rfl)⟩:LAt _ fe dg ff df (⟨u,p.m,p.m,(fun _=>1),(fun _=>u),(fun i j=>mf j i),p.D⟩:Lp))) ?_;rintro _ w ⟨ji,jh,aa,aj,rfl,ck,ap,ao,F⟩
 replace D:=(D.comp F).n8;clear F
 refine(Om)<|zle (xsw 1 st_85 D (hd:=(Za ap.one (Za ao.one (Za rfl (Za rfl Zh)))))) ?_;clear D;rintro w D
 refine(zP)<|zx1<|ZS 1 st_85 D ⟨_,rfl,?_⟩
 exact⟨_,_,aa,_,rfl,.inr (.inr (.inr (.inr ⟨⟨J,O⟩,Oa,Oa,Oa,(show Zd9 p u mf=⟨u,p.m,p.m,fun _=>1,fun _=>u,fun i j=>mf j i,p.D⟩ by unfold Zd9;rw [ac])▸ck⟩))),ap,ao,D.pk [6,7]⟩
theorem Zft{x y:Int}(D:0<=x)(F:0<y):Int.gcd y (x.tmod y)=Int.gcd x y:=by
 rw [Int.tmod_eq_emod_of_nonneg D]
 obtain⟨m,rfl⟩:=Int.eq_ofNat_of_zero_le D
 obtain⟨n,rfl⟩:=Int.eq_ofNat_of_zero_le (show 0<=y by omega)
 show Nat.gcd n (m%n)=Nat.gcd m n
 rw [Nat.gcd_comm,<-Nat.gcd_rec,Nat.gcd_comm]
theorem ZgE{I vb:Value}{n m:Int}{f g:Oe}(w0:World)(G:Row w0 I 1 n (ints f))(F:Row w0 vb 1 m (ints g)):
   Calls Oj 18 [I,vb].toArray w0 fun e w=>∃v,e= .returned v/\v=B (n=m/\∀k,0<=k->k<n->f k=g k)/\Sat w0 w []:=by
 have hn:=G.cf.n0;have aa:=F.cf.n1;have Z:=G.cf.n1
 refine zenG Tryz.func18 Tryz.ntmps18 fun w D=> ?_
 refine zsr<|(zP)<|zx5<|(zP)<|(zV (xln Zb G.cf))<|(zP)<|(zV (xln Zb F.cf))<|(zP)<|zlt<|Ze ?_ ?_<;>intro hc
 ·
  refine zsr<|(zP)<|zx14<|Oi ?_
  exact⟨false_B (by rintro⟨h1,O⟩;first|omega|exact absurd (O i V Oa) Oa),D⟩
 refine YL<|(zP)<|zx6<|zlp (fun X M w=>∃(i:Int),X=((n-i).toNat)/\(0<=i)/\(i<=n)/\(∀k,0<=k->k<i->f k=g k)/\M= [(0,I),(1,vb),(5,.int Oh i)]/\Sat w0 w []) ⟨0,rfl,Oa,Oa,?_,rfl,D⟩ ?_
 ·
  intro k V h1;omega
 clear D w
 rintro X M w ⟨i,rfl,V,h1,W,rfl,D⟩
 refine zx11<|(Om)<|(zV (xln Zb G.cf))<|(zP)<|zlt<|Ze ?_ ?_<;>intro hc
 ·
  refine zx27<|zdst [] [] 1000 mx_ D ?_;clear D;intro w D
  refine(zDw 0 xmv)<|(zDw 1 xmv)<|(zDw 2 (xix (kk:=i) Zb G.cf))<|(zDl 3 (fun w D=>(xlr (u:= .int Oh (f i)) pl_3 (G.below D.below))))<|(zDw 4 xmv)<|(zDw 5 xmv)<|(zDw 6 (xix (kk:=i) Zb F.cf))<|(zDl 7 (fun w D=>(xlr (u:= .int Oh (g i)) pl_3 (F.below D.below))))<|(zDw 8 YM)<|zdd<|ztn ?_
  refine Ze ?_ ?_<;>intro hc
  ·
   refine zsr<|(zP)<|zx2<|Oi ?_
   exact⟨false_B (by rintro⟨h1,O⟩;first|omega|exact absurd (O i V Oa) Oa),D⟩
  refine zx4<|(zP)<|(zV (Zg (r:=i+1)))<|(zP)<|zln<|zlq ⟨i+1,rfl,Oa,Oa,?_,rfl,D⟩
  ·
   intro k U ab;rcases Int.lt_or_eq_of_le (show k<=i by omega) with J|J;exact W k U J;rw [J];omega
 refine zx8<|(zP)<|zx1<|Oi ?_
 exact⟨ZT ⟨by omega,fun k Y k1=>W k Y Oa⟩,D⟩
theorem Zob{x y:Int}(w0:World)(W:0<=x/\x<=9223372036854775807)(U:0<=y/\y<=9223372036854775807):
   Calls Oj 211 [.int Oh x,.int Oh y].toArray w0 fun e w=>∃v,e= .returned v/\v= .int Oh (Int.gcd x y)/\Sat w0 w []:=by
 refine zenG Tryz.func211 Tryz.ntmps211 fun w F=> ?_
 refine zsr<|(zP)<|zlt<|zsq<|zbk<|zlp (fun I M w=>∃(D:Int) (y1:Int),I=y1.toNat/\(0<=D)/\(D<=9223372036854775807)/\(0<=y1)/\(y1<=9223372036854775807)/\(Int.gcd D y1=Int.gcd x y)/\M= [(0,.int Oh D),(1,.int Oh y1),(4,.int Oh 0)]/\Sat w0 w []) ⟨x,y,rfl,Oa,Oa,Oa,?_,?_,rfl,F⟩ ?_
 ·
  omega
 ·
  rfl
 clear F w
 rintro I M w ⟨D,y1,rfl,J,V,X,O,G,rfl,F⟩
 have htn:=Int.tmod_nonneg y1 J
 refine zx11<|(Om)<|zlt<|Ze ?_ ?_<;>intro hc
 ·
  refine zsk<|ztn<|zbk<|zdst [] [] 1000 mx_ F ?_;clear F;intro w F
  refine(zDw 0 xmv)<|(zDw 1 xmv)<|(zDw 2 xmv)<|(zDw 3 (KD (r:=(Int.tmod D y1))))<|(zDw 4 xas)<|(zDw 5 xas)<|zdd<|zbn<|zlq ⟨y1,(Int.tmod D y1),rfl,Oa,Oa,Oa,?_,?_,rfl,F⟩ (hlt:=(by have:=Int.tmod_lt_of_pos D (show 0<y1 by omega);omega))
  ·
   have:=Int.tmod_lt_of_pos D (show 0<y1 by omega);omega
  ·
   rw [Zft J Oa];exact G
 refine zx8<|(Om)<|zx1<|Oi ?_
 obtain rfl:y1=0:=Oa
 exact⟨by rw [<-G,Int.gcd_zero_right];congr 1;omega,F⟩
variable {x:Int} {f:Oe}
theorem Zk3:Zc Oj 212=true:=Ob
theorem fd_139_2:Zv Oj 139 2=some 2:=Ob
theorem fd_139_3:Zv Oj 139 3=some 3:=Ob
def Yj(s:So):Prop:=(1<=s.den/\s.den<=1073741824)/\(0<=s.val/\s.val<=1073741824)/\∀k,0<=k->k<s.n->0<=s.X k/\s.X k<=1073741824
def two(x y:Int):Oe:=fun k=> [x,y].getD k.toNat 0
theorem ZiB{n y:Int}(hn:0<=n):(∀k,0<=k->k<n->cat n f (two x y) k=f k)/\cat n f (two x y) n=x/\cat n f (two x y) (n+1)=y:=by
 refine⟨fun k F D=> ?_,?_,?_⟩
 · unfold cat;rw [if_pos D]
 · unfold cat;rw [if_neg Oa,Int.sub_self];rfl
 · unfold cat;rw [if_neg Oa,show n+1-n=1 by omega];rfl
theorem RC{s:So}(hn:0<=s.n)(U:∃k,0<=k/\k<s.n+2/\cat s.n s.X (two s.val s.den) k=x)(I:∀k,0<=k->k<s.n+2->cat s.n s.X (two s.val s.den) k<=x)(h1:1<=s.den)(W:0<=s.val)(V:¬∃k,0<=k/\k<s.n/\s.X k<0):x<=1073741824↔Yj s:=by
 obtain⟨J,Y,X⟩:=ZiB (n:=s.n) (x:=s.val) (y:=s.den) (f:=s.X) hn
 constructor
 · intro hx
   have a1:=I s.n hn Oa
   have a2:=I (s.n+1) Oa Oa
   exact⟨⟨h1,Oa⟩,⟨W,Oa⟩,fun k D F=>⟨Int.not_lt.1 fun O=>V ⟨k,D,F,O⟩,by have:=I k D Oa;rw [J k D F] at this;omega⟩⟩
 · rintro⟨b1,b2,Z⟩
   obtain⟨k,D,F,G⟩:=U
   by_cases e:k<s.n
   · rw [J k D e] at G;have:=Z k D e;omega
   · by_cases e2:k=s.n
     · rw [e2,Y] at G;omega
     · rw [show k=s.n+1 by omega,X] at G;omega
theorem Zn7(w0:World):
   Calls Oj 212 [.int Oh x].toArray w0 fun e w=>∃v,e= .returned v/\v=B (x<0)/\Sat w0 w []:=by
 refine zenG Tryz.func212 Tryz.ntmps212 fun w D=> ?_
 refine zsr<|(zP)<|zlz<|(On)<|zx1<|Oi ?_
 exact⟨Zn Oa,D⟩
theorem ZiY{v:Value}{n:Int}(w0:World)(G:Row w0 v 1 n (ints f)):
   Calls Oj 159 [v,.func (.func 212) #[] #[]].toArray w0 fun e w=>∃v,e= .returned v/\∃r:Int,v= .int Oh r/\((r= -1/\∀k,0<=k->k<n->¬(f k<0))\/(0<=r/\r<n/\(f r<0)))/\Sat w0 w []:=by
 have hn:=G.cf.n0;have W:=G.cf.n1
 refine zenG Tryz.func159 Tryz.ntmps159 fun w D=> ?_
 refine zsr<|(zP)<|zx5<|(zP)<|(zV (xln Zb G.cf))<|(zP)<|zx6<|zlp (fun V M w=>∃(i:Int),V=((n-i).toNat)/\(0<=i)/\(i<=n)/\(∀k,0<=k->k<i->¬(f k<0))/\M= [(0,v),(1,.func (.func 212) #[] #[]),(7,.int Oh n),(8,.int Oh i)]/\Sat w0 w []) ⟨0,rfl,Oa,Oa,?_,rfl,D⟩ ?_
 ·
  intro k O h1;omega
 clear D w
 rintro V M w ⟨i,rfl,O,h1,U,rfl,D⟩
 refine zsr<|(zP)<|zx7<|Ze ?_ ?_<;>intro hc
 ·
  refine zx3<|(Om)<|zlz<|(On)<|(zV (xix (kk:=i) Zb G.cf))<|(zV (xlr (u:= .int Oh (f i)) pl_3 (G.below D.below)))<|zlc (xc0 Zk3) (Zn7 (x:=(f i)) w) ?_;rintro _ w ⟨rfl,F⟩
  replace D:=D.cmp F;clear F
  refine zlt<|Ze ?_ ?_<;>intro hc
  ·
   refine zsr<|(Om)<|zx2<|Oi ?_
   exact⟨i,rfl,.inr ⟨by omega,Oa,‹f i<0›⟩,D⟩
  refine zx4<|(zV (Zg (r:=i+1)))<|(zP)<|zln<|zlq ⟨i+1,rfl,Oa,Oa,?_,rfl,D⟩
  ·
   intro k J X;rcases Int.lt_or_eq_of_le (show k<=i by omega) with I|I;exact U k J I;rw [I];assumption
 refine zx8<|(zP)<|zx1<|Oi ?_
 exact⟨-1,rfl,.inl ⟨rfl,fun k O h1=>U k O Oa⟩,D⟩
theorem ZdJ{v:Value}{n:Int}(w0:World)(I:Row w0 v 1 n (ints f)):
   Calls Oj 151 [v,.func (.func 212) #[] #[]].toArray w0 fun e w=>∃v,e= .returned v/\v=B (∃k,0<=k/\k<n/\(f k<0))/\Sat w0 w []:=by
 refine zenG Tryz.func151 Tryz.ntmps151 fun w F=> ?_
 refine zsr<|(zP)<|zlz<|(Om)<|zlc (xc0 Vc) (ZiY w (I.below F.below)) ?_;rintro _ w ⟨V,rfl,G,D⟩
 replace F:=F.cmp D;clear D
 refine(Om)<|zx1<|Oi ?_
 exact⟨Zn (by
  rcases G with⟨h1,h2⟩|⟨h1,h2,h3⟩
  · exact⟨fun h=>Oa,fun⟨k,U,O,J⟩=>absurd J (h2 k U O)⟩
  · exact⟨fun _=>⟨_,h1,h2,h3⟩,fun _=>h1⟩),F⟩
theorem Kl{vX vY:Value}{s:So}(w0:World)(J:Row w0 vX 1 s.n (ints s.X))(hY:Row w0 vY 1 s.m (ints s.Y))(ya:s.n<=1000):
   Calls Oj 194 [.agg #[vX,vY,.int Oh s.val,.int Oh s.den]].toArray w0 fun e w=>∃v,e= .returned v/\v=B (Yj s)/\Sat w0 w []:=by
 have hn:=J.cf.n0;have ab:=J.cf.n1
 refine zenG Tryz.func194 Tryz.ntmps194 fun w D=> ?_
 refine zsr<|zla (xbx (cs:= [_,_,_,_]) D) ?_;rintro _ w ⟨O,rfl,D⟩
 refine(zP)<|zx7<|zdst [0] [0] 1000 mx_ D ?_;clear D;intro w D
 refine(zDw 0 (xfb 0 fd_139_0))<|(zDl 1 (fun w D=>(xlb 0 pl_22 D)))<|(zDw 3 (xfb 2 fd_139_2))<|(zDl 4 (fun w D=>(xlb 0 pl_3 D)))<|(zDw 5 (xfb 3 fd_139_3))<|(zDl 6 (fun w D=>(xlb 0 pl_3 D)))<|Xk (r:= [2,7]) ((Z1 ?_ (Z1 ?_ Xj)))
 ·
  refine zkc (xc0 cl_65) (c_clone (n:=s.n) (f:=s.X) w (J.below D.below) Oa) ?_;rintro Y w ⟨_,rfl,qb,F⟩
  replace D:=(D.comp F).n2;clear F
  refine⟨⟨fun _=>D.pk [0],D.pk [0]⟩,?_⟩
  refine zda 7 (xli (n:=2) (len:=2) (pv:= [(0,.int Oh s.val),(1,.int Oh s.den)]) (cs:= [.int Oh s.val,.int Oh s.den]) (c:=ints (fun k=> [s.val,s.den].getD k.toNat 0)) Zb Zm D) ?_;rintro v1 w ⟨D,aa⟩
  refine⟨⟨fun _=>D.pk [0],D.pk [0]⟩,?_⟩
  refine zda 8 (xap 1 (r:=s.n+2) (f:=ints (cat s.n s.X (two s.val s.den))) Zb Zm D (D.c7 2 rfl) (by exact Zu _ _ _)) ?_;rintro v2 w ⟨D,Z⟩
  refine⟨⟨fun _=>D.pk [0],D.pk [0]⟩,?_⟩
  refine(zDw 9 xas)<|zdd<|ztn<|zsr ?_
  refine(zP)<|zlz<|(zV (xfb 3 fd_139_3))<|(zV (xlb 0 pl_3 D))<|(Om)<|zlb 17 ?_ ?_<;>intro hc
  ·
   refine(zV (xfb 2 fd_139_2))<|(zV (xlb 0 pl_3 D))<|(On)<|zlb 22 ?_ ?_<;>intro hc
   ·
    refine(zV (xfb 0 fd_139_0))<|(zV (xlb 0 pl_22 D))<|(zP)<|zlc (xc0 Vd) (ZdJ (n:=s.n) (f:=s.X) w (J.below D.below)) ?_;rintro _ w ⟨rfl,F⟩
    replace D:=D.cmp F;clear F
    refine(On)<|zlb 29 ?_ ?_<;>intro hc
    ·
     refine(zP)<|zlc (xc0 Zcv) (ZgV (n:=(s.n+2)) (f:=(cat s.n s.X (two s.val s.den))) w (D.c7 1 rfl) Oa) ?_;rintro _ w ⟨x1,rfl,W,X,F⟩
     replace D:=D.cmp F;clear F
     refine(On)<|zx1<|Oi ?_
     exact⟨Zn (RC hn W X Oa Oa (show¬(∃k,0<=k/\k<s.n/\s.X k<0) by first|assumption|exact fun hh=>absurd hh ‹_›)),D.nl⟩
    iterate 3 refine zlo ?_
    refine(Om)<|zx1<|Oi ?_
    exact⟨false_B (by rintro⟨O,V,g3⟩;first|omega|(obtain⟨k,I,G,U⟩:=(show∃k,0<=k/\k<s.n/\s.X k<0 by first|assumption|exact Oc (by assumption));have:=g3 k I G;omega)),D.nl⟩
   iterate 5 refine zlo ?_
   refine zs2 ?_
   iterate 3 refine zlo ?_
   refine(Om)<|zx1<|Oi ?_
   exact⟨false_B (by rintro⟨O,V,g3⟩;first|omega|(obtain⟨k,I,G,U⟩:=(show∃k,0<=k/\k<s.n/\s.X k<0 by first|assumption|exact Oc (by assumption));have:=g3 k I G;omega)),D.nl⟩
  iterate 3 refine zlo ?_
  refine zs2 ?_
  iterate 5 refine zlo ?_
  refine zs2 ?_
  iterate 3 refine zlo ?_
  refine(Om)<|zx1<|Oi ?_
  exact⟨false_B (by rintro⟨O,V,g3⟩;first|omega|(obtain⟨k,I,G,U⟩:=(show∃k,0<=k/\k<s.n/\s.X k<0 by first|assumption|exact Oc (by assumption));have:=g3 k I G;omega)),D.nl⟩
 refine zka (xli (n:=2) (len:=2) (pv:= [(0,.int Oh s.val),(1,.int Oh s.den)]) (cs:= [.int Oh s.val,.int Oh s.den]) (c:=ints (fun k=> [s.val,s.den].getD k.toNat 0)) Zb Zm D) ?_;rintro v1 w ⟨D,aa⟩
 refine⟨⟨fun _=>D.pk [0],D.pk [0]⟩,?_⟩
 refine zdc 2 (xc0 cl_65) (c_clone (n:=s.n) (f:=s.X) w (J.below D.below) Oa) ?_;rintro Y w ⟨_,rfl,qb,F⟩
 replace D:=(D.comp F).n3;clear F
 refine⟨⟨fun _=>D.pk [0],D.pk [0]⟩,?_⟩
 refine zda 8 (xap 2 (r:=s.n+2) (f:=ints (cat s.n s.X (two s.val s.den))) Zb Zm D (D.c7 1 rfl) (by exact Zu _ _ _)) ?_;rintro v2 w ⟨D,Z⟩
 refine⟨⟨fun _=>D.pk [0],D.pk [0]⟩,?_⟩
 refine(zDw 9 xas)<|zdd<|ztn<|zsr ?_
 refine(zP)<|zlz<|(zV (xfb 3 fd_139_3))<|(zV (xlb 0 pl_3 D))<|(Om)<|zlb 17 ?_ ?_<;>intro hc
 ·
  refine(zV (xfb 2 fd_139_2))<|(zV (xlb 0 pl_3 D))<|(On)<|zlb 22 ?_ ?_<;>intro hc
  ·
   refine(zV (xfb 0 fd_139_0))<|(zV (xlb 0 pl_22 D))<|(zP)<|zlc (xc0 Vd) (ZdJ (n:=s.n) (f:=s.X) w (J.below D.below)) ?_;rintro _ w ⟨rfl,F⟩
   replace D:=D.cmp F;clear F
   refine(On)<|zlb 29 ?_ ?_<;>intro hc
   ·
    refine(zP)<|zlc (xc0 Zcv) (ZgV (n:=(s.n+2)) (f:=(cat s.n s.X (two s.val s.den))) w (D.c7 2 rfl) Oa) ?_;rintro _ w ⟨x1,rfl,W,X,F⟩
    replace D:=D.cmp F;clear F
    refine(On)<|zx1<|Oi ?_
    exact⟨Zn (RC hn W X Oa Oa (show¬(∃k,0<=k/\k<s.n/\s.X k<0) by first|assumption|exact fun hh=>absurd hh ‹_›)),D.nl⟩
   iterate 3 refine zlo ?_
   refine(Om)<|zx1<|Oi ?_
   exact⟨false_B (by rintro⟨O,V,g3⟩;first|omega|(obtain⟨k,I,G,U⟩:=(show∃k,0<=k/\k<s.n/\s.X k<0 by first|assumption|exact Oc (by assumption));have:=g3 k I G;omega)),D.nl⟩
  iterate 5 refine zlo ?_
  refine zs2 ?_
  iterate 3 refine zlo ?_
  refine(Om)<|zx1<|Oi ?_
  exact⟨false_B (by rintro⟨O,V,g3⟩;first|omega|(obtain⟨k,I,G,U⟩:=(show∃k,0<=k/\k<s.n/\s.X k<0 by first|assumption|exact Oc (by assumption));have:=g3 k I G;omega)),D.nl⟩
 iterate 3 refine zlo ?_
 refine zs2 ?_
 iterate 5 refine zlo ?_
 refine zs2 ?_
 iterate 3 refine zlo ?_
 refine(Om)<|zx1<|Oi ?_
 exact⟨false_B (by rintro⟨O,V,g3⟩;first|omega|(obtain⟨k,I,G,U⟩:=(show∃k,0<=k/\k<s.n/\s.X k<0 by first|assumption|exact Oc (by assumption));have:=g3 k I G;omega)),D.nl⟩
end Go.Proofs.YtkichmnjjblodaaGreat
namespace Go.Proofs.YtkichmnjjblodaaGreat
open Go Go.RowKit Go.Proofs.Gw
theorem Zf6:Zc Oj 194=true:=Ob
theorem Zk4:Zc Oj 211=true:=Ob
theorem ZfR:ZV Oj 250=some (.agg #[.int Oh 0,.int Oh 0],2,16):=Ob
theorem fd_85_2:Zv Oj 85 2=some 2:=Ob
theorem fd_85_3:Zv Oj 85 3=some 3:=Ob
theorem TB:ZC Oj 250=some 2:=Ob
theorem Zfu{x y:Int}(F:0<=x)(D:1<=y):1<=(Int.gcd x y:Int):=by
 have:Int.gcd x y≠0:=fun h=>by have:=(Int.gcd_eq_zero_iff.1 h).2;omega
 omega
def ZoG(s:So)(x y e:Int):Prop:=(¬Yj s/\x=0/\y=0/\e=1)\/(Yj s/\x=s.val.tdiv (Int.gcd s.val s.den)/\y=s.den.tdiv (Int.gcd s.val s.den)/\e=0)
theorem T9{O vY:Value}{s:So}(w0:World)(F:Row w0 O 1 s.n (ints s.X))(hY:Row w0 vY 1 s.m (ints s.Y)):
   Calls Oj 142 [.agg #[O,vY,.int Oh s.val,.int Oh s.den]].toArray w0 fun e w=>∃v,e= .returned v/\v=B (Yj s)/\Sat w0 w []:=by
 have hn:=F.cf.n0;have aa:=F.cf.n1
 refine zenG Tryz.func142 Tryz.ntmps142 fun w D=> ?_
 refine zsr<|zla (xbx (cs:= [_,_,_,_]) D) ?_;rintro _ w ⟨G,rfl,D⟩
 refine(zP)<|zx5<|(zP)<|zx6<|zlp (fun X M w=>∃(i:Int),X=((s.n-i).toNat)/\(0<=i)/\(i<=s.n)/\(∀k,0<=k->k<i->0<=s.X k/\s.X k<=1073741824)/\M= [(1,Oq G),(3,.int Oh i)]/\Sat w0 w [.blk G [O,vY,.int Oh s.val,.int Oh s.den]]) ⟨0,rfl,Oa,Oa,?_,rfl,D⟩ ?_
 ·
  intro k Y Z;omega
 clear D w
 rintro X M w ⟨i,rfl,I,h1,W,rfl,D⟩
 refine zx11<|(zP)<|(zV (xfb 0 fd_85_0))<|(zV (xlb 0 pl_22 D))<|(zV (xln Zb F.cf))<|(zP)<|zlt<|Ze ?_ ?_<;>intro hc
 ·
  refine zx3<|(zV (xfb 0 fd_85_0))<|(zV (xlb 0 pl_22 D))<|(zP)<|(zV (xix (kk:=i) Zb F.cf))<|(zV (xlr (u:= .int Oh (s.X i)) pl_3 (F.below D.below)))<|(Om)<|zlb 17 ?_ ?_<;>intro hc
  ·
   iterate 6 refine zlo ?_
   refine(zP)<|zlt<|zct<|zsr ?_
   refine(zP)<|zx2<|Oi ?_
   exact⟨false_B (by rintro⟨G,J,g3⟩;first|omega|(have:=g3 i I Oa;omega)),D.nl⟩
  refine(zV (xfb 0 fd_85_0))<|(zV (xlb 0 pl_22 D))<|(zP)<|(zV (xix (kk:=i) Zb F.cf))<|(zV (xlr (u:= .int Oh (s.X i)) pl_3 (F.below D.below)))<|(Om)<|zlt<|Ze ?_ ?_<;>intro hc
  ·
   refine zsr<|(zP)<|zx2<|Oi ?_
   exact⟨false_B (by rintro⟨G,J,g3⟩;first|omega|(have:=g3 i I Oa;omega)),D.nl⟩
  refine zx4<|(zP)<|(zV (Zg (r:=i+1)))<|(zP)<|zln<|zlq ⟨i+1,rfl,Oa,Oa,?_,rfl,D⟩
  ·
   intro k V ab;rcases Int.lt_or_eq_of_le (show k<=i by omega) with U|U;exact W k V U;rw [U];omega
 refine zx8<|(zV (xfb 3 fd_85_3))<|(zV (xlb 0 pl_3 D))<|(Om)<|zlb 28 ?_ ?_<;>intro hc
 ·
  refine(zV (xfb 3 fd_85_3))<|(zV (xlb 0 pl_3 D))<|(On)<|zlb 33 ?_ ?_<;>intro hc
  ·
   refine(zV (xfb 2 fd_85_2))<|(zV (xlb 0 pl_3 D))<|(On)<|zlb 38 ?_ ?_<;>intro hc
   ·
    refine(zV (xfb 2 fd_85_2))<|(zV (xlb 0 pl_3 D))<|(On)<|zx1<|Oi ?_
    exact⟨Zn (by exact⟨fun hx=>⟨⟨by omega,Oa⟩,⟨by omega,Oa⟩,fun k Y Z=>W k Y Oa⟩,fun g=>by have:=g.2.1;omega⟩),D.nl⟩
   iterate 3 refine zlo ?_
   refine(Om)<|zx1<|Oi ?_
   exact⟨false_B (by rintro⟨G,J,g3⟩;first|omega|(have:=g3 i I Oa;omega)),D.nl⟩
  iterate 3 refine zlo ?_
  refine zs2 ?_
  iterate 3 refine zlo ?_
  refine(Om)<|zx1<|Oi ?_
  exact⟨false_B (by rintro⟨G,J,g3⟩;first|omega|(have:=g3 i I Oa;omega)),D.nl⟩
 iterate 3 refine zlo ?_
 refine zs2 ?_
 iterate 3 refine zlo ?_
 refine zs2 ?_
 iterate 3 refine zlo ?_
 refine(Om)<|zx1<|Oi ?_
 exact⟨false_B (by rintro⟨G,J,g3⟩;first|omega|(have:=g3 i I Oa;omega)),D.nl⟩
theorem Zem{O vY:Value}{s:So}(w0:World)(J:Row w0 O 1 s.n (ints s.X))(X:Row w0 vY 1 s.m (ints s.Y))(Y:s.n<=1000):
   Calls Oj 193 [.agg #[O,vY,.int Oh s.val,.int Oh s.den]].toArray w0 fun e w=>∃v,e= .returned v/\∃(x y e:Int),v= .tuple #[.agg #[.int Oh x,.int Oh y],.int Oh e]/\ZoG s x y e/\Sat w0 w []:=by
 have hn:=J.cf.n0;have W:=J.cf.n1
 refine zenG Tryz.func193 Tryz.ntmps193 fun w D=> ?_
 refine zsr<|zla (xbx (cs:= [_,_,_,_]) D) ?_;rintro _ w ⟨g1,rfl,D⟩
 refine zla (xal (cs:= [_,_]) ZfR D) ?_;rintro _ w ⟨Z,rfl,D⟩
 refine(zP)<|zx5<|(zV (xls 0 ZN D))<|zlc (xc0 Zf6) (Kl (s:=s) w (J.below D.below) (X.below D.below) Oa) ?_;rintro _ w ⟨rfl,F⟩
 replace D:=D.cmp F;clear F
 refine(zP)<|zlt<|Ze ?_ ?_<;>intro hc
 ·
  refine zsr<|(zV (xany (v:= .agg #[.int Oh 0,.int Oh 0])))<|zle (xsw 1 TB D) ?_;clear D;rintro w D
  refine(zP)<|zx14<|ZS 1 TB D ⟨_,rfl,?_⟩
  exact⟨0,0,1,rfl,.inl ⟨‹¬Yj s›,rfl,rfl,rfl⟩,D.nl⟩
 refine ZM<|zlv (xfb 2 fd_139_2) ?_
 have G:Yj s:=by first|assumption|exact Oc ‹_›
 obtain⟨⟨d1,d2⟩,⟨d3,d4⟩,d5⟩:=id G
 refine(zV (xlb 0 pl_3 D))<|(zV (xfb 3 fd_139_3))<|(zV (xlb 0 pl_3 D))<|zlc (xc0 Zk4) (Zob (x:=s.val) (y:=s.den) w Oa Oa) ?_;rintro _ w ⟨rfl,F⟩
 replace D:=D.cmp F;clear F
 refine zlv xas ?_
 have I:=Zfu (x:=s.val) (y:=s.den) Oa Oa
 have V:=YC (a:=s.val) (d:=(Int.gcd s.val s.den:Int)) (A:=9223372036854775807) I Oa
 have U:=YC (a:=s.den) (d:=(Int.gcd s.val s.den:Int)) (A:=9223372036854775807) I Oa
 refine zx7<|zdst [0,1] [0] 9 mx_ D ?_;clear D;intro w D
 refine(zDw 0 (xfb 2 fd_139_2))<|(zDl 1 (fun w D=>(xlb 0 pl_3 D)))<|(zDw 2 xmv)<|(zDw 3 (VC (r:=(Int.tdiv s.val (Int.gcd s.val s.den:Int)))))<|(zDw 4 (xfb 3 fd_139_3))<|(zDl 5 (fun w D=>(xlb 0 pl_3 D)))<|(zDw 6 xmv)<|(zDw 7 (VC (r:=(Int.tdiv s.den (Int.gcd s.val s.den:Int)))))<|(zDw 8 (xany (v:= .agg #[.int Oh (Int.tdiv s.val (Int.gcd s.val s.den:Int)),.int Oh (Int.tdiv s.den (Int.gcd s.val s.den:Int))])))<|zde 9 (xsw 1 TB D) ?_;clear D;rintro w D
 refine⟨⟨fun h=>absurd h (by decide),D.pk [0]⟩,?_⟩
 refine(zDw 10 xas)<|zdd<|ztn<|zrt<|ZS 1 TB D ⟨_,rfl,?_⟩
 exact⟨_,_,0,rfl,.inr ⟨G,rfl,rfl,rfl⟩,D.nl⟩
def WX(p:Prob)(i:Int):Oe:=fun j=>if j=i then min (p.D i) ((p.b8+p.bo).tdiv (p.L i+p.bo)) else 0
theorem Za8(p:Prob)(i:Int):upd (fun _=>0) i (min (p.D i) ((p.b8+p.bo).tdiv (p.L i+p.bo)))=WX p i:=by
 funext j;unfold upd WX;rfl
theorem Zn4{vL vD:Value}{p:Prob}{gp:Nat}{i:Int}(w0:World)(G:(Ent.blk gp [vL,vD,.int Oh p.b8,.int Oh p.bo]).holds w0)(h:PAt w0 vL vD p)(F:p.Ok)(U:0<=i)(O:i<p.m):
   Calls Oj 183 [.int Oh i,Oq gp].toArray w0 fun e w=>∃v,e= .returned v/\∃r,v=r/\Slh r p.m/\Sat w0 w [.own r 1 3 p.m (ints (WX p i))]:=by
 obtain⟨hm,aa,hd,hd1,hs,hk⟩:=h.Oo
 have Z:=F.d;have Y:=F.m1;have qH:=F.m2;have W:=F.s1;have V:=F.s2;have ac:=F.k1;have ab:=F.k2;have he:=F.all i U O;unfold Prob.each at he
 have X:=YC (a:=p.b8+p.bo) (d:=p.L i+p.bo) (A:=2100) Oa Oa
 refine zenG Tryz.func183 Tryz.ntmps183 fun w D=> ?_
 refine zsr<|(zP)<|zlz<|(zV (xfb 0 fd_32_0))<|(zV (xlf pl_22 (Ent.holds.cell G (o:=0) rfl) D))<|(zV (xln Zb h.L.cf))<|zla (xmk Zb Zm D) ?_;rintro v1 w ⟨D,I⟩
 refine(zP)<|zx7<|zdst [0] [] 23 mx_ D ?_;clear D;intro w D
 refine(zDw 0 xmv)<|(zDw 1 xmv)<|(zDw 2 (xfb 1 fd_32_1))<|(zDl 3 (fun w D=>(xlf pl_22 (Ent.holds.cell G (o:=1) rfl) D)))<|(zDw 4 xmv)<|(zDw 5 (xix (kk:=i) Zb h.D.cf))<|zdla 6 (fun w D=>(xlr (u:= .int Oh (p.D i)) pl_3 (h.D.below D.below))) ?_
 have J:=h.iD i
 refine(zDw 7 (xfb 2 fd_32_2))<|(zDl 8 (fun w D=>(xlf pl_3 (Ent.holds.cell G (o:=2) rfl) D)))<|(zDw 9 (xfb 3 fd_32_3))<|(zDl 10 (fun w D=>(xlf pl_3 (Ent.holds.cell G (o:=3) rfl) D)))<|(zDw 11 (Zg (r:=p.b8+p.bo)))<|(zDw 12 (xfb 0 fd_32_0))<|(zDl 13 (fun w D=>(xlf pl_22 (Ent.holds.cell G (o:=0) rfl) D)))<|(zDw 14 xmv)<|(zDw 15 (xix (kk:=i) Zb h.L.cf))<|zdla 16 (fun w D=>(xlr (u:= .int Oh (p.L i)) pl_3 (h.L.below D.below))) ?_
 have J:=h.iL i
 refine(zDw 17 (xfb 3 fd_32_3))<|(zDl 18 (fun w D=>(xlf pl_3 (Ent.holds.cell G (o:=3) rfl) D)))<|(zDw 19 (Zg (r:=p.L i+p.bo)))<|(zDw 20 (VC (r:=(Int.tdiv (p.b8+p.bo) (p.L i+p.bo)))))<|(zDw 21 (U9 (r:=(min (p.D i) (Int.tdiv (p.b8+p.bo) (p.L i+p.bo))))))<|(zDw 22 (xix (kk:=i) Zb I))<|zde 23 (xso 0 pl_3 D (Zy _ _ _)) ?_;clear D;rintro w D
 refine⟨⟨fun h=>absurd h (by decide),D.nl⟩,?_⟩
 refine zdd<|ztn<|zsr ?_
 refine(Om)<|zx1<|Oi ?_
 rw [Za8] at D
 exact⟨_,rfl,I,D⟩
variable {i:Int}
theorem Zln:Zc Oj 183=true:=Ob
def stN(p:Prob):Nat->Int
  |0=>0
  |k+1=>if 0<p.D k then stN p k+1 else stN p k
def stL(p:Prob):Nat->Int->Int
  |0=>fun _=>0
  |k+1=>if 0<p.D k then gsn (stL p k) (stN p k) p.m else stL p k
def stG(p:Prob):Nat->Int->Int->Int
  |0=>fun _ _=>0
  |k+1=>if 0<p.D k then gsn (stG p k) (stN p k) (WX p k) else stG p k
theorem VU(p:Prob)(h:0<=i):stN p (i+1).toNat=if 0<p.D i then stN p i.toNat+1 else stN p i.toNat:=by
 obtain⟨k,rfl⟩:=Int.eq_ofNat_of_zero_le h;rw [show((k:Int)+1).toNat=k+1 by omega,Int.toNat_natCast];rfl
theorem VV(p:Prob)(h:0<=i):stL p (i+1).toNat=if 0<p.D i then gsn (stL p i.toNat) (stN p i.toNat) p.m else stL p i.toNat:=by
 obtain⟨k,rfl⟩:=Int.eq_ofNat_of_zero_le h;rw [show((k:Int)+1).toNat=k+1 by omega,Int.toNat_natCast];rfl
theorem VW(p:Prob)(h:0<=i):stG p (i+1).toNat=if 0<p.D i then gsn (stG p i.toNat) (stN p i.toNat) (WX p i) else stG p i.toNat:=by
 obtain⟨k,rfl⟩:=Int.eq_ofNat_of_zero_le h;rw [show((k:Int)+1).toNat=k+1 by omega,Int.toNat_natCast];rfl
theorem Wy(p:Prob):∀k:Nat,0<=stN p k/\stN p k<=k
 |0=>by simp [stN]
 | k+1=>by
   have:=Wy p k
   simp only [stN];split<;>omega
def ZaD(p:Prob)(n:Int)(ln:Oe)(g:Of)(e:Int):Prop:=(¬p.Ok/\n=0/\e=1)\/(p.Ok/\n=stN p p.m.toNat/\ln=stL p p.m.toNat/\g=stG p p.m.toNat/\e=0)
theorem ZgU{vL vD:Value}{p:Prob}(w0:World)(h:PAt w0 vL vD p):
   Calls Oj 162 [.agg #[vL,vD,.int Oh p.b8,.int Oh p.bo]].toArray w0 fun e w=>∃v,e= .returned v/\∃r n vv ln g e,v= .tuple #[r,.int Oh e]/\ZaD p n ln g e/\Slh r n/\Sat w0 w [.own r 1 22 n vv,.sem (Frame.rows 3 n vv ln g)]:=by
 obtain⟨hm,ah,hd,hd1,hs,hk⟩:=h.Oo
 refine zenG Tryz.func162 Tryz.ntmps162 fun w D=> ?_
 refine zsr<|zla (xbx (cs:= [_,_,_,_]) D) ?_;rintro _ w ⟨g1,rfl,D⟩
 refine(Om)<|zx5<|(zV (xls 0 st_32 D))<|zlc (xc0 XZ) (Yn (p:=p) w (h.below D.below)) ?_;rintro _ w ⟨rfl,J⟩
 replace D:=D.cmp J;clear J
 refine(zP)<|zlt<|Ze ?_ ?_<;>intro hc
 ·
  refine zsr<|(Om)<|zx14<|zf2 ⟨_,rfl,?_⟩
  exact⟨_,0,fun _=>undef,fun _=>0,fun _ _=>0,1,rfl,.inl ⟨‹¬p.Ok›,rfl,rfl⟩,slh_nil,((D.sub (.cons _ .slnil)).cg 1 22 (fun _=>undef)).fa 3 (fun _=>undef) (fun _=>0) (fun _ _=>0)⟩
 refine ZM<|(zV xmf)<|(zP)<|zlz<|(zP)<|zx5<|(zV (xfb 1 fd_32_1))<|(zV (xlb 0 pl_22 D))<|(zV (xln Zb h.D.cf))<|(zP)<|zx6 ?_
 have I:p.Ok:=by first|assumption|exact Oc ‹_›
 have af:=I.d;have ae:=I.m1;have qH:=I.m2
 replace D:=D.cg 1 22 (fun _=>Og)
 replace D:=D.fa 3 (fun _=>Og) (fun _=>0) (fun _ _=>0)
 have yz:=fun k (k0:0<=k) (Z:k<0)=>D.db 2 rfl k0 Z
 refine zlp (fun mm M w=>∃(G:Int) (W:Int->Value) (Y:Oe) (gC:Of) (i:Int) (X:Value),mm=((p.d-i).toNat)/\(0<=i)/\(i<=p.d)/\(G=stN p i.toNat)/\(Y=stL p i.toNat)/\(gC=stG p i.toNat)/\(Slh X G)/\M= [(2,Og),(3,.int Oh 0),(4,.func (.func 183) #[] #[Oq g1]),(5,X),(13,vD),(14,.int Oh p.d),(15,.int Oh i)]/\Sat w0 w [.blk g1 [vL,vD,.int Oh p.b8,.int Oh p.bo],.own X 1 22 G W,.sem (Frame.rows 3 G W Y gC)]) ⟨0,(fun _=>Og),(fun _=>0),(fun _ _=>0),0,Og,rfl,Oa,Oa,?_,?_,?_,?_,rfl,D⟩ ?_
 ·
  rfl
 ·
  rfl
 ·
  rfl
 ·
  exact slh_nil
 clear D w
 rintro mm M w ⟨G,W,Y,gC,i,X,rfl,V,h1,F,O,U,aa,rfl,D⟩
 have qG:=fun k (k0:0<=k) (Z:k<G)=>D.db 2 rfl k0 Z
 have ag:=Wy p i.toNat
 refine zsr<|(zP)<|zx7<|Ze ?_ ?_<;>intro hc
 ·
  refine zx3<|(zP)<|(zV (xix (kk:=i) Zb h.D.cf))<|zlv (xlr (u:= .int Oh (p.D i)) pl_3 (h.D.below D.below)) ?_
  have ai:=h.iD i
  refine(Om)<|zlz<|(Om)<|zlt<|Ze ?_ ?_<;>intro hc
  ·
   refine zrg<|(On)<|zlc (xcc (vs:= [_]) Zln) (Zn4 (p:=p) (i:=i) w (D.holds _ (List.mem_of_getElem? (i:=0) rfl)) (h.below D.below) I Oa Oa) ?_;rintro cW w ⟨_,rfl,dk,J⟩
   replace D:=(D.comp J).n4;clear J
   refine zla (xli (n:=1) (len:=1) (pv:= [(0,cW)]) (cs:= [cW]) (c:=(fun _=>cW)) Zi Z9 D (hf:=by obtain⟨_,_,_,_,rfl,_⟩:=dk;kernel_rfl)) ?_;rintro v1 w ⟨D,ad⟩
   refine zla (xap 1 (r:=G+1) Zi Z9 D (D.c7 4 rfl) (Xa _ _ _) (h1:=fun _ _ _=>dk.one)) ?_;rintro v2 w ⟨D,ab⟩
   replace D:=Sat.merge (l1:= [_,_]) (l2:= []) (l3:= [_]) D Oa
   have xd:=fun k (k0:0<=k) (Z:k<G+1)=>D.db 2 rfl k0 Z
   refine(zP)<|zx10<|(zV (Zg (r:=i+1)))<|(zP)<|zln<|zlq ⟨G+1,gsn W G cW,gsn Y G p.m,gsn gC G (WX p i),i+1,v2,rfl,Oa,Oa,?_,?_,?_,?_,rfl,D.pk [0,1,2]⟩
   ·
    rw [VU p V,<-F];first|rw [if_pos Oa]|rw [if_neg Oa]
   ·
    rw [VV p V,<-O,<-F];first|rw [if_pos Oa]|rw [if_neg Oa]
   ·
    rw [VW p V,<-U,<-F];first|rw [if_pos Oa]|rw [if_neg Oa]
   ·
    exact ab
  refine zx4<|(zV (Zg (r:=i+1)))<|(zP)<|zln<|zlq ⟨G,W,Y,gC,i+1,X,rfl,Oa,Oa,?_,?_,?_,?_,rfl,D⟩
  ·
   rw [VU p V,<-F];first|rw [if_pos Oa]|rw [if_neg Oa]
  ·
   rw [VV p V,<-O,<-F];first|rw [if_pos Oa]|rw [if_neg Oa]
  ·
   rw [VW p V,<-U,<-F];first|rw [if_pos Oa]|rw [if_neg Oa]
  ·
   exact aa
 refine zx8<|(On)<|zx1<|zf2 ⟨_,rfl,?_⟩
 have ac:i=p.m:=Oa
 rw [ac] at F O U
 exact⟨_,_,_,_,_,0,rfl,.inr ⟨I,F,O,U,rfl⟩,aa,D.pk [1,2]⟩
end Go.Proofs.YtkichmnjjblodaaGreat
namespace Go.Proofs.YtkichmnjjblodaaGreat
open Go Go.RowKit Go.Proofs.Gw
theorem ZhZ{p:Prob}(D:p.Ok){i:Int}(G:0<=i)(F:i<p.m):0<WX p i i↔0<p.D i:=by
 have I:=D.all i G F
 unfold Prob.each at I
 have O:=D.k1
 have J:1<=(p.b8+p.bo).tdiv (p.L i+p.bo):=by
   rw [Int.tdiv_eq_ediv_of_nonneg Oa]
   exact(Int.le_ediv_iff_mul_le Oa).2 Oa
 unfold WX;rw [if_pos rfl];omega
theorem Zeq{vL vD:Value}{p:Prob}(w0:World)(h:PAt w0 vL vD p):
   Calls Oj 74 [.agg #[vL,vD,.int Oh p.b8,.int Oh p.bo]].toArray w0 fun e w=>∃v,e= .returned v/\∃r n vv ln g e,v= .tuple #[r,.int Oh e]/\ZaD p n ln g e/\Slh r n/\Sat w0 w [.own r 1 22 n vv,.sem (Frame.rows 3 n vv ln g)]:=by
 obtain⟨hm,an,hd,hd1,hs,hk⟩:=h.Oo
 refine zenG Tryz.func74 Tryz.ntmps74 fun w D=> ?_
 refine zsr<|zla (xbx (cs:= [_,_,_,_]) D) ?_;rintro _ w ⟨g1,rfl,D⟩
 refine(Om)<|zx5<|(zV (xls 0 ZE D))<|zlc (xc0 Ut) (YB (p:=p) w (h.below D.below)) ?_;rintro _ w ⟨rfl,ab⟩
 replace D:=D.cmp ab;clear ab
 refine(zP)<|zlt<|Ze ?_ ?_<;>intro hc
 ·
  refine zsr<|(Om)<|zx14<|zf2 ⟨_,rfl,?_⟩
  exact⟨_,0,fun _=>undef,fun _=>0,fun _ _=>0,1,rfl,.inl ⟨‹¬p.Ok›,rfl,rfl⟩,slh_nil,((D.sub (.cons _ .slnil)).cg 1 22 (fun _=>undef)).fa 3 (fun _=>undef) (fun _=>0) (fun _ _=>0)⟩
 refine ZM<|(zP)<|zx5<|(zP)<|zx6 ?_
 have F:p.Ok:=by first|assumption|exact Oc ‹_›
 have ak:=F.d;have aj:=F.m1;have qH:=F.m2
 replace D:=D.cg 1 22 (fun _=>Og)
 replace D:=D.fa 3 (fun _=>Og) (fun _=>0) (fun _ _=>0)
 have yz:=fun k (k0:0<=k) (Z:k<0)=>D.db 2 rfl k0 Z
 refine zlp (fun mm M w=>∃(I:Int) (W:Int->Value) (Y:Oe) (gC:Of) (i:Int) (X:Value),mm=((p.m-i).toNat)/\(0<=i)/\(i<=p.m)/\(I=stN p i.toNat)/\(Y=stL p i.toNat)/\(gC=stG p i.toNat)/\(Slh X I)/\M= [(1,Oq g1),(2,Og),(3,.int Oh 0),(4,X),(5,.int Oh i)]/\Sat w0 w [.blk g1 [vL,vD,.int Oh p.b8,.int Oh p.bo],.own X 1 22 I W,.sem (Frame.rows 3 I W Y gC)]) ⟨0,(fun _=>Og),(fun _=>0),(fun _ _=>0),0,Og,rfl,Oa,Oa,?_,?_,?_,?_,rfl,D⟩ ?_
 ·
  rfl
 ·
  rfl
 ·
  rfl
 ·
  exact slh_nil
 clear D w
 rintro mm M w ⟨I,W,Y,gC,i,X,rfl,V,h1,G,O,U,aa,rfl,D⟩
 have qG:=fun k (k0:0<=k) (Z:k<I)=>D.db 2 rfl k0 Z
 have am:=Wy p i.toNat
 refine zx11<|(zP)<|(zV (xfb 0 fd_24_0))<|(zV (xlb 0 pl_22 D))<|(zV (xln Zb h.L.cf))<|(zP)<|zlt<|Ze ?_ ?_<;>intro hc
 ·
  refine zx3<|(zV (xfb 0 fd_24_0))<|(zV (xlb 0 pl_22 D))<|(zV (xln Zb h.L.cf))<|zla (xmk Zb Zm D) ?_;rintro v1 w ⟨D,J⟩
  refine(zP)<|zx7<|zdst [0,1,2,3] [0,1,2] 23 mx_ D ?_;clear D;intro w D
  refine zDrv 0 xmv ?_
  have ah:=F.s1;have ag:=F.s2;have ap:=F.k1;have ao:=F.k2;have he:=F.all i V Oa;unfold Prob.each at he
  have ai:=YC (a:=p.b8+p.bo) (d:=p.L i+p.bo) (A:=2100) Oa Oa
  refine(zDw 1 xmv)<|(zDw 2 (xfb 1 fd_24_1))<|(zDl 3 (fun w D=>(xlb 0 pl_22 D)))<|(zDw 4 xmv)<|(zDw 5 (xix (kk:=i) Zb h.D.cf))<|zdla 6 (fun w D=>(xlr (u:= .int Oh (p.D i)) pl_3 (h.D.below D.below))) ?_
  have ae:=h.iD i
  refine(zDw 7 (xfb 2 fd_24_2))<|(zDl 8 (fun w D=>(xlb 0 pl_3 D)))<|(zDw 9 (xfb 3 fd_24_3))<|(zDl 10 (fun w D=>(xlb 0 pl_3 D)))<|(zDw 11 (Zg (r:=p.b8+p.bo)))<|(zDw 12 (xfb 0 fd_24_0))<|(zDl 13 (fun w D=>(xlb 0 pl_22 D)))<|(zDw 14 xmv)<|(zDw 15 (xix (kk:=i) Zb h.L.cf))<|zdla 16 (fun w D=>(xlr (u:= .int Oh (p.L i)) pl_3 (h.L.below D.below))) ?_
  have ae:=h.iL i
  refine(zDw 17 (xfb 3 fd_24_3))<|(zDl 18 (fun w D=>(xlb 0 pl_3 D)))<|(zDw 19 (Zg (r:=p.L i+p.bo)))<|(zDw 20 (VC (r:=(Int.tdiv (p.b8+p.bo) (p.L i+p.bo)))))<|(zDw 21 (U9 (r:=(min (p.D i) (Int.tdiv (p.b8+p.bo) (p.L i+p.bo))))))<|(zDw 22 (xix (kk:=i) Zb J))<|zde 23 (xso 3 pl_3 D (Zy _ _ _)) ?_;clear D;rintro w D
  refine⟨⟨fun h=>absurd h (by decide),D.pk [0,1,2]⟩,?_⟩
  refine zdd<|ztn<|zsr ?_
  refine zlv xmv ?_
  rw [Za8] at D
  have al:=ZhZ F V (by omega:i<p.m)
  refine(zP)<|(zV (xix (kk:=i) Zb J))<|(zV (xlr (u:= .int Oh (WX p i i)) pl_3 (D.c7 3 rfl)))<|(zP)<|zlt<|Ze ?_ ?_<;>intro hc
  ·
   refine zrg<|(Om)<|zla (xli (n:=1) (len:=1) (pv:= [(0,v1)]) (cs:= [v1]) (c:=(fun _=>v1)) Zi Z9 D (hf:=by obtain⟨_,_,_,_,rfl,_⟩:=J;kernel_rfl)) ?_;rintro v2 w ⟨D,af⟩
   refine zla (xap 1 (r:=I+1) Zi Z9 D (D.c7 4 rfl) (Xa _ _ _) (h1:=fun _ _ _=>J.one)) ?_;rintro v3 w ⟨D,ac⟩
   replace D:=Sat.merge (l1:= [_,_]) (l2:= []) (l3:= [_]) D Oa
   have xd:=fun k (k0:0<=k) (Z:k<I+1)=>D.db 2 rfl k0 Z
   refine(zP)<|zx10<|(zP)<|(zV (Zg (r:=i+1)))<|(zP)<|zln<|zlq ⟨I+1,gsn W I v1,gsn Y I p.m,gsn gC I (WX p i),i+1,v3,rfl,Oa,Oa,?_,?_,?_,?_,rfl,D.pk [0,1,2]⟩
   ·
    rw [VU p V,<-G];first|rw [if_pos Oa]|rw [if_neg Oa]
   ·
    rw [VV p V,<-O,<-G];first|rw [if_pos Oa]|rw [if_neg Oa]
   ·
    rw [VW p V,<-U,<-G];first|rw [if_pos Oa]|rw [if_neg Oa]
   ·
    exact ac
  refine zx4<|(zP)<|(zV (Zg (r:=i+1)))<|(zP)<|zln<|zlq ⟨I,W,Y,gC,i+1,X,rfl,Oa,Oa,?_,?_,?_,?_,rfl,D.pk [0,1,2]⟩
  ·
   rw [VU p V,<-G];first|rw [if_pos Oa]|rw [if_neg Oa]
  ·
   rw [VV p V,<-O,<-G];first|rw [if_pos Oa]|rw [if_neg Oa]
  ·
   rw [VW p V,<-U,<-G];first|rw [if_pos Oa]|rw [if_neg Oa]
  ·
   exact aa
 refine zx8<|(On)<|zx1<|zf2 ⟨_,rfl,?_⟩
 have ad:i=p.m:=Oa
 rw [ad] at G O U
 exact⟨_,_,_,_,_,0,rfl,.inr ⟨F,G,O,U,rfl⟩,aa,D.pk [1,2]⟩
end Go.Proofs.YtkichmnjjblodaaGreat
namespace Go.Proofs.Gw
open Go Go.RowKit
theorem ZG(pv:Int->Value)(cnt:Oe){k i:Int}(h:k=2*i):∀(j:Nat) u, [pv i,Value.int Oh (cnt i)][j]? =some u->Zd pv cnt (k+j)=u:=fun j u D=>by
 rcases j with _|_|j
 · cases D;exact Y9 pv cnt Oa
 · cases D;exact Y8 pv cnt Oa
 · simp at D
theorem ZK{pv:Int->Value}{cnt:Oe}(h:∀i,(pv i).oneCell'=true)(k:Int):(Zd pv cnt k).oneCell'=true:=by
 unfold Zd
 split
 · exact h _
 · rfl
theorem Ym(pv:Int->Value)(cnt:Oe)(n:Int)(r:Value)(x:Int):cat (n*2) (Zd pv cnt) (Zd (fun _=>r) (fun _=>x))=Zd (gsn pv n r) (snoc cnt n x):=by
 funext k
 unfold cat Zd gsn snoc
 by_cases h:k<n*2
 · have D:k/2<n:=Oa
   simp only [if_pos h,if_pos D]
 · have D:¬k/2<n:=Oa
   simp only [if_neg h,if_neg D]
   by_cases e:k%2=0
   · rw [if_pos e,if_pos Oa]
   · rw [if_neg e,if_neg Oa]
theorem WZ(pv:Int->Value)(cnt:Oe){k i x:Int}(h:k=2*i+1):upd (Zd pv cnt) k (.int Oh x)=Zd pv (upd cnt i x):=by
 funext j;unfold upd Zd;dsimp only
 by_cases e:j=k
 · rw [if_pos e,if_neg Oa,if_pos Oa]
 · rw [if_neg e]
   by_cases e0:j%2=0
   · rw [if_pos e0,if_pos e0]
   · rw [if_neg e0,if_neg e0,if_neg Oa]
structure VAt (w:World) (v:Value) (n:Int) (pv:Int->Value) (ln:Oe) (pt:Of) (cnt:Oe):Prop where
  row:Row w v 2 n (Zd pv cnt)
  p:∀i,0<=i->i<n->Row w (pv i) 1 (ln i) (ints (pt i))
  room:∀i,0<=i->i<n->X2 (pv i)
theorem VAt.below{w w':World}{v:Value}{n:Int}{pv:Int->Value}{ln:Oe}{pt:Of}{cnt:Oe}(h:VAt w v n pv ln pt cnt)(D:Below w.heap.size w w'):VAt w' v n pv ln pt cnt:=
 ⟨h.row.below D,fun i F h1=>(h.p i F h1).below D,h.room⟩
end Go.Proofs.Gw
