import Derived.Test.YtpnamgfdakfccaaGreatTmG
import Derived.Test.YtpnamgfdakfccaaGreatProg
import Derived.ProofKit
import Derived.OpenShut
import Derived.ChangeOld
import Derived.SizedLaws
import Derived.Lib.SmallJoins
import Derived.Deep.Slices
set_option linter.unusedVariables false
set_option linter.unusedSimpArgs false
set_option maxRecDepth 20000
set_option maxHeartbeats 4000000
namespace Go.Proofs.YtpnamgfdakfccaaGreat
open Go Go.RowKit Go.Proofs.Gw Go.Proofs.Ev
noncomputable def kpT(f:Nat):Nat:=Option.rec 0 (fun v=>v) (Go.Proofs.Ev.look [(6,255),(20,67108895),(21,633825302779092824621803232767),(22,2155618163),(23,8255),(24,27),(25,590300050076570014079),(45,23),(46,8590180735),(47,34359753981),(48,783),(49,19),(50,19),(51,15965),(52,4302962035),(53,31),(54,19),(55,11),(56,2239790331),(57,7),(58,4835703296969896544436733),(59,119),(60,69090643),(98,41904174945551653455341040668835947270620825710919647),(99,455),(100,55),(101,127),(102,66491),(103,134349427),(104,31),(105,21),(106,66483),(107,42535296023574879666274036850519702559),(108,5),(109,277027520455),(110,2269392032235773),(111,7),(112,13),(113,1254522720446663102451),(114,4358870495),(115,127),(116,549755937119),(117,31),(118,31),(119,66483),(120,23),(121,19),(122,1079827),(123,5),(124,1021),(125,19),(126,19),(127,7997),(128,31),(129,19),(130,31),(131,155),(147,66483),(173,62047),(174,223),(175,491823),(176,7897471),(177,66491),(178,15),(179,537399539),(180,11),(181,11),(182,604275),(183,31),(184,31),(185,17389),(186,17179886351),(187,8592039695),(188,35218731966223),(189,1333065575601045263),(190,33551),(191,21268317252094917911888073248812900111),(192,1217485249602318769183),(193,22997644815212700899627017342834150232570911),(194,277),(195,16661),(196,5),(197,7),(198,504373101),(199,1021),(200,23),(201,3),(202,63),(203,31),(204,223),(205,19),(206,19),(207,1967),(208,31),(209,159),(210,1180596265054542884863),(211,37439),(212,127),(213,7),(214,97654233660270262109953253766531127628137471),(215,66483),(216,42090112451430381175343947643),(217,7),(227,17179886351),(247,157),(248,19),(249,70368761188343),(250,19),(251,70368744178639),(252,32775),(253,5),(254,288231475663604767),(255,5),(256,5),(257,271),(258,4159),(259,7),(260,65619),(261,18014433942971335),(262,66483),(263,1484326079),(264,63),(265,31),(266,7),(267,10384593717069656409982772143259615),(268,7),(269,31),(270,7),(271,15),(296,19),(297,15),(298,1439),(299,270191),(300,42535296023574879666274036850519702559),(301,4197407),(302,17179886351),(303,13164839976634628298295110780136696778032692856359452003713154079),(304,1835325),(305,31),(306,83),(307,4119),(315,66483),(316,67108895),(317,8592039695),(318,35218731966223),(319,1333065575601045263),(320,33551),(321,21268317252094917911888073248812900111),(322,1217485249602318769183),(323,22997644815212700899627017342834150232570911),(324,9440287),(335,288231475663604767),(336,271),(337,4159),(338,9247),(342,4197407)] f)
noncomputable def x0T:X:=⟨(T.mk 13).set 0 (some (.cells [.int Oi 0,.int Oi 0,.int Oi 2,.int Oi 0,.int Oi 2,.int Oi 2,.int Oi 0,.int Oi 2] 73 none)),1⟩
noncomputable def mRv:Memo:=⟨[.s 0 0 4 4],1,x0T,.bool true, [],640⟩
noncomputable def MsT(f:Nat):List Memo:=Bool.rec [] [mRv] (Nat.beq f 58)
theorem ZoI:Tryz.prog.follows .mixedOrders=true:=Oc
theorem Zjs:chkM (kit Om kpT 100000 60) 58 mRv=true:=Oc
theorem Zok(f:Nat)(M:Memo)(h:M∈MsT f):Ev.MOk Om f M:=by
 unfold MsT at h
 cases hb:Nat.beq f 58 with
 |false=>rw [hb] at h;cases h
 | true=>
   rw [hb] at h
   obtain rfl:M=mRv:=by simpa using h
   rw [show f=58 from Nat.eq_of_beq_eq_true hb]
   exact Zjq (Zde ZoI kpT 100000 60) Zjs
theorem Zoh:isB true ((ZgK Om kpT 100000 MsT 60).call 6 [] ⟨T.mk 13,0⟩)=true:=Oc
theorem Zis(w0:World):Calls Om 6 #[] w0 fun e w=>e= .returned (.bool true)/\Sat w0 w []:=
 Zi6 (Th ZoI kpT 100000 Zok 60) Zoh w0
end Go.Proofs.YtpnamgfdakfccaaGreat
namespace Go.Proofs.YtpnamgfdakfccaaGreat
open Go Go.RowKit Go.Proofs.Gw
theorem Zps:Zd Om 10=true:=Oc
theorem Zqb:Zd Om 6=true:=Oc
theorem Zqa:Zd Om 7=true:=Oc
theorem Zp9:Zd Om 9=true:=Oc
theorem V6:Zv Om 34 0=some 0:=Oc
theorem ZjN:Zv Om 34 2=some 2:=Oc
theorem Zod(w0:World):Calls Om 6 #[] w0 fun e w=>∃v,e= .returned v/\v= .bool true/\Sat w0 w []:=(Zis w0).mono fun e w h=>⟨_,h.1,rfl,h.2⟩
variable {e e2 u2:Int} {ml ml2:Of} {mf mf2:Og}
theorem MSolveR.same{p:Prob}{u:Int}{ml:Of}{mf:Og}{s s2:So}{e e2:Int}(h:MSolveR p u ml mf s e)(h':MSolveR p u ml mf s2 e2):s=s2/\e=e2:=by
 rcases h with⟨h1,h2,h3⟩|⟨h1,h2,h3,h4⟩|⟨h1,h2,h3,h4,⟨k,k0,k1,h5⟩,h6,h7⟩|⟨h1,h2,h3,h4,h5,h6,h7⟩|⟨h1,h2,h3,h4,h5⟩<;>rcases h' with⟨g1,g2,g3⟩|⟨g1,g2,g3,g4⟩|⟨g1,g2,g3,g4,⟨k',k0',k1',g5⟩,g6,g7⟩|⟨g1,g2,g3,g4,g5,g6,g7⟩|⟨g1,g2,g3,g4,g5⟩<;>
   first
   |exact absurd ‹W4 p u ml mf› ‹¬W4 p u ml mf›
   |(exfalso;omega)
   |exact SolveR.same h5 g5
   |(exfalso;have:=g5 k k0 k1;omega)
   |(exfalso;have:=h5 k' k0' k1';omega)
   |(subst_vars;exact⟨rfl,rfl⟩)
theorem PriceR.same{p:Prob}{n:Int}{y a b:Of}{na nb w1 w2 e1:Int}(h:PriceR p n y na a w1 e1)(h':PriceR p n y nb b w2 e2):na=nb/\(∀k,0<=k->k<na->a k=b k)/\w1=w2/\e1=e2:=by
 rcases h with⟨h1,h2,h3,h4⟩|⟨h1,h2,h3,_,h4,h5⟩<;>rcases h' with⟨g1,g2,g3,g4⟩|⟨g1,g2,g3,_,g4,g5⟩
 · exact⟨by omega,fun k k0 k1=>Oa,Oa,Oa⟩
 · exact absurd g1 h1
 · exact absurd h1 g1
 · exact⟨by omega,fun k k0 k1=>by rw [h3,g3],Oa,Oa⟩
theorem ZaT{p:Prob}(hok:p.Ok){u:Int}(h:CRn p u ml mf e):stN p p.m.toNat<=u:=by
 induction h with
 | start h=>
   rcases h with⟨h,_⟩|⟨_,h,_⟩
   · exact absurd hok h
   · omega
 |go _ _ _ _ ih=>omega
theorem Vm {p:Prob} (hok:p.Ok) {u:Int} (h:CRn p u ml mf e):∀{u2 e2:Int} {ml2:Of} {mf2:Og},CRn p u2 ml2 mf2 e2->u=u2->ml=ml2/\mf=mf2/\e=e2:=by
 induction h with
 | start h=>
   intro u2 e2 ml2 mf2 k hu
   cases k with
   | start k=>
     rcases h with⟨h,_⟩|⟨_,h1,h2,h3,h4⟩
     · exact absurd hok h
     · rcases k with⟨k,_⟩|⟨_,k1,k2,k3,k4⟩
       · exact absurd hok k
       · exact⟨by rw [h2,k2],by rw [h3,k3],Oa⟩
   | go k _ _ _=>
     have h0:=ZaT hok k
     rcases h with⟨h,_⟩|⟨_,h,_⟩
     · exact absurd hok h
     · omega
 | @go u na worth f ml mf a s h hs hp hn ih=>
   intro u2 e2 ml2 mf2 k hu
   cases k with
   | start k=>
     have h0:=ZaT hok h
     rcases k with⟨k,_⟩|⟨_,k,_⟩
     · exact absurd hok k
     · omega
   | @go u' na' worth' f' ml' mf' a' s' k ks kp kn=>
     have hu':u=u':=Oa
     obtain⟨rfl,rfl,_⟩:=ih k hu'
     subst hu'
     obtain⟨rfl,_⟩:=MSolveR.same hs ks
     have hf:=(Tn hok (.go h hs hp hn)).1
     have kf:=(Tn hok (.go k ks kp kn)).1
     rcases hp with⟨_,_,_,h1⟩|⟨_,h1,h2,_⟩
     · omega
     · rcases kp with⟨_,_,_,k1⟩|⟨_,k1,k2,_⟩
       · omega
       · subst h1 h2 k1 k2
         exact⟨rfl,rfl,Oa⟩
theorem Zcv{p:Prob}(hok:p.Ok)(h:CRn p u2 ml2 mf2 e2):∀{u:Int},stN p p.m.toNat<=u->u<u2->∃ml mf s na a worth f,CRn p u ml mf 0/\MSolveR p u ml mf s 0/\PriceR p s.m s.Y na a worth f/\¬(f=0/\worth<=s.den):=by
 induction h with
 | start h=>
   intro u h1 h2
   rcases h with⟨h,_⟩|⟨_,h,_⟩
   · exact absurd hok h
   · omega
 | @go u' na worth f ml mf a s h hs hp hn ih=>
   intro u h1 h2
   by_cases hu:u=u'
   · subst hu;exact⟨ml,mf,s,na,a,worth,f,h,hs,hp,hn⟩
   · exact ih h1 Oa
theorem To{p:Prob}(hok:p.Ok){u:Int}{s:So}(h:CRn p u ml mf 0)(hs:MSolveR p u ml mf s e)(he:e≠0)(k:CRn p u2 ml2 mf2 e2):u2<=u:=by
 by_cases hu:u<u2
 · obtain⟨ml',mf',s',_,_,_,_,h1,h2,_⟩:=Zcv hok k (ZaT hok h) hu
   obtain⟨rfl,rfl,_⟩:=Vm hok h h1 rfl
   exact absurd (MSolveR.same hs h2).2 he
 · omega
theorem Uc{p:Prob}(hok:p.Ok){u:Int}{s:So}(h:CRn p u ml mf 0)(hs:MSolveR p u ml mf s 0)(hl:ZeP p s)(k:CRn p u2 ml2 mf2 e2):u2<=u:=by
 by_cases hu:u<u2
 · obtain⟨ml',mf',s',_,_,_,_,h1,h2,h3,h4⟩:=Zcv hok k (ZaT hok h) hu
   obtain⟨rfl,rfl,_⟩:=Vm hok h h1 rfl
   obtain⟨rfl,_⟩:=MSolveR.same hs h2
   obtain⟨na,a,worth,q1,q2⟩:=hl
   obtain⟨_,_,q3,q4⟩:=PriceR.same q1 h3
   exact absurd ⟨q4.symm,Oa⟩ h4
 · omega
theorem ColR.same{p:Prob}{u u2 e e2:Int}{ml ml2:Of}{mf mf2:Og}{s s2:So}(h:ColR p u ml mf s e)(k:ColR p u2 ml2 mf2 s2 e2):Zla u u2 ml ml2 mf mf2/\s=s2/\e=e2:=by
 have triv:u=0->u2=0->Zla u u2 ml ml2 mf mf2:=fun h1 h2=>⟨by omega,fun k k0 k1=>Oa⟩
 have errs:∀{e:Int},p.Ok->e≠0->(∃u1 ml1 mf1 e1,CRn p u1 ml1 mf1 e1/\((e1≠0/\e=e1)\/(e1=0/\∃s1,MSolveR p u1 ml1 mf1 s1 e)))->∃u1 ml1 mf1 s1,CRn p u1 ml1 mf1 0/\MSolveR p u1 ml1 mf1 s1 e:=by
   rintro e hok he ⟨u1,ml1,mf1,e1,h1,h2⟩
   have h0:=(Tn hok h1).1
   rcases h2 with⟨h2,_⟩|⟨h2,s1,h3⟩
   · exact absurd h0 h2
   · subst h2;exact⟨u1,ml1,mf1,s1,h1,h3⟩
 rcases h with⟨h1,h2,h3,h4⟩|⟨hok,h1,h2,h3,h4⟩|⟨hok,h1,h2,h3,h4⟩<;>rcases k with⟨k1,k2,k3,k4⟩|⟨kok,k1,k2,k3,k4⟩|⟨kok,k1,k2,k3,k4⟩
 · exact⟨triv h2 k2,by rw [h3,k3],Oa⟩
 · exact absurd kok h1
 · exact absurd kok h1
 · exact absurd hok k1
 · obtain⟨a1,b1,c1,d1,q1,q2⟩:=errs hok h1 h4
   obtain⟨a2,b2,c2,d2,r1,r2⟩:=errs hok k1 k4
   have g1:=To hok q1 q2 h1 r1
   have g2:=To hok r1 r2 k1 q1
   obtain rfl:a1=a2:=Oa
   obtain⟨rfl,rfl,_⟩:=Vm hok q1 r1 rfl
   exact⟨triv h2 k2,by rw [h3,k3],(MSolveR.same q2 r2).2⟩
 · obtain⟨a1,b1,c1,d1,q1,q2⟩:=errs hok h1 h4
   have g1:=To hok q1 q2 h1 k2
   have g2:=Uc hok k2 k3 k4 q1
   obtain rfl:a1=u2:=Oa
   obtain⟨rfl,rfl,_⟩:=Vm hok q1 k2 rfl
   exact absurd (MSolveR.same q2 k3).2 h1
 · exact absurd hok k1
 · obtain⟨a1,b1,c1,d1,q1,q2⟩:=errs hok k1 k4
   have g1:=To hok q1 q2 k1 h2
   have g2:=Uc hok h2 h3 h4 q1
   obtain rfl:a1=u:=Oa
   obtain⟨rfl,rfl,_⟩:=Vm hok q1 h2 rfl
   exact absurd (MSolveR.same q2 h3).2 k1
 · have g1:=Uc hok h2 h3 h4 k2
   have g2:=Uc hok k2 k3 k4 h2
   obtain rfl:u=u2:=Oa
   obtain⟨rfl,rfl,_⟩:=Vm hok h2 k2 rfl
   exact⟨⟨rfl,fun _ _ _=>⟨rfl,fun _ _ _=>rfl⟩⟩,(MSolveR.same h3 k3).1,Oa⟩
theorem ZiE {p:Prob} (hp:p.Ok) (y:Of):∀(j:Nat),(j:Int)<=p.m->∀c,0<=c->∃x:Of,(∀k,0<=k->k<(j:Int)->0<=x k/\x k<=p.D k)/\Zc (fun k=>x k*(p.L k+p.kerf)) j<=c/\Tab p y j c=Zc (fun k=>x k*y k) j
 |0,_,c,hc=>⟨fun _=>0,fun k k0 k1=>Oa,by simp [Zc];exact hc,rfl⟩
 | j + 1,hj,c,hc=>by
   have h1:=hp.all j Oa Oa
   unfold Prob.each at h1
   have h2:=hp.k1
   obtain⟨n,n1,n2,n3⟩:=ZcJ (Tab p y j) (p.L j+p.kerf) (y j) (p.D j).toNat c hc
   obtain⟨x,x1,x2,x3⟩:=ZiE hp y j Oa (c-n*(p.L j+p.kerf)) Oa
   refine⟨snoc x j n,fun k k0 k1=> ?_,?_,?_⟩
   · by_cases e:k<(j:Int)
     · rw [Zs e];exact x1 k k0 e
     · rw [Zt e,show k=(j:Int) by omega];omega
   · have e:Zc (fun k=>snoc x j n k*(p.L k+p.kerf)) (j+1)=Zc (fun k=>x k*(p.L k+p.kerf)) j+n*(p.L j+p.kerf):=by
       have h3:=ZF (fun k=>snoc x j n k*(p.L k+p.kerf)) (i:=(j:Int)) Oa
       rw [show((j:Int)+1).toNat=j+1 by omega,Int.toNat_natCast] at h3
       rw [h3,Zt Oa]
       congr 1
       exact Zg fun k k0 k1=>by rw [Zs k1]
     rw [e];omega
   · have e:Zc (fun k=>snoc x j n k*y k) (j+1)=Zc (fun k=>x k*y k) j+n*y j:=by
       have h3:=ZF (fun k=>snoc x j n k*y k) (i:=(j:Int)) Oa
       rw [show((j:Int)+1).toNat=j+1 by omega,Int.toNat_natCast] at h3
       rw [h3,Zt Oa]
       congr 1
       exact Zg fun k k0 k1=>by rw [Zs k1]
     rw [e,<-x3,<-n3];rfl
theorem ZiC{p:Prob}(hp:p.Ok)(y:Of):∃x:Of,(∀k,0<=k->k<p.m->0<=x k/\x k<=p.D k)/\ZL p x p.m.toNat<=p.stock+p.kerf/\WI p y=Zc (fun k=>x k*y k) p.m.toNat:=by
 have hm:=hp.m1;have hs:=hp.s1;have hk:=hp.k1
 obtain⟨x,h1,h2,h3⟩:=ZiE hp y p.m.toNat Oa (p.stock+p.kerf) Oa
 exact⟨x,fun k k0 k1=>h1 k k0 Oa,h2,h3⟩
theorem ZiB{p:Prob}(hp:p.Ok)(y:Of):WI p y<=WC p y:=by
 obtain⟨x,h1,h2,h3⟩:=ZiC hp y
 rw [h3];exact wc_top hp h1 h2
theorem X2(D y:Of):∀n:Nat,Tot D y n=Zc (fun k=>D k*y k) n
 |0=>rfl
 | n+1=>by
   have h3:=ZF (fun k=>D k*y k) (i:=(n:Int)) Oa
   rw [show((n:Int)+1).toNat=n+1 by omega,Int.toNat_natCast] at h3
   rw [h3,<-X2 D y n];rfl
theorem TS{p:Prob}{b c b':Ct}{m m':Int}(h:(b',m')=Xr p (b,m) c e):m<=m'/\(e=0->Chk p c.n c.y c.q=0->Yt p c.n c.y c.q<=m')/\((b',m')=(b,m)\/(Chk p b'.n b'.y b'.q=0/\Yt p b'.n b'.y b'.q=m')):=by
 unfold Xr at h
 split at h
 · rename_i hh
   injection h with q1 q2
   subst q1 q2
   dsimp only at hh
   exact⟨by omega,fun _ _=>Int.le_refl _,.inr ⟨hh.2.1,rfl⟩⟩
 · rename_i hh
   injection h with q1 q2
   subst q1 q2
   refine⟨Int.le_refl _,fun h1 h2=> ?_,.inl rfl⟩
   dsimp only at hh
   by_cases h3:m'<Yt p c.n c.y c.q
   · exact absurd ⟨h1,h2,h3⟩ hh
   · omega
theorem Zbr{p:Prob}{u m:Int}{c:Ct}{s:So}(hp:p.Ok)(hu:0<=u)(hd:DBestR p c m e2)(hc:ColR p u ml mf s 0):Yr s/\(s.val+s.den-1).tdiv s.den<=m:=by
 obtain⟨hM,hW⟩:=hc.okS hu rfl
 refine⟨⟨⟨hM.d1,hM.d2⟩,hM.v,fun k k0 k1=>hM.X k k0 (by have:=hM.n;omega)⟩,?_⟩
 rcases hd with⟨g,_⟩|⟨_,_,c1,e1,c2,e2,c3,e3,h1,h2,h3,h4⟩
 · exact absurd hp g
 · obtain⟨u1,ml1,mf1,s1,hu1,k1,k2⟩:=h1
   obtain⟨_,rfl,rfl⟩:=ColR.same k1 hc
   obtain rfl:c1=⟨s1.m,s1.Y,s1.den⟩:=by
     rcases k2 with⟨q,_⟩|⟨_,q⟩
     · exact absurd rfl q
     · exact q
   have hk:Chk p s1.m s1.Y s1.den=0:=Zj3 hp ⟨hM.d1,hM.d2,fun k k0 k1=>hM.Y k k0 (by have:=hM.m;omega)⟩ hM.m (by have:=ZiB hp s1.Y;omega)
   have hb:Yt p s1.m s1.Y s1.den=(s1.val+s1.den-1).tdiv s1.den:=by
     rw [Gw.Yb hk];unfold Bnd;rw [X2,hM.bY]
   obtain⟨x1,k1,hx1⟩:∃x k,(x,k)=Xr p (Ct.zer,-1) ⟨s1.m,s1.Y,s1.den⟩ 0:=⟨_,_,rfl⟩
   rw [<-hx1] at h4
   obtain⟨x2,k2,hx2⟩:∃x k,(x,k)=Xr p (x1,k1) c2 e2:=⟨_,_,rfl⟩
   rw [<-hx2] at h4
   have g1:=(TS hx1).2.1 rfl hk
   have g2:=(TS hx2).1
   have g3:=(TS h4).1
   dsimp only at g1
   omega
theorem ZfA{vV:Value}{u:Int}{pv:Int->Value}{ln:Of}{pt:Og}{cnt:Of}{vL vD:Value}{p:Prob}(w0:World)(hV:VAt w0 vV u pv ln pt cnt)(h:PAt w0 vL vD p)(hm:PlanOk p u ln pt cnt/\∀j,0<=j->j<p.m->p.D j<=ZH u pt cnt j):
   Calls Om 15 [.agg #[vL,vD,.int Oi p.stock,.int Oi p.kerf],vV].toArray w0 fun e w=>∃v,e= .returned v/\v= .bool true/\Sat w0 w []:=by
 have:=Rk w0 hV h
 rw [ZQ hm] at this
 exact this
end Go.Proofs.YtpnamgfdakfccaaGreat
namespace Go.Proofs.YtpnamgfdakfccaaGreat
open Go Go.RowKit Go.Proofs.Gw
theorem Zk4:Zd Om 17=true:=Oc
theorem Zej:Zv Om 34 1=some 1:=Oc
theorem ZgI{vL vD:Value}{p:Prob}(w0:World)(h:PAt w0 vL vD p):
   Calls Om 4 [.agg #[vL,vD,.int Oi p.stock,.int Oi p.kerf]].toArray w0 fun e w=>∃v,e= .returned v/\v= .bool true/\Sat w0 w []:=by
 obtain⟨hm,hm1,hd,hd1,hs,hk⟩:=h.Oq
 refine zenG Tryz.func4 Tryz.ntmps4 fun w hS=> ?_
 refine zsr<|zla (xbx (cs:= [_,_,_,_]) hS) ?_;rintro _ w ⟨g1,rfl,hS⟩
 refine(zP)<|zx5<|zlc (xc0 Zqb) (Zod w) ?_;rintro _ w ⟨rfl,hS'⟩
 replace hS:=hS.cmp hS';clear hS'
 refine(zP)<|zlt<|zcf<|zsk<|ztn<|zsq<|zsr ?_
 refine(zV (xls 0 ZdT hS))<|zlc (xc0 Zqa) (Zkr (p:=p) w (h.below hS.below)) ?_;rintro _ w ⟨rfl,hS'⟩
 replace hS:=hS.cmp hS';clear hS'
 refine(On)<|zlb 24 ?_ ?_<;>intro hc
 ·
  iterate 3 refine zlo ?_
  refine(zP)<|zlt<|zct<|zsr ?_
  refine(zP)<|zx14<|Oj ?_
  exact⟨rfl,hS.nl⟩
 refine(zV (xls 0 ZdT hS))<|zlc (xc0 Zo9) (Rj (p:=p) w (h.below hS.below)) ?_;rintro _ w ⟨rfl,hS'⟩
 replace hS:=hS.cmp hS';clear hS'
 refine(On)<|zlt<|Zf ?_ ?_<;>intro hc
 ·
  refine zsr<|(zP)<|zx14<|Oj ?_
  exact⟨rfl,hS.nl⟩
 refine ZV<|zlv (xls 0 ZdT hS) ?_
 have hok:p.Ok:=Oe
 refine zla (xal (cs:= [_,_,_,_]) Zhp hS) ?_;rintro _ w ⟨g2,rfl,hS⟩
 refine zle (xsw 1 st_27 hS (hd:=(Za h.L.slh.one (Za h.D.slh.one (Za rfl (Za rfl Zi)))))) ?_;clear hS;rintro w hS
 refine zlz<|(zV (xls 1 st_27 hS))<|zlc (xc0 Zp9) (Zh4 (p:=p) w (h.below hS.below)) ?_;rintro _ w ⟨aH,y4,az,zN,zT,zQ,y2,jL,bV,rfl,qW,aX,ft,fl,eI,hS'⟩
 replace hS:=(hS.comp hS').n5;clear hS'
 have ki:=fun j (j0:0<=j) (j1:j<az)=>hS.slhIn 4 rfl j0 j1
 have gJ:=SolR6.u qW
 refine(Oo)<|zla (xal (cs:= [_,_,_,_,_]) ZkS hS) ?_;rintro _ w ⟨g3,rfl,hS⟩
 refine zle (xsw 5 X9 hS (hd:=(Za rfl (Za eI.one (Za rfl (Za ft.one (Za fl.one Zi))))))) ?_;clear hS;rintro w hS
 refine(zP)<|zx5<|(On)<|zlt<|Zf ?_ ?_<;>intro hc
 ·
  refine zsr<|zlv xmv ?_
  obtain⟨hx1,hx2,hx3⟩:=qW.lim hok Oa
  refine(On)<|zx14<|Oj ?_
  exact⟨(Yn Oa).symm,hS.nl⟩
 refine ZV<|zlv (xls 1 st_27 hS) ?_
 have he0:jL=0:=Oa
 have md:=SolR6.nb qW
 refine zlc (xc0 Zk5) (ZcA (p:=p) w (h.below hS.below)) ?_;rintro _ w ⟨d9,yc,gD,jQ,rfl,qy,zt,hS'⟩
 replace hS:=(hS.comp hS').n7;clear hS'
 refine zs4 ?_
 obtain⟨hb1,hb2,hb3,hb4⟩:=ZfW qW hok he0 qy
 have hq9:0<=yc.q/\yc.q<=1073741824:=by have h9:=(Gw.XQ hb2).2.1;have:=h9.1;have:=h9.2.1;omega
 refine zla (xal (cs:= [_,_]) Ub hS) ?_;rintro _ w ⟨g4,rfl,hS⟩
 refine zle (xsw 7 st_43 hS (hd:=(Za zt.one (Za rfl Zi)))) ?_;clear hS;rintro w hS
 refine(On)<|zlz<|(zV (xls 1 st_27 hS))<|(zV (xls 7 st_43 hS))<|zlc (xc0 ZhP) (Za5 (p:=p) w (h.below hS.below) (hS.rowN 6 rfl) Oa) ?_;rintro _ w ⟨rfl,hS'⟩
 replace hS:=hS.cmp hS';clear hS'
 refine zs5 ?_
 refine zlz<|(zV (xls 1 st_27 hS))<|zlc (xc0 ZhO) (ZdI (p:=p) w (h.below hS.below)) ?_;rintro _ w ⟨dV,aG,b9,cn,cM,cQ,f5,rfl,bz,cI,kv,cY,hS'⟩
 replace hS:=(hS.comp hS').n10;clear hS'
 have gW:=fun k (k0:0<=k) (k1:k<aG)=>hS.slhIn 9 rfl k0 k1
 refine zs3 ?_
 have hn9:=Zg7 (Od ‹¬¬(ZiM p)›) hok
 have hr9:f5=0:=(bz.tot hok).2 Oa
 refine(On)<|zlt<|zsq<|zsq<|zdst [0,1,2,3,4,5,6,7,8,9] [0,1,2,3,4,5,6,7,8,9] 1000 mx_ hS ?_;clear hS;intro w hS
 refine(zDw 0 xmv)<|(zDw 1 (xkf YE))<|(zDw 2 xmv)<|(zDw 3 xmv)<|(zDw 4 YE)<|(zDw 5 xpf)<|(zDw 6 xmv)<|zdb 62 ?_ ?_<;>intro hc
 ·
  refine(zDo 7)<|(zDo 8)<|(zDw 9 xpt)<|(zDw 10 xmv)<|(zDo 11)<|(zDo 12)<|(zDo 13)<|(zDw 14 xpt)<|(zDw 15 xmv)<|(zDo 16)<|(zDo 17)<|(zDo 18)<|(zDo 19)<|(zDw 20 xpt)<|zDrv 21 xmv ?_
  refine(zDo 22)<|(zDo 23)<|(zDo 24)<|(zDo 25)<|(zDo 26)<|(zDw 27 xpt)<|(zDw 28 xmv)<|(zDo 29)<|(zDo 30)<|(zDo 31)<|(zDo 32)<|(zDo 33)<|(zDw 34 xpt)<|(zDw 35 xmv)<|Zbj 36 ?_
  refine(zDo 37)<|(zDo 39)<|(zDo 40)<|(zDo 38)<|(zDo 41)<|(zDw 42 xpt)<|zdd<|ztn<|zct<|zsr ?_
  refine(zP)<|zx14<|Oj ?_
  exfalso;first|omega|contradiction
 refine(zDw 7 xmv)<|(zDw 8 (xkf YE))<|(zDw 9 xpf)<|(zDw 10 xmv)<|(zDw 11 xmv)<|(zDw 12 xmv)<|(zDw 13 (xkf YE))<|(zDw 14 xpf)<|(zDw 15 xmv)<|(zDw 16 xmv)<|(zDw 17 (xfb 0 V6))<|(zDl 18 (fun w hS=>(xlb 5 pl_3 hS)))<|(zDw 19 Yw)<|(zDw 20 xpf)<|zDrv 21 xmv ?_
 refine zdb 77 ?_ ?_<;>intro hc
 ·
  refine(zDo 22)<|(zDo 23)<|(zDo 24)<|(zDo 25)<|(zDo 26)<|(zDw 27 xpt)<|(zDw 28 xmv)<|(zDo 29)<|(zDo 30)<|(zDo 31)<|(zDo 32)<|(zDo 33)<|(zDw 34 xpt)<|(zDw 35 xmv)<|Zbj 36 ?_
  refine(zDo 37)<|(zDo 39)<|(zDo 40)<|(zDo 38)<|(zDo 41)<|(zDw 42 xpt)<|zdd<|ztn<|zct<|zsr ?_
  refine(zP)<|zx14<|Oj ?_
  exfalso;first|omega|contradiction
 refine(zDw 22 (xfb 0 V6))<|(zDl 23 (fun w hS=>(xlb 5 pl_3 hS)))<|(zDw 24 xmv)<|zdc 25 (xc0 Kz) (Vn (u:=aG) (pv:=b9) (ln:=cn) (pt:=cM) (cnt:=cQ) w (⟨(hS.rowN 8 rfl),fun k k0 k1=>hS.rowIn 9 rfl k0 k1,fun k k0 k1=>hS.roomIn 9 rfl k0 k1⟩:VAt _ dV aG b9 cn cM cQ) Oa (fun k k0 k1=>by first|(have h8:=cI k k0 k1;omega)|(have h8:=(qW.meet hok he0).1.1.2.2 k k0 k1;omega))) ?_;rintro _ w ⟨rfl,hS'⟩
 replace hS:=hS.cmp hS';clear hS'
 have hle:=qW.plan hok he0 (bz.meets hok hr9 cY.n0).1
 refine⟨⟨fun _=>hS,hS⟩,?_⟩
 refine(zDw 26 Yw)<|(zDw 27 xpf)<|(zDw 28 xmv)<|zdb 84 ?_ ?_<;>intro hc
 ·
  refine(zDo 29)<|(zDo 30)<|(zDo 31)<|(zDo 32)<|(zDo 33)<|(zDw 34 xpt)<|(zDw 35 xmv)<|(zDo 36)<|(zDo 37)<|(zDo 39)<|(zDo 40)<|(zDo 38)<|(zDo 41)<|(zDw 42 xpt)<|zdd<|ztn<|zct<|zsr ?_
  refine(zP)<|zx14<|Oj ?_
  exfalso;first|omega|contradiction
 refine(zDl 29 (fun w hS=>(xls 1 st_27 hS)))<|(zDw 30 (xfb 1 Zej))<|(zDl 31 (fun w hS=>(xlb 5 pl_29 hS)))<|zdc 32 (xc0 ZhK) (ZfA (u:=az) (pv:=zN) (ln:=zT) (pt:=zQ) (cnt:=y2) (p:=p) w (⟨(hS.rowN 3 rfl),fun k k0 k1=>hS.rowIn 4 rfl k0 k1,fun k k0 k1=>hS.roomIn 4 rfl k0 k1⟩:VAt _ bV az zN zT zQ y2) (h.below hS.below) (qW.meet hok he0).1) ?_;rintro _ w ⟨rfl,hS'⟩
 replace hS:=hS.cmp hS';clear hS'
 refine⟨⟨fun _=>hS,hS⟩,?_⟩
 refine(zDw 33 xnt)<|(zDw 34 xpf)<|(zDw 35 xmv)<|(zDw 36 (xfb 1 Zej))<|(zDl 37 (fun w hS=>(xlb 5 pl_29 hS)))<|(zDw 39 (xfb 0 V6))<|(zDl 40 (fun w hS=>(xlb 5 pl_3 hS)))<|zdc 38 (xc0 Kz) (Vn (u:=az) (pv:=zN) (ln:=zT) (pt:=zQ) (cnt:=y2) w (⟨(hS.rowN 3 rfl),fun k k0 k1=>hS.rowIn 4 rfl k0 k1,fun k k0 k1=>hS.roomIn 4 rfl k0 k1⟩:VAt _ bV az zN zT zQ y2) Oa (fun k k0 k1=>by first|(have h8:=cI k k0 k1;omega)|(have h8:=(qW.meet hok he0).1.1.2.2 k k0 k1;omega))) ?_;rintro _ w ⟨rfl,hS'⟩
 replace hS:=hS.cmp hS';clear hS'
 have hbr:=(qW.meet hok he0).2;unfold brs at hbr
 refine⟨⟨fun _=>hS,hS⟩,?_⟩
 refine(zDw 41 (xkf YE))<|(zDw 42 xpf)<|zdd<|ztn<|zcf<|zsk<|ztn<|zsq<|zsr ?_
 refine(zV (xfb 0 V6))<|(zV (xlb 5 pl_3 hS))<|(zP)<|zlt<|Zf ?_ ?_<;>intro hc
 ·
  refine zsr<|(zV (xls 1 st_27 hS))<|(zV (xfb 0 V6))<|(zV (xlb 5 pl_3 hS))<|(zV (Zp (r:=aH-1)))<|zlv (xany (v:= .agg #[vL,vD,.int Oi p.stock,.int Oi p.kerf,.int Oi (aH-1)]) (hr:=by obtain⟨_,_,_,_,rfl,_⟩:=h.L.slh;obtain⟨_,_,_,_,rfl,_⟩:=h.D.slh;kernel_rfl)) ?_
  refine(zV (xfb 2 ZjN))<|(zV (xlp 5 (ds:= [.int Oi y4.s,y4.vK,y4.vL]) st_32 hS))<|zlc (xc0 Zps) (ZpI (t:=y4) (p:=p) (b:=(aH-1)) w (h.below hS.below) (Tr.fr2_at y4 aX (hS.holds (.sem (Tr.fr2 32 3 y4)) (by repeat first|exact List.mem_cons_self .. |apply List.mem_cons_of_mem))).1 (Tr.fr2_at y4 aX (hS.holds (.sem (Tr.fr2 32 3 y4)) (by repeat first|exact List.mem_cons_self .. |apply List.mem_cons_of_mem))).2) ?_;rintro _ w ⟨rk1,k1,fk1,rfl,eY,fC,hS'⟩
  replace hS:=(hS.comp hS').n11;clear hS'
  refine zs3 ?_
  have hck:=qW.chk hok he0 Oa
  refine(On)<|zlz<|(zP)<|(zV (xkf YE))<|zlt<|zcf<|zsk<|ztn<|zsr ?_
  refine(zV (xls 1 st_27 hS))<|zlc (xc0 Zex) (Ue (p:=p) w (h.below hS.below)) ?_;rintro _ w ⟨yF,yC,yg,xY,xJ,xK,xL,qz,zK,rfl,qu,qq,xz,qV,hS'⟩
  replace hS:=(hS.comp hS').n15;clear hS'
  have zz:=fun k (k0:0<=k) (k1:k<xJ)=>hS.slhIn 12 rfl k0 k1
  refine zs3 ?_
  have hce:=qu.errs hok
  refine zla (xal (cs:= [_,_,_,_,_]) Zcq hS) ?_;rintro _ w ⟨g5,rfl,hS⟩
  refine zle (xsw 15 XH hS (hd:=(Za qq.one (Za xz.one (Za qV.one (Za rfl (Za rfl Zi))))))) ?_;clear hS;rintro w hS
  refine(zP)<|zx5<|(On)<|zlt<|Zf ?_ ?_<;>intro hc
  ·
   refine zsr<|(Oo)<|zlb 124 ?_ ?_<;>intro hc
   ·
    refine(zO)<|(zO)<|(On)<|zx14<|Oj ?_
    exact⟨rfl,hS.nl⟩
   refine zs4 ?_
   refine zx14<|Oj ?_
   exact⟨(Yn Oa).symm,hS.nl⟩
  refine ZV<|(zV (xfb 1 fd_56_1))<|zlv (xlp 15 (ds:= [yg,xY,.int Oi qz.val,.int Oi qz.den]) ZT hS) ?_
  have hec:zK=0:=Oa
  have xA:=((hec▸qu:ColR p xJ xK xL qz 0).okS qq.n0 rfl).1.n
  have jx:=ColR.few qu hec
  refine zlc (xc0 Zk4) (Zcz (s:=qz) w (hS.rowN 13 rfl) (hS.rowN 14 rfl) Oa) ?_;rintro _ w ⟨zm,bS,rfl,zH,hS'⟩
  replace hS:=hS.cmp hS';clear hS'
  refine zs3 ?_
  obtain⟨di,gK⟩:=Zbr hok qq.n0 qy (hec▸qu)
  obtain⟨jF,jE⟩:zm=(qz.val+qz.den-1).tdiv qz.den/\bS=0:=by rcases zH with⟨q,_⟩|⟨_,q1,q2⟩;exact absurd di q;exact⟨q1,q2⟩
  refine(On)<|zlz<|(zP)<|(zV (xkt YT))<|zs6 ?_
  refine zx1<|Oj ?_
  exact⟨(Yn Oa).symm,hS.nl⟩
 refine ZV<|(zV (xls 1 st_27 hS))<|zlc (xc0 Zex) (Ue (p:=p) w (h.below hS.below)) ?_;rintro _ w ⟨yF,yC,yg,xY,xJ,xK,xL,qz,zK,rfl,qu,qq,xz,qV,hS'⟩
 replace hS:=(hS.comp hS').n14;clear hS'
 have zz:=fun k (k0:0<=k) (k1:k<xJ)=>hS.slhIn 11 rfl k0 k1
 refine zs3 ?_
 have hce:=qu.errs hok
 refine zla (xal (cs:= [_,_,_,_,_]) Zcq hS) ?_;rintro _ w ⟨g5,rfl,hS⟩
 refine zle (xsw 14 XH hS (hd:=(Za qq.one (Za xz.one (Za qV.one (Za rfl (Za rfl Zi))))))) ?_;clear hS;rintro w hS
 refine(zP)<|zx5<|(On)<|zlt<|Zf ?_ ?_<;>intro hc
 ·
  refine zsr<|(Oo)<|zlb 124 ?_ ?_<;>intro hc
  ·
   refine(zO)<|(zO)<|(On)<|zx14<|Oj ?_
   exact⟨rfl,hS.nl⟩
  refine zs4 ?_
  refine zx14<|Oj ?_
  exact⟨(Yn Oa).symm,hS.nl⟩
 refine ZV<|(zV (xfb 1 fd_56_1))<|zlv (xlp 14 (ds:= [yg,xY,.int Oi qz.val,.int Oi qz.den]) ZT hS) ?_
 have hec:zK=0:=Oa
 have xA:=((hec▸qu:ColR p xJ xK xL qz 0).okS qq.n0 rfl).1.n
 have jx:=ColR.few qu hec
 refine zlc (xc0 Zk4) (Zcz (s:=qz) w (hS.rowN 12 rfl) (hS.rowN 13 rfl) Oa) ?_;rintro _ w ⟨zm,bS,rfl,zH,hS'⟩
 replace hS:=hS.cmp hS';clear hS'
 refine zs3 ?_
 obtain⟨di,gK⟩:=Zbr hok qq.n0 qy (hec▸qu)
 obtain⟨jF,jE⟩:zm=(qz.val+qz.den-1).tdiv qz.den/\bS=0:=by rcases zH with⟨q,_⟩|⟨_,q1,q2⟩;exact absurd di q;exact⟨q1,q2⟩
 refine(On)<|zlz<|(zP)<|(zV (xkt YT))<|zs6 ?_
 refine zx1<|Oj ?_
 exact⟨(Yn Oa).symm,hS.nl⟩
end Go.Proofs.YtpnamgfdakfccaaGreat
namespace Go.Proofs.Gw
open Go Go.RowKit Go.ChangeShapes Go.WideShapes Go.ChangeAt
section
variable {H:Type} {enc:TypeId×Value->H} {P:Program} {w:World} {held:Bool}
def Small{H:Type}(P:Program)(t:TypeId)(d:DataW H):Prop:=(d.weights P t).all (· <=reachBytes)=true
theorem TD{ts:List TypeId}{ds:List (DataW H)}(h:(DataW.weightsEach P ts ds).all (· <=reachBytes)=true){j:Nat}{t:TypeId}{d:DataW H}(ht:ts[j]? =some t)(hd:ds[j]? =some d):Small P t d:=
 List.all_eq_true.2 fun n hn=>List.all_eq_true.1 h n (DataW.weights_mem_each ht hd n hn)
theorem Zac{t:TypeId}{fs:Array Field}{parts:List (DataW H)}(h:Small P t (.agg parts))(hu:P.underlying t=some (.struct fs)){j:Nat}{u:TypeId}{d:DataW H}(ht:(fs.toList.map (·.type))[j]? =some u)(hd:parts[j]? =some d):Small P u d:=by
 unfold Small at h
 simp only [DataW.weights,hu] at h
 exact TD h ht hd
theorem RQ{e:TypeId}:∀{ds:List (DataW H)},(DataW.weightsAll P e ds).all (· <=reachBytes)=true->∀d∈ds,Small P e d
 | [],_,d,hd=>by cases hd
 | x::r,h,d,hd=>by
   simp only [DataW.weightsAll,List.all_append,Bool.and_eq_true] at h
   rcases List.mem_cons.1 hd with rfl|hd
   · exact h.1
   · exact RQ h.2 d hd
theorem ZbA{t e:TypeId}{elems spare:List (DataW H)}(h:Small P t (.slice elems spare))(hu:P.underlying t=some (.slice e)):(elems.length+spare.length)*P.bytesOf e<=reachBytes/\∀d∈elems,Small P e d:=by
 unfold Small at h
 simp only [DataW.weights,hu,List.all_cons,List.all_append,Bool.and_eq_true,decide_eq_true_eq] at h
 exact⟨h.1,RQ h.2.1⟩
theorem ZcS{n:Int}(h:(Lit.int .i64 n).wf=true): -9223372036854775808<=n/\n<=9223372036854775807:=by
 simp only [Lit.wf,Bool.and_eq_true,decide_eq_true_eq] at h
 have h1:IntKind.i64.min= -9223372036854775808:=by decide
 have h2:IntKind.i64.max=9223372036854775807:=by decide
 omega
theorem ZeV{a:Addr}{v:Value}(h:w.cell? a=some v):a.spot=none:=World.cell?_spot h
end
end Go.Proofs.Gw
namespace Go.Proofs.Gw
open Go Go.RowKit Go.ChangeShapes Go.WideShapes Go.ChangeAt
section
variable {H:Type} {enc:TypeId×Value->H} {P:Program} {w:World} {held:Bool}
def Rd{H:Type}(enc:TypeId×Value->H)(P:Program)(w:World)(held:Bool)(t:TypeId)(cs:List Value):Prop:=∃fuel y,DataW.trod enc P w 0 (fun _=>true) held fuel t cs=some y/\Small P t y.1
theorem Rd.int{k:IntKind}{t:TypeId}{cs:List Value}(h:Rd enc P w held t cs)(ht:P.underlying t=some (.int k)):∃n,cs= [.int k n]/\(Lit.int k n).wf=true:=by
 obtain⟨fuel,y,h,_⟩:=h
 obtain⟨n,h1,_,h2⟩:=DataW.trod_int ht h
 exact⟨n,h1,h2⟩
theorem Rd.intv{k:IntKind}{t:TypeId}{v:Value}(h:Rd enc P w held t [v])(ht:P.underlying t=some (.int k)):∃n,v= .int k n/\(Lit.int k n).wf=true:=by
 obtain⟨n,h1,h2⟩:=h.int ht
 exact⟨n,by simpa using h1,h2⟩
theorem Rd.struct{fs:Array Field}{t:TypeId}{cs:List Value}(h:Rd enc P w held t cs)(ht:P.underlying t=some (.struct fs)):∀(j:Nat) (f:Field),fs[j]? =some f->Rd enc P w held f.type ((cs.drop f.offset).take (P.cellsOf f.type)):=fun j f hf=>by
 obtain⟨fuel,y,h,hs⟩:=h
 obtain⟨xs,n,_,rfl,hl,xg,hx⟩:=DataW.trod_struct ht h
 have hj:j<xs.length:=by rw [xg];exact(Array.getElem?_eq_some_iff.1 hf).1
 have h1:=hx j f hf
 rw [List.getElem?_eq_getElem hj] at h1
 exact⟨n,_,h1,Zac (j:=j) hs ht (by simp [hf]) (by simp [hj])⟩
theorem Rd.len{fs:Array Field}{t:TypeId}{cs:List Value}(h:Rd enc P w held t cs)(ht:P.underlying t=some (.struct fs)):cs.length=P.cellsOf t:=by
 obtain⟨fuel,y,h,hs⟩:=h
 obtain⟨xs,n,_,rfl,hl,xg,hx⟩:=DataW.trod_struct ht h
 exact hl
theorem Rd.slice {t e:TypeId} {s b:Nat} {v:Value} (h:Rd enc P w held t [v]) (ht:P.underlying t=some (.slice e)) (ce:P.cellsOf e=s) (be:P.bytesOf e=b) (hs1:1<=s) (hsb:s<=b):
   ∃(n:Int) (c:Int->Value),Row w v s n c/\b*n<=140737488351232/\∀i:Int,0<=i->i<n->Rd enc P w held e ((List.range s).map fun j:Nat=>c (i*s+j)):=by
 obtain⟨fuel,y,h,hs⟩:=h
 rcases Go.Deep.open_slice ht h with⟨hcs,_⟩|⟨a,len,cap,m,n,D,Pl,hcs,_,hl,hm,hmm,hy,hx⟩
 · simp only [List.cons.injEq,and_true] at hcs
   subst hcs
   exact⟨0,fun _=>undef,⟨⟨by omega,Oa,none,0,rfl,.inl rfl⟩,fun k hk=>by rw [Int.zero_mul] at hk;omega⟩,Oa,fun i a0 a1=>Oa⟩
 · simp only [List.cons.injEq,and_true] at hcs
   subst hcs
   simp only [if_true] at hmm
   subst hmm
   rw [hy] at hs
   have hsm:=ZbA hs ht
   have hb1:=hsm.1
   rw [be] at hb1
   simp only [List.length_map,List.length_range] at hb1
   have h2:len*b<=(len+(m-len))*b:=Nat.mul_le_mul_right _ Oa
   have h3:len*b<=140737488351232:=by unfold reachBytes at hb1;omega
   have h4:len*1<=len*b:=Nat.mul_le_mul_left _ Oa
   rw [ce] at hx
   have e0:∀i:Nat,∃cs':List Value,i<len->w.cells? 0 (a.add (i*s)) s=some cs'/\DataW.trod enc P w 0 (fun _=>true) held n e cs'=some (D i,Pl i):=fun i=>by
     by_cases hi:i<len
     · obtain⟨cs',h5,h6⟩:=hx i Oa
       exact⟨cs',fun _=>⟨h5,h6⟩⟩
     · exact⟨[],fun h=>absurd h hi⟩
   obtain⟨C,hC⟩:=Classical.axiomOfChoice e0
   have eR:0<len->a.spot=none:=fun h0=>by
     obtain⟨_,h7,h8⟩:=World.cells?_some (hC 0 h0).1
     have h9:=h8 0 Oa
     rw [List.getElem?_eq_getElem Oa] at h9
     have h10:=ZeV h9
     simpa [Addr.add] using h10
   refine⟨len,fun k=>(C (k/s).toNat).getD (k%s).toNat undef,⟨⟨by omega,Oa,some a,m,by simp,?_⟩,fun j hj=> ?_⟩,?_,fun i i0 i1=> ?_⟩
   · by_cases hl0:len=0
     · left;omega
     · right
       have hsp:=eR Oa
       exact⟨a.block,a.off,by cases a;simp at hsp;simp [hsp]⟩
   · have hjs:j<len*s:=by rw [<-Int.natCast_mul] at hj;omega
     have hi:j/s<len:=(Nat.div_lt_iff_lt_mul Oa).2 hjs
     have fm:0<len:=Nat.lt_of_le_of_lt (Nat.zero_le _) hi
     have hsp:=eR fm
     obtain⟨_,h7,h8⟩:=World.cells?_some (hC (j/s) hi).1
     have hr:j%s<s:=Nat.mod_lt _ Oa
     have h9:=h8 (j%s) hr
     rw [Addr.add_eq a hsp,Addr.add_eq _ rfl] at h9
     have e1:((j:Int)/(s:Int)).toNat=j/s:=by rw [<-Int.natCast_ediv,Int.toNat_natCast]
     have e2:((j:Int)%(s:Int)).toNat=j%s:=by rw [<-Int.natCast_emod,Int.toNat_natCast]
     have e3:a.off+j/s*s+j%s=a.off+j:=by rw [Nat.add_assoc,Nat.mul_comm,Nat.div_add_mod]
     rw [List.getElem?_eq_getElem Oa] at h9
     simp only [e1,e2,List.getD_eq_getElem?_getD]
     rw [List.getElem?_eq_getElem Oa]
     simp only [cad,Int.toNat_natCast,Option.getD_some]
     simp only [e3] at h9
     exact h9
   · have:((len*b:Nat):Int)=b*len:=by rw [Int.natCast_mul,Int.mul_comm]
     omega
   · obtain⟨k,rfl⟩:=Int.eq_ofNat_of_zero_le i0
     have hk:k<len:=Oa
     obtain⟨h5,h6⟩:=hC k hk
     obtain⟨_,h7,h8⟩:=World.cells?_some h5
     have e:((List.range s).map fun j:Nat=>(C (((k:Int)*(s:Int)+(j:Int))/(s:Int)).toNat).getD (((k:Int)*(s:Int)+(j:Int))%(s:Int)).toNat undef)=C k:=by
       apply List.ext_getElem
       · simp [h7]
       · intro j hj1 hj2
         rw [List.getElem_map,List.getElem_range]
         have hjs:j<s:=by simpa using hj1
         have e0:((k:Int)*(s:Int)+(j:Int))=((k*s+j:Nat):Int):=by rw [Int.natCast_add,Int.natCast_mul]
         have e1:(((k*s+j:Nat):Int)/(s:Int)).toNat=k:=by
           rw [<-Int.natCast_ediv,Int.toNat_natCast,Nat.mul_comm,Nat.mul_add_div Oa,Nat.div_eq_of_lt hjs,Nat.add_zero]
         have e2:(((k*s+j:Nat):Int)%(s:Int)).toNat=j:=by
           rw [<-Int.natCast_emod,Int.toNat_natCast,Nat.mul_comm,Nat.mul_add_mod,Nat.mod_eq_of_lt hjs]
         rw [e0,e1,e2,List.getD_eq_getElem?_getD,List.getElem?_eq_getElem hj2,Option.getD_some]
     rw [e]
     exact⟨n,_,h6,hsm.2 (D k) (List.mem_map.2 ⟨k,List.mem_range.2 hk,rfl⟩)⟩
theorem Rd.field{fs:Array Field}{t u:TypeId}{cs ds:List Value}(h:Rd enc P w held t cs)(ht:P.underlying t=some (.struct fs))(j:Nat){f:Field}(hf:fs[j]? =some f){k:Nat}(hu:f.type=u)(hk:P.cellsOf u=k)(hd:(cs.drop f.offset).take k=ds):Rd enc P w held u ds:=by
 subst hu;subst hd;rw [<-hk];exact h.struct ht j f hf
theorem ZcX{cs:Array Value}{l:List Value}(h:cs.toList=l):cs=l.toArray:=by subst h;simp
theorem Rd.arg{t:TypeId}{v:Value}{d:DataW H}{p:List MemPlace}(h:DataW.Trod enc P w 0 (fun _=>true) held t v d p)(hs:Small P t d):Rd enc P w held t v.cells.toList:=by
 obtain⟨fuel,hf⟩:=h
 exact⟨fuel,_,hf,hs⟩
theorem ZoK{cs:List Value}(h:cs.length=4):∃a b c d,cs= [a,b,c,d]:=by match cs,h with| [a,b,c,d],_=>exact⟨_,_,_,_,rfl⟩
theorem Rd.nums{k:IntKind}{t e:TypeId}{b:Nat}{v:Value}(h:Rd enc P w held t [v])(ht:P.underlying t=some (.slice e))(he:P.underlying e=some (.int k))(hc:P.cellsOf e=1)(hb:P.bytesOf e=b)(hb1:1<=b):
   ∃(n:Int) (f:Of),Row w v 1 n (fun j=> .int k (f j))/\b*n<=140737488351232/\∀j,(Lit.int k (f j)).wf=true:=by
 obtain⟨n,c,h1,h2,h3⟩:=h.slice ht hc hb Oa hb1
 have h0:(Lit.int k 0).wf=true:=by cases k<;>decide
 have e0:∀i:Int,∃x:Int,(Lit.int k x).wf=true/\(0<=i->i<n->c i= .int k x):=fun i=>by
   by_cases hi:0<=i/\i<n
   · have h4:=h3 i hi.1 hi.2
     simp only [List.range_one,List.map_cons,List.map_nil] at h4
     obtain⟨x,hx,hw⟩:=h4.intv he
     refine⟨x,hw,fun _ _=> ?_⟩
     rw [<-hx];congr 1;omega
   · exact⟨0,h0,fun a0 a1=>absurd ⟨a0,a1⟩ hi⟩
 obtain⟨f,hf⟩:=Classical.axiomOfChoice e0
 exact⟨n,f,h1.congr fun i i0 i1=>(hf i).2 i0 Oa,h2,fun j=>(hf j).1⟩
theorem Rd.ints{t e:TypeId}{v:Value}(h:Rd enc P w held t [v])(ht:P.underlying t=some (.slice e))(he:P.underlying e=some (.int .i64))(hc:P.cellsOf e=1)(hb:P.bytesOf e=8):∃(n:Int) (f:Of),IAt w v n f:=by
 obtain⟨n,f,h1,_,h2⟩:=h.nums ht he hc hb Oa
 exact⟨n,f,h1,fun k=>ZcS (h2 k)⟩
end
end Go.Proofs.Gw
