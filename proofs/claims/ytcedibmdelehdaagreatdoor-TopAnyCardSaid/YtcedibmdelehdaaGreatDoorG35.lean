/- Lemmas. -/
import Derived.Test.YtcedibmdelehdaaGreatDoorG33
import Derived.Test.YtcedibmdelehdaaGreatDoorG34
namespace Go.Proofs.YtcedibmdelehdaaGreatDoor
set_option maxRecDepth 100000
set_option maxHeartbeats 32000000
open Go.Value renaming int->E,slice->Ax,pointer->A2,bool->Bd,tuple->CA,agg->CB
open Go.World renaming grownBy_alloc->O
open Go.IntKind renaming i64->V,wrap_i64->CE,u64->C2
open Option renaming none->Y,some->A3
open Bool renaming false->AA,true->BC
open Go.NoPanic renaming normal->A4
open Go.Ending renaming returned->A5
open Go renaming World->A6,bodyPost_ret->Bk,results_tmp2->BE,Value->BL,Calls->B0,Addr->CV,Ending->C1,maxLen->C4,TypeId->C5
open Go.Proofs.Tryz renaming prog->A7,results229->CK,ntmps229->CL,ntmps180->CR,func229->CX,func180->C0
open Go.IntWalk renaming wrap64_in->Bn
open And renaming intro->Bs
open Go.Obj renaming cells->BA
open Or renaming inr->BB,inl->BZ
open Decidable renaming decide->BD
open Go.RowKit renaming wrap64->BR,intOf->C6
variable{f:A6}{h e g j p q r s t w x:Nat}{J:Int->List Nat}{Z:Ae}{a:Int->Option Pg}{b:Pl}{c:List Nat}{d:BL}{i z A B:Nat->Bool}{k:As}{l:C5}{n:Pg}{o:List BL}
section
open Go.RowKit
attribute [local go_sem ↓] Go.wp_at_zero Go.wp_at_succ
theorem Pl.aY.dH(h:b.aY){k:Nat}(a:k<b.a4):b.aP+k<b.ss/\b.a4<=16384/\b.aP<=16384:=by
 have d:=h.eh;have e:=h.dE;have c:b.a4=b.ss - b.aP:=rfl;rw[c]at a⊢;exact⟨Ω,Ω,Ω⟩
theorem BI.cells(c:BI f Z h e b t g j w x p q r s i z A B a):
  f.cell? ⟨h,0,Y⟩=A3 (A2 (A3 ⟨e,0,Y⟩))/\f.cell? ⟨h,9,Y⟩=A3 (E V b.aP)/\f.cell? ⟨h,10,Y⟩=A3 (E V b.a4)/\f.cell? ⟨h,11,Y⟩=A3 (E V (b.n - 19:Nat))/\f.cell? ⟨h,12,Y⟩=A3 (E V g)/\
  f.cell? ⟨h,13,Y⟩=A3 (A2 (A3 ⟨j,0,Y⟩))/\f.cell? ⟨h,14,Y⟩=A3 (.map (A3 p))/\f.cell? ⟨h,15,Y⟩=A3 (.map (A3 q))/\f.cell? ⟨h,16,Y⟩=A3 (.map (A3 r))/\f.cell? ⟨h,17,Y⟩=A3 (A2 (A3 ⟨s,0,Y⟩)):=
 ⟨c.y.m 0,c.y.m 9,c.y.m 10,c.y.m 11,c.y.m 12,c.y.m 13,c.y.m 14,c.y.m 15,c.y.m 16,c.y.m 17⟩
theorem Uf(c:BI f Z h e b g j p q r s t w x i z A B a)(k d:Nat)(o:k<b.a4):
  B0 A7 228 #[A2 (A3 ⟨h,0,Y⟩),CB #[E V k,E V d]] f λl m=>l=A5 (E V 0)/\f.grownBy m Y:=by
 obtain⟨_,_,n,_⟩:=c.cells;clear c;generalize b.a4=N at*;have u:BD ((k:Int)<0)=AA:=Δ;have v:BD ((N:Int)<=(k:Int))=AA:=Γ;have y:BD (N<=k)=AA:=Γ;have C:=(O f (BA #[E V k,E V d] 165) Y).cell n Δ
 go_enter Tryz.func228,Tryz.ntmps228
 go_wp2_with fail
 go_quiet (fail)
 go_wp2_with fail;go_ret;exact⟨rfl,Ab (O _ _ Y) (AZ _ nq Y)⟩
theorem OX{bc:Nat}(v:BI f Z g h b j p q r s t w x bc i z A B a)(S:AF f Z h b.ss b.n e J)(T:AD f Z)(U:e<=1073741824)(aj:j<=1073741824)(X:b.aY)
  (k m:Nat)(o:Option CV)(c:Nat)(d:List Nat)(L:Bool)(u:FP b p k m d)(hp:Bw f Z o c d):
  B0 A7 150 #[A2 (A3 ⟨g,0,Y⟩),E V k,CB #[E V m,Ax o d.length c,Bd L]] f λy n=>y=A5 (E V 0)/\∃l,Ad (λC=>C=1) f Z n l/\AF n l h b.ss b.n (e+1) (CJ J ((b.aP+k:Nat):Int) (Cd b.n 2 k m d)):=by
 obtain⟨M,ab,ak⟩:=X.dH u.lt;have al:=v.q1;have ac:=u.lt;have am:=u.fL;have N:BR ((b.aP:Int)+(k:Int))=((b.aP+k:Nat):Int):=Dm rfl (jM (nh (jJ M X.dE)) Ω)
 have ad:=λ(W:A6) (D:Ae) (hD:AF W D h b.ss b.n e J) (hC:AD W D) (hP:Bw W D o c d)=>MQ h b.ss b.n e J ((b.aP+k:Nat):Int) 2 k m d o c W D hD hC U Ω (by exact_mod_cast M) Ω Ω (jM (nh (jJ ac ab)) Ω) Ω u.aC u.bB hP.1
 have ae:=zh ad;have H:=zh v;have HD:=zh S;have HC:=zh T;have HP:=zh hp
 have au:∀(y:C1) (n:A6),(y=A5 (E V 0)/\∃l,Ad (λC=>C=1) f Z n l/\AF n l h b.ss b.n (e+1) (CJ J ((b.aP+k:Nat):Int) (Cd b.n 2 k m d)))->(y=A5 (E V 0)/\∃l,Ad (λC=>C=1) f Z n l/\AF n l h b.ss b.n (e+1) (CJ J ((b.aP+k:Nat):Int) (Cd b.n 2 k m d))):=λ_ _ v=>v
 obtain⟨aC,P⟩:∃av,b.aP=av:=⟨_,rfl⟩;obtain⟨ag,F⟩:∃ag:Nat,b.aP+k=ag:=⟨_,rfl⟩;rw[F]at N ae;rw[P]at N;have aw:=zh P;have HZ:=zh F;clear v S T hp ad u M ab ak ac am al U aj P au;rw[F];clear F
 go_enter Tryz.func150,Tryz.ntmps150
 go_wp2_with fail;obtain⟨G,I⟩:=Af (f.alloc (BA #[E V m,Ax o d.length c,Bd L] 198))
 have Q:f.grownBy G Y:=by rw[<-I];exact O _ _ Y
 have R:Aa G f.heap.size 198 [E V m,Ax o d.length c,Bd L]:=by rw[<-I];exact Aa.new _ _ _
 rw[I];have G1:=zh Q;have H1:=H.o.u Q;obtain⟨c0,c9,_⟩:=H1.cells;have x0:=R.m 0;have x1:=R.m 1;rw[aw.o]at c9;clear I Q H1 R
 go_still_tail 16,Φ
 go_wp2_with fail;have K:=Ab G1.o (Bm G);have az:=HP.o.u K;rw[N];refine(ae.o G.drew Z (HD.o.u K) (HC.o.u K) az).mono ?_;rintro y w2 ⟨rfl,l,hs,aB⟩;go_wp2_with fail;go_ret;exact⟨rfl,l,(Ad.u HC.o K).trans hs,aB⟩
theorem BI.eV{C:Nat->Prop}{u:A6}{n:Ae}{v:Nat}{D:Int->Option Pg}(d:BI u Z g j b p q r s t w x v e i z A B D)(k:Ad C u Z f n)(E:¬C 3)(F:¬C 0)(m:p<=h)(G:CZ f n e b.a7 h a):BI f n g j b h q r s t w x v e i z A B a:=by
 have l:∀o,Z o=3->¬C (Z o):=λo H c=>E (by rw[<-H];exact c)
 exact{
  y:=k.au.y d.y (l _ d.c0)
  aV:=d.aV.au k.au (l _ d.c1) (l _ d.c2) (λc=>F (by rw[<-d.dZ];exact c))
  mf:=(d.mf.au k.au (l _ d.c3)).mono m
  my:=(d.my.au k.au (l _ d.c4)).mono m
  md:=(d.md.au k.au (l _ d.c5)).mono m
  cu:=G
  fy:=d.fy
  fd:=d.fd
  yd:=d.yd
  c0:=by rw[k.ak _ d.y.lt];exact d.c0
  c1:=by rw[k.ak _ d.aV.ek.1];exact d.c1
  c2:=by rw[k.ak _ d.aV.ek.2.1];exact d.c2
  c3:=by rw[k.ak _ d.mf.lt];exact d.c3
  c4:=by rw[k.ak _ d.my.lt];exact d.c4
  c5:=by rw[k.ak _ d.md.lt];exact d.c5
  dZ:=by rw[k.ak _ d.aV.ek.2.2.2];exact d.dZ
  q1:=jM d.q1 (mG m)}
theorem QU{c:Int->Option Pg}(f:a (h:Int)=A3 n)(d:∀j:Int,j≠h->a j=c j):Hs b h n c a J J:=
 ⟨f,λi g=>BZ (d i g),λk l _ m o e=>by
  unfold Gb at e⊢;rw[d k (by exact_mod_cast l)]
  exact e,rfl,AR.refl _ _⟩
theorem Qx{l:Int->Option Pg}(p:a (e:Int)=A3 n)(q:l (h:Int)=A3 (g,c,AA))(m:a (h:Int)=Y)(o:∀j:Int,j≠e->j≠h->a j=l j):Hs b e n l a J J:=by
 refine⟨p,λi r=>?_,λk s _ t u d=>?_,rfl,AR.refl _ _⟩
 ·by_cases f:i=h
  ·exact BB (by rw[f];exact m)
  ·exact BZ (o i r f)
 ·unfold Gb at d⊢
  by_cases f:k=h
  ·subst f;rw[q]at d;rw[m]
   rcases d with d|⟨_,d⟩
   ·injection d with d;injection d with _ d;injection d with _ d;cases d
   ·exact BB ⟨BZ rfl,d⟩
  ·rw[o k (by exact_mod_cast s) (by exact_mod_cast f)];exact d
theorem QT{m:Int->Option Pg}(t:a (e:Int)=A3 n)(u:m (h:Int)=A3 (g,c,BC))(p:a (h:Int)=Y)(v:h≠e)(w:h<b.a4)(q:∀j:Int,j≠e->j≠h->a j=m j):
  Hs b e n m a J (CJ J ((b.aP+h:Nat):Int) (Cd b.n 2 h g c)):=by
 have r:∀k:Nat,k≠h->CJ J ((b.aP+h:Nat):Int) (Cd b.n 2 h g c) ((b.aP+k:Nat):Int)=J ((b.aP+k:Nat):Int):=λk o=>jN (λf=>o (nY (n:=b.aP) (by exact_mod_cast f)))
 refine⟨t,λi l=>?_,λk o _ x y d=>?_,r e (λf=>v f.symm),λi l=>jN (λf=>?_)⟩
 ·by_cases f:i=h
  ·exact BB (by rw[f];exact p)
  ·exact BZ (q i l f)
 ·unfold Gb at d⊢
  by_cases f:k=h
  ·subst f;rw[u]at d;rw[p]
   have s:x=g/\y=c:=by
    rcases d with d|⟨d|d,_⟩
    ·injection d with d;injection d with z d;injection d with A _;exact⟨z.symm,A.symm⟩
    ·cases d
    ·injection d with d;injection d with _ d;injection d with _ d;cases d
   rw[s.1,s.2];exact BB ⟨BZ rfl,jP rfl⟩
  ·rw[q k (by exact_mod_cast o) (by exact_mod_cast f),r k f];exact d
 ·subst f
  rcases l with l|l
  ·have:b.aP+h<b.aP:=by exact_mod_cast l
   exact absurd this (Nat.not_lt.2 (nR _ _))
  ·have:b.aP+b.a4<=b.aP+h:=by exact_mod_cast l
   exact absurd (pK this) (Nat.not_le.2 w)
theorem Ba{x y:Int}(h:BR x=y):V.wrap x=y:=by
 rw[<-h,CE];unfold BR;rfl
theorem DS.ij(a:DS f Z h e b g j k J):
  ∃c,Aa f h 196 (A2 (A3 ⟨e,0,Y⟩)::(b.cells++c)):=by
 obtain⟨B,i,l,m,n,o,p,q,r,s,t,u,d,_⟩:=a;exact⟨_,d.y⟩
theorem RU(c:DS f Z h e b g j k J):
  B0 A7 136 #[A2 (A3 ⟨h,0,Y⟩)] f λd i=>d=A5 b.val/\f.grownBy i Y:=by
 obtain⟨u,a⟩:=c.ij;clear c;obtain⟨l,n,m,o,q,r,s,t⟩:=b;have w:=(O f (BA #[E V 0,E V 0,E V 0,E V 0,E V 0,E V 0,E V 0,E C2 0] 37) Y).cell (a.m 1) Δ;have x:=(O f (BA #[E V 0,E V 0,E V 0,E V 0,E V 0,E V 0,E V 0,E C2 0] 37) Y).cell (a.m 2) Δ;have y:=(O f (BA #[E V 0,E V 0,E V 0,E V 0,E V 0,E V 0,E V 0,E C2 0] 37) Y).cell (a.m 3) Δ;have z:=(O f (BA #[E V 0,E V 0,E V 0,E V 0,E V 0,E V 0,E V 0,E C2 0] 37) Y).cell (a.m 4) Δ;have A:=(O f (BA #[E V 0,E V 0,E V 0,E V 0,E V 0,E V 0,E V 0,E C2 0] 37) Y).cell (a.m 5) Δ;have B:=(O f (BA #[E V 0,E V 0,E V 0,E V 0,E V 0,E V 0,E V 0,E C2 0] 37) Y).cell (a.m 6) Δ;have C:=(O f (BA #[E V 0,E V 0,E V 0,E V 0,E V 0,E V 0,E V 0,E C2 0] 37) Y).cell (a.m 7) Δ;have D:=(O f (BA #[E V 0,E V 0,E V 0,E V 0,E V 0,E V 0,E V 0,E C2 0] 37) Y).cell (a.m 8) Δ;clear a
 go_enter Tryz.func136,Tryz.ntmps136
 go_wp2_with fail;refine Bk (v:=CB #[E V l,E V n,E V m,E V o,E V q,E V r,E V s,E C2 (U t)]) (results_cell_row (p:=2) (ty:=37) rfl _ _ f.heap.size _ _ _ _ rfl (World.alloc_heap_new _ _) Tryz.underlying37 rfl Φ) rfl ⟨rfl,O _ _ Y⟩
def CM(P:Pl)(a:Nat):Nat:=max (a+1 - P.rg) 1
theorem ag(a:Bf f Z h g b e j d c):
  B0 A7 157 #[A2 (A3 ⟨h,0,Y⟩)] f λi k=>i=A5 (E V e)/\f=k:=by
 obtain⟨_,_,_,_,_,_,l,_⟩:=a.cells;clear a
 go_enter Tryz.func157,Tryz.ntmps157
 go_wp2_with fail;go_ret;exact⟨rfl,rfl⟩
theorem NV(i:Bf f Z e g b h j d c)(k:b.aY)(n:h<=1099511627776):
  B0 A7 48 #[A2 (A3 ⟨e,0,Y⟩)] f λl m=>l=A5 (E V (CM b h:Nat))/\f.grownBy m Y:=by
 obtain⟨_,o,_,_,_,_,p,_⟩:=i.cells;have q:=k.fq;clear i k;unfold CM;generalize b.rg=a at*;have r:BR ((h:Int) - (a:Int))=(h:Int) - (a:Int):=Bn _ Ω;have s:BR ((h:Int) - (a:Int)+1)=(h:Int) - (a:Int)+1:=Bn _ Ω
 go_enter Tryz.func48,Tryz.ntmps48
 go_wp2_with fail
 go_quiet (fail)
 go_wp2_with fail;go_ret;refine⟨?_,AZ _ nq Y⟩;rw[show max ((h:Int) - (a:Int)+1) 1=((max (h+1 - a) 1:Nat):Int) by omega];rfl
theorem Yq(k:Bf f Z g j b h e d c)(i:b.aY)(l:h<=1099511627776)(r:e<=b.aA):
  B0 A7 47 #[A2 (A3 ⟨g,0,Y⟩)] f λn o=>n=A5 (E V (h*b.aA+e:Nat))/\f.grownBy o Y:=by
 obtain⟨_,_,_,_,s,_,t,u,_⟩:=k.cells;have p:b.aA<=32*493:=ln i.cQ (Ψ i.n1);clear k i;generalize b.aA=a at*;have v:h*a<=1099511627776*(32*493):=ln l p
 have q:(h:Int)*(a:Int)=((h*a:Nat):Int):=by push_cast;rfl
 generalize h*a=m at*
 have w:BR ((h:Int)*(a:Int))=(m:Int):=by rw[q];exact Bn _ Ω
 have x:BR ((m:Int)+(e:Int))=((m+e:Nat):Int):=by rw[Bn _ Ω];rfl
 go_enter Tryz.func47,Tryz.ntmps47
 go_wp2_with fail
 go_quiet (fail)
 go_wp2_with fail;go_ret;exact⟨rfl,AZ _ nq Y⟩
theorem QL(k:Bf f Z h e b g j d c)(a:b.aY)(q i:Nat)(n:i<b.rs):
  B0 A7 208 #[A2 (A3 ⟨h,0,Y⟩),E V q,E V i] f λo p=>o=A5 (E V (BY b q i:Nat))/\f.grownBy p Y:=by
 obtain⟨_,w,x,_⟩:=k.cells;have r:=Lo a (q:=q) n;have y:=a.fP;have z:=a.fJ;clear k a;unfold BY at r⊢
 have A:((q:Int)).tmod (b.rg:Int)=((q%b.rg:Nat):Int):=by rw[kP Ω];rfl
 have l:((q%b.rg:Nat):Int)*(b.rs:Int)=((q%b.rg*b.rs:Nat):Int):=by push_cast;rfl
 generalize q%b.rg*b.rs=m at*;generalize q%b.rg=u at*;generalize b.rg*b.rs=v at*;generalize b.rg=s at*;generalize b.rs=t at*;have B:((s:Int)==0)=AA:=Γ
 have C:BR ((u:Int)*(t:Int))=(m:Int):=by rw[l];exact Bn _ Ω
 have D:BR ((m:Int)+(i:Int))=((m+i:Nat):Int):=by rw[Bn _ Ω];rfl
 clear l
 go_enter Tryz.func208,Tryz.ntmps208
 go_wp2_with fail
 go_quiet (fail)
 go_wp2_with fail;go_ret;exact⟨rfl,AZ _ nq Y⟩
theorem Rd(i:Bf f Z e g b h j d c)(l:b.aY)(r:h<=1099511627776)(q:Nat)(w:q<=h):
  B0 A7 180 #[A2 (A3 ⟨e,0,Y⟩),E V q] f λk s=>k=A5 (Bd (BD (CM b h<=q)))/\f.grownBy s Y:=by
 have m:=zh (NV i l r);obtain⟨_,_,_,_,_,_,n,_⟩:=i.cells;clear i l;generalize CM b h=o at*;have x:BD ((q:Int)<=(h:Int))=BC:=jG Ω
 by_cases p:o<=q
 ·have t:BD ((o:Int)<=(q:Int))=BC:=jG Ω;rw[show BD (o<=q)=BC from jG p]
  go_enter C0,CR
  go_wp2_with fail;refine m.o.mono ?_;rintro k u ⟨rfl,a⟩;have v:=a.cell n Δ;go_wp2_with fail;go_ret;exact⟨rfl,a⟩
 ·have t:BD ((o:Int)<=(q:Int))=AA:=jH Ω;rw[show BD (o<=q)=AA from jH p]
  go_enter C0,CR
  go_wp2_with fail;refine m.o.mono ?_;rintro k u ⟨rfl,a⟩;have v:=a.cell n Δ;go_wp2_with fail;go_ret;exact⟨rfl,a⟩
abbrev SK(n:Nat):Nat->Prop:=Sc (λj=>j=1\/j=2) n
def be(w:A6)(h:Ae)(s d:Nat)(P:Pl)(q i B g j l m o p:Nat)(r t u v:Nat->Bool)(y:Int->Option Pg)(z:Int->List Nat)(k:Nat)(x:Pg)(n:Nat)(e:C1)(a:A6):Prop:=
 e=A5 (E V 0)/\∃b c f,Ad (SK n) w h a b/\BI a b s d P (q+1) i B g j l m o p r t u v c/\AF a b d P.ss P.n (q+1) f/\Hs P k x y c z f
structure LB(w:A6)(c:Ae)(s d:Nat)(P:Pl)(q e B g f h i j l:Nat)(m n o p:Nat->Bool)(t:Int->Option Pg)(r:Int->List Nat)(k:Nat)(x:Pg)(W:A6)(a:Ae)(b:Int->Option Pg):Prop where
 st:Ad (SK 102) w c W a
 bM:BI W a s d P (q+1) e B g f h i j l m n o p b
 bH:AF W a d P.ss P.n q r
 d5:b (k:Int)=A3 x
theorem LB.aS{v:Ae}{k:Nat}{W y:A6}{C:Int->Option Pg}(c:LB f v h e b g j p q r s t w x i z A B a J k n W Z C){L:Nat}(m:Z L=101)(o:Ac (λl=>l=L) W y):LB f v h e b g j p q r s t w x i z A B a J k n y Z C:=
 ⟨c.st.trans (AL c.st.new o (λl d=>by rw[d,m];exact BB ⟨Ω,Ω⟩)),c.bM.ao o (λl u d=>by rw[d,m]at u;omega) (λ_ _=>rfl),c.bH.ao o (λl u d=>by rw[d,m]at u;omega) (λ_ _=>rfl),c.d5⟩
theorem JO{tk:Nat->Bool}(u:BI f Z e j b h g q r s t w x p tk z A B a)(bh:∀i R P di,a i=A3 (R,P,di)->∃k:Nat,i=k/\FP b g k R P)(hd:AF f Z j b.ss b.n h J)(bj:AD f Z)(hq:h<=1073741823)(aR:b.aY)
  (k R:Nat)(ah:Option CV)(c:Nat)(P:List Nat)(di:Bool)(hk:FP b g k R P)(hp:Bw f Z ah c P):
  B0 A7 139 #[A2 (A3 ⟨e,0,Y⟩),E V k,CB #[E V R,Ax ah P.length c,Bd di]] f (be f Z e j b h g q r s t w x p tk z A B a J k (R,P,di) 102):=by
 have bl:(k:Int)<=65535:=by have:=(aR.dH hk.lt).2.1;have:=hk.lt;omega
 have H:=zh u;have bm:=zh bh;have HD:=zh hd;have HC:=zh bj;have HP:=zh hp;have HK:=zh hk;clear u bh hd bj hp hk
 go_enter Tryz.func139,Tryz.ntmps139
 go_wp2_with fail;obtain⟨w1,ar⟩:=Af (f.alloc (BA #[E V R,Ax ah P.length c,Bd di] 198))
 have g1:f.grownBy w1 Y:=by rw[<-ar];exact O _ _ Y
 have b1:Aa w1 f.heap.size 198 [E V R,Ax ah P.length c,Bd di]:=by rw[<-ar];exact Aa.new _ _ _
 have bS:w1.heap.size=f.heap.size+1:=by rw[<-ar];simp
 rw[ar];have G1:=zh g1;have B1:=zh b1;clear ar g1 b1;refine AS (λW=>W.cell? ⟨e,17,Y⟩=A3 (A2 (A3 ⟨p,0,Y⟩))/\Aa W f.heap.size 198 [E V (R:Nat),Ax ah P.length c,Bd di]) (.bN [0,1,2,3,4,5] 6 AA (.am [] [7,8,9,10] 11 BC (.am [] [12] 13 AA (.am [] [] 14 AA (.nil)))) 11 BC (.am [] [] 6 AA (.am [] [7,8,9,10,12] 13 AA (.am [] [] 14 AA (.nil))))) Φ Φ ?_;obtain⟨w2,aS⟩:=Af w1.drew
 have g2:w1.grownBy w2 Y:=by rw[<-aS];exact Bm w1
 rw[aS];have G2:=zh (Ab G1.o g2);have B2:=zh (B1.o.u g2 Δ);have H2:=zh (H.o.u G2.o);have bp:=zh (HD.o.u G2.o);have bF:=zh (HC.o.u G2.o);have bq:=zh (HP.o.u G2.o);clear aS g2;refine DK ⟨H2.o.cells.2.2.2.2.2.2.2.2.2,B2.o⟩ ?_
 iterate 6 ((apply AC rfl Θ;(· intro wS aj;(try have aj:=aj rfl);(try dsimp only at aj);(try(have bU:=aj.1;have x0:=aj.2.m 0;have x1:=aj.2.m 1;have x2:=aj.2.m 2));go_simp;(try with_reducible rfl)));refine Al ?_)
 refine Aj ⟨?_,?_⟩
 ·refine Am ?_;intro K m;refine(Pw H2.o.cu bF.o (by unfold C4;omega) k Ω bl R ah c P di bq.o).mono ?_;rintro v Q ⟨au,L,X,av,aw,ax⟩
  obtain⟨y,F,C,D,n,G,wb,rfl,hr⟩:∃(y:Int) (F:Nat) (C:Option CV) (D:Nat) (n:List Nat) (G wb:Bool),v=A5 (CA #[E V y,CB #[E V F,Ax C n.length D,Bd G],Bd wb])/\
    ((wb=AA/\∀d:Int,d≠k->L d=a d)\/(wb=BC/\y≠k/\a y=A3 (F,n,G)/\L y=Y/\(∀d:Int,d≠k->d≠y->L d=a d)/\Bw Q au C D n)):=by
   rcases ax with⟨rfl,o⟩|⟨y,F,C,D,n,G,rfl,o,M,T,U,h5,_⟩
   ·exact⟨0,0,Y,0,[],AA,AA,rfl,BZ ⟨rfl,o⟩⟩
   ·exact⟨y,F,C,D,n,G,BC,rfl,BB ⟨rfl,o,M,T,U,h5⟩⟩
  have HR:=zh hr;have aW:Hd (Ad (SK 102) f Z Q au):=zh ((Ad.u HC.o G2.o).trans (X.mono (Sc.mono (λd v=>BB v) Ω)));have br:=zh (H2.o.eV X (Sc.aG Ω Ω) (Sc.aG Ω Ω) (j9 h) av);have bs:=zh (bp.o.ag X (Sc.aG Ω Ω));have bt:=zh aw;have aX:=zh (X.y B2.o (by rw[HC.o f.heap.size (jF _)];exact Sc.aG Ω Ω));clear X av aw ax hr;dsimp only;refine Aq m ?_;clear m K;refine Ap ?_
  iterate 4 refine Av ?_
  refine Aj ?_;refine Am ?_;intro K m;obtain⟨w4,aJ⟩:=Af (Q.alloc (BA #[E V 0,Ax Y 0 0,Bd AA] 198))
  have g4:Q.grownBy w4 Y:=by rw[<-aJ];exact O _ _ Y
  have b4:Aa w4 Q.heap.size 198 [E V 0,Ax Y 0 0,Bd AA]:=by rw[<-aJ];exact Aa.new _ _ _
  rw[aJ];obtain⟨ac,aK⟩:=Af (AN au Q.heap.size 101)
  have aZ:ac Q.heap.size=101:=by rw[<-aK];exact A0 _ _ _
  have aL:∀d,d<Q.heap.size->ac d=au d:=λd hj=>by rw[<-aK];exact Bz _ _ Ω
  have bu:LB f Z e j b h g q r s t w x p tk z A B a J k (R,P,di) w4 ac L:=
   ⟨aW.o.trans (by rw[<-aK];exact Cl aW.o.new g4 (jF _) b4.lt (BB ⟨Ω,Ω⟩)),br.o.ao (Ac.az (S:=λ_=>False) g4) (λ_ _ u=>u) aL,bs.o.ao (Ac.az (S:=λ_=>False) g4) (λ_ _ u=>u) aL,bt.o⟩
  have a0:Hd (Bw Q au C D n->∀w5,Ac (λd=>d=Q.heap.size) w4 w5->Bw w5 ac C D n):=zh (λu w5 ht=>((u.ao (col':=ac) (Ac.az (S:=λ_=>False) g4) (λ_ _ u=>u) aL)).ao ht (λbH hb v=>by rw[v,aZ]at hb;cases hb) (λ_ _=>rfl));have aM:=zh aZ;have aN:=zh bu;have N:=zh b4;have bI:=zh (aX.o.u g4 Δ);clear aJ g4 b4 aK aL bu aZ aW br bs bt;refine m _ _ ⟨_,λ_ u=>u,λ_=>⟨aN.o.bM.cells.2.2.2.2.2.2.2.2.2,bI.o⟩,?_⟩;clear m K;refine Al ?_;refine Ap ?_;refine Av ?_;refine Aj ?_;have y0:=N.o.m 0;have y1:=N.o.m 1;have y2:=N.o.m 2;have f0:=N.o.v 0;have f1:=N.o.v 1;have f2:=N.o.v 2;refine Am ?_;intro K m;obtain⟨w5,aA,aB,ak⟩:=Bq N.o (E V F) (Ax C n.length D) (Bd G);rw[aA];have aC:=aN.o.aS aM.o ak;have a8:=zh ak;clear y0 y1 y2 f0 f1 f2 aA ak;refine Aq m ?_;clear m K;refine Ap ?_;refine Aj ?_;refine Am ?_;intro K m;refine Aq m ?_;clear m K;refine AG (A4 ?_);have al:=zh aB;have l:=zh aC;clear aB aC;have z0:=al.o.m 0;have z1:=al.o.m 1;have z2:=al.o.m 2
  rcases HR.o with⟨rfl,o⟩|⟨rfl,o,M,T,U,h5⟩
  ·have H1:=zh o;clear o;go_wp2_with fail;go_ret;exact⟨rfl,_,L,J,l.o.st,l.o.bM,l.o.bH.mono (j9 h),QU l.o.d5 H1.o⟩
  ·obtain⟨gk,rfl,am⟩:=bm.o y F n G M
   cases G
   ·have I:=zh (Bs o (Bs M (Bs T U)));clear o M T U h5 am;go_wp2_with fail;go_ret;exact⟨rfl,_,L,J,l.o.st,l.o.bM,l.o.bH.mono (j9 h),Qx l.o.d5 I.o.2.1 I.o.2.2.1 I.o.2.2.2⟩
   ·have I:=zh (Bs o (Bs M (Bs T U)));have HG:=zh am;have H5:=zh (a0.o h5 w5 a8.o);clear o M T U h5 am;go_wp2_with fail;refine(OX l.o.bM l.o.bH l.o.st.new Ω Ω aR gk F C D n BC HG.o H5.o).mono ?_;rintro v w9 ⟨rfl,bb,aE,bc⟩;go_wp2_with fail;go_ret
    have bd:gk≠k:=λv=>I.o.1 (by rw[v])
    exact⟨rfl,bb,L,_,l.o.st.trans (aE.mono (λd v=>BZ (BZ v))),l.o.bM.ag aE Ω Ω Ω,bc,QT l.o.d5 I.o.2.1 I.o.2.2.1 bd HG.o.lt I.o.2.2.2⟩
 ·refine Am ?_;intro K m;obtain⟨Q,aO⟩:=Af (w2.alloc (BA #[E V 0,Ax Y 0 0,Bd AA] 198))
  have g3:w2.grownBy Q Y:=by rw[<-aO];exact O _ _ Y
  have b3:Aa Q w2.heap.size 198 [E V 0,Ax Y 0 0,Bd AA]:=by rw[<-aO];exact Aa.new _ _ _
  rw[aO];obtain⟨aq,aP⟩:=Af (AN Z w2.heap.size 101)
  have bv:aq w2.heap.size=101:=by rw[<-aP];exact A0 _ _ _
  have bN:f.heap.size<=w2.heap.size:=G2.o.size
  have aQ:∀d,d<w2.heap.size->aq d=Z d:=λd hj=>by rw[<-aP];exact Bz _ _ Ω
  have bw:Ad (SK 102) f Z Q aq:=by rw[<-aP];exact Cl HC.o (Ab G2.o g3) bN b3.lt (BB ⟨Ω,Ω⟩)
  have bx:=zh bw;have bg:=zh (H2.o.ao (col':=aq) (Ac.az (S:=λ_=>False) g3) (λ_ _ u=>u) aQ);have bO:=zh (bp.o.ao (col':=aq) (Ac.az (S:=λ_=>False) g3) (λ_ _ u=>u) aQ);have bP:=zh (bq.o.ao (col':=aq) (Ac.az (S:=λ_=>False) g3) (λ_ _ u=>u) aQ);have B3:=zh b3;have bA:=zh bv;have aX:=zh (B2.o.u g3 Δ);clear aO g3 b3 aP bv aQ bw;refine m _ _ ⟨_,λ_ u=>u,λ_=>⟨bg.o.cells.2.2.2.2.2.2.2.2.2,aX.o⟩,?_⟩;clear m K;refine Al ?_;refine Ap ?_;refine Aj ?_;refine Am ?_;intro K m;refine(Pw bg.o.cu bx.o.new (by unfold C4;omega) k Ω bl R ah c P di bP.o).mono ?_;rintro v w4 ⟨ac,L,X,av,aw,ax⟩
  obtain⟨y,F,C,D,n,G,wb,rfl,hr⟩:∃(y:Int) (F:Nat) (C:Option CV) (D:Nat) (n:List Nat) (G wb:Bool),v=A5 (CA #[E V y,CB #[E V F,Ax C n.length D,Bd G],Bd wb])/\
    ((wb=AA/\∀d:Int,d≠k->L d=a d)\/(wb=BC/\y≠k/\a y=A3 (F,n,G)/\L y=Y/\(∀d:Int,d≠k->d≠y->L d=a d)/\Bw w4 ac C D n)):=by
   rcases ax with⟨rfl,o⟩|⟨y,F,C,D,n,G,rfl,o,M,T,U,h5,_⟩
   ·exact⟨0,0,Y,0,[],AA,AA,rfl,BZ ⟨rfl,o⟩⟩
   ·exact⟨y,F,C,D,n,G,BC,rfl,BB ⟨rfl,o,M,T,U,h5⟩⟩
  have HR:=zh hr;have aM:Hd (ac w2.heap.size=101):=zh (by rw[X.ak _ B3.o.lt];exact bA.o);have N:=zh (X.y B3.o (by rw[bA.o];exact Sc.aG Ω Ω));have aN:Hd (LB f Z e j b h g q r s t w x p tk z A B a J k (R,P,di) w4 ac L):=zh ⟨bx.o.trans (X.mono (Sc.mono (λd v=>BB v) Ω)),bg.o.eV X (Sc.aG Ω Ω) (Sc.aG Ω Ω) (j9 h) av,bO.o.ag X (Sc.aG Ω Ω),aw⟩;have a0:Hd (Bw w4 ac C D n->∀w5,Ac (λd=>d=w2.heap.size) w4 w5->Bw w5 ac C D n):=zh (λu w5 ht=>u.ao ht (λbH hb v=>by rw[v,aM.o]at hb;cases hb) (λ_ _=>rfl));clear X av aw ax hr;dsimp only;refine Aq m ?_;clear m K;refine Ap ?_
  iterate 5 refine Av ?_
  refine Aj ?_;have y0:=N.o.m 0;have y1:=N.o.m 1;have y2:=N.o.m 2;have f0:=N.o.v 0;have f1:=N.o.v 1;have f2:=N.o.v 2;refine Am ?_;intro K m;obtain⟨w5,aA,aB,ak⟩:=Bq N.o (E V F) (Ax C n.length D) (Bd G);rw[aA];have aC:=aN.o.aS aM.o ak;have a8:=zh ak;clear y0 y1 y2 f0 f1 f2 aA ak;refine Aq m ?_;clear m K;refine Ap ?_;refine Aj ?_;refine Am ?_;intro K m;refine Aq m ?_;clear m K;refine AG (A4 ?_);have al:=zh aB;have l:=zh aC;clear aB aC;have z0:=al.o.m 0;have z1:=al.o.m 1;have z2:=al.o.m 2
  rcases HR.o with⟨rfl,o⟩|⟨rfl,o,M,T,U,h5⟩
  ·have H1:=zh o;clear o;go_wp2_with fail;go_ret;exact⟨rfl,_,L,J,l.o.st,l.o.bM,l.o.bH.mono (j9 h),QU l.o.d5 H1.o⟩
  ·obtain⟨gk,rfl,am⟩:=bm.o y F n G M
   cases G
   ·have I:=zh (Bs o (Bs M (Bs T U)));clear o M T U h5 am;go_wp2_with fail;go_ret;exact⟨rfl,_,L,J,l.o.st,l.o.bM,l.o.bH.mono (j9 h),Qx l.o.d5 I.o.2.1 I.o.2.2.1 I.o.2.2.2⟩
   ·have I:=zh (Bs o (Bs M (Bs T U)));have HG:=zh am;have H5:=zh (a0.o h5 w5 a8.o);clear o M T U h5 am;go_wp2_with fail;refine(OX l.o.bM l.o.bH l.o.st.new Ω Ω aR gk F C D n BC HG.o H5.o).mono ?_;rintro v w9 ⟨rfl,bb,aE,bc⟩;go_wp2_with fail;go_ret
    have bd:gk≠k:=λv=>I.o.1 (by rw[v])
    exact⟨rfl,bb,L,_,l.o.st.trans (aE.mono (λd v=>BZ (BZ v))),l.o.bM.ag aE Ω Ω Ω,bc,QT l.o.d5 I.o.2.1 I.o.2.2.1 bd HG.o.lt I.o.2.2.2⟩
end
section
open Go.RowKit
theorem OH{t:C5}{b:List BL}(a:Aa f h l o)(k:Aa f h t b):l=t:=by
 unfold Aa at a k;rw[a]at k;injection k with k;injection k
section
variable {w w1:World} {col:Ae} {s d:Nat} {P:Pl} {q q' gen B g hand hand' bf by' bd bc:Nat} {tk tk' fr fr' dy dy' dd dd':Nat->Bool} {mem:Int->Option Pg}
theorem BI.dR(h:BI w col s d P q gen B g hand bf by' bd bc tk fr dy dd mem):s≠B/\s≠g/\bf≠B/\bf≠g/\by'≠B/\by'≠g/\bd≠B/\bd≠g/\bf≠s/\by'≠s/\bd≠s:=by
 obtain⟨c,f,a,_⟩:=h.aV;obtain⟨i,b⟩:=a.aI;refine⟨λe=>?_,λe=>?_,h.mf.cg a.y,h.mf.cg b,h.my.cg a.y,h.my.cg b,h.md.cg a.y,h.md.cg b,h.mf.cg h.y,h.my.cg h.y,h.md.cg h.y⟩
 ·have:=OH h.y (e▸a.y);exact absurd this Ξ
 ·have:=OH h.y (e▸b);exact absurd this Ξ
theorem BI.gq(h:BI w col s d P q gen B g hand bf by' bd bc tk fr dy dd mem)(c:SF w1 B g P.a4 hand' tk')(a:Ac (Ie B g) w w1):BI w1 col s d P q gen B g hand' bf by' bd bc tk' fr dy dd mem:=by
 obtain⟨f,i,k,l,m,n,o,p,_,_,_⟩:=h.dR
 exact{h with
  y:=a.y h.y (λe=>e.elim f i)
  aV:=c
  mf:=h.mf.au a (λe=>e.elim k l)
  my:=h.my.au a (λe=>e.elim m n)
  md:=h.md.au a (λe=>e.elim o p)
  cu:=h.cu.ao a (λj b e=>by
   have r:=h.c1;have t:=h.c2
   rcases e with e|e
   ·rw[e]at b;omega
   ·rw[e]at b;omega) (λ_ _=>rfl)}
theorem BI.gS(h:BI w col s d P q gen B g hand bf by' bd bc tk fr dy dd mem)(f:MF w1 A7 3 bf q' (Dr fr'))(i:w.grownBy w1 (A3 bf))(b:q<=q'):BI w1 col s d P q' gen B g hand bf by' bd bc tk fr' dy dd mem:=by
 obtain⟨p,r,l,m,t,u,v,x,n,z,A⟩:=h.dR;have a:Ac (λj=>j=bf) w w1:=Ac.of i (λk e=>by cases e;rfl);have c:=h.c3
 exact{h with
  y:=a.y h.y (λe=>n e.symm)
  aV:=h.aV.au a (λe=>l e.symm) (λe=>m e.symm) (λe=>absurd (c.symm.trans ((kM col e).symm.trans h.dZ)) Ξ)
  mf:=f
  my:=(h.my.au a (λe=>h.fy e.symm)).mono b
  md:=(h.md.au a (λe=>h.fd e.symm)).mono b
  cu:=(h.cu.ao a (λj o e=>by rw[e,c]at o;omega) (λ_ _=>rfl)).mono b
  q1:=jM h.q1 (mG b)}
theorem BI.ih(h:BI w col s d P q gen B g hand bf by' bd bc tk fr dy dd mem)(f:MF w1 A7 3 by' q' (Dr dy'))(i:w.grownBy w1 (A3 by'))(b:q<=q'):BI w1 col s d P q' gen B g hand bf by' bd bc tk fr dy' dd mem:=by
 obtain⟨p,r,t,u,l,m,v,x,z,n,A⟩:=h.dR;have a:Ac (λj=>j=by') w w1:=Ac.of i (λk e=>by cases e;rfl);have c:=h.c4
 exact{h with
  y:=a.y h.y (λe=>n e.symm)
  aV:=h.aV.au a (λe=>l e.symm) (λe=>m e.symm) (λe=>absurd (c.symm.trans ((kM col e).symm.trans h.dZ)) Ξ)
  mf:=(h.mf.au a (λe=>h.fy e)).mono b
  my:=f
  md:=(h.md.au a (λe=>h.yd e.symm)).mono b
  cu:=(h.cu.ao a (λj o e=>by rw[e,c]at o;omega) (λ_ _=>rfl)).mono b
  q1:=jM h.q1 (mG b)}
end
end
section
open Go.RowKit
attribute [local go_sem ↓] Go.wp_at_zero Go.wp_at_succ
abbrev SS(n:Nat):Nat->Prop:=Sc (λj=>j=1\/j=2\/j=3) n
theorem SV(f:Nat->Bool)(k:Nat):(Dr f (k:Int)).getD (Bd AA)=Bd (f k):=by
 rw[Tm]
 cases f k<;>rfl
theorem ZB(ax:SD f Z e g b h j k J)(hq:h<=1073741823)(c:Nat)(p:k c≠Y):
  B0 A7 229 #[A2 (A3 ⟨e,0,Y⟩),E V c] f λa Q=>(∃v,a=A5 v)/\∃R,Ad (SS 102) f Z Q R/\SD Q R e g b (h+1) j (Ia k c) J:=by
 obtain⟨⟨B,C,D,F,G,T,U,H,W,dy,X,az,i,q⟩,s,u,w⟩:=ax
 have I:c<b.a4:=by
  cases hx:k c with
  |none=>exact absurd hx p
  |some x=>exact(q.bx c x.1 x.2 hx).2.lt
 have K:(Lit.int V (c:Int)).wf=BC:=Hy Ω (Ψ ((w.dH I).2.1))
 have aA:(c:Int)<=65535:=by have:=(w.dH I).2.1;omega
 obtain⟨c0,c9,ad,ae,af,ag,aQ,aB,ah,ai⟩:=i.cells;have L:=i.mf.fT (e:=4) (t:=116) kj mV (z:=Bd AA) (w:=f) rfl c K;rw[SV]at L
 cases o:W c with
 |false=>
  rw[o]at L;obtain⟨M,aR,m,l⟩:=i.my.ff kj mV (by unfold C4;omega) c K (Bd BC);rw[Ti]at m;have HH:=zh (i.ih m l (j9 h));have HD:=zh (s.ao (col':=Z) (Ac.of l (S:=λd=>d=G) (λd a=>by cases a;rfl)) (λd n a=>by rw[a,i.c4]at n;cases n) (λ_ _=>rfl));have N:=zh (q.h0 o p);have HG:=zh l;have HC:=zh u;have HB:=zh i.c4;clear i q s u m l p o c0 c9 ad ae af ag ah ai
  go_enter CX,CL
  go_wp2_with fail;refine Bk (v:=CA #[]) (by simp[results,CK,go_sem]) rfl ?_;exact⟨⟨_,rfl⟩,Z,Ad.of HC.o HG.o (λd a=>by cases a;rw[HB.o];exact BZ (BB (BB rfl))),⟨B,C,D,F,G,T,U,H,W,_,X,az,HH.o,N.o⟩,HD.o.mono (j9 h),HC.o.u HG.o,w⟩
 |true=>
  rw[o]at L;obtain⟨M,aS,m,l⟩:=i.mf.gp kj mV c K 0;rw[YZ]at m;have r:=zh (i.gS m l (jF h));have aF:=zh (s.ao (col':=Z) (Ac.of l (S:=λd=>d=F) (λd a=>by cases a;rfl)) (λd n a=>by rw[a,i.c3]at n;cases n) (λ_ _=>rfl));have al:Hd (Ad (SS 102) f Z M Z):=zh (Ad.of u l (λd a=>by cases a;rw[i.c3];exact BZ (BB (BB rfl))));have N:=zh q;have HF:=zh o;have HK:=zh p;clear i q s u m l p o c0 c9 ad ae af aB ah;obtain⟨_,_,_,_,_,aI,_,_,_,O⟩:=r.o.cells;clear ag ai
  go_enter CX,CL
  go_wp2_with fail;refine(RT B C b.a4 D H c M r.o.aV).mono ?_;rintro a w2 ⟨rfl,am,y⟩;have an:=r.o.c1;have ao:=r.o.c2;have P:=zh (r.o.gq am y);have aK:=zh (aF.o.ao (col':=Z) y (λd n a=>by rcases a with a|a<;>rw[a]at n<;>omega) (λ_ _=>rfl));have ap:Hd (Ad (SS 102) f Z w2 Z):=zh (al.o.trans (AL al.o.new y (λd a=>by rcases a with a|a<;>rw[a]<;>(first|rw[an]|rw[ao])<;>exact BZ (BB (BB rfl)))));clear am y an ao aI O;obtain⟨_,_,_,_,_,_,_,_,_,O⟩:=P.o.cells;go_wp2_with fail;refine(TR P.o.cu ap.o.new c Ω aA).mono ?_;rintro a w3 ⟨v,aL,aq,rfl,A,ar,au,av⟩;have H3:=zh (P.o.eV A (Sc.aG Ω Ω) (Sc.aG Ω Ω) (jF h) ar);have aN:=zh (aK.o.ag A (Sc.aG Ω Ω));have aw:=zh (ap.o.trans (A.mono (Sc.mono (λd a=>BB (BZ a)) Ω)))
  have aO:=zh (N.o.hV (mem':=aq) HF.o HK.o (tk':=Jg b.a4 H c) (λd=>by
   unfold Jg Jt Dv;rw[show BD (0<=(c:Int)/\(c:Int)<(b.a4:Int))=BC from jG ⟨Ω,by exact_mod_cast I⟩];simp only[jS,nk];rw[Bool.and_comm]
   congr 1) av au)
  clear A ar au av O;go_wp2_with fail;refine bodyPost_end (v:=CA #[]) (by simp[results,CK,go_sem]) rfl ?_;exact⟨⟨_,rfl⟩,aL,aw.o,⟨B,C,D,F,G,T,U,_,_,dy,X,aq,H3.o.mono (j9 h),aO.o⟩,aN.o.mono (j9 h),aw.o.new,w⟩
theorem EK{m:Nat}(a:h<=m):∀j,SS h j->SS m j:=Sc.mono (λ_ e=>e) a
theorem Kh(b:h<=e):∀j,SK h j->SS e j:=Sc.mono (λ_ a=>a.elim BZ (λa=>BB (BZ a))) b
theorem En{g:BL}(i:Aa f h l [d,g])(b c:BL):∃a,((f.setCell ⟨h,0,Y⟩ b).setCell ⟨h,1,Y⟩ c)=a/\Aa a h l [b,c]/\Ac (λk=>k=h) f a:=
 ⟨_,rfl,(i.setCell 0 _).setCell 1 _,(Ac.of (Ao _ _ _) (λk e=>by cases e;rfl)).trans (Ac.of (Ao _ _ _) (λk e=>by cases e;rfl))⟩
theorem bH(n:Nat)(f:Nat->Bool)(k:Nat)(a:k<n)(j:Nat):Js n f (k:Int) j=Gy f k j:=by
 unfold Js Gy Dv;rw[show BD (0<=(k:Int)/\(k:Int)<(n:Int))=BC from jG ⟨Ω,by exact_mod_cast a⟩];simp only[jS,nk];rw[Bool.or_comm]
 congr 1
def gH(w:A6)(h:Ae)(s d:Nat)(P:Pl)(q a:Nat)(b:As)(i:Int->List Nat)(j:List Nat)(n:Nat)(e:C1)(c:A6):Prop:=
 ∃k:Nat,e=A5 (CA #[CB #[E V (k:Nat),E V a],E V 0])/\b k=Y/\k<P.a4/\∃f g,Ad (SS n) w h c f/\SD c f s d P (q+2) a (Ex b k (a,j)) g/\AR P i g
theorem JQ(r:SD f Z g j b e h k J)(hq:e<=1073741800)(ax:Cq k (b.bz+3))(a:Option CV)(c:Nat)(o:List Nat)(ad:o.length<=b.n - 19)(hp:Bw f Z a c o):
  B0 A7 83 #[A2 (A3 ⟨g,0,Y⟩),Ax a o.length c] f (gH f Z g j b e h k J o 103):=by
 obtain⟨⟨B,w,az,bf,a9,bd,bc,H,fr,dy,dd,bW,hi,hl⟩,aC,aD,x⟩:=r;have aE:=hl.d4 ax (by have h1:=x.d4;have h2:b.a4=b.ss - b.aP:=rfl;rw[h2];exact oV (by rw[pj];exact h1));have bj:=x.n1;obtain⟨M,hM⟩:=Af (b.n - 19);have bX:M<=1000:=Ω
 have bY:o.length<=M:=by rw[<-hM];exact ad
 have bZ:BD ((M:Int)<(o.length:Int))=AA:=Γ;have b0:BD (M<o.length)=AA:=Γ;obtain⟨t,I⟩:=Af (f.alloc (BA #[E V 0,E V 0] 165))
 have g1:f.grownBy t Y:=by rw[<-I];exact O _ _ Y
 have b1:Aa t f.heap.size 165 [E V 0,E V 0]:=by rw[<-I];exact Aa.new _ _ _
 obtain⟨q,L⟩:=Af (AN Z f.heap.size 102)
 have aG:q f.heap.size=102:=by rw[<-L];exact A0 _ _ _
 have N:∀l,l<f.heap.size->q l=Z l:=λl m=>by rw[<-L];exact Bz _ _ Ω
 have aH:Ad (SS 103) f Z t q:=by rw[<-L];exact Cl aD g1 (jF _) b1.lt (BB ⟨Ω,Ω⟩)
 have P:Ac (λ_=>False) f t:=Ac.az g1;have y:=zh (hi.ao (col':=q) P (λ_ _ r=>r) N);have D1:=zh (aC.ao (col':=q) P (λ_ _ r=>r) N);have P1:=zh (hp.ao (col':=q) P (λ_ _ r=>r) N);have aI:=zh aH;have B1:=zh b1;have HL:=zh hl;have Q:=zh aG;have bn:=zh aE;have aK:=zh ad;have ah:=zh I;clear hi hl aC aD aH b1 aG N P aE L I g1 ax hp ad;obtain⟨c0,c9,bq,R,ai,aj,ak,br,bs,bt⟩:=y.o.cells;rw[hM]at R;clear c0 c9 bq ai ak br bs bt bj
 go_enter Tryz.func83,Tryz.ntmps83
 rw[<-ah.o]at R aj;go_wp2_with fail;rw[ah.o];rw[ah.o]at R aj;refine(ep B w b.a4 az H t y.o.aV).mono ?_;rintro d w2 hT
 obtain⟨i,rfl,am,aM,u⟩:∃i:Nat,d=A5 (CA #[E V i,Bd BC])/\Nu b.a4 az H i/\SF w2 B w b.a4 ((i+1)%b.a4) (Js b.a4 H i)/\Ac (Ie B w) t w2:=by
  rcases hT with⟨_,_,h3⟩|r
  ·obtain⟨l,m,hf⟩:=bn.o;rw[h3 l m]at hf
   cases hf
  ·exact r
 have bv:=y.o.c1;have bw:=y.o.c2
 have z:∀l,Ie B w l->q l=3:=λl d=>by rcases d with d|d<;>rw[d]<;>assumption
 have S:=zh (y.o.gq aM u);have D2:=zh (D1.o.ao (col':=q) u (λl m d=>by rw[z l d]at m;omega) (λ_ _=>rfl));have P2:=zh (P1.o.ao (col':=q) u (λl m d=>by rw[z l d]at m;omega) (λ_ _=>rfl));have B2:=zh (u.y B1.o (λd=>by have:=z _ d;rw[Q.o]at this;omega));have aO:=zh (aI.o.trans (AL aI.o.new u (λl d=>by rw[z l d];exact BZ (BB (BB rfl)))));have A:=zh am;have aP:=am.1;clear aM u am hT bv bw z R aj;obtain⟨_,_,_,_,_,_,ak,_,_,_⟩:=S.o.cells;have bB:=(x.dH aP).2.1;have aQ:(Lit.int V (i:Int)).wf=BC:=Hy Ω Ω;obtain⟨T,U,an,ao⟩:=S.o.mf.ff kj mV (by unfold C4;omega) i aQ (Bd BC);rw[Ti]at an;have C:=S.o.c3;have D:Ac (λl=>l=bf) w2 T:=Ac.of ao (λl d=>by cases d;rfl);have H3:=zh (S.o.gS an ao (j9 e));have D3:=zh (D2.o.ao (col':=q) D (λl m d=>by rw[d,C]at m;omega) (λ_ _=>rfl));have P3:=zh (P2.o.ao (col':=q) D (λl m d=>by rw[d,C]at m;omega) (λ_ _=>rfl));have B3:=zh (D.y B2.o (λd=>by have:=Q.o;rw[d,C]at this;omega));have aR:=zh (aO.o.trans (AL aO.o.new D (λl d=>by rw[d,C];exact BZ (BB (BB rfl)))));have bG:=zh U;clear an ao D C U aP bB aQ;have U:=bG.o;go_wp2_with fail;clear U ak;refine AS (λW=>W.cell? ⟨g,12,Y⟩=A3 (E V h)) (.am [2,3,4,5] [0,1,6] 7 BC (.am [] [8] 9 AA (.am [] [] 10 AA (.nil)))) Φ Φ ?_;obtain⟨w4,ap⟩:=Af T.drew
 have v:T.grownBy w4 Y:=by rw[<-ap];exact Bm T
 rw[ap];have H4:=zh (H3.o.u v);have D4:=zh (D3.o.u v);have P4:=zh (P3.o.u v);have B4:=zh (B3.o.u v Δ);have aq:=zh (aR.o.trans (Ad.u aR.o.new v));clear ap v;refine Dz H4.o.cells.2.2.2.2.1 ?_
 iterate 4 ((apply AC rfl Θ;(· intro wS X;(try have X:=X rfl);(try dsimp only at X);(try(have ai:=X));go_simp;(try with_reducible rfl)));refine Al ?_)
 refine Aj ?_
 iterate 3 refine Av ?_
 refine Aj ?_;refine Am ?_;intro K s;refine(Ek o a c w4 Ω P4.o.1).mono ?_;rintro d w5 ⟨a5,c5,rfl,o5,F⟩;dsimp only;have H5:=zh (H4.o.u F);have D5:=zh (D4.o.u F);have B5:=zh (B4.o.u F Δ);have aZ:=zh (aq.o.trans (Ad.u aq.o.new F));have P5:Hd (Bw w5 q a5 c5 o):=zh ⟨Ag.ai o5,λau hb=>⟨aq.o.new au (o5.lt au hb).1,(o5.lt au hb).2⟩,P4.o.2.2⟩;clear o5 F;refine s _ _ ⟨_,λ_ r=>r,λ_=>H5.o.cells.2.2.2.2.1,?_⟩;clear s K;refine Al ?_;refine Ap ?_;refine Av ?_;refine Aj ?_;refine Am ?_;intro K s;have a1:FP b h i h o:=⟨A.o.1,aK.o,P5.o.2.2,jF _⟩;refine(JO H5.o HL.o.bX (D5.o.mono (j9 e)) aZ.o.new Ω x i h a5 c5 o BC a1 P5.o).mono ?_;rintro d w6 ⟨rfl,a2,bM,bN,ab,a3,a4,a6⟩;have H6:=zh a3;have D6:=zh a4;have K6:=zh a6;have G:=zh (ab.y B5.o (by rw[Q.o];exact Sc.aG Ω Ω));have bP:Hd (a2 f.heap.size=102):=zh (by rw[ab.ak _ B5.o.lt];exact Q.o);have av:=zh (aZ.o.trans (ab.mono (Kh Ω)));clear a3 a4 a6 ab a1;dsimp only;refine Aq s ?_;clear s K;refine Ap ?_;refine Aj ?_;refine Am ?_;intro K s;refine Aq s ?_;clear s K;refine AG (A4 ?_);have y0:=G.o.m 0;have y1:=G.o.m 1;have f0:=G.o.v 0;have f1:=G.o.v 1;obtain⟨_,_,_,_,ai,_⟩:=H6.o.cells;go_wp2_with fail;obtain⟨w7,bQ,b7,t7⟩:=En G.o (E V i) (E V h);rw[bQ];have aw:=bP.o;obtain⟨bS,bT⟩:=HL.o.new (n:=i) (ld:=o) A.o.2.1 ⟨A.o.1,aK.o,P5.o.2.2,jF _⟩ K6.o (λl=>bH b.a4 H i A.o.1 l);refine Bk (BQ (p:=4) (ty:=165) rfl _ _ f.heap.size _ _ _ _ rfl b7 mW rfl rfl) rfl ⟨i,rfl,bT,A.o.1,a2,bN,av.o.trans (AL av.o.new t7 (λl d=>by rw[d,aw];exact BB ⟨Ω,Ω⟩)),⟨⟨B,w,_,bf,a9,bd,bc,_,_,dy,dd,bM,H6.o.ao t7 (λl m d=>by rw[d,aw]at m;omega) (λ_ _=>rfl),bS⟩,D6.o.ao t7 (λl m d=>by rw[d,aw]at m;omega) (λ_ _=>rfl),av.o.new.au t7,x⟩,K6.o.on⟩
def YM(w:A6)(i:Ae)(s d:Nat)(P:Pl)(q b:Nat)(j:As)(l:Int->List Nat)(k:Nat)(m:List Nat)(n:Nat)(e:C1)(f:A6):Prop:=
 ∃a:Nat,e=A5 (CA #[CB #[E V (a:Nat),E V b],E V 0])/\a<P.a4/\∃g h c,Ad (SS n) w i f g/\SD f g s d P (q+3) b c h/\AR P l h/\Fr [k] [a] j c/\c a=A3 (b,m)
theorem JL(o:SD f Z e j b g h k J)(hq:g<=1073741800)(bD:Cq k (b.bz+3))(d st:Nat)(G:k d≠Y)(a:Option CV)(c:Nat)(q:List Nat)(aO:q.length<=b.n - 19)(hp:Bw f Z a c q):
  B0 A7 172 #[A2 (A3 ⟨e,0,Y⟩),CB #[E V d,E V st],Ax a q.length c] f (YM f Z e j b g h k J d q 106):=by
 have hH:=o;obtain⟨⟨B,aP,aQ,bF,bG,bd,bI,tk,fr,dy,dd,cz,hi,hl⟩,bN,bO,I⟩:=o
 have bP:d<b.a4:=by
  cases hx:k d with
  |none=>exact absurd hx G
  |some x=>exact(hl.bx d x.1 x.2 hx).2.lt
 have bR:tk d=BC:=hl.du d (BZ G);have cA:=I.n1;obtain⟨M,hM⟩:=Af (b.n - 19);have c1:M<=1000:=Ω
 have c2:q.length<=M:=by rw[<-hM];exact aO
 have c3:BD ((M:Int)<(q.length:Int))=AA:=Γ;have c4:BD (M<q.length)=AA:=Γ;obtain⟨w1,ai⟩:=Af ((f.alloc (BA #[E V d,E V st] 165)).alloc (BA #[E V 0,E V 0] 165))
 have g1:f.grownBy w1 Y:=by rw[<-ai];exact Ab (O _ _ Y) (O _ _ Y)
 have r1:Aa w1 f.heap.size 165 [E V d,E V st]:=by rw[<-ai];exact(Aa.new f _ _).alloc _
 have b1:Aa w1 (f.heap.size+1) 165 [E V 0,E V 0]:=by
  rw[<-ai];have:=Aa.new (f.alloc (BA #[E V d,E V st] 165)) 165 [E V 0,E V 0];rw[World.size_alloc]at this;exact this
 obtain⟨A,aV⟩:=Af (AN (AN Z f.heap.size 104) (f.heap.size+1) 104)
 have av:∀i,A i=if i=f.heap.size+1 then 104 else if i=f.heap.size then 104 else Z i:=λi=>by rw[<-aV];rfl
 have bT:A (f.heap.size+1)=104:=by rw[av,jP rfl]
 have bU:A f.heap.size=104:=by rw[av,jN Ω,jP rfl]
 have aw:∀i,i<f.heap.size->A i=Z i:=λi C=>by rw[av,jN Ω,jN Ω]
 have bV:Ad (SS 106) f Z w1 A:=by
  rw[<-aV];exact((Ad.u bO g1).bQ (jF _) r1.lt (BB ⟨Ω,Ω⟩)).bQ Ω b1.lt (BB ⟨Ω,Ω⟩)
 have t1:Ac (λ_=>False) f w1:=Ac.az g1;have H1:=zh (hi.ao (col':=A) t1 (λ_ _ o=>o) aw);have D1:=zh (bN.ao (col':=A) t1 (λ_ _ o=>o) aw);have P1:=zh (hp.ao (col':=A) t1 (λ_ _ o=>o) aw);have bW:=zh bV;have B1:=zh b1;have R1:=zh r1;have HL:=zh hl;have L:=zh (Bs bT bU);have bX:=zh aO;have bY:=zh ai;have cE:=zh bD;have bZ:=zh G;have cF:=zh bR;have U:=zh bP;clear hi hl bN bO bV b1 r1 bT bU aw t1 av aV ai g1 bD hp aO G bR bP hH cA;obtain⟨c0,c9,a1,aj,ay,a2,ak,a3,a4,a5⟩:=H1.o.cells;rw[hM]at aj;clear c0 c9 a1 ay a2 ak a3 a4 a5;have y:=R1.o.m 0;have x1:=R1.o.m 1;rw[<-bY.o]at aj y x1
 go_enter Tryz.func172,Tryz.ntmps172
 go_wp2_with fail;rw[bY.o];clear aj y x1;refine(Uf H1.o d st U.o).mono ?_;rintro l w2 ⟨rfl,N⟩;have H2:=zh (H1.o.u N);have D2:=zh (D1.o.u N);have P2:=zh (P1.o.u N);have B2:=zh (B1.o.u N Δ);have R2:=zh (R1.o.u N Δ);have b0:=zh (bW.o.trans (Ad.u bW.o.new N));clear N;go_wp2_with fail;refine AS (λ_=>True) (.am [] [0,1,2,3,4,5] 6 AA (.am [] [] 7 AA (.nil))) Φ Φ ?_;obtain⟨w3,a7⟩:=Af w2.drew
 have P:w2.grownBy w3 Y:=by rw[<-a7];exact Bm w2
 rw[a7];have H3:=zh (H2.o.u P);have D3:=zh (D2.o.u P);have P3:=zh (P2.o.u P);have B3:=zh (B2.o.u P Δ);have R3:=zh (R2.o.u P Δ);have b2:=zh (b0.o.trans (Ad.u b0.o.new P));clear a7 P;obtain⟨c0,c9,a1,aj,ay,a2,ak,a3,a4,a5⟩:=H3.o.cells;have y:=R3.o.m 0;have x1:=R3.o.m 1;clear c0 c9 a1 aj ay ak a3 a4 a5;refine Ap ?_
 iterate 6 refine Av ?_
 refine Aj ?_;refine Am ?_;intro K m;refine(bM B aP b.a4 aQ tk d w3 H3.o.aV).mono ?_;rintro l w4 ⟨rfl,rfl⟩
 have cO:Ke b.a4 tk (d:Int)=BC:=by
  unfold Ke Dv;rw[show BD (0<=(d:Int)/\(d:Int)<(b.a4:Int))=BC from jG ⟨Ω,by exact_mod_cast U.o⟩,jS,cF.o];rfl
 rw[cO];dsimp only;refine Aq m ?_;clear m K;refine Ap ?_;refine Aj ?_;refine Am ?_;intro K m;refine Aq m ?_;clear m K;refine AG (A4 ?_);clear a2;go_wp2_with fail;have b3:(Lit.int V (d:Int)).wf=BC:=Hy Ω (by have:=(I.dH U.o).2.1;have:=U.o;omega);refine AS (λ_=>True) (.am [] [0,1,2,3,4,5] 6 AA (.nil)) Φ Φ ?_;obtain⟨w5,ba⟩:=Af w3.drew
 have Q:w3.grownBy w5 Y:=by rw[<-ba];exact Bm w3
 rw[ba];have H5:=zh (H3.o.u Q);have D5:=zh (D3.o.u Q);have P5:=zh (P3.o.u Q);have B5:=zh (B3.o.u Q Δ);have R5:=zh (R3.o.u Q Δ);have aC:=zh (b2.o.trans (Ad.u b2.o.new Q));clear ba Q y x1;obtain⟨_,_,_,_,_,_,ak,_,_,_⟩:=H5.o.cells;have y:=R5.o.m 0;have b6:=H5.o.mf.fT (e:=4) (t:=116) kj mV (z:=Bd AA) (w:=w5) rfl d b3;rw[SV]at b6;refine Ap ?_
 iterate 6 refine Av ?_
 refine Aj ?_;refine Am ?_;intro K m;refine Aq m ?_;clear m K;refine AG (A4 ?_);clear b6 ak y b3
 cases hf:fr d with
 |true=>
  have HF:=zh hf;clear hf;go_wp2_with fail;refine AS (λW=>W.cell? ⟨e,12,Y⟩=A3 (E V h)/\W.cell? ⟨f.heap.size,0,Y⟩=A3 (E V d)) (.am [0,1,2,3,4,5,6,8,9,10,11,12,13] [7,14] 15 BC (.am [] [16] 17 BC (.am [] [] 18 AA (.am [] [] 19 AA (.nil))))) Φ Φ ?_;obtain⟨s,bc⟩:=Af w5.drew
  have R:w5.grownBy s Y:=by rw[<-bc];exact Bm w5
  rw[bc];have H6:=zh (H5.o.u R);have D6:=zh (D5.o.u R);have P6:=zh (P5.o.u R);have B6:=zh (B5.o.u R Δ);have R6:=zh (R5.o.u R Δ);have X:=zh (aC.o.trans (Ad.u aC.o.new R));clear bc R;refine Dz ⟨H6.o.cells.2.2.2.2.1,R6.o.m 0⟩ ?_
  iterate 13 ((apply AC rfl Θ;(· intro wS an;(try have an:=an rfl);(try dsimp only at an);(try(have ay:=an.1;have y:=an.2));go_simp;(try with_reducible rfl)));refine Al ?_)
  refine Aj ?_
  iterate 2 refine Av ?_
  refine Aj ?_;refine Am ?_;intro K m;refine(Ek q a c s Ω P6.o.1).mono ?_;rintro l w7 ⟨cc,c7,rfl,o7,r⟩;dsimp only;have H7:=zh (H6.o.u r);have D7:=zh (D6.o.u r);have B7:=zh (B6.o.u r Δ);have R7:=zh (R6.o.u r Δ);have aJ:=zh (X.o.trans (Ad.u X.o.new r));have P7:Hd (Bw w7 A cc c7 q):=zh ⟨Ag.ai o7,λbe hb=>⟨X.o.new be (o7.lt be hb).1,(o7.lt be hb).2⟩,P6.o.2.2⟩;clear o7 r;refine m _ _ ⟨_,λ_ o=>o,λ_=>⟨H7.o.cells.2.2.2.2.1,R7.o.m 0⟩,?_⟩;clear m K;refine Al ?_;refine Ap ?_;refine Av ?_;refine Aj ?_;refine Am ?_;intro K m;have G:FP b h d h q:=⟨U.o,bX.o,P7.o.2.2,jF _⟩;refine(JO H7.o HL.o.bX D7.o aJ.o.new Ω I d h cc c7 q BC G P7.o).mono ?_;rintro l w8 ⟨rfl,ab,cQ,cR,u,ch,ap,ci⟩;have H8:=zh ch;have D8:=zh ap;have K8:=zh ci;have w:=zh (u.y B7.o (by rw[L.o.1];exact Sc.aG Ω Ω));have R8:=zh (u.y R7.o (by rw[L.o.2];exact Sc.aG Ω Ω));have bf:Hd (ab (f.heap.size+1)=104):=zh (by rw[u.ak _ B7.o.lt];exact L.o.1);have ac:=zh (aJ.o.trans (u.mono (Kh Ω)));have cT:=zh G;clear ch ap ci u G;dsimp only;refine m _ _ ⟨_,λ_ o=>o,λ_=>⟨H8.o.cells.2.2.2.2.1,R8.o.m 0⟩,?_⟩;clear m K;refine Al ?_;have y0:=w.o.m 0;have y1:=w.o.m 1;have f0:=w.o.v 0;have f1:=w.o.v 1;refine Ap ?_;refine Aj ?_;refine Am ?_;intro K m;obtain⟨w9,bg,b9,D⟩:=En w.o (E V d) (E V h);rw[bg];clear y0 y1 f0 f1;refine Aq m ?_;clear m K;refine Ap ?_;refine Aj ?_;refine Am ?_;intro K m;refine Aq m ?_;clear m K;refine AG (A4 ?_);go_wp2_with fail;have T:=bf.o;refine Bk (BQ (p:=6) (ty:=165) rfl _ _ (f.heap.size+1) _ _ _ _ rfl b9 mW rfl rfl) rfl ⟨d,rfl,U.o,ab,cR,Ex k d (h,q),ac.o.trans (AL ac.o.new D (λi l=>by rw[l,T];exact BB ⟨Ω,Ω⟩)),(SD.mono ⟨⟨B,aP,aQ,bF,bG,bd,bI,tk,fr,dy,dd,cQ,H8.o.ao D (λi C l=>by rw[l,T]at C;omega) (λ_ _=>rfl),HL.o.il HF.o cT.o K8.o⟩,D8.o.ao D (λi C l=>by rw[l,T]at C;omega) (λ_ _=>rfl),ac.o.new.au D,I⟩ Ω),K8.o.on,Fr.aV _,EV _ _ _⟩
 |false=>
  have HF:=zh hf;clear hf;go_wp2_with fail;refine(JQ ⟨⟨B,aP,aQ,bF,bG,bd,bI,tk,fr,dy,dd,cz,H5.o,HL.o⟩,D5.o,aC.o.new,I⟩ hq cE.o a c q bX.o P5.o).mono ?_;rintro l s ⟨F,rfl,cq,cr,ar,bi,ad,cs,ct⟩;have D6:=zh cs;have N6:=zh (Bs cq cr);have B6:=zh (ad.y B5.o (by rw[L.o.1];exact Sc.aG Ω Ω));have R6:=zh (ad.y R5.o (by rw[L.o.2];exact Sc.aG Ω Ω));have cU:Hd (ar (f.heap.size+1)=104/\ar f.heap.size=104):=zh ⟨by rw[ad.ak _ B5.o.lt];exact L.o.1,by rw[ad.ak _ R5.o.lt];exact L.o.2⟩;have X:=zh (aC.o.trans (ad.mono (EK Ω)));have O6:=zh ct;clear cs cq cr ad ct;obtain⟨w7,aK⟩:=Af (s.alloc (BA #[E V F,E V h] 165))
  have r:s.grownBy w7 Y:=by rw[<-aK];exact O _ _ Y
  have b7:Aa w7 s.heap.size 165 [E V F,E V h]:=by rw[<-aK];exact Aa.new _ _ _
  obtain⟨ae,aL⟩:=Af (AN ar s.heap.size 105)
  have cu:ae s.heap.size=105:=by rw[<-aL];exact A0 _ _ _
  have aM:∀i,i<s.heap.size->ae i=ar i:=λi C=>by rw[<-aL];exact Bz _ _ Ω
  have bl:Ad (SS 106) s ar w7 ae:=by rw[<-aL];exact Cl X.o.new r (jF _) b7.lt (BB ⟨Ω,Ω⟩)
  have D7:Hd (SD w7 ae e j b (g+2) h (Ex k F (h,q)) bi):=zh ⟨by
    obtain⟨B',g',bo,bp,bq,br,bs,bt,bu,bv,bw,bx,bz,bA⟩:=D6.o.bM
    exact⟨B',g',bo,bp,bq,br,bs,bt,bu,bv,bw,bx,bz.ao (Ac.az (S:=λ_=>False) r) (λ_ _ o=>o) aM,bA⟩,D6.o.bH.ao (Ac.az (S:=λ_=>False) r) (λ_ _ o=>o) aM,bl.new,I⟩
  have B7:=zh (B6.o.u r Δ);have R7:=zh (R6.o.u r Δ);have N7:=zh b7;have bB:Hd (ae (f.heap.size+1)=104/\ae s.heap.size=105):=zh ⟨by rw[aM _ B6.o.lt];exact cU.o.1,cu⟩;have aJ:=zh (X.o.trans bl);have cv:=zh aK;clear r b7 aL cu aM bl aK;have y:=R7.o.m 0;rw[<-cv.o]at y;go_wp2_with fail;rw[cv.o];clear y
  have bC:d≠F:=λl=>bZ.o (by rw[l];exact N6.o.1)
  refine(ZB D7.o Ω d (by rw[Et _ _ bC];exact bZ.o)).mono ?_;rintro l w8 ⟨⟨v,rfl⟩,ab,u,ap⟩;have D8:=zh ap;have w:=zh (u.y B7.o (by rw[bB.o.1];exact Sc.aG Ω Ω));have N8:=zh (u.y N7.o (by rw[bB.o.2];exact Sc.aG Ω Ω));have bf:Hd (ab (f.heap.size+1)=104):=zh (by rw[u.ak _ B7.o.lt];exact bB.o.1);have ac:=zh (aJ.o.trans (u.mono (EK Ω)));have cX:=zh bC;clear ap u bC;have y0:=w.o.m 0;have y1:=w.o.m 1;have f0:=w.o.v 0;have f1:=w.o.v 1;have z0:=N8.o.m 0;have z1:=N8.o.m 1;go_wp2_with fail;obtain⟨w9,bg,b9,D⟩:=En w.o (E V F) (E V h);rw[bg];have T:=bf.o
  have cY:SD w9 ab e j b (g+3) h (Ia (Ex k F (h,q)) d) bi:=by
   obtain⟨B',g',bo,bp,bq,br,bs,bt,bu,bv,bw,bx,bz,bA⟩:=D8.o.bM;exact⟨⟨B',g',bo,bp,bq,br,bs,bt,bu,bv,bw,bx,bz.ao D (λi C l=>by rw[l,T]at C;omega) (λ_ _=>rfl),bA⟩,D8.o.bH.ao D (λi C l=>by rw[l,T]at C;omega) (λ_ _=>rfl),D8.o.cl.au D,I⟩
  have cZ:Fr [d] [F] k (Ia (Ex k F (h,q)) d):=by
   refine⟨λn H h2=>?_,λn H h2=>?_,λn H h2=>?_⟩
   ·simp at H h2;rw[Fi _ H,Et _ _ h2]
   ·simp at H;rw[H];exact N6.o.1
   ·simp at H;rw[H];exact Im _ _
  refine Bk (BQ (p:=6) (ty:=165) rfl _ _ (f.heap.size+1) _ _ _ _ rfl b9 mW rfl rfl) rfl ⟨F,rfl,N6.o.2,ab,bi,_,ac.o.trans (AL ac.o.new D (λi l=>by rw[l,T];exact BB ⟨Ω,Ω⟩)),cY,O6.o,cZ,?_⟩;rw[Fi _ (λl=>cX.o l.symm),EV]
theorem Fm{j m n:BL}(o:Aa f h l [d,j,m,n])(b c g i:BL):∃a,((((f.setCell ⟨h,0,Y⟩ b).setCell ⟨h,1,Y⟩ c).setCell ⟨h,2,Y⟩ g).setCell ⟨h,3,Y⟩ i)=a/\Aa a h l [b,c,g,i]/\Ac (λk=>k=h) f a:=
 ⟨_,rfl,(((o.setCell 0 _).setCell 1 _).setCell 2 _).setCell 3 _,(((Ac.of (Ao _ _ _) (λk e=>by cases e;rfl)).trans (Ac.of (Ao _ _ _) (λk e=>by cases e;rfl))).trans (Ac.of (Ao _ _ _) (λk e=>by cases e;rfl))).trans (Ac.of (Ao _ _ _) (λk e=>by cases e;rfl))⟩
def eA(w:A6)(i:Ae)(s d:Nat)(P:Pl)(q j:Nat)(k:As)(l:Int->List Nat)(c:List Nat)(n:Nat)(e:C1)(a:A6):Prop:=
 ∃f g,e=A5 (CA #[Ax f c.length g,E V 0])/\∃b h,Ad (SS n) w i a b/\SD a b s d P (q+1) j k h/\AR P l h/\Bw a b f g c
theorem Oj(l:SD f Z e g b h j k J)(hq:h<=1073741800)(s u:Nat)(A:List Nat)(cT:k s=A3 (u,A)):
  B0 A7 223 #[A2 (A3 ⟨e,0,Y⟩),CB #[E V s,E V u]] f (eA f Z e g b h j k J A 107):=by
 obtain⟨⟨B,b2,b3,b4,b5,b6,bw,tk,fr,dy,dd,aN,hi,hl⟩,dh,di,aH⟩:=l;obtain⟨dj,bv⟩:=hl.bx s u A cT;have ce:=aH.dH bv.lt;have dA:=bv.lt
 have dk:(s:Int)<=65535:=by have:=ce.2.1;omega
 have cC:BR ((b.aP:Int)+(s:Int))=((b.aP+s:Nat):Int):=Dm rfl (jM (nh (jJ ce.1 aH.dE)) Ω);have dB:=hi.q1;have dC:=bv.fL;have dD:=bv.aC;have dE:=aH.n1
 have dl:=λ(W:A6) (cW:Ae) (hD:AF W cW g b.ss b.n h J) (hC:AD W cW) (bj:J ((b.aP+s:Nat):Int)=Cd b.n 2 s u A)=>SO g b.ss b.n h J ((b.aP+s:Nat):Int) 2 s u A W cW hD hC Ω (by exact_mod_cast ce.1) bj Ω Ω (Ψ ce.2.1) Ω bv.aC bv.bB
 have ch:=zh dl;have cD:=zh dj;have ax:=zh bv;have cE:=zh cT;have dT:A.length<=1000:=Ω;obtain⟨cF,cG⟩:∃p,b.aP=p:=⟨_,rfl⟩;obtain⟨ci,hZ⟩:∃ci:Nat,b.aP+s=ci:=⟨_,rfl⟩;rw[hZ]at cC ch;rw[cG]at cC
 have dH:cF+s=ci:=by rw[<-cG];exact hZ
 have dI:ci<20000:=by rw[<-hZ];exact jJ ce.1 (jM aH.dE Ω)
 have cH:Hd (V.wrap ((cF:Int)+(s:Int))=((ci:Nat):Int)):=zh (by rw[CE];omega);have cf:=zh cG;have HL:=zh hl;have H:=zh hi;have HD:=zh dh;have HC:=zh di;have HZ:=zh hZ;have dU:=zh cC;clear hi hl dh di dj bv cT dl ce cG hZ dH dI dA dB dC dD dE cC
 go_enter Tryz.func223,Tryz.ntmps223
 go_wp2_with fail;obtain⟨w1,cI⟩:=Af (f.alloc (BA #[E V s,E V u] 165))
 have g1:f.grownBy w1 Y:=by rw[<-cI];exact O _ _ Y
 have b1:Aa w1 f.heap.size 165 [E V s,E V u]:=by rw[<-cI];exact Aa.new _ _ _
 rw[cI];have R1:=zh b1;have G1:=zh g1;have H1:=zh (H.o.u g1);clear cI g1 b1;refine(Uf H1.o s u ax.o.lt).mono ?_;rintro d w2 ⟨rfl,g2⟩;have R2:=zh (R1.o.u g2 Δ);have G2:=zh (Ab G1.o g2);clear g2;go_wp2_with fail;refine AS (λW=>W.cell? ⟨e,17,Y⟩=A3 (A2 (A3 ⟨bw,0,Y⟩))/\Aa W f.heap.size 165 [E V s,E V u]) (.bN [0,1,2,3,4,5] 6 AA (.am [] [7,8,9] 10 BC (.am [] [] 11 AA (.am [] [] 12 AA (.nil)))) 10 BC (.am [] [] 6 AA (.am [] [7,8,9] 11 AA (.am [] [] 12 AA (.nil))))) Φ Φ ?_;obtain⟨w3,c1⟩:=Af w2.drew
 have g3:w2.grownBy w3 Y:=by rw[<-c1];exact Bm w2
 rw[c1];have G3:=zh (Ab G2.o g3);have H3:=zh (H.o.u G3.o);have D3:=zh (HD.o.u G3.o);have R3:=zh (R2.o.u g3 Δ);have C3:=zh (HC.o.u G3.o);have c3:Hd (Ad (SS 107) f Z w3 Z):=zh (Ad.u HC.o G3.o);have dr:Z f.heap.size=0:=HC.o _ (jF _);have RC:=zh dr;clear c1 g3 dr;refine DK ⟨H3.o.cells.2.2.2.2.2.2.2.2.2,R3.o⟩ ?_
 iterate 6 ((apply AC rfl Θ;(· intro wS ag;(try have ag:=ag rfl);(try dsimp only at ag);(try(have dV:=ag.1;have x0:=ag.2.m 0));go_simp;(try with_reducible rfl)));refine Al ?_)
 refine Aj ⟨?_,?_⟩
 ·refine Am ?_;intro K m;refine(UH H3.o.cu C3.o s Ω dk).mono ?_;rintro d w4 ⟨aO,bk,dt,cl⟩
  obtain⟨ab,a',c',I,aw,wb,rfl,hr⟩:∃(ab:Nat) (a':Option CV) (c':Nat) (I:List Nat) (aw wb:Bool),d=A5 (CA #[CB #[E V ab,Ax a' I.length c',Bd aw],Bd wb])/\
    ((wb=AA/\aN s=Y)\/(wb=BC/\aN s=A3 (ab,I,aw)/\Bw w4 aO a' c' I)):=by
   rcases cl with⟨h1,rfl⟩|⟨ab,a',c',I,aw,h1,rfl,h2⟩
   ·exact⟨0,Y,0,[],AA,AA,rfl,BZ ⟨rfl,h1⟩⟩
   ·exact⟨ab,a',c',I,aw,BC,rfl,BB ⟨rfl,h1,h2⟩⟩
  have bx:=zh hr;have H4:=zh (H3.o.eV bk (Sc.aG Ω Ω) (Sc.aG Ω Ω) (jF h) dt);have D4:=zh (D3.o.ag bk (Sc.aG Ω Ω));have R4:=zh (bk.y R3.o (by rw[RC.o];exact Sc.aG Ω Ω));have cL:Hd (aO f.heap.size=0):=zh (by rw[bk.ak _ R3.o.lt];exact RC.o);have co:=zh (c3.o.trans (bk.mono (Sc.mono (λi d=>BB (BZ d)) Ω)));clear bk dt hr cl;dsimp only;refine Aq m ?_;clear m K;refine Ap ?_
  iterate 3 refine Av ?_
  refine Aj ?_;refine Am ?_;intro K m;obtain⟨wL,cM⟩:=Af (w4.alloc (BA #[E V 0,Ax Y 0 0,Bd AA] 198))
  have gL:w4.grownBy wL Y:=by rw[<-cM];exact O _ _ Y
  have c6:Aa wL w4.heap.size 198 [E V 0,Ax Y 0 0,Bd AA]:=by rw[<-cM];exact Aa.new _ _ _
  rw[cM];obtain⟨v,cO⟩:=Af (AN aO w4.heap.size 105)
  have du:v w4.heap.size=105:=by rw[<-cO];exact A0 _ _ _
  have cp:∀i,i<w4.heap.size->v i=aO i:=λi q=>by rw[<-cO];exact Bz _ _ Ω
  have aQ:Ad (SS 107) w4 aO wL v:=by rw[<-cO];exact Cl co.o.new gL (jF _) c6.lt (BB ⟨Ω,Ω⟩)
  have t5:Ac (λ_=>False) w4 wL:=Ac.az gL;have HX:=zh (H4.o.ao (col':=v) t5 (λ_ _ l=>l) cp);have DX:=zh (D4.o.ao (col':=v) t5 (λ_ _ l=>l) cp);have RX:=zh (R4.o.u gL Δ);have C:=zh c6;have N:=zh du;have P:Hd (v f.heap.size=0):=zh (by rw[cp _ R4.o.lt];exact cL.o);have Q:=zh (co.o.trans aQ);have bx:Hd ((wb=AA/\aN s=Y)\/(wb=BC/\aN s=A3 (ab,I,aw)/\Bw wL v a' c' I)):=zh (bx.o.imp id (λ⟨a,o,c⟩=>⟨a,o,c.ao t5 (λ_ _ l=>l) cp⟩));clear cM gL c6 cO du cp aQ t5;generalize w4.heap.size=L7 at*;refine m _ _ ⟨_,λ_ l=>l,λ_=>⟨HX.o.cells.2.2.2.2.2.2.2.2.2,RX.o⟩,?_⟩;clear m K;refine Al ?_;refine Ap ?_;refine Aj ?_;have f0:=C.o.v 0;have f1:=C.o.v 1;have f2:=C.o.v 2;have y0:=C.o.m 0;have y1:=C.o.m 1;have y2:=C.o.m 2;refine Am ?_;intro K m;obtain⟨w5,cq,cr,t5⟩:=Bq C.o (E V ab) (Ax a' I.length c') (Bd aw);rw[cq];have cs:=N.o
  have aI:∀i,i=L7->v i=105:=λi d=>by rw[d];exact cs
  have H5:=zh (HX.o.ao t5 (λi q d=>by rw[aI i d]at q;omega) (λ_ _=>rfl));have D5:=zh (DX.o.ao t5 (λi q d=>by rw[aI i d]at q;omega) (λ_ _=>rfl));have R5:=zh (t5.y RX.o (λd=>by have:=aI _ d;rw[P.o]at this;cases this));have B5:=zh cr;have cw:=N;have cx:=P;have aJ:=zh (Q.o.trans (AL Q.o.new t5 (λi d=>by rw[aI i d];exact BB ⟨Ω,Ω⟩)));have c7:Hd ((wb=AA/\aN s=Y)\/(wb=BC/\aN s=A3 (ab,I,aw)/\Bw w5 v a' c' I)):=zh (bx.o.imp id (λ⟨a,o,c⟩=>⟨a,o,c.ao t5 (λo n d=>by rw[aI o d]at n;cases n) (λ_ _=>rfl)⟩));clear f0 f1 f2 y0 y1 y2 cq cr t5 cs aI HX DX RX C Q bx N P;refine Aq m ?_;clear m K;refine Ap ?_;refine Aj ?_;refine Am ?_;intro K m;refine Aq m ?_;clear m K;refine AG (A4 ?_);have y0:=B5.o.m 0;have y1:=B5.o.m 1;have y2:=B5.o.m 2;have x1:=R5.o.m 1
  rcases c7.o with⟨rfl,h1⟩|⟨rfl,h1,h2⟩
  ·have cy:=zh h1
   have bj:J ((b.aP+s:Nat):Int)=Cd b.n 2 s u A:=by
    rcases cD.o with l|l
    ·rw[h1]at l;cases l
    ·exact l.2
   rw[HZ.o]at bj;have cz:=zh bj;clear h1 bj y0 y1 y2 x1;go_wp2_with fail;refine AS (λW=>W.cell? ⟨e,0,Y⟩=A3 (A2 (A3 ⟨g,0,Y⟩))/\W.cell? ⟨e,9,Y⟩=A3 (E V cF)/\Aa W f.heap.size 165 [E V s,E V u]) (.bN [0,1,2,3,4,5,6,7,8,9,10,11,12] 13 AA (.am [] [14,15,16] 17 BC (.am [] [] 18 AA (.am [] [] 19 AA (.nil)))) 17 BC (.am [] [] 13 AA (.am [] [14,15,16] 18 AA (.am [] [] 19 AA (.nil))))) Φ Φ ?_;obtain⟨R,bB⟩:=Af w5.drew
   have g6:w5.grownBy R Y:=by rw[<-bB];exact Bm w5
   rw[bB];have H6:=zh (H5.o.u g6);have D6:=zh (D5.o.u g6);have R6:=zh (R5.o.u g6 Δ);have B6:=zh (B5.o.u g6 Δ);have aL:=zh (aJ.o.trans (Ad.u aJ.o.new g6));clear bB g6;refine DK ⟨H6.o.cells.1,by rw[<-cf.o];exact H6.o.cells.2.1,R6.o⟩ ?_
   iterate 13 ((apply AC rfl Θ;(· intro wS ag;(try have ag:=ag rfl);(try dsimp only at ag);(try(have c0:=ag.1;have c9:=ag.2.1;have x0:=ag.2.2.m 0));go_simp;(try with_reducible rfl)));refine Al ?_)
   refine Aj ⟨?_,?_⟩
   ·refine Am ?_;intro K m;rw[cH.o];refine(ch.o R v D6.o aL.o.new cz.o).mono ?_;rintro d w ⟨⟨S,T,rfl,o7⟩,L⟩;dsimp only;have H7:=zh (H6.o.u L);have D7:=zh (D6.o.u L);have R7:=zh (R6.o.u L Δ);have B7:=zh (B6.o.u L Δ);have P7:Hd (Bw w v S T A):=zh ⟨Ag.ai o7,λo n=>⟨aL.o.new o (o7.lt o n).1,(o7.lt o n).2⟩,ax.o.bB⟩;have aB:=zh (aL.o.trans (Ad.u aL.o.new L));clear o7 L;refine Aq m ?_;clear m K;refine Ap ?_
    iterate 3 refine Av ?_
    refine Aj ?_;refine Am ?_;intro K m;obtain⟨w8,bs⟩:=Af (w.alloc (BA #[E V 0,E V 0,E V 0,Ax Y 0 0] 174))
    have F:w.grownBy w8 Y:=by rw[<-bs];exact O _ _ Y
    have b8:Aa w8 w.heap.size 174 [E V 0,E V 0,E V 0,Ax Y 0 0]:=by rw[<-bs];exact Aa.new _ _ _
    rw[bs];obtain⟨r,am⟩:=Af (AN v w.heap.size 106)
    have aU:r w.heap.size=106:=by rw[<-am];exact A0 _ _ _
    have M:∀i,i<w.heap.size->r i=v i:=λi q=>by rw[<-am];exact Bz _ _ Ω
    have aV:Ad (SS 107) w v w8 r:=by rw[<-am];exact Cl aB.o.new F (jF _) b8.lt (BB ⟨Ω,Ω⟩)
    have tX:Ac (λ_=>False) w w8:=Ac.az F;have HX:=zh (H7.o.ao (col':=r) tX (λ_ _ l=>l) M);have DX:=zh (D7.o.ao (col':=r) tX (λ_ _ l=>l) M);have PX:=zh (P7.o.ao (col':=r) tX (λ_ _ l=>l) M);have RX:=zh (R7.o.u F Δ);have C:=zh (B7.o.u F Δ);have t:=zh b8;have XC:=zh aU;have N:Hd (r L7=105):=zh (by rw[M _ B7.o.lt];exact cw.o);have P:Hd (r f.heap.size=0):=zh (by rw[M _ R7.o.lt];exact cx.o);have Q:=zh (aB.o.trans aV);clear bs F b8 am aU M aV tX;generalize w.heap.size=L9 at*;refine m _ _ ⟨_,λ_ l=>l,λ_=>⟨HX.o.cells.1,by rw[<-cf.o];exact HX.o.cells.2.1,RX.o⟩,?_⟩;clear m K;refine Al ?_;refine Ap ?_;refine Aj ?_;have f0:=t.o.v 0;have f1:=t.o.v 1;have f2:=t.o.v 2;have f3:=t.o.v 3;have z0:=t.o.m 0;have z1:=t.o.m 1;have z2:=t.o.m 2;have z3:=t.o.m 3;refine Am ?_;intro K m;obtain⟨wY,aX,bY,x⟩:=Fm t.o (E V 2) (E V s) (E V u) (Ax S A.length T);rw[aX];have aZ:=XC.o
    have y:∀i,i=L9->r i=106:=λi d=>by rw[d];exact aZ
    have H8:=zh (HX.o.ao x (λi q d=>by rw[y i d]at q;omega) (λ_ _=>rfl));have D8:=zh (DX.o.ao x (λi q d=>by rw[y i d]at q;omega) (λ_ _=>rfl));have P8:=zh (PX.o.ao x (λo n d=>by rw[y o d]at n;cases n) (λ_ _=>rfl));have R8:=zh (x.y RX.o (λd=>by have:=y _ d;rw[P.o]at this;cases this));have z:=zh (x.y C.o (λd=>by have:=y _ d;rw[N.o]at this;cases this));have X8:=zh bY;have aG:=N;have a1:=P;have a2:=zh (Q.o.trans (AL Q.o.new x (λi d=>by rw[y i d];exact BB ⟨Ω,Ω⟩)));clear f0 f1 f2 f3 z0 z1 z2 z3 aX bY x aZ y HX DX PX RX C t Q;refine Aq m ?_;clear m K;refine Ap ?_;refine Aj ?_;refine Am ?_;intro K m;refine Aq m ?_;clear m K;refine AG (A4 ?_);generalize r=bL at*;clear N P;have z0:=X8.o.m 0;have z1:=X8.o.m 1;have z2:=X8.o.m 2;have z3:=X8.o.m 3;have y0:=z.o.m 0;have y1:=z.o.m 1;have y2:=z.o.m 2;have f0:=z.o.v 0;have f1:=z.o.v 1;have f2:=z.o.v 2;have x0:=R8.o.m 0
    have a3:L7≠f.heap.size:=λd=>by have:=aG.o;rw[d,a1.o]at this;cases this
    have a4:f.heap.size≠L7:=λd=>a3 d.symm
    obtain⟨w9,a5,b9,G⟩:=Bq z.o (E V u) (Ax S A.length T) (Bd AA);have a7:=aG.o
    have U:∀i,i=L7->bL i=105:=λi d=>by rw[d];exact a7
    have H9:=zh (H8.o.ao G (λi q d=>by rw[U i d]at q;omega) (λ_ _=>rfl));have D9:=zh (D8.o.ao G (λi q d=>by rw[U i d]at q;omega) (λ_ _=>rfl));have P9:=zh (P8.o.ao G (λo n d=>by rw[U o d]at n;cases n) (λ_ _=>rfl));have R9:=zh (G.y R8.o (λd=>a4 d));have B9:=zh b9;have a9:=zh (a2.o.trans (AL a2.o.new G (λi d=>by rw[U i d];exact BB ⟨Ω,Ω⟩)));have bQ:=zh a5;clear b9 G U a7 a5;go_wp2_with fail;rw[bQ.o];clear z0 z1 z2 z3 y0 y1 y2 f0 f1 f2 x0 a3 a4;refine(JO H9.o HL.o.bX D9.o a9.o.new Ω aH s u S T A AA ax.o P9.o).mono ?_;rintro d bR ⟨rfl,bS,bT,bU,X,ba,bb,bc⟩;have bV:=zh ba;have bW:=zh bb;have bd:=zh bc;have be:=zh (X.y B9.o (by rw[aG.o];exact Sc.aG Ω Ω));have bX:=zh (X.y R9.o (by rw[a1.o];exact Sc.aG Ω Ω));have bZ:=zh (P9.o.ag X (Sc.aG Ω Ω));have ao:=zh (a9.o.trans (X.mono (Kh Ω)));clear ba bb bc X;have y0:=be.o.m 0;have y1:=be.o.m 1;have x1:=bX.o.m 1;have cA:((u:Int)!=(u:Int))=AA:=Δ;go_wp2_with fail;refine(Ek A S T bR Ω bZ.o.1).mono ?_;rintro d cB ⟨bf,bg,rfl,aa,D⟩;go_wp2_with fail;refine Bk (BE rfl _ _ _) rfl ?_;exact⟨bf,bg,rfl,bS,bU,ao.o.trans (Ad.u ao.o.new D),⟨⟨B,b2,b3,b4,b5,b6,bw,tk,fr,dy,dd,bT,bV.o.u D,HL.o.bT cE.o cy.o bd.o⟩,bW.o.u D,ao.o.new.u D,aH⟩,bd.o.on,Ag.ai aa,λo n=>⟨ao.o.new o (aa.lt o n).1,(aa.lt o n).2⟩,ax.o.bB⟩
   ·refine Am ?_;intro K m;obtain⟨w,bt⟩:=Af (R.alloc (BA #[E V 0,E V 0,E V 0,Ax Y 0 0] 174))
    have L:R.grownBy w Y:=by rw[<-bt];exact O _ _ Y
    have b7:Aa w R.heap.size 174 [E V 0,E V 0,E V 0,Ax Y 0 0]:=by rw[<-bt];exact Aa.new _ _ _
    rw[bt];obtain⟨r,am⟩:=Af (AN v R.heap.size 106)
    have aU:r R.heap.size=106:=by rw[<-am];exact A0 _ _ _
    have M:∀i,i<R.heap.size->r i=v i:=λi q=>by rw[<-am];exact Bz _ _ Ω
    have aV:Ad (SS 107) R v w r:=by rw[<-am];exact Cl aL.o.new L (jF _) b7.lt (BB ⟨Ω,Ω⟩)
    have tX:Ac (λ_=>False) R w:=Ac.az L;have H7:=zh (H6.o.ao (col':=r) tX (λ_ _ l=>l) M);have D7:=zh (D6.o.ao (col':=r) tX (λ_ _ l=>l) M);have R7:=zh (R6.o.u L Δ);have B7:=zh (B6.o.u L Δ);have X7:=zh b7;have XC:=zh aU;have N:Hd (r L7=105):=zh (by rw[M _ B6.o.lt];exact cw.o);have P:Hd (r f.heap.size=0):=zh (by rw[M _ R6.o.lt];exact cx.o);have aB:=zh (aL.o.trans aV);clear bt L b7 am aU M aV tX;generalize R.heap.size=L9 at*;refine m _ _ ⟨_,λ_ l=>l,λ_=>⟨H7.o.cells.1,by rw[<-cf.o];exact H7.o.cells.2.1,R7.o⟩,?_⟩;clear m K;refine Al ?_;refine Ap ?_;refine Aj ?_;refine Am ?_;intro K m;rw[cH.o];refine(ch.o w r D7.o aB.o.new cz.o).mono ?_;rintro d w8 ⟨⟨S,T,rfl,o8⟩,F⟩;dsimp only;have HX:=zh (H7.o.u F);have DX:=zh (D7.o.u F);have RX:=zh (R7.o.u F Δ);have C:=zh (B7.o.u F Δ);have t:=zh (X7.o.u F Δ);have PX:Hd (Bw w8 r S T A):=zh ⟨Ag.ai o8,λo n=>⟨aB.o.new o (o8.lt o n).1,(o8.lt o n).2⟩,ax.o.bB⟩;have Q:=zh (aB.o.trans (Ad.u aB.o.new F));clear o8 F;refine Aq m ?_;clear m K;refine Ap ?_
    iterate 3 refine Av ?_
    refine Aj ?_;have f0:=t.o.v 0;have f1:=t.o.v 1;have f2:=t.o.v 2;have f3:=t.o.v 3;have z0:=t.o.m 0;have z1:=t.o.m 1;have z2:=t.o.m 2;have z3:=t.o.m 3;refine Am ?_;intro K m;obtain⟨wY,aX,bY,x⟩:=Fm t.o (E V 2) (E V s) (E V u) (Ax S A.length T);rw[aX];have aZ:=XC.o
    have y:∀i,i=L9->r i=106:=λi d=>by rw[d];exact aZ
    have H8:=zh (HX.o.ao x (λi q d=>by rw[y i d]at q;omega) (λ_ _=>rfl));have D8:=zh (DX.o.ao x (λi q d=>by rw[y i d]at q;omega) (λ_ _=>rfl));have P8:=zh (PX.o.ao x (λo n d=>by rw[y o d]at n;cases n) (λ_ _=>rfl));have R8:=zh (x.y RX.o (λd=>by have:=y _ d;rw[P.o]at this;cases this));have z:=zh (x.y C.o (λd=>by have:=y _ d;rw[N.o]at this;cases this));have X8:=zh bY;have aG:=N;have a1:=P;have a2:=zh (Q.o.trans (AL Q.o.new x (λi d=>by rw[y i d];exact BB ⟨Ω,Ω⟩)));clear f0 f1 f2 f3 z0 z1 z2 z3 aX bY x aZ y HX DX PX RX C t Q;refine Aq m ?_;clear m K;refine Ap ?_;refine Aj ?_;refine Am ?_;intro K m;refine Aq m ?_;clear m K;refine AG (A4 ?_);generalize r=bL at*;clear N P;have z0:=X8.o.m 0;have z1:=X8.o.m 1;have z2:=X8.o.m 2;have z3:=X8.o.m 3;have y0:=z.o.m 0;have y1:=z.o.m 1;have y2:=z.o.m 2;have f0:=z.o.v 0;have f1:=z.o.v 1;have f2:=z.o.v 2;have x0:=R8.o.m 0
    have a3:L7≠f.heap.size:=λd=>by have:=aG.o;rw[d,a1.o]at this;cases this
    have a4:f.heap.size≠L7:=λd=>a3 d.symm
    obtain⟨w9,a5,b9,G⟩:=Bq z.o (E V u) (Ax S A.length T) (Bd AA);have a7:=aG.o
    have U:∀i,i=L7->bL i=105:=λi d=>by rw[d];exact a7
    have H9:=zh (H8.o.ao G (λi q d=>by rw[U i d]at q;omega) (λ_ _=>rfl));have D9:=zh (D8.o.ao G (λi q d=>by rw[U i d]at q;omega) (λ_ _=>rfl));have P9:=zh (P8.o.ao G (λo n d=>by rw[U o d]at n;cases n) (λ_ _=>rfl));have R9:=zh (G.y R8.o (λd=>a4 d));have B9:=zh b9;have a9:=zh (a2.o.trans (AL a2.o.new G (λi d=>by rw[U i d];exact BB ⟨Ω,Ω⟩)));have bQ:=zh a5;clear b9 G U a7 a5;go_wp2_with fail;rw[bQ.o];clear z0 z1 z2 z3 y0 y1 y2 f0 f1 f2 x0 a3 a4;refine(JO H9.o HL.o.bX D9.o a9.o.new Ω aH s u S T A AA ax.o P9.o).mono ?_;rintro d bR ⟨rfl,bS,bT,bU,X,ba,bb,bc⟩;have bV:=zh ba;have bW:=zh bb;have bd:=zh bc;have be:=zh (X.y B9.o (by rw[aG.o];exact Sc.aG Ω Ω));have bX:=zh (X.y R9.o (by rw[a1.o];exact Sc.aG Ω Ω));have bZ:=zh (P9.o.ag X (Sc.aG Ω Ω));have ao:=zh (a9.o.trans (X.mono (Kh Ω)));clear ba bb bc X;have y0:=be.o.m 0;have y1:=be.o.m 1;have x1:=bX.o.m 1;have cA:((u:Int)!=(u:Int))=AA:=Δ;go_wp2_with fail;refine(Ek A S T bR Ω bZ.o.1).mono ?_;rintro d cB ⟨bf,bg,rfl,aa,D⟩;go_wp2_with fail;refine Bk (BE rfl _ _ _) rfl ?_;exact⟨bf,bg,rfl,bS,bU,ao.o.trans (Ad.u ao.o.new D),⟨⟨B,b2,b3,b4,b5,b6,bw,tk,fr,dy,dd,bT,bV.o.u D,HL.o.bT cE.o cy.o bd.o⟩,bW.o.u D,ao.o.new.u D,aH⟩,bd.o.on,Ag.ai aa,λo n=>⟨ao.o.new o (aa.lt o n).1,(aa.lt o n).2⟩,ax.o.bB⟩
  ·have dc:ab=u/\I=A:=by
    rcases cD.o with l|⟨l|l,_⟩<;>rw[h1]at l
    ·injection l with l;injection l with ha l;injection l with n _;exact⟨ha,n⟩
    ·cases l
    ·injection l with l;injection l with ha l;injection l with n _;exact⟨ha,n⟩
   obtain⟨rfl,rfl⟩:=dc;have P5:=zh h2;have cA:((ab:Int)!=(ab:Int))=AA:=Δ;clear h1 h2;go_wp2_with fail;refine(Ek I a' c' w5 Ω P5.o.1).mono ?_;rintro d cB ⟨bf,bg,rfl,aa,D⟩;go_wp2_with fail;refine Bk (BE rfl _ _ _) rfl ?_;exact⟨bf,bg,rfl,v,J,aJ.o.trans (Ad.u aJ.o.new D),SD.mono ⟨⟨B,b2,b3,b4,b5,b6,bw,tk,fr,dy,dd,aN,H5.o.u D,HL.o⟩,D5.o.u D,aJ.o.new.u D,aH⟩ (j9 h),AR.refl _ _,Ag.ai aa,λo n=>⟨aJ.o.new o (aa.lt o n).1,(aa.lt o n).2⟩,ax.o.bB⟩
 ·refine Am ?_;intro K m;obtain⟨w4,cP⟩:=Af (w3.alloc (BA #[E V 0,Ax Y 0 0,Bd AA] 198))
  have g4:w3.grownBy w4 Y:=by rw[<-cP];exact O _ _ Y
  have df:Aa w4 w3.heap.size 198 [E V 0,Ax Y 0 0,Bd AA]:=by rw[<-cP];exact Aa.new _ _ _
  rw[cP];obtain⟨aO,cR⟩:=Af (AN Z w3.heap.size 105)
  have dv:aO w3.heap.size=105:=by rw[<-cR];exact A0 _ _ _
  have cS:∀i,i<w3.heap.size->aO i=Z i:=λi q=>by rw[<-cR];exact Bz _ _ Ω
  have bk:Ad (SS 107) w3 Z w4 aO:=by rw[<-cR];exact Cl c3.o.new g4 (jF _) df.lt (BB ⟨Ω,Ω⟩)
  have t4:Ac (λ_=>False) w3 w4:=Ac.az g4;have H4:=zh (H3.o.ao (col':=aO) t4 (λ_ _ l=>l) cS);have D4:=zh (D3.o.ao (col':=aO) t4 (λ_ _ l=>l) cS);have R4:=zh (R3.o.u g4 Δ);have B4:=zh df;have dx:=zh dv;have cL:Hd (aO f.heap.size=0):=zh (by rw[cS _ R3.o.lt];exact RC.o);have co:=zh (c3.o.trans bk);clear cP g4 df cR dv cS bk t4;generalize w3.heap.size=L7 at*;refine m _ _ ⟨_,λ_ l=>l,λ_=>⟨H4.o.cells.2.2.2.2.2.2.2.2.2,R4.o⟩,?_⟩;clear m K;refine Al ?_;refine Ap ?_;refine Aj ?_;refine Am ?_;intro K m;refine(UH H4.o.cu co.o.new s Ω dk).mono ?_;rintro d wL ⟨v,aQ,dz,cl⟩
  obtain⟨ab,a',c',I,aw,wb,rfl,hr⟩:∃(ab:Nat) (a':Option CV) (c':Nat) (I:List Nat) (aw wb:Bool),d=A5 (CA #[CB #[E V ab,Ax a' I.length c',Bd aw],Bd wb])/\
    ((wb=AA/\aN s=Y)\/(wb=BC/\aN s=A3 (ab,I,aw)/\Bw wL v a' c' I)):=by
   rcases cl with⟨h1,rfl⟩|⟨ab,a',c',I,aw,h1,rfl,h2⟩
   ·exact⟨0,Y,0,[],AA,AA,rfl,BZ ⟨rfl,h1⟩⟩
   ·exact⟨ab,a',c',I,aw,BC,rfl,BB ⟨rfl,h1,h2⟩⟩
  have bx:=zh hr;have HX:=zh (H4.o.eV aQ (Sc.aG Ω Ω) (Sc.aG Ω Ω) (jF h) dz);have DX:=zh (D4.o.ag aQ (Sc.aG Ω Ω));have RX:=zh (aQ.y R4.o (by rw[cL.o];exact Sc.aG Ω Ω));have C:=zh (aQ.y B4.o (by rw[dx.o];exact Sc.aG Ω Ω));have N:Hd (v L7=105):=zh (by rw[aQ.ak _ B4.o.lt];exact dx.o);have P:Hd (v f.heap.size=0):=zh (by rw[aQ.ak _ R4.o.lt];exact cL.o);have Q:=zh (co.o.trans (aQ.mono (Sc.mono (λi d=>BB (BZ d)) Ω)));clear aQ dz hr cl;dsimp only;refine Aq m ?_;clear m K;refine Ap ?_
  iterate 3 refine Av ?_
  refine Aj ?_;have f0:=C.o.v 0;have f1:=C.o.v 1;have f2:=C.o.v 2;have y0:=C.o.m 0;have y1:=C.o.m 1;have y2:=C.o.m 2;refine Am ?_;intro K m;obtain⟨w5,cq,cr,t5⟩:=Bq C.o (E V ab) (Ax a' I.length c') (Bd aw);rw[cq];have cs:=N.o
  have aI:∀i,i=L7->v i=105:=λi d=>by rw[d];exact cs
  have H5:=zh (HX.o.ao t5 (λi q d=>by rw[aI i d]at q;omega) (λ_ _=>rfl));have D5:=zh (DX.o.ao t5 (λi q d=>by rw[aI i d]at q;omega) (λ_ _=>rfl));have R5:=zh (t5.y RX.o (λd=>by have:=aI _ d;rw[P.o]at this;cases this));have B5:=zh cr;have cw:=N;have cx:=P;have aJ:=zh (Q.o.trans (AL Q.o.new t5 (λi d=>by rw[aI i d];exact BB ⟨Ω,Ω⟩)));have c7:Hd ((wb=AA/\aN s=Y)\/(wb=BC/\aN s=A3 (ab,I,aw)/\Bw w5 v a' c' I)):=zh (bx.o.imp id (λ⟨a,o,c⟩=>⟨a,o,c.ao t5 (λo n d=>by rw[aI o d]at n;cases n) (λ_ _=>rfl)⟩));clear f0 f1 f2 y0 y1 y2 cq cr t5 cs aI HX DX RX C Q bx N P;refine Aq m ?_;clear m K;refine Ap ?_;refine Aj ?_;refine Am ?_;intro K m;refine Aq m ?_;clear m K;refine AG (A4 ?_);have y0:=B5.o.m 0;have y1:=B5.o.m 1;have y2:=B5.o.m 2;have x1:=R5.o.m 1
  rcases c7.o with⟨rfl,h1⟩|⟨rfl,h1,h2⟩
  ·have cy:=zh h1
   have bj:J ((b.aP+s:Nat):Int)=Cd b.n 2 s u A:=by
    rcases cD.o with l|l
    ·rw[h1]at l;cases l
    ·exact l.2
   rw[HZ.o]at bj;have cz:=zh bj;clear h1 bj y0 y1 y2 x1;go_wp2_with fail;refine AS (λW=>W.cell? ⟨e,0,Y⟩=A3 (A2 (A3 ⟨g,0,Y⟩))/\W.cell? ⟨e,9,Y⟩=A3 (E V cF)/\Aa W f.heap.size 165 [E V s,E V u]) (.bN [0,1,2,3,4,5,6,7,8,9,10,11,12] 13 AA (.am [] [14,15,16] 17 BC (.am [] [] 18 AA (.am [] [] 19 AA (.nil)))) 17 BC (.am [] [] 13 AA (.am [] [14,15,16] 18 AA (.am [] [] 19 AA (.nil))))) Φ Φ ?_;obtain⟨R,bB⟩:=Af w5.drew
   have g6:w5.grownBy R Y:=by rw[<-bB];exact Bm w5
   rw[bB];have H6:=zh (H5.o.u g6);have D6:=zh (D5.o.u g6);have R6:=zh (R5.o.u g6 Δ);have B6:=zh (B5.o.u g6 Δ);have aL:=zh (aJ.o.trans (Ad.u aJ.o.new g6));clear bB g6;refine DK ⟨H6.o.cells.1,by rw[<-cf.o];exact H6.o.cells.2.1,R6.o⟩ ?_
   iterate 13 ((apply AC rfl Θ;(· intro wS ag;(try have ag:=ag rfl);(try dsimp only at ag);(try(have c0:=ag.1;have c9:=ag.2.1;have x0:=ag.2.2.m 0));go_simp;(try with_reducible rfl)));refine Al ?_)
   refine Aj ⟨?_,?_⟩
   ·refine Am ?_;intro K m;rw[cH.o];refine(ch.o R v D6.o aL.o.new cz.o).mono ?_;rintro d w ⟨⟨S,T,rfl,o7⟩,L⟩;dsimp only;have H7:=zh (H6.o.u L);have D7:=zh (D6.o.u L);have R7:=zh (R6.o.u L Δ);have B7:=zh (B6.o.u L Δ);have P7:Hd (Bw w v S T A):=zh ⟨Ag.ai o7,λo n=>⟨aL.o.new o (o7.lt o n).1,(o7.lt o n).2⟩,ax.o.bB⟩;have aB:=zh (aL.o.trans (Ad.u aL.o.new L));clear o7 L;refine Aq m ?_;clear m K;refine Ap ?_
    iterate 3 refine Av ?_
    refine Aj ?_;refine Am ?_;intro K m;obtain⟨w8,bs⟩:=Af (w.alloc (BA #[E V 0,E V 0,E V 0,Ax Y 0 0] 174))
    have F:w.grownBy w8 Y:=by rw[<-bs];exact O _ _ Y
    have b8:Aa w8 w.heap.size 174 [E V 0,E V 0,E V 0,Ax Y 0 0]:=by rw[<-bs];exact Aa.new _ _ _
    rw[bs];obtain⟨r,am⟩:=Af (AN v w.heap.size 106)
    have aU:r w.heap.size=106:=by rw[<-am];exact A0 _ _ _
    have M:∀i,i<w.heap.size->r i=v i:=λi q=>by rw[<-am];exact Bz _ _ Ω
    have aV:Ad (SS 107) w v w8 r:=by rw[<-am];exact Cl aB.o.new F (jF _) b8.lt (BB ⟨Ω,Ω⟩)
    have tX:Ac (λ_=>False) w w8:=Ac.az F;have HX:=zh (H7.o.ao (col':=r) tX (λ_ _ l=>l) M);have DX:=zh (D7.o.ao (col':=r) tX (λ_ _ l=>l) M);have PX:=zh (P7.o.ao (col':=r) tX (λ_ _ l=>l) M);have RX:=zh (R7.o.u F Δ);have C:=zh (B7.o.u F Δ);have t:=zh b8;have XC:=zh aU;have N:Hd (r L7=105):=zh (by rw[M _ B7.o.lt];exact cw.o);have P:Hd (r f.heap.size=0):=zh (by rw[M _ R7.o.lt];exact cx.o);have Q:=zh (aB.o.trans aV);clear bs F b8 am aU M aV tX;generalize w.heap.size=L9 at*;refine m _ _ ⟨_,λ_ l=>l,λ_=>⟨HX.o.cells.1,by rw[<-cf.o];exact HX.o.cells.2.1,RX.o⟩,?_⟩;clear m K;refine Al ?_;refine Ap ?_;refine Aj ?_;have f0:=t.o.v 0;have f1:=t.o.v 1;have f2:=t.o.v 2;have f3:=t.o.v 3;have z0:=t.o.m 0;have z1:=t.o.m 1;have z2:=t.o.m 2;have z3:=t.o.m 3;refine Am ?_;intro K m;obtain⟨wY,aX,bY,x⟩:=Fm t.o (E V 2) (E V s) (E V u) (Ax S A.length T);rw[aX];have aZ:=XC.o
    have y:∀i,i=L9->r i=106:=λi d=>by rw[d];exact aZ
    have H8:=zh (HX.o.ao x (λi q d=>by rw[y i d]at q;omega) (λ_ _=>rfl));have D8:=zh (DX.o.ao x (λi q d=>by rw[y i d]at q;omega) (λ_ _=>rfl));have P8:=zh (PX.o.ao x (λo n d=>by rw[y o d]at n;cases n) (λ_ _=>rfl));have R8:=zh (x.y RX.o (λd=>by have:=y _ d;rw[P.o]at this;cases this));have z:=zh (x.y C.o (λd=>by have:=y _ d;rw[N.o]at this;cases this));have X8:=zh bY;have aG:=N;have a1:=P;have a2:=zh (Q.o.trans (AL Q.o.new x (λi d=>by rw[y i d];exact BB ⟨Ω,Ω⟩)));clear f0 f1 f2 f3 z0 z1 z2 z3 aX bY x aZ y HX DX PX RX C t Q;refine Aq m ?_;clear m K;refine Ap ?_;refine Aj ?_;refine Am ?_;intro K m;refine Aq m ?_;clear m K;refine AG (A4 ?_);generalize r=bL at*;clear N P;have z0:=X8.o.m 0;have z1:=X8.o.m 1;have z2:=X8.o.m 2;have z3:=X8.o.m 3;have y0:=z.o.m 0;have y1:=z.o.m 1;have y2:=z.o.m 2;have f0:=z.o.v 0;have f1:=z.o.v 1;have f2:=z.o.v 2;have x0:=R8.o.m 0
    have a3:L7≠f.heap.size:=λd=>by have:=aG.o;rw[d,a1.o]at this;cases this
    have a4:f.heap.size≠L7:=λd=>a3 d.symm
    obtain⟨w9,a5,b9,G⟩:=Bq z.o (E V u) (Ax S A.length T) (Bd AA);have a7:=aG.o
    have U:∀i,i=L7->bL i=105:=λi d=>by rw[d];exact a7
    have H9:=zh (H8.o.ao G (λi q d=>by rw[U i d]at q;omega) (λ_ _=>rfl));have D9:=zh (D8.o.ao G (λi q d=>by rw[U i d]at q;omega) (λ_ _=>rfl));have P9:=zh (P8.o.ao G (λo n d=>by rw[U o d]at n;cases n) (λ_ _=>rfl));have R9:=zh (G.y R8.o (λd=>a4 d));have B9:=zh b9;have a9:=zh (a2.o.trans (AL a2.o.new G (λi d=>by rw[U i d];exact BB ⟨Ω,Ω⟩)));have bQ:=zh a5;clear b9 G U a7 a5;go_wp2_with fail;rw[bQ.o];clear z0 z1 z2 z3 y0 y1 y2 f0 f1 f2 x0 a3 a4;refine(JO H9.o HL.o.bX D9.o a9.o.new Ω aH s u S T A AA ax.o P9.o).mono ?_;rintro d bR ⟨rfl,bS,bT,bU,X,ba,bb,bc⟩;have bV:=zh ba;have bW:=zh bb;have bd:=zh bc;have be:=zh (X.y B9.o (by rw[aG.o];exact Sc.aG Ω Ω));have bX:=zh (X.y R9.o (by rw[a1.o];exact Sc.aG Ω Ω));have bZ:=zh (P9.o.ag X (Sc.aG Ω Ω));have ao:=zh (a9.o.trans (X.mono (Kh Ω)));clear ba bb bc X;have y0:=be.o.m 0;have y1:=be.o.m 1;have x1:=bX.o.m 1;have cA:((u:Int)!=(u:Int))=AA:=Δ;go_wp2_with fail;refine(Ek A S T bR Ω bZ.o.1).mono ?_;rintro d cB ⟨bf,bg,rfl,aa,D⟩;go_wp2_with fail;refine Bk (BE rfl _ _ _) rfl ?_;exact⟨bf,bg,rfl,bS,bU,ao.o.trans (Ad.u ao.o.new D),⟨⟨B,b2,b3,b4,b5,b6,bw,tk,fr,dy,dd,bT,bV.o.u D,HL.o.bT cE.o cy.o bd.o⟩,bW.o.u D,ao.o.new.u D,aH⟩,bd.o.on,Ag.ai aa,λo n=>⟨ao.o.new o (aa.lt o n).1,(aa.lt o n).2⟩,ax.o.bB⟩
   ·refine Am ?_;intro K m;obtain⟨w,bt⟩:=Af (R.alloc (BA #[E V 0,E V 0,E V 0,Ax Y 0 0] 174))
    have L:R.grownBy w Y:=by rw[<-bt];exact O _ _ Y
    have b7:Aa w R.heap.size 174 [E V 0,E V 0,E V 0,Ax Y 0 0]:=by rw[<-bt];exact Aa.new _ _ _
    rw[bt];obtain⟨r,am⟩:=Af (AN v R.heap.size 106)
    have aU:r R.heap.size=106:=by rw[<-am];exact A0 _ _ _
    have M:∀i,i<R.heap.size->r i=v i:=λi q=>by rw[<-am];exact Bz _ _ Ω
    have aV:Ad (SS 107) R v w r:=by rw[<-am];exact Cl aL.o.new L (jF _) b7.lt (BB ⟨Ω,Ω⟩)
    have tX:Ac (λ_=>False) R w:=Ac.az L;have H7:=zh (H6.o.ao (col':=r) tX (λ_ _ l=>l) M);have D7:=zh (D6.o.ao (col':=r) tX (λ_ _ l=>l) M);have R7:=zh (R6.o.u L Δ);have B7:=zh (B6.o.u L Δ);have X7:=zh b7;have XC:=zh aU;have N:Hd (r L7=105):=zh (by rw[M _ B6.o.lt];exact cw.o);have P:Hd (r f.heap.size=0):=zh (by rw[M _ R6.o.lt];exact cx.o);have aB:=zh (aL.o.trans aV);clear bt L b7 am aU M aV tX;generalize R.heap.size=L9 at*;refine m _ _ ⟨_,λ_ l=>l,λ_=>⟨H7.o.cells.1,by rw[<-cf.o];exact H7.o.cells.2.1,R7.o⟩,?_⟩;clear m K;refine Al ?_;refine Ap ?_;refine Aj ?_;refine Am ?_;intro K m;rw[cH.o];refine(ch.o w r D7.o aB.o.new cz.o).mono ?_;rintro d w8 ⟨⟨S,T,rfl,o8⟩,F⟩;dsimp only;have HX:=zh (H7.o.u F);have DX:=zh (D7.o.u F);have RX:=zh (R7.o.u F Δ);have C:=zh (B7.o.u F Δ);have t:=zh (X7.o.u F Δ);have PX:Hd (Bw w8 r S T A):=zh ⟨Ag.ai o8,λo n=>⟨aB.o.new o (o8.lt o n).1,(o8.lt o n).2⟩,ax.o.bB⟩;have Q:=zh (aB.o.trans (Ad.u aB.o.new F));clear o8 F;refine Aq m ?_;clear m K;refine Ap ?_
    iterate 3 refine Av ?_
    refine Aj ?_;have f0:=t.o.v 0;have f1:=t.o.v 1;have f2:=t.o.v 2;have f3:=t.o.v 3;have z0:=t.o.m 0;have z1:=t.o.m 1;have z2:=t.o.m 2;have z3:=t.o.m 3;refine Am ?_;intro K m;obtain⟨wY,aX,bY,x⟩:=Fm t.o (E V 2) (E V s) (E V u) (Ax S A.length T);rw[aX];have aZ:=XC.o
    have y:∀i,i=L9->r i=106:=λi d=>by rw[d];exact aZ
    have H8:=zh (HX.o.ao x (λi q d=>by rw[y i d]at q;omega) (λ_ _=>rfl));have D8:=zh (DX.o.ao x (λi q d=>by rw[y i d]at q;omega) (λ_ _=>rfl));have P8:=zh (PX.o.ao x (λo n d=>by rw[y o d]at n;cases n) (λ_ _=>rfl));have R8:=zh (x.y RX.o (λd=>by have:=y _ d;rw[P.o]at this;cases this));have z:=zh (x.y C.o (λd=>by have:=y _ d;rw[N.o]at this;cases this));have X8:=zh bY;have aG:=N;have a1:=P;have a2:=zh (Q.o.trans (AL Q.o.new x (λi d=>by rw[y i d];exact BB ⟨Ω,Ω⟩)));clear f0 f1 f2 f3 z0 z1 z2 z3 aX bY x aZ y HX DX PX RX C t Q;refine Aq m ?_;clear m K;refine Ap ?_;refine Aj ?_;refine Am ?_;intro K m;refine Aq m ?_;clear m K;refine AG (A4 ?_);generalize r=bL at*;clear N P;have z0:=X8.o.m 0;have z1:=X8.o.m 1;have z2:=X8.o.m 2;have z3:=X8.o.m 3;have y0:=z.o.m 0;have y1:=z.o.m 1;have y2:=z.o.m 2;have f0:=z.o.v 0;have f1:=z.o.v 1;have f2:=z.o.v 2;have x0:=R8.o.m 0
    have a3:L7≠f.heap.size:=λd=>by have:=aG.o;rw[d,a1.o]at this;cases this
    have a4:f.heap.size≠L7:=λd=>a3 d.symm
    obtain⟨w9,a5,b9,G⟩:=Bq z.o (E V u) (Ax S A.length T) (Bd AA);have a7:=aG.o
    have U:∀i,i=L7->bL i=105:=λi d=>by rw[d];exact a7
    have H9:=zh (H8.o.ao G (λi q d=>by rw[U i d]at q;omega) (λ_ _=>rfl));have D9:=zh (D8.o.ao G (λi q d=>by rw[U i d]at q;omega) (λ_ _=>rfl));have P9:=zh (P8.o.ao G (λo n d=>by rw[U o d]at n;cases n) (λ_ _=>rfl));have R9:=zh (G.y R8.o (λd=>a4 d));have B9:=zh b9;have a9:=zh (a2.o.trans (AL a2.o.new G (λi d=>by rw[U i d];exact BB ⟨Ω,Ω⟩)));have bQ:=zh a5;clear b9 G U a7 a5;go_wp2_with fail;rw[bQ.o];clear z0 z1 z2 z3 y0 y1 y2 f0 f1 f2 x0 a3 a4;refine(JO H9.o HL.o.bX D9.o a9.o.new Ω aH s u S T A AA ax.o P9.o).mono ?_;rintro d bR ⟨rfl,bS,bT,bU,X,ba,bb,bc⟩;have bV:=zh ba;have bW:=zh bb;have bd:=zh bc;have be:=zh (X.y B9.o (by rw[aG.o];exact Sc.aG Ω Ω));have bX:=zh (X.y R9.o (by rw[a1.o];exact Sc.aG Ω Ω));have bZ:=zh (P9.o.ag X (Sc.aG Ω Ω));have ao:=zh (a9.o.trans (X.mono (Kh Ω)));clear ba bb bc X;have y0:=be.o.m 0;have y1:=be.o.m 1;have x1:=bX.o.m 1;have cA:((u:Int)!=(u:Int))=AA:=Δ;go_wp2_with fail;refine(Ek A S T bR Ω bZ.o.1).mono ?_;rintro d cB ⟨bf,bg,rfl,aa,D⟩;go_wp2_with fail;refine Bk (BE rfl _ _ _) rfl ?_;exact⟨bf,bg,rfl,bS,bU,ao.o.trans (Ad.u ao.o.new D),⟨⟨B,b2,b3,b4,b5,b6,bw,tk,fr,dy,dd,bT,bV.o.u D,HL.o.bT cE.o cy.o bd.o⟩,bW.o.u D,ao.o.new.u D,aH⟩,bd.o.on,Ag.ai aa,λo n=>⟨ao.o.new o (aa.lt o n).1,(aa.lt o n).2⟩,ax.o.bB⟩
  ·have dc:ab=u/\I=A:=by
    rcases cD.o with l|⟨l|l,_⟩<;>rw[h1]at l
    ·injection l with l;injection l with ha l;injection l with n _;exact⟨ha,n⟩
    ·cases l
    ·injection l with l;injection l with ha l;injection l with n _;exact⟨ha,n⟩
   obtain⟨rfl,rfl⟩:=dc;have P5:=zh h2;have cA:((ab:Int)!=(ab:Int))=AA:=Δ;clear h1 h2;go_wp2_with fail;refine(Ek I a' c' w5 Ω P5.o.1).mono ?_;rintro d cB ⟨bf,bg,rfl,aa,D⟩;go_wp2_with fail;refine Bk (BE rfl _ _ _) rfl ?_;exact⟨bf,bg,rfl,v,J,aJ.o.trans (Ad.u aJ.o.new D),SD.mono ⟨⟨B,b2,b3,b4,b5,b6,bw,tk,fr,dy,dd,aN,H5.o.u D,HL.o⟩,D5.o.u D,aJ.o.new.u D,aH⟩ (j9 h),AR.refl _ _,Ag.ai aa,λo n=>⟨aJ.o.new o (aa.lt o n).1,(aa.lt o n).2⟩,ax.o.bB⟩
theorem Bf.ia(a:Bf f Z h e b j g d c)(l:Nat):Bf (f.setCell ⟨h,18,Y⟩ (E V l)) Z h e b l g d c:=
 ⟨a.y.setCell 18 _,(Ac.of (S:=λk=>k=h) (Ao _ _ _) (λk i=>by cases i;rfl)).aT a.aS (λn m i=>by subst i;exact Bv a.y a.aS Ξ m),a.c0,a.cp⟩
theorem Bf.fZ(a:Bf f Z h e b g j d c)(l:Nat):Bf (f.setCell ⟨h,19,Y⟩ (E V l)) Z h e b g l d c:=
 ⟨a.y.setCell 19 _,(Ac.of (S:=λk=>k=h) (Ao _ _ _) (λk i=>by cases i;rfl)).aT a.aS (λn m i=>by subst i;exact Bv a.y a.aS Ξ m),a.c0,a.cp⟩
theorem Bf.ib(a:Bf f Z h e b g j d c){pv':BL}{pend':List Nat}(m:f.ownsRow 0 5 1 pv' pend'.length (Ar pend'))(n:∀i,pv'.ownBlock=A3 i->Z i=4):Bf (f.setCell ⟨h,20,Y⟩ pv') Z h e b g j pv' pend':=
 ⟨a.y.setCell 20 _,(Ac.of (S:=λk=>k=h) (Ao _ _ _) (λk l=>by cases l;rfl)).aT m (λi o l=>by subst l;exact Bv a.y m Ξ o),a.c0,n⟩
theorem Hn{C:Nat->Prop}(a:AD f Z){g o:Nat}(v:BL)(b:C (Z g)):Ad C f Z (f.setCell ⟨g,o,Y⟩ v) Z:=Ad.of a (Ao _ _ _) (λk e=>by cases e;exact b)
theorem Bf.aN(m:Bf f Z h e b g j d c):∃a i,d=Ax a c.length i/\Ag f 1 (Ax a c.length i) c.length (Ar c):=by
 have k:=Ag.ai m.aS;obtain⟨a,i,l⟩:=k.slice;exact⟨a,i,l,by rw[<-l];exact k⟩
def Bp:Nat->Prop:=λj=>j=1\/j=4
theorem Of(l:Bf f Z e j b h g d c)(hD:AF f Z j b.ss b.n p J)(hC:AD f Z)(n:b.aY)(hq:p<=1073741824)(hl:h<=1099511627776)
  (i:Nat)(R:i<b.rs)(a5:1<=g)(T:(g - 1)/(b.n - 19)=i)(a6:g<=b.aA)(hp:c.length<=b.n - 19)(hs:∀x∈c,x<256):
  B0 A7 148 #[A2 (A3 ⟨e,0,Y⟩)] f λa U=>a=A5 (E V 0)/\∃y,Ad Bp f Z U y/\Bf U y e j b h g (Ax Y 0 0) []/\
   AF U y j b.ss b.n (p+1) (CJ J ((b.region+BY b h i:Nat):Int) (Cd b.n 3 (BY b h i) h c)):=by
 have a7:=Lo n (q:=h) R;have a8:=n.fJ;have a9:=n.eh;have ba:=n.dE;have bb:=b.eI;have bc:=n.n0;have bd:b.aA<=32*493:=ln n.cQ (Ψ n.n1);obtain⟨t,u,rfl,be⟩:=l.aN
 have aa:=λ(W:A6) (hW:Bf W Z e j b h g (Ax t c.length u) c)=>QL hW n h i R
 have ac:=λ(W:A6) (hW:AF W Z j b.ss b.n p J) (bf:AD W Z) (hR:Ag W 1 (Ax t c.length u) c.length (Ar c))=>
  MQ j b.ss b.n p J ((b.region+BY b h i:Nat):Int) 3 (BY b h i) h c t u W Z hW bf hq Ω (by exact_mod_cast (show b.region+BY b h i<b.ss by omega)) Ω Ω Ω Ω hp hs hR
 have aE:BR ((b.region:Int)+(BY b h i:Int))=((b.region+BY b h i:Nat):Int):=Dm rfl Ω;have hM:0<b.n - 19:=Ω;have hz:(((b.n - 19:Nat):Int)==0)=AA:=Γ;obtain⟨A,hA⟩:=Af (g - 1);rw[hA]at T
 have bi:BR ((g:Int) - 1)=(A:Int):=by rw[Bn _ Ω];omega
 have bP:V.wrap ((g:Int) - 1)=(A:Int):=Ba bi
 have ad:BR ((A:Int)/((b.n - 19:Nat):Int))=(i:Int):=by
  rw[show((A:Int)/((b.n - 19:Nat):Int))=(i:Int) by rw[<-T];rfl];exact Ed (Ψ n.cQ)
 obtain⟨M,ae⟩:=Af (b.n - 19);obtain⟨S,af⟩:=Af (BY b h i);rw[ae]at hM hz ad;rw[af]at aa aE ac;rw[af];have bQ:¬M=0:=Ω;have bR:(M:Int)≠0:=Ω;have bj:=zh ad;clear ad;have bk:=zh aa;have bl:=zh ac;have H:=zh l;have HD:=zh hD;have HC:=zh hC;have HM:=zh ae;clear l hD hC be aa ac ae af a7 a8 a9 ba bb bc bd n hq hl a5 T a6 hp hs R hM hA;obtain⟨c0,_,_,bp,_,aI,bq,br,bs⟩:=H.o.cells;rw[HM.o]at aI;have g1:=Bm f;have aK:=zh g1;clear g1
 go_enter Tryz.func148,Tryz.ntmps148
 go_wp2_with fail
 go_still_tail 15,Φ
 go_wp2_with fail;rw[bj.o];refine(bk.o f.drew (H.o.u aK.o)).mono ?_;rintro a w2 ⟨rfl,g2⟩;have bt:=zh (Ab aK.o g2);clear g2 c0 bp aI bq br bs;go_wp2_with fail;obtain⟨v,ah⟩:=Af w2.drew;have ai:=Ab bt.o (show w2.grownBy v Y by rw[<-ah];exact Bm w2);have H3:=zh (H.o.u ai);have aM:=zh ai;have bu:=zh ah;clear ah ai;refine AS (λW=>W.cell? ⟨e,18,Y⟩=A3 (E V h)/\W.cell? ⟨e,20,Y⟩=A3 (Ax t c.length u)) (.am [0,1,2,3,4,5,6,7,8,9] [] 10 BC (.am [] [] 11 AA (.nil))) Φ Φ ?_;rw[bu.o];have z:=H3.o.cells.2.2.2.2.2.2.1;have s:=H3.o.cells.2.2.2.2.2.2.2.2;refine Dz ⟨z,s⟩ ?_
 iterate 10 ((apply AC rfl Θ;(· intro wS B;(try have B:=B rfl);(try dsimp only at B);(try(have bT:=B.1;have bU:=B.2));go_simp;(try with_reducible rfl)));refine Al ?_)
 refine Aj ?_;refine Aj ?_;refine Am ?_;intro K m;obtain⟨w4,I⟩:=Af (v.alloc (BA #[E V 0,E V 0,E V 0,Ax Y 0 0] 174))
 have g4:v.grownBy w4 Y:=by rw[<-I];exact O _ _ Y
 have b4:Aa w4 v.heap.size 174 [E V 0,E V 0,E V 0,Ax Y 0 0]:=by rw[<-I];exact Aa.new _ _ _
 rw[I];have H4:=zh (H3.o.u g4);have q:=zh b4;have bv:=zh (Ab aM.o g4);have HX:Hd (f.heap.size<=v.heap.size):=zh aM.o.size;clear I g4 b4 z s;generalize v.heap.size=X at*;have z:=H4.o.cells.2.2.2.2.2.2.1;have s:=H4.o.cells.2.2.2.2.2.2.2.2;refine m _ _ ⟨_,λ_ l=>l,λ_=>⟨z,s⟩,?_⟩;clear m K;refine Al ?_;refine Ap ?_;refine Aj ?_;have f0:=q.o.v 0;have f1:=q.o.v 1;have f2:=q.o.v 2;have f3:=q.o.v 3;have z0:=q.o.m 0;have z1:=q.o.m 1;have z2:=q.o.m 2;have z3:=q.o.m 3;refine Am ?_;intro K m;obtain⟨D,aR,b5,t5⟩:=Fm q.o (E V 3) (E V S) (E V h) (Ax t c.length u);rw[aR];have t0:Ac (λ_=>False) f D:=(Ac.az bv.o).ag t5 (λaq a=>BB (by rw[a];exact HX.o));have r:=zh (H.o.ao t0 (λ_ _ l=>l) (λ_ _=>rfl));have T5:=zh t0;have B5:=zh b5;clear f0 f1 f2 f3 z0 z1 z2 z3 aR b5 t5 t0 z s;refine Aq m ?_;clear m K;refine AG (A4 ?_);obtain⟨w,L⟩:=Af (D.setCell ⟨e,20,Y⟩ (Ax Y 0 0));have h6:=r.o.ib (pv':=Ax Y 0 0) (pend':=[]) (World.ownsRow_nil _ _ _ _) (λbC hb=>by simp[Value.ownBlock]at hb);have aU:AD D Z:=HC.o.au T5.o;have s6:=Hn (C:=Bp) (g:=e) (o:=20) aU (Ax Y 0 0) (BB r.o.c0)
 have N:Ac (λk=>k=e) D w:=by rw[<-L];exact Ac.of (Ao _ _ _) (λk a=>by cases a;rfl)
 have s5:Ad Bp f Z D Z:=AL HC.o T5.o (λk l=>l.elim);have d6:AF w Z j b.ss b.n p J:=(HD.o.ao T5.o (λ_ _ l=>l) (λ_ _=>rfl)).ao N (λaq P a=>by rw[a,r.o.c0]at P;cases P) (λ_ _=>rfl);have r6:Ag w 1 (Ax t c.length u) c.length (Ar c):=N.aN (Ag.ai r.o.aS) (λbC hb a=>by subst a;exact Bv r.o.y r.o.aS Ξ hb)
 have aY:X≠e:=λa=>by have:=H.o.y.lt;have:=HX.o;omega
 have b6:=N.y B5.o aY;have bD:=r.o.y.v 20;have s:=r.o.cells.2.2.2.2.2.2.2.2;rw[L]at h6 s6;have H6:=zh h6;have ax:=zh (s5.trans s6);have D6:=zh d6;have R6:=zh r6;have B6:=zh b6;have bH:=zh L;clear h6 s6 N s5 d6 r6 aY b6 L aU;go_wp2_with fail;rw[bH.o];clear bD s;obtain⟨w7,ay⟩:=Af w.drew
 have Q:w.grownBy w7 Y:=by rw[<-ay];exact Bm w
 obtain⟨k0,_,_,bJ,_⟩:=(H6.o.u Q).cells;have F:=B6.o.u Q Δ;have z0:=F.m 0;have z1:=F.m 1;have z2:=F.m 2;have z3:=F.m 3;have G:=zh Q;have bK:=zh ay;clear F Q ay;refine AS (λ_=>True) (.am [] [0,1,2,3,4,5,6,7,8,9,10,11] 12 AA (.am [] [] 13 AA (.nil))) Φ Φ ?_;rw[bK.o];refine Ap ?_
 iterate 12 refine Av ?_
 refine Aj ?_;refine Am ?_;intro K m;rw[Ba aE];have r7:=R6.o.u G.o Δ;refine(bl.o w7 (D6.o.u G.o) (ax.o.new.u G.o) r7).mono ?_;rintro a w8 ⟨rfl,y,s8,d8⟩;have S7:=ax.o.trans (Ad.u ax.o.new G.o);have h8:=(H6.o.u G.o).ag s8 Ω;have s9:=S7.trans (s8.mono (λaq P=>(BZ P:Bp aq)));dsimp only;clear z0 z1 z2 z3 k0 bJ r7;refine Aq m ?_;clear m K;refine Ap ?_;refine Aj ?_;refine Am ?_;intro K m;refine Aq m ?_;clear m K;refine AG (A4 ?_);go_wp2_with fail;go_ret;exact⟨rfl,y,s9,h8,d8⟩
end
section
open Go.RowKit Go.Shelf
attribute [local go_sem] Oper.semAt_some
structure Kp where
 k:Nat
 st:Nat
 a:Option CV
 c:Nat
 ld:List Nat
abbrev PU(x:Kp):Array BL:=#[E V x.k,CB #[E V x.st,Ax x.a x.ld.length x.c,Bd BC]]
def UZ(d s a e:Nat)(b:Int->Option Pg)(c:Ae)(X:A6):Prop:=
 X.cell? ⟨d,0,Y⟩=A3 (A2 (A3 ⟨s,0,Y⟩))/\X.cell? ⟨s,17,Y⟩=A3 (A2 (A3 ⟨a,0,Y⟩))/\(∃q,CZ X c a e q b)/\∀i f g h,b i=A3 (f,g,h)->∃k:Nat,i=k
def UW(x:Kp)(X:A6)(a:Int->Option Pg)(c:Ae):Prop:=a (x.k:Int)=A3 (x.st,x.ld,BC)/\Bw X c x.a x.c x.ld
theorem VW(s:Nat)(w:A6):
  B0 A7 149 #[A2 (A3 ⟨s,0,Y⟩)] w λe a=>e=A5 (.func (.func 209) #[] #[A2 (A3 ⟨w.heap.size,0,Y⟩)])/\a=w.alloc (BA #[A2 (A3 ⟨s,0,Y⟩)] 80):=by
 go_enter Tryz.func149,Tryz.ntmps149
 go_wp2;go_ret;exact⟨rfl,rfl⟩
theorem WY(b:f.ownsRow e l g d h o):∃a c,d=Ax a h c:=by
 rcases b.2 with⟨rfl,rfl,_⟩|⟨i,j,k,rfl,_⟩
 ·exact⟨_,_,rfl⟩
 ·exact⟨_,_,rfl⟩
theorem fi(r:CZ f Z h e g a):
  B0 A7 210 #[A2 (A3 ⟨h,0,Y⟩)] f λp m=>∃(d:Option CV) (i:Nat) (c:List Int),p=A5 (Ax d c.length i)/\m.ownsRow f.heap.size 3 1 (Ax d c.length i) c.length (c.map (E V))/\(∀k∈c,0<=k/\k<=65535)/\c.length<=4096/\f.grownBy m Y:=by
 obtain⟨t,u,b,w,x,l,y⟩:=r;refine(Z2 l).mono ?_;rintro p m ⟨v,rfl,n,s⟩;obtain⟨d,i,rfl⟩:=WY n
 have o:(GV b (fl b b.length)).length=(fl b b.length).length:=by simp[GV]
 rw[<-o]at n;refine⟨d,i,GV b (fl b b.length),by rw[o],n,λk q=>?_,?_,s⟩
 ·simp only[GV,lB]at q;obtain⟨j,_,rfl⟩:=q;exact l.ez _ (kp (Tx b j.val j.isLt))
 ·rw[o];have:=Ng b b.length (jF _);have:=l.aC;have:=l.r1;omega
theorem eH(b:CZ f Z h e g a)(k:Int)(q:0<=k)(r:k<=65535):
  B0 A7 211 #[A2 (A3 ⟨h,0,Y⟩),E V k] f λn m=>∃(d:Nat) (i:Option CV) (j:Nat) (c:List Nat) (l s:Bool),n=A5 (CA #[CB #[E V d,Ax i c.length j,Bd l],Bd s])/\f.grownBy m Y/\(l=BC->a k=A3 (d,c,BC)/\Bw m Z i j c):=by
 refine(fG b k q r).mono ?_;rintro n m ⟨o,(⟨p,rfl⟩|⟨d,i,j,c,l,p,rfl,t⟩)⟩
 ·exact⟨0,Y,0,[],AA,AA,rfl,o,λb=>by cases b⟩
 ·exact⟨d,i,j,c,l,BC,rfl,o,λb=>⟨by rw[p,b],t⟩⟩
theorem Xh(n T s bc aw:Nat)(hn:1<=n)(C:Nat->Prop)(ax:¬C 0):
  Kf Fence.wide n A7 209 #[A2 (A3 ⟨T,0,Y⟩)] PU C (UZ T s bc aw) (λ_=>UW) (λxs=>xs.length<=4096) 4096:=by
 intro l J Jx W m0 U X _ aX F Z G _;have HA:=zh F;have H:=zh X;have HY:=zh Z;have H0:=zh G;obtain⟨⟨b0,b1,⟨q0,o⟩,_⟩,p⟩:=F _ _ _ _ G;have aD:=zh o;clear F X Z G o;refine callsIn_of_wp Tryz.func209 rfl ki ?_ rfl;simp only[Tryz.ntmps209,kB,jT,kA,Nat.reduceAdd,Nat.reduceSub,kf,kh,kJ,kr,jX,ku]
 gi_wp2_with (refine⟨ki,?_⟩;gi_at_call 210;refine(callsIn_wide.2 (fi aD.o)).mono ?_;rintro e w1 ⟨v,g,a,rfl,w,ad,ae,g1⟩)
 have HR:Hd (Ag w1 1 (Ax v a.length g) a.length (a.map (E V))/\∀b,(Ax v a.length g).ownBlock=A3 b->U b=0/\b<w1.heap.size):=zh ⟨Ag.ai w,λb d=>⟨p b (w.lt b d).1,(w.lt b d).2⟩⟩;have aE:=zh (H.o _ _ _ _ _ H0.o g1);have aF:=zh ad;clear w g1 ad b0 b1 p
 gi_wp2
 gi_loopw [13] (λi wr=>∃k:Nat,k<=a.length/\i=E V (k:Nat)/\∃m c h,J m c h wr/\h.length<=k/\Ag wr 1 (Ax v a.length g) a.length (a.map (E V))/\∀b,(Ax v a.length g).ownBlock=A3 b->c b=0/\b<wr.heap.size) (λi _=>((a.length:Int) - (C6 i)).toNat)
 case atStart=>exact⟨0,ke _,Δ,m0,U,[],aE.o,ke _,HR.o.1,HR.o.2⟩
 case round=>
  obtain⟨k,hk,rfl,m,c,h,x,y,hr,ho⟩:=hrel;have aG:=HA.o _ _ _ _ x;obtain⟨⟨b0,b1,⟨q1,o⟩,aj⟩,p⟩:=aG
  by_cases I:k<a.length
  ·have aH:BD ((k:Int)<a.length)=BC:=jG Ω;have a1:BD (k<a.length)=BC:=jG I;have a2:BR ((k:Int)+1)=(k:Int)+1:=Bn _ Ω;have ak:=zh x;have j:=zh (Bs hr ho);have aI:=zh o;have a3:=zh p;have aJ:=zh aj;obtain⟨q,al⟩:∃q,a[k]?=A3 q:=⟨_,jK I⟩;have aK:=aF.o q (kp al);obtain⟨kb,ko,aL,ao⟩:=hr.bA (show 0<a.length by omega);subst aL;have a4:=ao k (E V q) (by rw[lh,al];rfl);clear x ho o p aj ao;obtain⟨k0,k1⟩:=aK
   gi_wp2_with (refine⟨ki,?_⟩;gi_at_call 211;refine(callsIn_wide.2 (eH aI.o q k0 k1)).mono ?_;rintro e K ⟨L,M,N,P,a5,wb,rfl,r,Q⟩)
   ·obtain⟨R,ap⟩:=Q (by first|assumption|simp_all);obtain⟨k',rfl⟩:=aJ.o _ _ _ _ R;obtain⟨z,A⟩:=Af (K.alloc (BA #[E V L,Ax M P.length N,Bd BC] 198))
    have t:K.grownBy z Y:=by rw[<-A];exact O _ _ Y
    have aP:=zh (H.o _ _ _ _ _ ak.o (Ab r t));obtain⟨fn,a8,a9,ba,S,aq⟩:=HY.o m c h ⟨k',L,M,N,P⟩ z aP.o (lM y (jJ I ae)) ⟨R,ap.u t⟩;have u:Hd (Ag z 1 (Ax (A3 ⟨kb,ko,Y⟩) a.length g) a.length (a.map (E V))/\∀b,(Ax (A3 ⟨kb,ko,Y⟩) a.length g).ownBlock=A3 b->c b=0/\b<z.heap.size):=zh ⟨j.o.1.u (Ab r t) Δ,λb d=>⟨(j.o.2 b d).1,jJ (j.o.2 b d).2 (Ab r t).size⟩⟩;dsimp only[PU]at S;rw[<-A]at S aq;have aQ:=zh A;clear Q R ap t A;rw[S]
    gi_wp2
    refine aq.mono ?_;rintro e W4 ⟨c4,B,(⟨rfl,m4,aS⟩|⟨rfl,aT⟩)⟩
    ·rw[aQ.o]at B
     gi_wp2
     go_roundw
     case rel=>exact⟨k+1,Ω,by push_cast;rfl,m4,c4,_,aS,(by rw[jI];exact oW y 1),B.aN u.o.1 (λb d e=>ax (by rw[(u.o.2 b d).1]at e;exact e)),λb d=>⟨by rw[B.ak b (u.o.2 b d).2];exact(u.o.2 b d).1,jJ (u.o.2 b d).2 B.aQ⟩⟩
     case measure=>first|(simp[C6];done)|(simp[C6];omega)
    ·gi_wp2
     refine Bk (results_none rfl _ _ _) rfl ?_;exact⟨⟨_,rfl⟩,c4,BB aT⟩
   ·have D:=Ab r (O K (BA #[E V L,Ax M P.length N,Bd AA] 198) Y);have aU:=zh (H.o _ _ _ _ _ ak.o D);have au:=zh (Bs (j.o.1.u D Δ) (λb d=>Bs (j.o.2 b d).1 (jJ (j.o.2 b d).2 D.size)));clear Q D r;refine⟨(λf e=>by cases e),?_⟩
    gi_wp2
    go_roundw
    case rel=>exact⟨k+1,Ω,by push_cast;rfl,m,c,h,aU.o,nG y,au.o.1,au.o.2⟩
    case measure=>first|(simp[C6];done)|(simp[C6];omega)
  ·obtain rfl:k=a.length:=by omega
   have aH:BD ((a.length:Int)<a.length)=AA:=jH Ω
   gi_wp2
   go_end0
   exact⟨⟨_,rfl⟩,c,BZ ⟨m,h,jM y ae,x⟩⟩
end
