/- Lemmas. -/
import Derived.Test.YtcedibmdelehdaaGreatDoorG45
namespace Go.Proofs.YtcedibmdelehdaaGreatDoor
set_option maxRecDepth 100000
set_option maxHeartbeats 32000000
open Go.IntKind renaming i64->E
open Go.Value renaming int->O,tuple->A4
open Decidable renaming decide->V
open Go renaming bodyPost_ret->Z
open Go.IntWalk renaming wrap64_in->Ax
open And renaming intro->AA
open Bool renaming false->A2,true->A5
open Go.RowKit renaming wrap64->A3
section
open Go Go.RowKit
attribute [local go_sem ↓] Go.wp_at_zero Go.wp_at_succ
abbrev PN:Value:=.agg #[O E 0,O E 0,O E 0,O E 0,O E 0,O E 0,O E 0,O E 0]
theorem bj{M p J:Nat}(b:0<p)(c:(M+p - 1)/p=J):M<=J*p/\∀j,j<J->j*p<M:=by
 subst c
 constructor
 ·have h:=Nat.lt_div_mul_add b (a:=M+p - 1);omega
 ·intro j d
  have e:(j+1)*p<=M+p - 1:=by
   have f:=lC p (show j+1<=(M+p - 1)/p from d);exact jM f (np _ _)
  rw[lT]at e;omega
def Nc(a b c d e f g:Int):Bool:=V (b<96)||V (b>512)||V (a<1)||V (a>16384)||V (c<3)||V (c>64)||V (d<1)||V (d>32)||V (e<4)||V (e>256)||V (f<0)||V (f>8)||V (g<8)||V (g>256)
theorem bN(g h i k l m n:Int)(s:BitVec 64)(w:World)(c:Nc g h i k l m n=A5):
  Calls Tryz.prog 5 #[.agg #[O E g,O E h,O E i,O E k,O E l,O E m,O E n,O .u64 (U s)]] w λe v=>(e=.returned (A4 #[PN,O E 12]))/\w.grownBy v none:=by
 obtain⟨d,M,q,r⟩:=An w 24 [O E g,O E h,O E i,O E k,O E l,O E m,O E n,O .u64 (U s)];obtain⟨N,P,o,b⟩:=An d 27 [O E 0,O E 0,O E 0,O E 0,O E 0,O E 0,O E 0,O E 0];have f:=r.u o Δ;have Q:=f.m 0;have R:=f.m 1;have S:=f.m 2;have T:=f.m 3;have W:=f.m 4;have X:=f.m 5;have Y:=f.m 6;have y0:=b.m 0;have z0:=b.v 0;have y1:=b.m 1;have z1:=b.v 1;have y2:=b.m 2;have z2:=b.v 2;have y3:=b.m 3;have z3:=b.v 3;have y4:=b.m 4;have z4:=b.v 4;have y5:=b.m 5;have z5:=b.v 5;have y6:=b.m 6;have z6:=b.v 6;have y7:=b.m 7;have z7:=b.v 7;obtain⟨w3,ar,t,u⟩:=IB b (O E 0) (O E 0) (O E 0) (O E 0) (O E 0) (O E 0) (O E 0) (O E 0);have a:=zh (AA t (Ab q (Ac.u o u (λj e=>by rw[e];exact jF _))));clear q r o b f t u
 cases x:V (h<96)
 case true=>
  clear c
  go_enter ms,mc
  go_wp2_with fail;exact Z (BQ (p:=2) (ty:=27) rfl _ _ d.heap.size _ _ _ _ rfl a.o.1 lj rfl rfl) rfl ⟨rfl,a.o.2⟩
 cases y:V (h>512)
 case true=>
  clear c
  go_enter ms,mc
  go_wp2_with fail;exact Z (BQ (p:=2) (ty:=27) rfl _ _ d.heap.size _ _ _ _ rfl a.o.1 lj rfl rfl) rfl ⟨rfl,a.o.2⟩
 cases z:V (g<1)
 case true=>
  clear c
  go_enter ms,mc
  go_wp2_with fail;exact Z (BQ (p:=2) (ty:=27) rfl _ _ d.heap.size _ _ _ _ rfl a.o.1 lj rfl rfl) rfl ⟨rfl,a.o.2⟩
 cases A:V (g>16384)
 case true=>
  clear c
  go_enter ms,mc
  go_wp2_with fail;exact Z (BQ (p:=2) (ty:=27) rfl _ _ d.heap.size _ _ _ _ rfl a.o.1 lj rfl rfl) rfl ⟨rfl,a.o.2⟩
 cases B:V (i<3)
 case true=>
  clear c
  go_enter ms,mc
  go_wp2_with fail;exact Z (BQ (p:=2) (ty:=27) rfl _ _ d.heap.size _ _ _ _ rfl a.o.1 lj rfl rfl) rfl ⟨rfl,a.o.2⟩
 cases C:V (i>64)
 case true=>
  clear c
  go_enter ms,mc
  go_wp2_with fail;exact Z (BQ (p:=2) (ty:=27) rfl _ _ d.heap.size _ _ _ _ rfl a.o.1 lj rfl rfl) rfl ⟨rfl,a.o.2⟩
 cases D:V (k<1)
 case true=>
  clear c
  go_enter ms,mc
  go_wp2_with fail;exact Z (BQ (p:=2) (ty:=27) rfl _ _ d.heap.size _ _ _ _ rfl a.o.1 lj rfl rfl) rfl ⟨rfl,a.o.2⟩
 cases F:V (k>32)
 case true=>
  clear c
  go_enter ms,mc
  go_wp2_with fail;exact Z (BQ (p:=2) (ty:=27) rfl _ _ d.heap.size _ _ _ _ rfl a.o.1 lj rfl rfl) rfl ⟨rfl,a.o.2⟩
 cases G:V (l<4)
 case true=>
  clear c
  go_enter ms,mc
  go_wp2_with fail;exact Z (BQ (p:=2) (ty:=27) rfl _ _ d.heap.size _ _ _ _ rfl a.o.1 lj rfl rfl) rfl ⟨rfl,a.o.2⟩
 cases H:V (l>256)
 case true=>
  clear c
  go_enter ms,mc
  go_wp2_with fail;exact Z (BQ (p:=2) (ty:=27) rfl _ _ d.heap.size _ _ _ _ rfl a.o.1 lj rfl rfl) rfl ⟨rfl,a.o.2⟩
 cases I:V (m<0)
 case true=>
  clear c
  go_enter ms,mc
  go_wp2_with fail;exact Z (BQ (p:=2) (ty:=27) rfl _ _ d.heap.size _ _ _ _ rfl a.o.1 lj rfl rfl) rfl ⟨rfl,a.o.2⟩
 cases J:V (m>8)
 case true=>
  clear c
  go_enter ms,mc
  go_wp2_with fail;exact Z (BQ (p:=2) (ty:=27) rfl _ _ d.heap.size _ _ _ _ rfl a.o.1 lj rfl rfl) rfl ⟨rfl,a.o.2⟩
 cases K:V (n<8)
 case true=>
  clear c
  go_enter ms,mc
  go_wp2_with fail;exact Z (BQ (p:=2) (ty:=27) rfl _ _ d.heap.size _ _ _ _ rfl a.o.1 lj rfl rfl) rfl ⟨rfl,a.o.2⟩
 cases L:V (n>256)
 case true=>
  clear c
  go_enter ms,mc
  go_wp2_with fail;exact Z (BQ (p:=2) (ty:=27) rfl _ _ d.heap.size _ _ _ _ rfl a.o.1 lj rfl rfl) rfl ⟨rfl,a.o.2⟩
 unfold Nc at c;rw[x,y,z,A,B,C,D,F,G,H,I,J,K,L]at c
 cases c
theorem ZC(o n x q r d C:Nat)(s:BitVec 64)(m M F b t I z y J T B u:Nat)(D:Int)(w:World)
  (hn:96<=n/\n<=512)(bx:1<=o/\o<=16384)(aY:3<=x/\x<=64)(au:1<=q/\q<=32)(bz:4<=r/\r<=256)(aZ:d<=8)(bA:8<=C/\C<=256)
  (hm:n - 19=m)(hM:2^d=M)(bC:2+r=F)(a0:m/12=b)(aw:(m - 10)/20=t)(ax:q*m=I)(hz:x*q=z)(a1:F+z=y)(hD:(o:Int) - y=D)(hJ:(M+b - 1)/b=J)(hT:1+J+M=T)(bD:3*T+4=B)(aA:b*b=u):
  Calls Tryz.prog 5 #[.agg #[O E o,O E n,O E x,O E q,O E r,O E d,O E C,O .u64 (U s)]] w λe w'=>((u<M\/D<(B:Int))/\(e=.returned (A4 #[PN,O E 12]))\/(M<=u/\(B:Int)<=D)/\e=.returned (A4 #[.agg #[O E 2,O E F,O E y,O E D,O E b,O E t,O E (T:Nat),O E I],O E 0]))/\w.grownBy w' none:=by
 have a3:1<=M/\M<=256:=by
  rw[<-hM];exact⟨mF,by rw[show(256:Nat)=2^8 from rfl];exact kR Ω aZ⟩
 have a4:77<=m/\m<=493:=Ω;have ae:6<=b/\b<=41:=Ω
 have bF:z<=2048:=by rw[<-hz];exact jM (ln aY.2 au.2) Ξ
 have bG:I<=15776:=by rw[<-ax];exact jM (ln au.2 a4.2) Ξ
 have bH:J<=256:=by rw[<-hJ];exact Pv a3.2 ae.1
 have a5:=bj (by omega:0<b) hJ
 have bI:u<=1681:=by rw[<-aA];exact jM (ln ae.2 ae.2) Ξ
 obtain⟨g,bJ⟩:∃k,1+M=k:=⟨_,rfl⟩;have af:Hd (g+J=T/\g<=257/\3*T+4=B):=zh Ω;have WM:Hd (A3 ((n:Int) - 19)=(m:Int)):=zh (by rw[Ax _ Ω];omega);have bL:Hd (A3 (2+(r:Int))=(F:Int)):=zh (by rw[Ax _ Ω];omega);have bM:Hd (A3 ((m:Int).tdiv 12)=(b:Int)):=zh (by rw[show(m:Int).tdiv 12=(b:Int)from PL a0];exact Ed Ω);have bN:Hd (A3 ((m:Int)/12)=(b:Int)):=zh (by rw[show(m:Int)/12=(b:Int) by omega];exact Ed Ω);have a6:Hd (A3 ((m:Int) - 10)=((m - 10:Nat):Int)):=zh (by rw[Ax _ Ω];omega);obtain⟨ag,a7⟩:∃k,m - 10=k:=⟨_,rfl⟩;rw[a7]at a6 aw;have bO:Hd (A3 ((ag:Int).tdiv 20)=(t:Int)):=zh (by rw[show(ag:Int).tdiv 20=(t:Int)from PL aw];exact Ed Ω);have bP:Hd (A3 ((ag:Int)/20)=(t:Int)):=zh (by rw[show(ag:Int)/20=(t:Int) by omega];exact Ed Ω);have bQ:=zh (Ju ax Ω);have WZ:=zh (Ju hz Ω);have bS:=zh (Dm a1 Ω);have WD:Hd (A3 ((o:Int) - (y:Int))=D):=zh (by rw[Ax _ Ω];exact hD);have WT:Hd (A3 (1+(M:Int))=(g:Int)):=zh (by rw[Ax _ Ω];omega);have bV:=zh (Ju aA Ω);have HJ:=zh a5;have L:Hd (M<=256/\J<=256/\d<=8/\b<=41/\6<=b):=zh Ω;have HM:=zh hM;obtain⟨K,a8,g1,b1⟩:=An w 24 [O E o,O E n,O E x,O E q,O E r,O E d,O E C,O .u64 (U s)];obtain⟨f,bX,g2,b2⟩:=An K 27 [O E 0,O E 0,O E 0,O E 0,O E 0,O E 0,O E 0,O E 0];have v:=b1.u g2 Δ;have x0:=v.m 0;have x1:=v.m 1;have x2:=v.m 2;have x3:=v.m 3;have x4:=v.m 4;have x5:=v.m 5;have x6:=v.m 6;have q0:V ((n:Int)<96)=A2:=jH Ω;have r0:¬n<96:=Ω;have q1:V ((n:Int)>512)=A2:=jH Ω;have r1:¬512<n:=Ω;have q2:V ((o:Int)<1)=A2:=jH Ω;have r2:¬o<1:=Ω;have q3:V ((o:Int)>16384)=A2:=jH Ω;have r3:¬16384<o:=Ω;have q4:V ((x:Int)<3)=A2:=jH Ω;have r4:¬x<3:=Ω;have q5:V ((x:Int)>64)=A2:=jH Ω;have r5:¬64<x:=Ω;have q6:V ((q:Int)<1)=A2:=jH Ω;have r6:¬q<1:=Ω;have q7:V ((q:Int)>32)=A2:=jH Ω;have r7:¬32<q:=Ω;have q8:V ((r:Int)<4)=A2:=jH Ω;have r8:¬r<4:=Ω;have q9:V ((r:Int)>256)=A2:=jH Ω;have r9:¬256<r:=Ω;have cp:V ((d:Int)<0)=A2:=jH Ω;have cq:V ((d:Int)>8)=A2:=jH Ω;have cr:¬8<d:=Ω;have cs:V ((C:Int)<8)=A2:=jH Ω;have ct:¬C<8:=Ω;have cu:V ((C:Int)>256)=A2:=jH Ω;have cv:¬256<C:=Ω;have H1:=zh v;have H2:=zh b2;have cw:=zh (Ab g1 g2);have aH:Hd (w.heap.size<f.heap.size):=zh v.lt;have ah:Hd (K.heap.size<f.heap.size/\K.heap.size=w.heap.size+1):=zh ⟨b2.lt,by rw[<-a8];simp⟩;clear a3 a4 ae bF bG bH a5 bI hn bx aY au bz aZ bA hm hM bC a0 aw ax hz a1 hD hJ aA a7 hT bD bJ g1 g2 b1 b2 v
 go_enter ms,mc
 go_upto_region 3 with fail
 clear a8 bX;clear q0 q1 q2 q3 q4 q5 q6 q7 q8 q9 cp cq cs cu;clear r0 r1 r2 r3 r4 r5 r6 r7 r8 r9 cr ct cv;have wm:=Ba WM.o;go_wp2_with fail;clear wm
 go_loopg [5,6] d (λk a i wr=>∃j:Nat,a=O E ((2^j:Nat):Int)/\i=O E (j:Nat)/\j+k=d/\f=wr)
 case atStart=>exact⟨0,rfl,rfl,Ω,rfl⟩
 case round=>
  obtain⟨j,rfl,rfl,P,rfl⟩:=hrel
  by_cases Q:gk=0
  ·subst Q;obtain rfl:j=d:=Ω;rw[HM.o];have d1:V ((j:Int)<(j:Int))=A2:=Δ;clear P;have cy:=Ba bL.o;have cz:=Ba bM.o;have cA:=Ba bN.o;have cB:=Ba a6.o;have cC:=Ba bO.o;have cD:=Ba bP.o;have cE:=Ba bQ.o;have wz:=Ba WZ.o;have cG:=Ba bS.o;have wd:=Ba WD.o;have wt:=Ba WT.o;obtain⟨w3,cJ,g3,R⟩:=An f 27 [O E 2,O E F,O E 0,O E 0,O E b,O E t,O E 0,O E I];obtain⟨w4,aJ⟩:=Af (w3.setCell ⟨f.heap.size,2,none⟩ (O E y));have N:=R.setCell 2 (O E y);rw[aJ]at N
   have t4:Ac (λk=>k=f.heap.size) w3 w4:=by rw[<-aJ];exact Ay _ _ _ _
   obtain⟨w5,aL⟩:=Af (w4.setCell ⟨f.heap.size,3,none⟩ (O E D));have S:=N.setCell 3 (O E D);rw[aL]at S
   have t5:Ac (λk=>k=f.heap.size) w4 w5:=by rw[<-aL];exact Ay _ _ _ _
   obtain⟨w6,aM⟩:=Af (w5.setCell ⟨f.heap.size,6,none⟩ (O E g));have b6:=S.setCell 6 (O E g);rw[aM]at b6
   have t6:Ac (λk=>k=f.heap.size) w5 w6:=by rw[<-aM];exact Ay _ _ _ _
   have n1:w.heap.size≠f.heap.size:=by have:=aH.o;omega
   have n2:K.heap.size≠f.heap.size:=by have:=ah.o.1;omega
   have P3:=H1.o.u g3 Δ;have P4:=t4.y P3 n1;have P6:=t6.y (t5.y P4 n1) n1;have Z6:=t6.y (t5.y (t4.y (H2.o.u g3 Δ) n2) n2) n2;have G6:w.grownBy w6 none:=Ab cw.o (Ac.u g3 ((t4.trans t5).trans t6) (λj e=>by rw[e];exact jF _));have q2:=P3.m 2;have q3:=P3.m 3;have cK:=R.m 1;have v2:=R.m 2;have f2:=R.v 2;have q0:=P4.m 0;have a2:=N.m 2;have v3:=N.m 3;have f3:=N.v 3;have v6:=S.m 6;have f6:=S.v 6;have S6:=zh (AA b6 (AA P6 (AA Z6 G6)));clear n1 n2 P3 P4 P6 Z6 G6 t4 t5 t6 R N S b6 g3;go_wp2_with fail;clear cJ aJ aL aM cy cz cA cB cC cD cE wz cG wd wt q2 q3 cK v2 f2 q0 a2 v3 f3 v6 f6 d1 x0 x1 x2 x3 x4 x5 x6;generalize f.heap.size=X at*;have W:Hd (w.heap.size<X/\K.heap.size<X/\K.heap.size=w.heap.size+1):=zh ⟨aH.o,ah.o.1,ah.o.2⟩;clear aH ah H1 H2;generalize K.heap.size=Y at*
   go_loopg [8] J (λk i wr=>∃j:Nat,i=O E ((j*b:Nat):Int)/\j+k=J/\Aa wr X 27 [O E 2,O E F,O E y,O E D,O E b,O E t,O E (g+j:Nat),O E I]/\Aa wr Y 27 [O E 0,O E 0,O E 0,O E 0,O E 0,O E 0,O E 0,O E 0]/\w.grownBy wr none)
   case atStart=>exact⟨0,Δ,Ω,S6.o.1,S6.o.2.2.1,S6.o.2.2.2⟩
   case round=>
    obtain⟨j,rfl,P,l,c,hg⟩:=hrel
    by_cases Q:gk=0
    ·subst Q;obtain rfl:j=J:=Ω;rw[show g+j=T from af.o.1]at l;obtain⟨e,he⟩:=Af (j*b);rw[he];have d1:V ((e:Int)<(M:Int))=A2:=jH (Ψ HJ.o.1);have cZ:V (e<M)=A2:=jH (Ψ HJ.o.1);have c0:=Ba bV.o;obtain⟨T3,cR⟩:∃k,3*T=k:=⟨_,rfl⟩
     have c3:E.wrap (3*(T:Int))=(T3:Int):=Ba <| by have:=af.o;have:=L.o;rw[Ax _ Ω];omega
     have c4:E.wrap ((T3:Int)+4)=(B:Int):=Ba <| by have:=af.o;have:=L.o;rw[Ax _ Ω];omega
     have y3:=l.m 3;have y4:=l.m 4;have y6:=l.m 6;have ab:=zh l;have HY:=zh c;have aR:=zh hg;have l0:=c.m 0;have k0:=c.v 0;have l1:=c.m 1;have k1:=c.v 1;have l2:=c.m 2;have k2:=c.v 2;have l3:=c.m 3;have k3:=c.v 3;have l4:=c.m 4;have k4:=c.v 4;have l5:=c.m 5;have k5:=c.v 5;have l6:=c.m 6;have k6:=c.v 6;have l7:=c.m 7;have k7:=c.v 7;clear l c hg he cR P
     by_cases c1:u<M
     ·have d2:V ((u:Int)<(M:Int))=A5:=jG Ω;have cT:V (u<M)=A5:=jG c1;have HC:=zh c1;obtain⟨w9,bm,G,H⟩:=IB HY.o (O E 0) (O E 0) (O E 0) (O E 0) (O E 0) (O E 0) (O E 0) (O E 0);have h:=zh (AA G (Ac.u aR.o H (λj e=>by have:=W.o;omega)));clear G H;go_wp2_with fail;exact Z (BQ (p:=2) (ty:=27) rfl _ _ Y _ _ _ _ rfl h.o.1 lj rfl rfl) rfl ⟨.inl ⟨.inl HC.o,rfl⟩,h.o.2⟩
     ·have d2:V ((u:Int)<(M:Int))=A2:=jH Ω;have cT:V (u<M)=A2:=jH c1;have HC:Hd (M<=u):=zh Ω
      by_cases c2:D<(B:Int)
      ·have d3:V (D<(B:Int))=A5:=jG c2;have bo:=zh c2;obtain⟨w9,bm,G,H⟩:=IB HY.o (O E 0) (O E 0) (O E 0) (O E 0) (O E 0) (O E 0) (O E 0) (O E 0);have h:=zh (AA G (Ac.u aR.o H (λj e=>by have:=W.o;omega)));clear G H;go_wp2_with fail;exact Z (BQ (p:=2) (ty:=27) rfl _ _ Y _ _ _ _ rfl h.o.1 lj rfl rfl) rfl ⟨.inl ⟨.inr bo.o,rfl⟩,h.o.2⟩
      ·have d3:V (D<(B:Int))=A2:=jH c2;have bo:Hd ((B:Int)<=D):=zh Ω;have m0:=ab.o.m 0;have m1:=ab.o.m 1;have m2:=ab.o.m 2;have m5:=ab.o.m 5;have m7:=ab.o.m 7;obtain⟨w9,bm,G,H⟩:=IB HY.o (O E 2) (O E F) (O E y) (O E D) (O E b) (O E t) (O E T) (O E I);have h:=zh (AA G (Ac.u aR.o H (λj e=>by have:=W.o;omega)));clear G H;go_wp2_with fail;exact Z (BQ (p:=2) (ty:=27) rfl _ _ Y _ _ _ _ rfl h.o.1 lj rfl rfl) rfl ⟨.inr ⟨HC.o,rfl⟩,h.o.2⟩
    ·obtain⟨cV,bp⟩:j<J/\j*b<M:=⟨Ω,HJ.o.2 j Ω⟩
     have bq:(j+1)*b=j*b+b:=by rw[lT,mP]
     have br:=zh bq;obtain⟨e,he⟩:=Af (j*b);rw[he]at bp br⊢;have d1:V ((e:Int)<(M:Int))=A5:=jG Ω;have d2:V (e<M)=A5:=jG Ω
     have wa:E.wrap ((g+j:Nat)+1)=((g+(j+1):Nat):Int):=Ba <| by have:=L.o;have:=af.o;rw[Ax _ Ω];omega
     have WB:Hd (A3 ((e:Int)+(b:Int))=((e+b:Nat):Int)):=zh (by have:=L.o;rw[Ax _ Ω];omega);obtain⟨Tj,hT⟩:∃T,g+j=T:=⟨_,rfl⟩;obtain⟨T',aW⟩:∃T,g+(j+1)=T:=⟨_,rfl⟩;rw[hT]at l wa;rw[aW]at wa;obtain⟨wn,bv⟩:=Af (wr.setCell ⟨X,6,none⟩ (O E T'));have bn:=l.setCell 6 (O E T');rw[bv]at bn
     have tn:Ac (λk=>k=X) wr wn:=by rw[<-bv];exact Ay _ _ _ _
     have y6:=l.m 6;have f6:=l.v 6;have z4:=bn.m 4;have h:=zh (AA (show Aa wn X 27 [O E 2,O E F,O E y,O E D,O E b,O E t,O E (g+(j+1):Nat),O E I] by rw[aW];exact bn) (AA (tn.y c (Ψ W.o)) (Ac.u hg tn (λj e=>by have:=W.o;omega))));have HK:Hd (gk - 1<gk/\j+1+(gk - 1)=J):=zh Ω;clear l c hg he hT aW P cV bp bq bn tn Q;go_wp2_with fail
     go_roundg (gk - 1)
     case measure=>exact HK.o.1
     exact⟨j+1,by rw[WB.o,br.o],HK.o.2,h.o.1,h.o.2.1,h.o.2.2⟩
  ·have d1:V ((j:Int)<(d:Int))=A5:=jG Ω;have d2:V (j<d)=A5:=jG Ω
   have cX:Hd (A3 (((2^j:Nat):Int)*2)=((2^(j+1):Nat):Int)):=zh (by
    have h1:2^j<=2^8:=kR Ω (Ψ L.o);rw[mg];generalize 2^j=A at*;rw[Ax _ Ω]
    omega)
   have cY:Hd (A3 ((j:Int)+1)=((j+1:Nat):Int)):=zh (by rw[Ax _ (Ψ L.o)];omega);have HK:Hd (gk - 1<gk/\j+1+(gk - 1)=d):=zh Ω;clear P Q;generalize 2^j=A at*;go_wp2_with fail
   go_roundg (gk - 1)
   case measure=>exact HK.o.1
   exact⟨j+1,by rw[cX.o],by rw[cY.o],HK.o.2,rfl⟩
theorem bU(h i j k l m o:Int)(s:BitVec 64)(w:World):
  Calls Tryz.prog 5 #[.agg #[O E h,O E i,O E j,O E k,O E l,O E m,O E o,O .u64 (U s)]] w λe r=>(e=.returned (A4 #[PN,O E 12])\/∃(P:Pl) (v x y z A B:Int),P.aY/\h=P.ss/\i=P.n/\j=P.rg/\k=P.rs/\l=P.lg/\m=P.dp/\o=P.a7/\s=P.aK/\e=.returned (A4 #[.agg #[O E 2,O E v,O E x,O E y,O E z,O E A,O E B,O E P.aA],O E 0]))/\w.grownBy r none:=by
 cases p:Nc h i j k l m o
 ·unfold Nc at p;simp only[Bool.or_eq_false_iff,ou]at p;obtain⟨⟨⟨⟨⟨⟨⟨⟨⟨⟨⟨⟨⟨t,u⟩,D⟩,F⟩,G⟩,H⟩,I⟩,J⟩,K⟩,L⟩,M⟩,N⟩,Q⟩,R⟩:=p;obtain⟨f,rfl⟩:=jU (show 0<=h by omega);obtain⟨n,rfl⟩:=jU (show 0<=i by omega);obtain⟨b,rfl⟩:=jU (show 0<=j by omega);obtain⟨a,rfl⟩:=jU (show 0<=k by omega);obtain⟨c,rfl⟩:=jU (show 0<=l by omega);obtain⟨d,rfl⟩:=jU (show 0<=m by omega);obtain⟨q,rfl⟩:=jU (show 0<=o by omega);refine(ZC f n b a c d q s (n - 19) (2^d) (2+c) ((n - 19)/12) ((n - 19 - 10)/20) (a*(n - 19)) (b*a) (2+c+b*a) ((2^d+(n - 19)/12 - 1)/((n - 19)/12)) _ _ _ ((f:Int) - (2+c+b*a:Nat)) w Ω Ω Ω Ω Ω Ω Ω rfl rfl rfl rfl rfl rfl rfl rfl rfl rfl rfl rfl rfl).mono ?_;rintro e r ⟨⟨_,rfl⟩|⟨⟨C,S⟩,rfl⟩,g⟩
  ·exact⟨.inl rfl,g⟩
  ·refine⟨.inr ⟨⟨f,n,b,a,c,d,q,s⟩,_,_,_,_,_,_,⟨by show 96<=n;omega,by show n<=512;omega,by show 1<=f;omega,by show f<=16384;omega,by show 3<=b;omega,by show b<=64;omega,by show 1<=a;omega,by show a<=32;omega,by show 4<=c;omega,by show c<=256;omega,by show d<=8;omega,by show 8<=q;omega,by show q<=256;omega,C,?_⟩,rfl,rfl,rfl,rfl,rfl,rfl,rfl,rfl,rfl⟩,g⟩;show 2+c+b*a+(3*(1+(2^d+(n - 19)/12 - 1)/((n - 19)/12)+2^d)+4)<=f;omega
 ·exact(bN h i j k l m o s w p).mono λe r ⟨t,u⟩=>⟨.inl t,u⟩
end
