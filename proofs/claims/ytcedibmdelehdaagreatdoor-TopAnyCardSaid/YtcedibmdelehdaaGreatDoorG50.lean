/- Lemmas. -/
import Derived.Test.YtcedibmdelehdaaGreatDoorG49
namespace Go.Proofs.YtcedibmdelehdaaGreatDoor
set_option maxRecDepth 100000
set_option maxHeartbeats 32000000
open Go.Value renaming int->E,slice->Z,string->Ax,bool->A7
open Go.IntKind renaming i64->J,u64->Bk
open Bool renaming false->O,true->A3
open Go.NoPanic renaming normal->Y
open Option renaming none->AA,some->Bd
open Go.IntWalk renaming wrap64_in->A2
open Decidable renaming decide->A4
open Go renaming wpQuiet_nil->A5
open And renaming intro->A6
section
open Go Go.RowKit
attribute [local go_sem ↓] Go.wp_at_zero Go.wp_at_succ
theorem VY(a0 dX dY dZ d0 a5 d3:Int)(s:BitVec 64)(l:List Dk)(n:Nat)(hn:l.length=n)(la:Option Addr)(lc:Nat)(w:World)(hT:ET w)(hG:0<w.heap.size)(hr:Ag w 4 (Z la n lc) n (Jq l))(hg:∀x∈l,(-9223372036854775808<=x.k/\x.k<=9223372036854775807)/\(-9223372036854775808<=x.n/\x.n<=9223372036854775807)):
  Calls Tryz.prog 3 #[.agg #[E J a0,E J dX,E J dY,E J dZ,E J d0,E J a5,E J d3,E Bk (U s)],Z la n lc] w λe w'=>e=.returned (A7 A3)/\w.grownBy w' AA:=by
 obtain⟨w1,fI,g1,b1⟩:=An w 24 [E J a0,E J dX,E J dY,E J dZ,E J d0,E J a5,E J d3,E Bk (U s)];have HF:=zh (bU a0 dX dY dZ d0 a5 d3 s w1);have B1:=zh b1;have G1:=zh g1;have HR:=zh hr;have HT:=zh (A6 hT hG);have HN:=zh hn;have HA:=zh hg;have x0:=b1.m 0;have x1:=b1.m 1;have x2:=b1.m 2;have x3:=b1.m 3;have x4:=b1.m 4;have x5:=b1.m 5;have x6:=b1.m 6;have x7:=b1.m 7;clear g1 b1 hr hT hG hn hg
 go_enter Tryz.func3,Tryz.ntmps3
 go_wp2_with fail;refine HF.o.mono ?_;clear HF fI x0 x1 x2 x3 x4 x5 x6 x7;rintro e w2 ⟨(rfl|⟨P,y1,y2,y3,y4,y5,y6,hf,rfl,rfl,rfl,rfl,rfl,rfl,rfl,rfl,rfl⟩),g2⟩
 ·obtain⟨fL,eR,c5,am⟩:=An w2 27 [E J 0,E J 0,E J 0,E J 0,E J 0,E J 0,E J 0,E J 0];obtain⟨w3,eS,dF,t3⟩:=IB am (E J 0) (E J 0) (E J 0) (E J 0) (E J 0) (E J 0) (E J 0) (E J 0);have g3:w2.grownBy w3 AA:=Ac.u c5 t3 (λj e=>by rw[e];exact jF _);have u0:=am.m 0;have v0:=am.v 0;have u1:=am.m 1;have v1:=am.v 1;have u2:=am.m 2;have v2:=am.v 2;have u3:=am.m 3;have v3:=am.v 3;have u4:=am.m 4;have v4:=am.v 4;have u5:=am.m 5;have v5:=am.v 5;have u6:=am.m 6;have v6:=am.v 6;have u7:=am.m 7;have v7:=am.v 7;have G3:=zh (Ab G1.o (Ab g2 g3));have HL:=zh (Ri l 40 Ω n HN.o la lc w3 (HR.o.u G3.o Δ));clear g2 g3 dF c5 am t3;go_wp2_with fail;refine HL.o.mono ?_;rintro e w4 ⟨rfl,rfl⟩
  cases D:Hp l 40
  ·go_wp2_with fail;go_ret;exact⟨rfl,G3.o⟩
  ·go_wp2_with fail;go_ret;exact⟨rfl,G3.o⟩
 ·obtain⟨fL,eR,c5,am⟩:=An w2 27 [E J 0,E J 0,E J 0,E J 0,E J 0,E J 0,E J 0,E J 0];obtain⟨w3,eS,dF,t3⟩:=IB am (E J 2) (E J y1) (E J y2) (E J y3) (E J y4) (E J y5) (E J y6) (E J P.aA);have g3:w2.grownBy w3 AA:=Ac.u c5 t3 (λj e=>by rw[e];exact jF _);have u0:=am.m 0;have v0:=am.v 0;have u1:=am.m 1;have v1:=am.v 1;have u2:=am.m 2;have v2:=am.v 2;have u3:=am.m 3;have v3:=am.v 3;have u4:=am.m 4;have v4:=am.v 4;have u5:=am.m 5;have v5:=am.v 5;have u6:=am.m 6;have v6:=am.v 6;have u7:=am.m 7;have v7:=am.v 7;have d7:=Ab g2 g3;have G3:=zh (Ab G1.o d7);have P3:=zh (B1.o.u d7 Δ);have L3:=zh dF;have HL:=zh (Ri l 40 Ω n HN.o la lc w3 (HR.o.u G3.o Δ));have d9:P.ss<=16384:=hf.dE;have HF:=zh hf;clear g2 g3 dF d7 hf B1 c5 am t3;go_wp2_with fail;refine HL.o.mono ?_;rintro e w4 ⟨rfl,rfl⟩;clear eS eR HL u0 v0 u1 v1 u2 v2 u3 v3 u4 v4 u5 v5 u6 v6 u7 v7
  cases D:Hp l 40
  ·clear D d9;go_wp2_with fail;go_ret;exact⟨rfl,G3.o⟩
  have x0:=P3.o.m 0
  by_cases h3:300<P.ss
  ·have d1:A4 ((P.ss:Int)>300)=A3:=jG Ω;clear D d9;go_wp2_with fail;go_ret;exact⟨rfl,G3.o⟩
  have d1:A4 ((P.ss:Int)>300)=O:=jH Ω;have d2:¬300<P.ss:=h3;have HB:=zh D;clear D d9 h3;go_wp2_with fail;clear d1 d2 x0;refine AS (λW=>Aa W w.heap.size 24 [E J P.ss,E J P.n,E J P.rg,E J P.rs,E J P.lg,E J P.dp,E J P.a7,E Bk (U P.aK)]) (.am [5] [0,1,2,3] 4 A3 (.am [] [] 6 O (.am [] [] 7 O (.am [] [8,9,10,11] 12 O (.nil))))) Φ Φ ?_;obtain⟨w4,eV,g4⟩:=AP w3;rw[eV];have P4:=zh (P3.o.u g4 Δ);have L4:=zh (L3.o.u g4 Δ);have G4:=zh (Ab G3.o g4);clear g4 eV P3 L3 G3;refine Dz P4.o ?_
  iterate 1 ((apply AC rfl Θ;(· intro wS aQ;(try have aQ:=aQ rfl);(try dsimp only at aQ);(try(have x0:=aQ.m 0;have x1:=aQ.m 1;have x2:=aQ.m 2;have x3:=aQ.m 3;have x4:=aQ.m 4;have x5:=aQ.m 5;have x6:=aQ.m 6;have x7:=aQ.m 7));go_simp;(try with_reducible rfl)));refine Al ?_)
  refine Aj ?_;have x0:=P4.o.m 0;have x1:=P4.o.m 1
  iterate 4 refine Av ?_
  refine Aj ?_;clear x0 x1;refine Am ?_;intro K a;refine(Ta P.ss P.n w4 (λ_=>0) (λ_ _=>rfl) HF.o.iM HF.o.dE HF.o.n0 HF.o.n1).mono ?_;rintro e w5 ⟨d,rfl,hd,eY,s5,eZ⟩;dsimp only;have P5:=zh (s5.y P4.o Δ);have L5:=zh (s5.y L4.o Δ);have S5:=zh ((Ad.u (C:=PV) (col:=λ_=>0) (λ_ _=>rfl) G4.o).trans (s5.mono (λj e=>.inl Ω)));have DV:=zh eZ;have cV:Hd (eY w.heap.size=0/\eY w2.heap.size=0):=zh ⟨s5.ak _ P4.o.lt,s5.ak _ L4.o.lt⟩;clear s5 eZ P4 L4 G4;refine a _ _ ⟨_,λ_ h=>h,λ_=>P5.o,?_⟩;clear a K;refine Al ?_;refine Ap ?_;refine Aj ?_;refine Am ?_;intro K a;refine(Zd P.ss P.n P.rg P.rs P.lg P.dp P.a7 (U P.aK) w5).mono ?_;rintro e w6 ⟨rfl,g6⟩;dsimp only;have P6:=zh (P5.o.u g6 Δ);have L6:=zh (L5.o.u g6 Δ);have S6:=zh (S5.o.trans (Ad.u S5.o.new g6));have D6:=zh (DV.o.u g6);clear g6 P5 L5 S5 DV;refine Aq a ?_;clear a K;refine Ap ?_;refine Aj ?_;refine Am ?_;intro K a;have ef:=QB (P:=P) D6.o S6.o.new HF.o (HT.o.1.bb (S6.o.au.bV _ HT.o.2 UR)) (jJ HT.o.2 S6.o.aQ) (S6.o.ak _ HT.o.2);unfold Pl.val at ef;refine ef.mono ?_;clear ef;rintro e w7 ⟨c,A,N,c7,rfl,s7,fb,fc,fN,fd⟩;dsimp only;have P7:=zh (s7.y P6.o (by rw[cV.o.1];exact Dj));have L7:=zh (s7.y L6.o (by rw[cV.o.2];exact Dj));have S7:=zh (S6.o.trans (s7.mono (LI Ω)));have ff:=zh fb;have I7:=zh (Cj.dQ (P:=P) fc fd);clear s7 fb fc fN fd P6 L6 S6 D6 cV;refine Aq a ?_;clear a K;refine Ap ?_
  iterate 4 refine Av ?_
  refine Aj ?_;refine Am ?_;intro K a;refine Aq a ?_;clear a K;refine AG (Y ?_);obtain⟨gE,fO,fh,bk⟩:=An w7 41 [E J 0,E J 0,E J 0,E Bk 0,Z AA 0 0,E J 0];obtain⟨w8,fP,b8,t8⟩:=Hw bk (E J 0) (E J P.aA) (E J P.rg) (E Bk (U P.aK)) (Z AA 0 0) (E J 0);have g8:w7.grownBy w8 AA:=Ac.u fh t8 (λj e=>by rw[e];exact jF _);have sc:Ad (λj=>j=400) w7 c7 w8 (AN c7 w7.heap.size 400):=Cl S7.o.new g8 (jF _) b8.lt rfl;have T8:Hd (TT w w8 (AN c7 w7.heap.size 400) c A P 0 50000 0 0 N []):=zh ⟨ff.o.ag sc (λi hi=>Ω),I7.o,S7.o.trans (sc.mono (λj e=>.inr Ω)),Ω,jF _,jF _,λx hx=>(by simp at hx)⟩;have K8:Hd (BT w8 (AN c7 w7.heap.size 400) w7.heap.size 0 P [] AA 0 0):=zh ⟨b8,A0 _ _ _,Ag.nil _ _,λb D=>(by simp[Value.ownBlock]at D),rfl⟩;have u0:=bk.m 0;have v0:=bk.v 0;have u1:=bk.m 1;have v1:=bk.v 1;have u2:=bk.m 2;have v2:=bk.v 2;have u3:=bk.m 3;have v3:=bk.v 3;have u4:=bk.m 4;have v4:=bk.v 4;have u5:=bk.m 5;have v5:=bk.v 5;have p2:=P7.o.m 2;have p7:=P7.o.m 7;have l7:=L7.o.m 7;clear fh bk b8 t8 g8 sc;go_wp2_with fail;clear fP fO p2 p7 l7 u0 u1 u2 u3 u4 u5 v0 v1 v2 v3 v4 v5 S7 ff I7 P7 L7;generalize AN c7 w7.heap.size 400=c8 at*;generalize w7.heap.size=xb at*
  have fV:Hd (n<=40):=zh (by
   have h1:=HB.o;unfold Hp at h1;rw[jQ]at h1;have h2:=j7 h1.1;rw[HN.o]at h2
   exact h2)
  have dL:Hd (P.aA<=100000):=zh (by
   unfold Pl.aA
   exact jM (ln HF.o.cQ (show P.n - 19<=493 by have:=HF.o.n1;omega)) Ξ)
  go_loopg [10] n (λk i wr=>∃(j t lo q:Nat) (N:Az) (bm:Ae) (L:List AQ) (oa:Option Addr) (m oc:Nat),i=E J (j:Nat)/\j+k=n/\TT w wr bm c A P j q t lo N L/\BT wr bm xb t P L oa m oc)
  case atStart=>exact⟨0,0,0,50000,N,c8,[],AA,0,0,rfl,Ω,T8.o,K8.o⟩
  case round=>
   clear T8 K8;obtain⟨j,t,lo,q,N1,bm,L,oa,m,oc,rfl,fm,tt,fo⟩:=hrel;have T:=zh tt;have K:=zh fo;clear tt fo
   by_cases h0:gk=0
   ·subst h0;obtain rfl:j=n:=Ω;have d1:A4 ((j:Int)<(j:Int))=O:=Δ;have fW:=zh (Yj wr (HT.o.1.bb (T.o.below.block _ HT.o.2 Δ)) (jJ HT.o.2 T.o.below.size));clear fm;go_wp2_with fail;refine fW.o.mono ?_;rintro e w9 ⟨rfl,g9⟩;have G9:=zh (Ab T.o.below g9);clear g9;go_wp2_with fail;go_ret;exact⟨rfl,G9.o⟩
   have fq:j<n:=Ω;obtain⟨x,hx⟩:∃x,l[j]?=Bd x:=⟨_,jK (by rw[HN.o];exact fq)⟩;have el:=kp hx
   have da:Ev x=A3:=by
    have h1:=HB.o;unfold Hp at h1;rw[jQ,lu]at h1;exact h1.2 x el
   have em:=HA.o x el;have d1:A4 ((j:Int)<(n:Int))=A3:=jG Ω;have d2:A4 (j<n)=A3:=jG fq;have H:Hd (gk - 1<gk/\j+1+(gk - 1)=n/\j<40):=zh (Ψ fV.o);obtain⟨b,o,rfl,db⟩:=HR.o.bA Ω
   have aj:Hd (∀W,w.grownBy W AA->W.cell? ⟨b,o+j*4,AA⟩=Bd (E J x.k)/\W.cell? ⟨b,o+j*4+1,AA⟩=Bd (E J x.n)/\W.cell? ⟨b,o+j*4+2,AA⟩=Bd (Ax x.aO)/\W.cell? ⟨b,o+j*4+3,AA⟩=Bd (Ax x.val)):=zh λW g=>by
    obtain⟨e0,e1,e2,e3⟩:=QD l j x hx;have f8:=db _ _ e0;have dN:=db _ _ e1;have dO:=db _ _ e2;have dP:=db _ _ e3;simp only[<-kO]at dN dO dP;exact⟨g.cell f8 Δ,g.cell dN Δ,g.cell dO Δ,g.cell dP Δ⟩
   obtain⟨xk,xn,F,ab⟩:=x;dsimp only at aj em;unfold Ev at da;rw[jQ]at da;have HS:Hd (F.size<=100/\ab.size<=400):=zh ⟨j7 da.1,j7 da.2⟩;have aT:=zh em;clear db hx el da em fm h0;have eo:=Rf T.o.ca (by have:=T.o.q;have:=H.o.2.2;omega);obtain⟨WH,fr⟩:=Af (N1.aw*P.aA+(N1.aR N1.aw).length);rw[fr]at eo
   have dc:Hd (N1.aw*P.aA<=WH/\WH<=(N1.aw+1)*P.aA/\WH<=1000000000000000):=zh (by
    obtain⟨_,_,_,hL⟩:=T.o.ca.p.r;have h1:=hL.dg N1.aw;have h2:=T.o.ca.p.n.la;have h3:=T.o.q;have h4:=H.o.2.2
    have h5:P.aA<=15776:=by
     unfold Pl.aA;exact jM (ln HF.o.cQ (show P.n - 19<=493 by have:=HF.o.n1;omega)) Ξ
    have h6:N1.aw*P.aA<=6000000*15776:=ln Ω h5;rw[lT,mP]
    omega)
   have ga:=zh eo;clear eo fr;go_wp2_with fail;refine ga.o.mono ?_;rintro e w9 ⟨⟨gb,gc,ol,le,he,sp,rfl⟩,g9⟩;obtain⟨gG,gh,fs,aU⟩:=An w9 43 [E J 0,E J 0,E J 0,E J 0,E J 0,E J 0,E J 0,E J 0,E J 0];obtain⟨aR,gi,ft,fu⟩:=UT aU (E J t) (E J gb) (E J gc) (E J WH) (E J ol) (E J le) (E J he) (E J lo) (E J sp);have ep:wr.grownBy aR AA:=Ab g9 (Ac.u fs fu (λi e=>by rw[e];exact jF _));have I:=zh (T.o.u ep);have aV:=zh (K.o.u T.o.ca.p.cl ep);have aW:=zh ft;have bF:Hd (bm w9.heap.size=0):=zh (T.o.ca.p.cl _ g9.size);have u0:=aU.m 0;have v0:=aU.v 0;have u1:=aU.m 1;have v1:=aU.v 1;have u2:=aU.m 2;have v2:=aU.v 2;have u3:=aU.m 3;have v3:=aU.v 3;have u4:=aU.m 4;have v4:=aU.v 4;have u5:=aU.m 5;have v5:=aU.v 5;have u6:=aU.m 6;have v6:=aU.v 6;have u7:=aU.m 7;have v7:=aU.v 7;have u8:=aU.m 8;have v8:=aU.v 8;obtain⟨u,y,f,p⟩:=aj.o aR I.o.below;clear g9 fs aU fu ft ep T K;go_wp2_with fail;clear gi gh u y f p d1 d2 u0 v0 u1 v1 u2 v2 u3 v3 u4 v4 u5 v5 u6 v6 u7 v7 u8 v8;generalize w9.heap.size=xs at*;obtain⟨M,au⟩:=Af (CD xk)
   have bG:M<10:=by
    rw[<-au];unfold CD;omega
   have de:q<=1073300000:=by have:=I.o.q;have:=H.o.2.2;omega
   have a6:F.size<=1000:=by have:=HS.o.1;omega
   have bt:ab.size<=4000:=by have:=HS.o.2;omega
   have d1:A4 ((j:Int)<(n:Int))=A3:=jG (Ψ H.o)
   have wj:wrap64 ((j:Int)+1)=((j+1:Nat):Int):=by have:=H.o;rw[A2 _ Ω];omega
   have WJ:=zh wj;clear wj
   rcases(show M=4\/(M=5\/M=6)\/M=7\/M=8\/M=9\/M<4 by omega)with c|c|c|c|c|c
   ·as_aux_lemma=>
     skip
     by_cases eq:F.size<1\/64<F.size
     ·skip
      have CK:=zh (au.trans c);have e4:((M:Int)==4)=A3:=Γ;have a1:=zh au;clear au c bG;refine(TM aR c xk xn F ab aT.o.1 a6 bt 10 (Dn aR bm c A P q t lo L) CK.o (Xf I.o.ca I.o.dw F eq a6)).mono ?_;rintro e aA ⟨rfl,aB⟩;obtain⟨av,N2,s2,aC⟩:=I.o.el aB (j9 _) (j9 _) (I.o.ks);have Q:=zh aC;have aD:=zh (aV.o.ag s2 Dj GS);have aE:=zh (s2.y aW.o (by rw[bF.o];exact Dj));have al:=zh (Er xk xn F ab aT.o.1 aA);rw[a1.o]at al;obtain⟨u,y,f,p⟩:=aj.o aA Q.o.below;clear aB s2 aC I aV aW;go_wp2_with fail;refine al.o.mono ?_;rintro e ax ⟨rfl,R⟩;have aa:=zh (Q.o.u R);have aG:=zh (aD.o.u Q.o.ca.p.cl R);have aS:=zh (aE.o.u R Δ);clear R u y f p Q aD aE al;obtain⟨u,y,f,p⟩:=aj.o ax aa.o.below;have tk:=MI (bl F) (by rw[CP];omega) ax;rw[F7,CP,jN Ω]at tk;have TK:=zh tk;clear tk;go_wp2_with fail;refine TK.o.mono ?_;rintro e df ⟨rfl,rfl⟩;go_wp2_with fail
      go_roundg (gk - 1)
      case measure=>exact H.o.1
      exact⟨j+1,t,lo,q+120000,N2,av,L,oa,m,oc,by rw[WJ.o],H.o.2.1,aa.o,aG.o⟩
     ·skip
      have CK:=zh (au.trans c);have e4:((M:Int)==4)=A3:=Γ;have a1:=zh au;clear au c bG;refine(TM aR c xk xn F ab aT.o.1 a6 bt 0 (Dn aR bm c A P q t lo (L++[Kd F])) CK.o (gn I.o.ca I.o.dw de F Ω Ω)).mono ?_;rintro e aA ⟨rfl,aB⟩;obtain⟨av,N2,s2,aC⟩:=I.o.el aB (j9 _) (by rw[jI];exact jF _) (Ue I.o.ks a6);have Q:=zh aC;have aD:=zh (aV.o.ag s2 Dj GS);have aE:=zh (s2.y aW.o (by rw[bF.o];exact Dj));have al:=zh (Er xk xn F ab aT.o.1 aA);rw[a1.o]at al;obtain⟨u,y,f,p⟩:=aj.o aA Q.o.below;clear aB s2 aC I aV aW;go_wp2_with fail;refine al.o.mono ?_;rintro e ax ⟨rfl,R⟩;have aa:=zh (Q.o.u R);have aG:=zh (aD.o.u Q.o.ca.p.cl R);have aS:=zh (aE.o.u R Δ);clear R u y f p Q aD aE al;obtain⟨u,y,f,p⟩:=aj.o ax aa.o.below;have tk:=MI (bl F) (by rw[CP];omega) ax;rw[F7,CP,jP Ω]at tk;have TK:=zh tk;clear tk;go_wp2_with fail;refine TK.o.mono ?_;rintro e df ⟨rfl,rfl⟩;go_wp2_with fail;refine AS (λ_=>True) (.am [] [0,1,2,3,4,5,6] 7 O (.am [] [] 8 O (.nil))) Φ Φ ?_;obtain⟨aX,aY,ao⟩:=AP ax;rw[aY];have X:=zh (aa.o.u ao);have z:=zh (aG.o.u aa.o.ca.p.cl ao);clear aY ao aa aG u y f p;obtain⟨u,y,f,p⟩:=aj.o aX X.o.below;have y0:=z.o.bk.m 0;have y1:=z.o.bk.m 1;have y2:=z.o.bk.m 2;have y3:=z.o.bk.m 3;have y4:=z.o.bk.m 4;have y5:=z.o.bk.m 5;refine Ap ?_
      iterate 7 refine Av ?_
      refine Aj ?_;clear y0 y1 y2 y3 y4 y5 u y f p;refine Am ?_;intro K a;refine(KY t P.aA P.rg P.aK L m z.o.aC (by have h1:=X.o.aC;have:=z.o.aC;have:=H.o;rw[jI]at h1;omega) oa oc (Kd F) aX z.o.rd).mono ?_;rintro e a7 ⟨aL,aM,rfl,fw,er,ay⟩;dsimp only;have ad:=zh (X.o.u ay);have G:=zh (z.o.u X.o.ca.p.cl ay);have dR:=zh (A6 fw (λb D=>(⟨X.o.ca.p.cl _ (er b D).1,(er b D).2⟩:av b=0/\b<a7.heap.size)));clear fw er ay X z;refine Aq a ?_;clear a K;refine Ap ?_;refine Aj ?_;obtain⟨bd,bH,bn,aN⟩:=Hw G.o.bk (E J t) (E J P.aA) (E J P.rg) (E Bk (U P.aK)) (Z aL (m+1) aM) (E J 0);have f0:=G.o.bk.v 0;have f1:=G.o.bk.v 1;have f2:=G.o.bk.v 2;have f3:=G.o.bk.v 3;have f4:=G.o.bk.v 4;have f5:=G.o.bk.v 5;have y0:=G.o.bk.m 0;have y1:=G.o.bk.m 1;have y2:=G.o.bk.m 2;have y3:=G.o.bk.m 3;have y4:=G.o.bk.m 4;have y5:=G.o.bk.m 5;have bp:=zh (ad.o.bj G.o.cb aN)
      have bo:∀b,(Z aL (m+1) aM).ownBlock=Bd b->b≠xb:=λb D e=>by
       have h1:=(dR.o.2 b D).1;rw[e,G.o.cb]at h1
       cases h1
      have bq:Hd (BT bd av xb t P (L++[Kd F]) aL (m+1) aM):=zh ⟨bn,G.o.cb,aN.aN dR.o.1 (λb D=>bo b D),λb D=>⟨(dR.o.2 b D).1,jJ (dR.o.2 b D).2 aN.aQ⟩,by rw[jI,G.o.aC];rfl⟩;clear bn aN bo;refine Am ?_;intro K a
      try rw[bH]
      clear bH y0 y1 y2 y3 y4 y5 f0 f1 f2 f3 f4 f5;refine Aq a ?_;clear a K;refine AG (Y ?_);go_wp2_with fail
      go_roundg (gk - 1)
      case measure=>exact H.o.1
      exact⟨j+1,t,lo,q+120000,N2,av,(L++[Kd F]),aL,(m+1),aM,by rw[WJ.o],H.o.2.1,bp.o,bq.o⟩
   ·as_aux_lemma=>
     skip
     by_cases eq:F.size<1\/64<F.size
     ·skip
      have CK:=zh (show CD xk=5\/CD xk=6 by rw[au];exact c);have e4:((M:Int)==4)=O:=Γ;obtain⟨q5,h5⟩:=Af (((M:Int)==5))
      have h6:q5=O->((M:Int)==6)=A3:=λe=>by subst e;simp at h5⊢;omega
      have a1:=zh au;clear au c bG;refine(Ts aR c xk xn F ab aT.o.1 a6 bt 10 (Dn aR bm c A P q t lo L) AA (λv e=>(by cases e)) CK.o (XT I.o.ca I.o.dw F eq a6)).mono ?_;rintro e aA ⟨rfl,aB⟩;obtain⟨av,N2,s2,aC⟩:=I.o.el aB (j9 _) (j9 _) (I.o.ks);have Q:=zh aC;have aD:=zh (aV.o.ag s2 Dj GS);have aE:=zh (s2.y aW.o (by rw[bF.o];exact Dj));have al:=zh (Er xk xn F ab aT.o.1 aA);rw[a1.o]at al;obtain⟨u,y,f,p⟩:=aj.o aA Q.o.below;clear aB s2 aC I aV aW;go_wp2_with fail;refine al.o.mono ?_;rintro e ax ⟨rfl,R⟩;have aa:=zh (Q.o.u R);have aG:=zh (aD.o.u Q.o.ca.p.cl R);have aS:=zh (aE.o.u R Δ);clear R u y f p Q aD aE al;obtain⟨u,y,f,p⟩:=aj.o ax aa.o.below;have H6:=zh h6;clear h6;have tk:=MI (bl F) (by rw[CP];omega) ax;rw[F7,CP,jN Ω]at tk;have TK:=zh tk;clear tk
      cases q5
      ·skip
       have e6:=H6.o rfl;go_wp2_with fail;refine TK.o.mono ?_;rintro e df ⟨rfl,rfl⟩;go_wp2_with fail
       go_roundg (gk - 1)
       case measure=>exact H.o.1
       exact⟨j+1,t,lo,q+120000,N2,av,L,oa,m,oc,by rw[WJ.o],H.o.2.1,aa.o,aG.o⟩
      ·skip
       go_wp2_with fail;refine TK.o.mono ?_;rintro e df ⟨rfl,rfl⟩;go_wp2_with fail
       go_roundg (gk - 1)
       case measure=>exact H.o.1
       exact⟨j+1,t,lo,q+120000,N2,av,L,oa,m,oc,by rw[WJ.o],H.o.2.1,aa.o,aG.o⟩
     ·skip
      have CK:=zh (show CD xk=5\/CD xk=6 by rw[au];exact c);have e4:((M:Int)==4)=O:=Γ;obtain⟨q5,h5⟩:=Af (((M:Int)==5))
      have h6:q5=O->((M:Int)==6)=A3:=λe=>by subst e;simp at h5⊢;omega
      have a1:=zh au;clear au c bG;obtain⟨r,fx,fy,fz⟩:=Ud I.o.ca I.o.dw de F Ω Ω WH dc.o.1;have cd:=zh fx;have b6:=zh fy;clear fx fy;refine(Ts aR c xk xn F ab aT.o.1 a6 bt 0 (Dn aR bm c A P q t lo L) r (λv e=>(cd.o v e).2) CK.o fz).mono ?_;rintro e aA ⟨rfl,aB⟩;obtain⟨av,N2,s2,aC⟩:=I.o.el aB (j9 _) (j9 _) (I.o.ks);have Q:=zh aC;have aD:=zh (aV.o.ag s2 Dj GS);have aE:=zh (s2.y aW.o (by rw[bF.o];exact Dj));have al:=zh (Er xk xn F ab aT.o.1 aA);rw[a1.o]at al;obtain⟨u,y,f,p⟩:=aj.o aA Q.o.below;clear aB s2 aC I aV aW;go_wp2_with fail;refine al.o.mono ?_;rintro e ax ⟨rfl,R⟩;have aa:=zh (Q.o.u R);have aG:=zh (aD.o.u Q.o.ca.p.cl R);have aS:=zh (aE.o.u R Δ);clear R u y f p Q aD aE al;obtain⟨u,y,f,p⟩:=aj.o ax aa.o.below;clear fz;have H6:=zh h6;clear h6;have tk:=MI (bl F) (by rw[CP];omega) ax;rw[F7,CP,jP Ω]at tk;have TK:=zh tk;clear tk
      cases q5
      ·skip
       have e6:=H6.o rfl;go_wp2_with fail;refine TK.o.mono ?_;rintro e df ⟨rfl,rfl⟩;go_wp2_with fail;refine AS (λ_=>True) (.am [] [0,1,2,3,4,5,6,7,8,9] 10 O (.am [] [11,12,13,14] 15 O (.nil))) Φ Φ ?_;obtain⟨aX,aY,ao⟩:=AP ax;rw[aY];have X:=zh (aa.o.u ao);have z:=zh (aG.o.u aa.o.ca.p.cl ao);have a8:=zh (aS.o.u ao Δ);clear aY ao aa aG aS
       try clear u y f p
       obtain⟨u,y,f,p⟩:=aj.o aX X.o.below;have y0:=z.o.bk.m 0;have y1:=z.o.bk.m 1;have y2:=z.o.bk.m 2;have y3:=z.o.bk.m 3;have y4:=z.o.bk.m 4;have y5:=z.o.bk.m 5;have x3:=a8.o.m 3;have x7:=a8.o.m 7;refine Ap ?_
       iterate 10 refine Av ?_
       refine Aj ?_;clear y0 y1 y2 y3 y4 y5 u y f p x3 x7;refine Am ?_;intro K a;refine(Sl t P L m z.o.aC (by have:=X.o.aC;have:=z.o.aC;have:=H.o;omega) oa oc F WH lo aX z.o.rd a6 (λx hx=>⟨X.o.ks x hx,X.o.dw.wh x hx⟩) dc.o.2.2 ⟨HF.o.fP,HF.o.fq⟩ dL.o).mono ?_;rintro e a7 ⟨rfl,ay⟩;dsimp only;have ad:=zh (X.o.u ay);have G:=zh (z.o.u X.o.ca.p.cl ay);obtain⟨qq,dh⟩:=Af (FF P t lo WH L F);rw[dh]at b6⊢;clear ay X z a8 dh;refine Aq a ?_;clear a K;refine Ap ?_
       iterate 4 refine Av ?_
       refine Aj ?_;refine Am ?_;intro K a;refine Aq a ?_;clear a K;refine AG (Y ?_);go_wp2_with fail;obtain⟨u,y,f,p⟩:=aj.o a7 ad.o.below;have y0:=G.o.bk.m 0;have y1:=G.o.bk.m 1;have y2:=G.o.bk.m 2;have y3:=G.o.bk.m 3;have y4:=G.o.bk.m 4;have y5:=G.o.bk.m 5;have k0:=AJ y0;have k1:=AJ y1;have k2:=AJ y2;have k3:=AJ y3;have k4:=AJ y4;have k5:=AJ y5;have m2:=AJ f;clear y0 y1 y2 y3 y4 y5 u y f p
       rcases r with _|vv
       ·obtain rfl:qq=AA:=by
         rcases qq with _|v
         ·rfl
         ·have:=b6.o v rfl
          cases this
        have ev:Jl AA=⟨#[45]⟩:=rfl;rw[ev,show(AA:Option ByteArray).isSome=O from rfl,show(AA:Option ByteArray).getD EC=EC from rfl];refine Cb Φ Φ ?_
        repeat(go_big_quiet_step (fail))
        refine A5 ?_;rintro _ ⟨g,rfl⟩;have bp:=zh (ad.o.u (Bu g));have bq:=zh (G.o.u ad.o.ca.p.cl (Bu g));generalize gw g=bd at*;clear g k0 k1 k2 k3 k4 k5 m2 ad G;go_wp2_with fail
        go_roundg (gk - 1)
        case measure=>exact H.o.1
        exact⟨j+1,t,lo,q+120000,N2,av,L,oa,m,oc,by rw[WJ.o],H.o.2.1,bp.o,bq.o⟩
       ·have cl:=(cd.o vv rfl).1;have h4:=(cd.o vv rfl).2;obtain⟨S,hS⟩:=Af (Di vv)
        have gl:S.size<=4096:=by rw[<-hS,I0];exact h4
        rw[hS]at cl;have cm:=Rk S
        have cn:∀v,qq=Bd v->v=S:=λv hv=>by
         have:=jV (b6.o v hv);rw[<-hS,this,F7]
        have HM:=zh (λW (g:a7.grownBy W AA)=>(by
         have:=Ty t P.aA P.rg P.aK L m G.o.aC (by have:=ad.o.aC;have:=G.o.aC;have:=H.o;omega) oa oc F S W (G.o.rd.u g Δ);rw[cl]at this
         exact this:Calls Tryz.prog 16 #[GZ t P.aA P.rg P.aK (.slice oa m oc) 0,.string F,.string S] W λe w'=>e=.returned (.bool true)/\W.grownBy w' none))
        have bW:((⟨#[43]⟩++S:ByteArray).toList==([45]:List UInt8))=O:=TD S
        have co:((⟨#[43]⟩++S:ByteArray).toList !=([45]:List UInt8))=A3:=by rw[bne,bW];rfl
        have dj:=OW S;have dk:=zh (show Jl (Bd vv)=⟨#[43]⟩++S by rw[<-hS];rfl);rw[dk.o];obtain⟨V,hV⟩:=Af ((⟨#[43]⟩:ByteArray)++S);rw[hV]at bW co dj cm⊢;have dl:¬9223372036854775807<1+S.size:=Ω;have dm:1<=V.size:=Ω;clear dj;have dn:(V.toList==V.toList)=A3:=Δ;clear cl h4 hS dk b6 cd
        rcases qq with _|v
        ·rw[show(AA:Option ByteArray).isSome=O from rfl,show(AA:Option ByteArray).getD EC=EC from rfl];refine Cb Φ Φ ?_
         repeat(go_big_quiet_step (fail))
         go_big_quiet_step ((go_at_call 16;exact FY HM.o _))
         repeat(go_big_quiet_step (fail))
         refine A5 ?_;rintro _ ⟨g,rfl⟩;have bp:=zh (ad.o.u (Bu g));have bq:=zh (G.o.u ad.o.ca.p.cl (Bu g));generalize gw g=bd at*;clear g k0 k1 k2 k3 k4 k5 m2 ad G cm cn bW co hV dl dm dn;go_wp2_with fail
         go_roundg (gk - 1)
         case measure=>exact H.o.1
         exact⟨j+1,t,lo,q+120000,N2,av,L,oa,m,oc,by rw[WJ.o],H.o.2.1,bp.o,bq.o⟩
        ·obtain rfl:=cn v rfl;rw[show(Bd v:Option ByteArray).isSome=A3 from rfl,show(Bd v:Option ByteArray).getD EC=v from rfl];refine Cb Φ Φ ?_
         repeat(go_big_quiet_step (fail))
         go_big_quiet_step ((go_at_call 16;exact FY HM.o _))
         repeat(go_big_quiet_step (fail))
         refine A5 ?_;rintro _ ⟨g,rfl⟩;have bp:=zh (ad.o.u (Bu g));have bq:=zh (G.o.u ad.o.ca.p.cl (Bu g));generalize gw g=bd at*;clear g k0 k1 k2 k3 k4 k5 m2 ad G cm cn bW co hV dl dm dn;go_wp2_with fail
         go_roundg (gk - 1)
         case measure=>exact H.o.1
         exact⟨j+1,t,lo,q+120000,N2,av,L,oa,m,oc,by rw[WJ.o],H.o.2.1,bp.o,bq.o⟩
      ·skip
       go_wp2_with fail;refine TK.o.mono ?_;rintro e df ⟨rfl,rfl⟩;go_wp2_with fail;refine AS (λ_=>True) (.am [] [0,1,2,3,4,5,6,7,8,9] 10 O (.am [] [11,12,13,14] 15 O (.nil))) Φ Φ ?_;obtain⟨aX,aY,ao⟩:=AP ax;rw[aY];have X:=zh (aa.o.u ao);have z:=zh (aG.o.u aa.o.ca.p.cl ao);have a8:=zh (aS.o.u ao Δ);clear aY ao aa aG aS
       try clear u y f p
       obtain⟨u,y,f,p⟩:=aj.o aX X.o.below;have y0:=z.o.bk.m 0;have y1:=z.o.bk.m 1;have y2:=z.o.bk.m 2;have y3:=z.o.bk.m 3;have y4:=z.o.bk.m 4;have y5:=z.o.bk.m 5;have x3:=a8.o.m 3;have x7:=a8.o.m 7;refine Ap ?_
       iterate 10 refine Av ?_
       refine Aj ?_;clear y0 y1 y2 y3 y4 y5 u y f p x3 x7;refine Am ?_;intro K a;refine(Sl t P L m z.o.aC (by have:=X.o.aC;have:=z.o.aC;have:=H.o;omega) oa oc F WH lo aX z.o.rd a6 (λx hx=>⟨X.o.ks x hx,X.o.dw.wh x hx⟩) dc.o.2.2 ⟨HF.o.fP,HF.o.fq⟩ dL.o).mono ?_;rintro e a7 ⟨rfl,ay⟩;dsimp only;have ad:=zh (X.o.u ay);have G:=zh (z.o.u X.o.ca.p.cl ay);obtain⟨qq,dh⟩:=Af (FF P t lo WH L F);rw[dh]at b6⊢;clear ay X z a8 dh;refine Aq a ?_;clear a K;refine Ap ?_
       iterate 4 refine Av ?_
       refine Aj ?_;refine Am ?_;intro K a;refine Aq a ?_;clear a K;refine AG (Y ?_);go_wp2_with fail;obtain⟨u,y,f,p⟩:=aj.o a7 ad.o.below;have y0:=G.o.bk.m 0;have y1:=G.o.bk.m 1;have y2:=G.o.bk.m 2;have y3:=G.o.bk.m 3;have y4:=G.o.bk.m 4;have y5:=G.o.bk.m 5;have k0:=AJ y0;have k1:=AJ y1;have k2:=AJ y2;have k3:=AJ y3;have k4:=AJ y4;have k5:=AJ y5;have m2:=AJ f;clear y0 y1 y2 y3 y4 y5 u y f p
       rcases r with _|vv
       ·obtain rfl:qq=AA:=by
         rcases qq with _|v
         ·rfl
         ·have:=b6.o v rfl
          cases this
        have ev:Jl AA=⟨#[45]⟩:=rfl;rw[ev,show(AA:Option ByteArray).isSome=O from rfl,show(AA:Option ByteArray).getD EC=EC from rfl];refine Cb Φ Φ ?_
        repeat(go_big_quiet_step (fail))
        refine A5 ?_;rintro _ ⟨g,rfl⟩;have bp:=zh (ad.o.u (Bu g));have bq:=zh (G.o.u ad.o.ca.p.cl (Bu g));generalize gw g=bd at*;clear g k0 k1 k2 k3 k4 k5 m2 ad G;go_wp2_with fail
        go_roundg (gk - 1)
        case measure=>exact H.o.1
        exact⟨j+1,t,lo,q+120000,N2,av,L,oa,m,oc,by rw[WJ.o],H.o.2.1,bp.o,bq.o⟩
       ·have cl:=(cd.o vv rfl).1;have h4:=(cd.o vv rfl).2;obtain⟨S,hS⟩:=Af (Di vv)
        have gl:S.size<=4096:=by rw[<-hS,I0];exact h4
        rw[hS]at cl;have cm:=Rk S
        have cn:∀v,qq=Bd v->v=S:=λv hv=>by
         have:=jV (b6.o v hv);rw[<-hS,this,F7]
        have HM:=zh (λW (g:a7.grownBy W AA)=>(by
         have:=Ty t P.aA P.rg P.aK L m G.o.aC (by have:=ad.o.aC;have:=G.o.aC;have:=H.o;omega) oa oc F S W (G.o.rd.u g Δ);rw[cl]at this
         exact this:Calls Tryz.prog 16 #[GZ t P.aA P.rg P.aK (.slice oa m oc) 0,.string F,.string S] W λe w'=>e=.returned (.bool true)/\W.grownBy w' none))
        have bW:((⟨#[43]⟩++S:ByteArray).toList==([45]:List UInt8))=O:=TD S
        have co:((⟨#[43]⟩++S:ByteArray).toList !=([45]:List UInt8))=A3:=by rw[bne,bW];rfl
        have dj:=OW S;have dk:=zh (show Jl (Bd vv)=⟨#[43]⟩++S by rw[<-hS];rfl);rw[dk.o];obtain⟨V,hV⟩:=Af ((⟨#[43]⟩:ByteArray)++S);rw[hV]at bW co dj cm⊢;have dl:¬9223372036854775807<1+S.size:=Ω;have dm:1<=V.size:=Ω;clear dj;have dn:(V.toList==V.toList)=A3:=Δ;clear cl h4 hS dk b6 cd
        rcases qq with _|v
        ·rw[show(AA:Option ByteArray).isSome=O from rfl,show(AA:Option ByteArray).getD EC=EC from rfl];refine Cb Φ Φ ?_
         repeat(go_big_quiet_step (fail))
         go_big_quiet_step ((go_at_call 16;exact FY HM.o _))
         repeat(go_big_quiet_step (fail))
         refine A5 ?_;rintro _ ⟨g,rfl⟩;have bp:=zh (ad.o.u (Bu g));have bq:=zh (G.o.u ad.o.ca.p.cl (Bu g));generalize gw g=bd at*;clear g k0 k1 k2 k3 k4 k5 m2 ad G cm cn bW co hV dl dm dn;go_wp2_with fail
         go_roundg (gk - 1)
         case measure=>exact H.o.1
         exact⟨j+1,t,lo,q+120000,N2,av,L,oa,m,oc,by rw[WJ.o],H.o.2.1,bp.o,bq.o⟩
        ·obtain rfl:=cn v rfl;rw[show(Bd v:Option ByteArray).isSome=A3 from rfl,show(Bd v:Option ByteArray).getD EC=v from rfl];refine Cb Φ Φ ?_
         repeat(go_big_quiet_step (fail))
         go_big_quiet_step ((go_at_call 16;exact FY HM.o _))
         repeat(go_big_quiet_step (fail))
         refine A5 ?_;rintro _ ⟨g,rfl⟩;have bp:=zh (ad.o.u (Bu g));have bq:=zh (G.o.u ad.o.ca.p.cl (Bu g));generalize gw g=bd at*;clear g k0 k1 k2 k3 k4 k5 m2 ad G cm cn bW co hV dl dm dn;go_wp2_with fail
         go_roundg (gk - 1)
         case measure=>exact H.o.1
         exact⟨j+1,t,lo,q+120000,N2,av,L,oa,m,oc,by rw[WJ.o],H.o.2.1,bp.o,bq.o⟩
   ·as_aux_lemma=>
     skip
     have CK:=zh (au.trans c);have e4:((M:Int)==4)=O:=Γ;have e5:((M:Int)==5)=O:=Γ;have e6:((M:Int)==6)=O:=Γ;have e7:((M:Int)==7)=A3:=Γ;have a1:=zh au;clear au c bG;refine(Xa aR c xk xn F ab aT.o.1 a6 bt 0 (Dn aR bm c A P q t lo L) CK.o (YE I.o.ca I.o.dw de)).mono ?_;rintro e aA ⟨rfl,aB⟩;obtain⟨av,N2,s2,aC⟩:=I.o.el aB (j9 _) (j9 _) (I.o.ks);have Q:=zh aC;have aD:=zh (aV.o.ag s2 Dj GS);have aE:=zh (s2.y aW.o (by rw[bF.o];exact Dj));have al:=zh (Er xk xn F ab aT.o.1 aA);rw[a1.o]at al;obtain⟨u,y,f,p⟩:=aj.o aA Q.o.below;clear aB s2 aC I aV aW;go_wp2_with fail;refine al.o.mono ?_;rintro e ax ⟨rfl,R⟩;have aa:=zh (Q.o.u R);have aG:=zh (aD.o.u Q.o.ca.p.cl R);have aS:=zh (aE.o.u R Δ);clear R u y f p Q aD aE al;obtain⟨u,y,f,p⟩:=aj.o ax aa.o.below;go_wp2_with fail
     go_roundg (gk - 1)
     case measure=>exact H.o.1
     exact⟨j+1,t,lo,q+120000,N2,av,L,oa,m,oc,by rw[WJ.o],H.o.2.1,aa.o,aG.o⟩
   ·as_aux_lemma=>
     skip
     have CK:=zh (au.trans c);have e4:((M:Int)==4)=O:=Γ;have e5:((M:Int)==5)=O:=Γ;have e6:((M:Int)==6)=O:=Γ;have e7:((M:Int)==7)=O:=Γ;have e8:((M:Int)==8)=A3:=Γ;have a1:=zh au;clear au c bG;refine(Xs aR c xk xn F ab aT.o.1 a6 bt 0 (Dn aR bm c A P q t lo L) CK.o (Ze I.o.ca I.o.dw de)).mono ?_;rintro e aA ⟨rfl,aB⟩;obtain⟨av,N2,s2,aC⟩:=I.o.el aB (j9 _) (j9 _) (I.o.ks);have Q:=zh aC;have aD:=zh (aV.o.ag s2 Dj GS);have aE:=zh (s2.y aW.o (by rw[bF.o];exact Dj));have al:=zh (Er xk xn F ab aT.o.1 aA);rw[a1.o]at al;obtain⟨u,y,f,p⟩:=aj.o aA Q.o.below;clear aB s2 aC I aV aW;go_wp2_with fail;refine al.o.mono ?_;rintro e ax ⟨rfl,R⟩;have aa:=zh (Q.o.u R);have aG:=zh (aD.o.u Q.o.ca.p.cl R);have aS:=zh (aE.o.u R Δ);clear R u y f p Q aD aE al;obtain⟨u,y,f,p⟩:=aj.o ax aa.o.below;go_wp2_with fail
     go_roundg (gk - 1)
     case measure=>exact H.o.1
     exact⟨j+1,t,lo,q+120000,N2,av,L,oa,m,oc,by rw[WJ.o],H.o.2.1,aa.o,aG.o⟩
   ·as_aux_lemma=>
     skip
     by_cases D:xn<0\/281474976710656<(t:Int)+xn
     ·skip
      have CK:=zh (au.trans c);have e4:((M:Int)==4)=O:=Γ;have e5:((M:Int)==5)=O:=Γ;have e6:((M:Int)==6)=O:=Γ;have e7:((M:Int)==7)=O:=Γ;have e8:((M:Int)==8)=O:=Γ;have e9:((M:Int)==9)=A3:=Γ;have a1:=zh au;clear au c bG;refine(Sq aR c xk xn F ab aT.o.1 a6 bt 2 (Dn aR bm c A P q t lo L) CK.o (VU I.o.ca I.o.dw xn D)).mono ?_;rintro e aA ⟨rfl,aB⟩;obtain⟨av,N2,s2,aC⟩:=I.o.el aB (j9 _) (j9 _) (I.o.ks);have Q:=zh aC;have aD:=zh (aV.o.ag s2 Dj GS);have aE:=zh (s2.y aW.o (by rw[bF.o];exact Dj));have al:=zh (Er xk xn F ab aT.o.1 aA);rw[a1.o]at al;obtain⟨u,y,f,p⟩:=aj.o aA Q.o.below;clear aB s2 aC I aV aW;go_wp2_with fail;refine al.o.mono ?_;rintro e ax ⟨rfl,R⟩;have aa:=zh (Q.o.u R);have aG:=zh (aD.o.u Q.o.ca.p.cl R);have aS:=zh (aE.o.u R Δ);clear R u y f p Q aD aE al;obtain⟨u,y,f,p⟩:=aj.o ax aa.o.below;go_wp2_with fail;refine AS (λ_=>True) (.am [] [0,1,2,3,4,5] 6 O (.am [] [] 7 O (.nil))) Φ Φ ?_;obtain⟨aX,aY,ao⟩:=AP ax;rw[aY];have X:=zh (aa.o.u ao);have z:=zh (aG.o.u aa.o.ca.p.cl ao);have a8:=zh (aS.o.u ao Δ);clear aY ao aa aG aS
      try clear u y f p
      obtain⟨u,y,f,p⟩:=aj.o aX X.o.below;have y0:=z.o.bk.m 0;have y1:=z.o.bk.m 1;have y2:=z.o.bk.m 2;have y3:=z.o.bk.m 3;have y4:=z.o.bk.m 4;have y5:=z.o.bk.m 5;refine Ap ?_
      iterate 6 refine Av ?_
      refine Aj ?_;clear y0 y1 y2 y3 y4 y5 u y f p;refine Am ?_;intro K a;refine(Sa t P.aA P.rg P.aK oa m oc 0 X.o.ca.t xn aX).mono ?_;rintro e a7 ⟨rfl,ay⟩;rw[jP D];dsimp only;have ad:=zh (X.o.u ay);have G:=zh (z.o.u X.o.ca.p.cl ay);clear ay X z D;refine Aq a ?_;clear a K;refine Ap ?_;refine Aj ?_;refine Am ?_;intro K a;refine Aq a ?_;clear a K;refine AG (Y ?_);go_wp2_with fail
      go_roundg (gk - 1)
      case measure=>exact H.o.1
      exact⟨j+1,t,lo,q+120000,N2,av,L,oa,m,oc,by rw[WJ.o],H.o.2.1,ad.o,G.o⟩
     ·skip
      obtain⟨nn,rfl⟩:=jU (show 0<=xn by omega);have CK:=zh (au.trans c);have e4:((M:Int)==4)=O:=Γ;have e5:((M:Int)==5)=O:=Γ;have e6:((M:Int)==6)=O:=Γ;have e7:((M:Int)==7)=O:=Γ;have e8:((M:Int)==8)=O:=Γ;have e9:((M:Int)==9)=A3:=Γ;have a1:=zh au;clear au c bG;refine(Sq aR c xk (nn:Nat) F ab aT.o.1 a6 bt 0 (Dn aR bm c A P q (t+nn) lo L) CK.o (bJ I.o.ca I.o.dw nn Ω)).mono ?_;rintro e aA ⟨rfl,aB⟩;obtain⟨av,N2,s2,aC⟩:=I.o.el aB (j9 _) (j9 _) (I.o.ks);have Q:=zh aC;have aD:=zh (aV.o.ag s2 Dj GS);have aE:=zh (s2.y aW.o (by rw[bF.o];exact Dj));have al:=zh (Er xk (nn:Nat) F ab aT.o.1 aA);rw[a1.o]at al;obtain⟨u,y,f,p⟩:=aj.o aA Q.o.below;clear aB s2 aC I aV aW;go_wp2_with fail;refine al.o.mono ?_;rintro e ax ⟨rfl,R⟩;have aa:=zh (Q.o.u R);have aG:=zh (aD.o.u Q.o.ca.p.cl R);have aS:=zh (aE.o.u R Δ);clear R u y f p Q aD aE al;obtain⟨u,y,f,p⟩:=aj.o ax aa.o.below;go_wp2_with fail;refine AS (λ_=>True) (.am [] [0,1,2,3,4,5] 6 O (.am [] [] 7 O (.nil))) Φ Φ ?_;obtain⟨aX,aY,ao⟩:=AP ax;rw[aY];have X:=zh (aa.o.u ao);have z:=zh (aG.o.u aa.o.ca.p.cl ao);have a8:=zh (aS.o.u ao Δ);clear aY ao aa aG aS
      try clear u y f p
      obtain⟨u,y,f,p⟩:=aj.o aX X.o.below;have y0:=z.o.bk.m 0;have y1:=z.o.bk.m 1;have y2:=z.o.bk.m 2;have y3:=z.o.bk.m 3;have y4:=z.o.bk.m 4;have y5:=z.o.bk.m 5;refine Ap ?_
      iterate 6 refine Av ?_
      refine Aj ?_;clear y0 y1 y2 y3 y4 y5 u y f p;refine Am ?_;intro K a;refine(Sa t P.aA P.rg P.aK oa m oc 0 (Ψ X.o.ca.t) (nn:Nat) aX).mono ?_;rintro e a7 ⟨rfl,ay⟩;rw[jN D];dsimp only;have ad:=zh (X.o.u ay);have G:=zh (z.o.u X.o.ca.p.cl ay);have c0:=zh (a8.o.u ay Δ)
      have wt:wrap64 ((t:Int)+(nn:Int))=((t+nn:Nat):Int):=by have:=ad.o.ca.t;rw[A2 _ Ω];omega
      have c1:=Ba wt;have gm:Hd (t+nn<=281474976710656):=zh ad.o.ca.t;obtain⟨tn,fA⟩:∃k,t+nn=k:=⟨_,rfl⟩;rw[fA]at wt c1 ad gm;clear ay X z a8 D fA;refine Aq a ?_;clear a K;refine Ap ?_;refine Aj ?_;refine Am ?_;intro K a;refine Aq a ?_;clear a K;refine AG (Y ?_);go_wp2_with fail;refine AS (λ_=>True) (.am [] [0,1,2,3,4,5,6,7,8] 9 O (.nil)) Φ Φ ?_;obtain⟨bI,dr,bY⟩:=AP a7;rw[dr];have b7:=zh (ad.o.u bY);have bb:=zh (G.o.u ad.o.ca.p.cl bY);have gI:=zh (c0.o.u bY Δ);clear dr bY ad G c0
      try clear u y f p
      obtain⟨u,y,f,p⟩:=aj.o bI b7.o.below;have y0:=bb.o.bk.m 0;have f0:=bb.o.bk.v 0;obtain⟨bK,cq⟩:=Af (bI.setCell ⟨xb,0,AA⟩ (E J tn));have cr:=bb.o.bk.setCell 0 (E J tn);rw[cq]at cr
      have dU:Ac (λk=>k=xb) bI bK:=by rw[<-cq];exact Ay _ _ _ _
      have cs:=zh (b7.o.bj bb.o.cb dU)
      have c2:Hd (BT bK av xb tn P L oa m oc):=zh ⟨cr,bb.o.cb,dU.aN bb.o.rd (λb D e=>by
       have h1:=(bb.o.rc b D).1;rw[e,bb.o.cb]at h1
       cases h1),λb D=>⟨(bb.o.rc b D).1,jJ (bb.o.rc b D).2 dU.aQ⟩,bb.o.aC⟩
      clear cr dU;refine Ap ?_
      iterate 9 refine Av ?_
      refine Aj ?_;refine Am ?_;intro K a
      try rw[cq]
      clear cq y0 f0 u y f p wt c1;refine Aq a ?_;clear a K;refine AG (Y ?_);go_wp2_with fail
      go_roundg (gk - 1)
      case measure=>exact H.o.1
      exact⟨j+1,tn,lo,q+120000,N2,av,L,oa,m,oc,by rw[WJ.o],H.o.2.1,cs.o,c2.o⟩
   ·as_aux_lemma=>
     obtain⟨E0,bZ⟩:=Af (Eu P t F.size ab.size xn)
     by_cases hz:E0=0
     ·skip
      rw[hz]at bZ;clear hz;obtain⟨dN,dO,dP,c4,fC,c6⟩:=Rx bZ;obtain⟨nn,rfl⟩:=jU c4;have cV:=zh fC;clear dN dO dP c4 fC c6;have CK:=zh (show CD xk<4 by rw[au];exact c);have e4:((M:Int)==4)=O:=Γ;have e5:((M:Int)==5)=O:=Γ;have e6:((M:Int)==6)=O:=Γ;have e7:((M:Int)==7)=O:=Γ;have e8:((M:Int)==8)=O:=Γ;have e9:((M:Int)==9)=O:=Γ;have a1:=zh au;clear au c bG;refine(Tl aR c xk (nn:Nat) F ab aT.o.1 a6 bt 0 (λw'=>∃aO,aO<=lo+1/\Dn aR bm c A P q t aO (L++[Ec F ab (FD t nn) WH aO]) w') CK.o (fU I.o.ca I.o.dw de F ab nn bZ (by have:=I.o.lo;have:=H.o;omega) WH dc.o.2.1 dc.o.2.2)).mono ?_;rintro e aA ⟨rfl,aO,fD,aB⟩;obtain⟨av,N2,s2,aC⟩:=I.o.el aB (fD) (by rw[jI];exact jF _) (Ue I.o.ks a6);have Q:=zh aC;have aD:=zh (aV.o.ag s2 Dj GS);have aE:=zh (s2.y aW.o (by rw[bF.o];exact Dj));have al:=zh (Er xk (nn:Nat) F ab aT.o.1 aA);rw[a1.o]at al;obtain⟨u,y,f,p⟩:=aj.o aA Q.o.below;clear aB s2 aC I aV aW;go_wp2_with fail;refine al.o.mono ?_;rintro e ax ⟨rfl,R⟩;have aa:=zh (Q.o.u R);have aG:=zh (aD.o.u Q.o.ca.p.cl R);have aS:=zh (aE.o.u R Δ);clear R u y f p Q aD aE al;obtain⟨u,y,f,p⟩:=aj.o ax aa.o.below;go_wp2_with fail;refine AS (λ_=>True) (.am [] [0,1,2,3,4,5,6,7,8,9,10,11,12,13,14,15,16] 17 O (.am [] [] 18 O (.nil))) Φ Φ ?_;obtain⟨aX,aY,ao⟩:=AP ax;rw[aY];have X:=zh (aa.o.u ao);have z:=zh (aG.o.u aa.o.ca.p.cl ao);have a8:=zh (aS.o.u ao Δ);clear aY ao aa aG aS
      try clear u y f p
      obtain⟨u,y,f,p⟩:=aj.o aX X.o.below;have y0:=z.o.bk.m 0;have y1:=z.o.bk.m 1;have y2:=z.o.bk.m 2;have y3:=z.o.bk.m 3;have y4:=z.o.bk.m 4;have y5:=z.o.bk.m 5;refine Ap ?_
      iterate 17 refine Av ?_
      refine Aj ?_;clear y0 y1 y2 y3 y4 y5 u y f p;refine Am ?_;intro K a;have cu:=RH t P oa m oc F ab (nn:Nat) Ω HS.o.2 X.o.ca.t (Ψ dL.o) aX;rw[bZ]at cu;refine cu.mono ?_;clear cu;rintro e a7 ⟨rfl,ay⟩;dsimp only;have ad:=zh (X.o.u ay);have G:=zh (z.o.u X.o.ca.p.cl ay);have c0:=zh (a8.o.u ay Δ);clear ay X z a8;refine Aq a ?_;clear a K;refine Ap ?_;refine Aj ?_;refine Am ?_;intro K a;refine Aq a ?_;clear a K;refine AG (Y ?_);obtain⟨u,y,f,p⟩:=aj.o a7 ad.o.below;clear bZ fD;go_wp2_with fail;clear u y f p;refine AS (λW=>a7.grownBy W AA) (.bN [0,1,2,3,4,5,6,7,8,9,10,11,12] 13 A3 (.am [14,15] [] 16 A3 (.am [] [] 17 O (.nil))) 16 A3 (.am [] [] 13 A3 (.am [] [14,15] 17 O (.nil)))) Φ Φ ?_;obtain⟨bI,dr,bY⟩:=AP a7;rw[dr];obtain⟨en,ex⟩:=Af (FD t nn);rw[ex]at ad;have dV:=zh ex;have fE:Hd (j+1<=41):=zh (Ψ H.o.2.2);have b7:=zh (ad.o.u bY);have bb:=zh (G.o.u ad.o.ca.p.cl bY);have ey:=zh bY;have ez:=zh (A6 (aj.o a7 ad.o.below) (c0.o.m 3));clear dr bY ex c0;refine DK ey.o ?_
      iterate 13 ((apply AC rfl Θ;(· intro wS aQ;(try have aQ:=aQ rfl);(try dsimp only at aQ);(try(have f:=aQ.cell ez.o.1.2.2.1 Δ;have p:=aQ.cell ez.o.1.2.2.2 Δ;have x3:=aQ.cell ez.o.2 Δ));go_simp;(try with_reducible rfl)));refine Al ?_)
      refine Aj ⟨?_,?_⟩
      ·skip
       refine Am ?_;intro K a;refine(b7.o.g8 fE.o).mono ?_;rintro e bK ⟨⟨gp,gq,gr,gs,gt,gu,gv,rfl⟩,b0⟩;dsimp only;have cs:=zh (b7.o.u b0);have c2:=zh (bb.o.u b7.o.ca.p.cl b0);have c3:=zh (Ab ey.o b0);clear b0 b7 bb;refine a _ _ ⟨_,λ_ h=>h,λ_=>c3.o,?_⟩;clear a K;refine Al ?_;refine Dz c3.o ?_
       iterate 2 ((apply AC rfl Θ;(· intro wS aQ;(try have aQ:=aQ rfl);(try dsimp only at aQ);(try(have rl:=TO));go_simp;(try with_reducible rfl)));refine Al ?_)
       refine Aj (Aj ?_);refine Am ?_;intro K a;obtain⟨gx,fG,bL,eA⟩:=An bK 53 [Ax ⟨#[]⟩,Ax ⟨#[]⟩,A7 O,E J 0,E J 0,E J 0,A7 O]
       try rw[fG]
       have eB:=zh (cs.o.cC bL (jF _) eA.lt);have eC:=zh (c2.o.cC bL (jF _));have BZ:=zh eA;have dt:Hd (xb≠bK.heap.size):=zh (mq c2.o.bk.lt);have eD:=zh (Ab c3.o bL);clear bL eA fG;refine a _ _ ⟨_,λ_ h=>h,λ_=>eD.o,?_⟩;clear a K;refine Al ?_;refine Ap ?_;refine Aj ?_;obtain⟨cv,du,dv,cw⟩:=UP BZ.o (Ax F) (Ax ab) (A7 O) (E J 0) (E J WH) (E J aO) (A7 O);have u0:=BZ.o.m 0;have v0:=BZ.o.v 0;have u1:=BZ.o.m 1;have v1:=BZ.o.v 1;have u2:=BZ.o.m 2;have v2:=BZ.o.v 2;have u3:=BZ.o.m 3;have v3:=BZ.o.v 3;have u4:=BZ.o.m 4;have v4:=BZ.o.v 4;have u5:=BZ.o.m 5;have v5:=BZ.o.v 5;have u6:=BZ.o.m 6;have v6:=BZ.o.v 6;have a2:=zh (eB.o.bj (A0 _ _ _) cw);have aJ:=zh (eC.o.bj (A0 _ _ _) dt.o cw);have a3:=zh dv;clear dv cw;refine Am ?_;intro K a
       try rw[du]
       clear du u0 u1 u2 u3 u4 u5 u6 v0 v1 v2 v3 v4 v5 v6;refine Aq a ?_;clear a K;refine AG (Y ?_)
       skip
       have dw:Hd (AN av bK.heap.size 400 bK.heap.size=400):=zh (A0 _ _ _);generalize AN av bK.heap.size 400=br at*;generalize bK.heap.size=xo at*;obtain⟨u,y,f,p⟩:=aj.o cv a2.o.below
       by_cases b2:nn=0
       ·skip
        have f1:A4 ((nn:Int)>0)=O:=jH Ω;have f2:A4 (0<nn)=O:=jH Ω
        have cy:en=0:=by rw[<-dV.o,b2];rfl
        subst cy;clear b2;have y0:=aJ.o.bk.m 0;have y1:=aJ.o.bk.m 1;have y2:=aJ.o.bk.m 2;have y3:=aJ.o.bk.m 3;have y4:=aJ.o.bk.m 4;have y5:=aJ.o.bk.m 5;have o0:=a3.o.m 0;have o1:=a3.o.m 1;have o2:=a3.o.m 2;have o3:=a3.o.m 3;have o4:=a3.o.m 4;have o5:=a3.o.m 5;have o6:=a3.o.m 6;go_wp2_with fail;clear y0 y1 y2 y3 y4 y5 o0 o1 o2 o3 o4 o5 o6;refine(KY t P.aA P.rg P.aK L m aJ.o.aC (by have h1:=a2.o.aC;have:=aJ.o.aC;have:=H.o;rw[jI]at h1;omega) oa oc (Ec F ab 0 WH aO) cv aJ.o.rd).mono ?_;rintro e cG ⟨aL,aM,rfl,bw,bg,bh⟩;have cH:=zh (a2.o.u bh);have B:=zh (aJ.o.u a2.o.ca.p.cl bh);have a4:=zh (A6 bw (λb D=>(⟨a2.o.ca.p.cl _ (bg b D).1,(bg b D).2⟩:br b=0/\b<cG.heap.size)));clear bw bg bh a2 aJ;obtain⟨bd,bH,bn,aN⟩:=Hw B.o.bk (E J t) (E J P.aA) (E J P.rg) (E Bk (U P.aK)) (Z aL (m+1) aM) (E J 0);have f0:=B.o.bk.v 0;have f1:=B.o.bk.v 1;have f2:=B.o.bk.v 2;have f3:=B.o.bk.v 3;have f4:=B.o.bk.v 4;have f5:=B.o.bk.v 5;have y0:=B.o.bk.m 0;have y1:=B.o.bk.m 1;have y2:=B.o.bk.m 2;have y3:=B.o.bk.m 3;have y4:=B.o.bk.m 4;have y5:=B.o.bk.m 5;have cI:=zh (cH.o.bj B.o.cb aN)
        have bo:∀b,(Z aL (m+1) aM).ownBlock=Bd b->b≠xb:=λb D e=>by
         have h1:=(a4.o.2 b D).1;rw[e,B.o.cb]at h1
         cases h1
        have cJ:Hd (BT bd br xb t P (L++[Ec F ab 0 WH aO]) aL (m+1) aM):=zh ⟨bn,B.o.cb,aN.aN a4.o.1 (λb D=>bo b D),λb D=>⟨(a4.o.2 b D).1,jJ (a4.o.2 b D).2 aN.aQ⟩,by rw[jI,B.o.aC];rfl⟩;clear bn aN bo;go_wp2_with fail
        try clear bH y0 y1 y2 y3 y4 y5 f0 f1 f2 f3 f4 f5
        skip
        go_roundg (gk - 1)
        case measure=>exact H.o.1
        exact⟨j+1,t,aO,q+120000,N2,br,(L++[Ec F ab 0 WH aO]),aL,(m+1),aM,by rw[WJ.o],H.o.2.1,cI.o,cJ.o⟩
       ·skip
        have f1:A4 ((nn:Int)>0)=A3:=jG Ω;have f2:A4 (0<nn)=A3:=jG Ω
        have cy:t+nn=en:=by rw[<-dV.o];exact(jN b2).symm
        have wt:wrap64 ((t:Int)+(nn:Int))=(en:Int):=by have:=cV.o;rw[A2 _ Ω];omega
        have c1:=Ba wt;clear b2 cy;go_wp2_with fail;clear f1 f2 u y f p;refine AS (λ_=>True) (.am [] [0,1,2,3,4,5,6,7,8] 9 O (.nil)) Φ Φ ?_;obtain⟨cK,dx,b3⟩:=AP cv;rw[dx];have dy:=zh (a2.o.u b3);have dz:=zh (aJ.o.u a2.o.ca.p.cl b3);have cL:=zh (a3.o.u b3 Δ);clear dx b3 a2 aJ a3;obtain⟨u,y,f,p⟩:=aj.o cK dy.o.below;have y0:=dz.o.bk.m 0;have u3:=cL.o.m 3;have v3:=cL.o.v 3;obtain⟨cM,b4⟩:=Af (cK.setCell ⟨xo,3,AA⟩ (E J en));have cN:=cL.o.setCell 3 (E J en);rw[b4]at cN
        have cO:Ac (λk=>k=xo) cK cM:=by rw[<-b4];exact Ay _ _ _ _
        have bx:=zh (dy.o.bj dw.o cO);have aP:=zh (dz.o.bj dw.o dt.o cO);have bi:Hd (Aa cM xo 53 [Ax F,Ax ab,A7 O,E J en,E J WH,E J aO,A7 O]):=zh cN;clear cN cO;refine Ap ?_
        iterate 9 refine Av ?_
        refine Aj ?_;refine Am ?_;intro K a
        try rw[b4]
        clear b4 y0 u3 v3 u y f p wt c1;refine Aq a ?_;clear a K;refine AG (Y ?_);have y0:=aP.o.bk.m 0;have y1:=aP.o.bk.m 1;have y2:=aP.o.bk.m 2;have y3:=aP.o.bk.m 3;have y4:=aP.o.bk.m 4;have y5:=aP.o.bk.m 5;have o0:=bi.o.m 0;have o1:=bi.o.m 1;have o2:=bi.o.m 2;have o3:=bi.o.m 3;have o4:=bi.o.m 4;have o5:=bi.o.m 5;have o6:=bi.o.m 6;go_wp2_with fail;clear y0 y1 y2 y3 y4 y5 o0 o1 o2 o3 o4 o5 o6;refine(KY t P.aA P.rg P.aK L m aP.o.aC (by have h1:=bx.o.aC;have:=aP.o.aC;have:=H.o;rw[jI]at h1;omega) oa oc (Ec F ab en WH aO) cM aP.o.rd).mono ?_;rintro e cG ⟨aL,aM,rfl,bw,bg,bh⟩;have cH:=zh (bx.o.u bh);have B:=zh (aP.o.u bx.o.ca.p.cl bh);have a4:=zh (A6 bw (λb D=>(⟨bx.o.ca.p.cl _ (bg b D).1,(bg b D).2⟩:br b=0/\b<cG.heap.size)));clear bw bg bh bx aP;obtain⟨bd,bH,bn,aN⟩:=Hw B.o.bk (E J t) (E J P.aA) (E J P.rg) (E Bk (U P.aK)) (Z aL (m+1) aM) (E J 0);have f0:=B.o.bk.v 0;have f1:=B.o.bk.v 1;have f2:=B.o.bk.v 2;have f3:=B.o.bk.v 3;have f4:=B.o.bk.v 4;have f5:=B.o.bk.v 5;have y0:=B.o.bk.m 0;have y1:=B.o.bk.m 1;have y2:=B.o.bk.m 2;have y3:=B.o.bk.m 3;have y4:=B.o.bk.m 4;have y5:=B.o.bk.m 5;have cI:=zh (cH.o.bj B.o.cb aN)
        have bo:∀b,(Z aL (m+1) aM).ownBlock=Bd b->b≠xb:=λb D e=>by
         have h1:=(a4.o.2 b D).1;rw[e,B.o.cb]at h1
         cases h1
        have cJ:Hd (BT bd br xb t P (L++[Ec F ab en WH aO]) aL (m+1) aM):=zh ⟨bn,B.o.cb,aN.aN a4.o.1 (λb D=>bo b D),λb D=>⟨(a4.o.2 b D).1,jJ (a4.o.2 b D).2 aN.aQ⟩,by rw[jI,B.o.aC];rfl⟩;clear bn aN bo;go_wp2_with fail
        try clear bH y0 y1 y2 y3 y4 y5 f0 f1 f2 f3 f4 f5
        skip
        go_roundg (gk - 1)
        case measure=>exact H.o.1
        exact⟨j+1,t,aO,q+120000,N2,br,(L++[Ec F ab en WH aO]),aL,(m+1),aM,by rw[WJ.o],H.o.2.1,cI.o,cJ.o⟩
      ·skip
       refine Am ?_;intro K a;obtain⟨bK,cq,b0,cr⟩:=An bI 53 [Ax ⟨#[]⟩,Ax ⟨#[]⟩,A7 O,E J 0,E J 0,E J 0,A7 O]
       try rw[cq]
       have cs:=zh (b7.o.cC b0 (jF _) cr.lt);have c2:=zh (bb.o.cC b0 (jF _));have gy:=zh cr;have dt:Hd (xb≠bI.heap.size):=zh (mq bb.o.bk.lt);have c3:=zh (Ab ey.o b0);clear b0 cr cq;refine a _ _ ⟨_,λ_ h=>h,λ_=>c3.o,?_⟩;clear a K;refine Al ?_;refine Ap ?_;refine Aj ?_;refine Am ?_;intro K a;refine(cs.o.g8 fE.o).mono ?_;rintro e gx ⟨⟨gp,gq,gr,gs,gt,gu,gv,rfl⟩,bL⟩;dsimp only;have eB:=zh (cs.o.u bL);have eC:=zh (c2.o.u cs.o.ca.p.cl bL);have BZ:=zh (gy.o.u bL Δ);have eD:=zh (Ab c3.o bL);clear bL;refine a _ _ ⟨_,λ_ h=>h,λ_=>eD.o,?_⟩;clear a K;refine Al ?_;refine Ap ?_;have rl:=TO
       iterate 2 refine Av ?_
       refine Aj ?_;clear rl;obtain⟨cv,du,dv,cw⟩:=UP BZ.o (Ax F) (Ax ab) (A7 O) (E J 0) (E J WH) (E J aO) (A7 O);have u0:=BZ.o.m 0;have v0:=BZ.o.v 0;have u1:=BZ.o.m 1;have v1:=BZ.o.v 1;have u2:=BZ.o.m 2;have v2:=BZ.o.v 2;have u3:=BZ.o.m 3;have v3:=BZ.o.v 3;have u4:=BZ.o.m 4;have v4:=BZ.o.v 4;have u5:=BZ.o.m 5;have v5:=BZ.o.v 5;have u6:=BZ.o.m 6;have v6:=BZ.o.v 6;have a2:=zh (eB.o.bj (A0 _ _ _) cw);have aJ:=zh (eC.o.bj (A0 _ _ _) dt.o cw);have a3:=zh dv;clear dv cw;refine Am ?_;intro K a
       try rw[du]
       clear du u0 u1 u2 u3 u4 u5 u6 v0 v1 v2 v3 v4 v5 v6;refine Aq a ?_;clear a K;refine AG (Y ?_);have dw:Hd (AN av bI.heap.size 400 bI.heap.size=400):=zh (A0 _ _ _);generalize AN av bI.heap.size 400=br at*;generalize bI.heap.size=xo at*;obtain⟨u,y,f,p⟩:=aj.o cv a2.o.below
       by_cases b2:nn=0
       ·skip
        have f1:A4 ((nn:Int)>0)=O:=jH Ω;have f2:A4 (0<nn)=O:=jH Ω
        have cy:en=0:=by rw[<-dV.o,b2];rfl
        subst cy;clear b2;have y0:=aJ.o.bk.m 0;have y1:=aJ.o.bk.m 1;have y2:=aJ.o.bk.m 2;have y3:=aJ.o.bk.m 3;have y4:=aJ.o.bk.m 4;have y5:=aJ.o.bk.m 5;have o0:=a3.o.m 0;have o1:=a3.o.m 1;have o2:=a3.o.m 2;have o3:=a3.o.m 3;have o4:=a3.o.m 4;have o5:=a3.o.m 5;have o6:=a3.o.m 6;go_wp2_with fail;clear y0 y1 y2 y3 y4 y5 o0 o1 o2 o3 o4 o5 o6;refine(KY t P.aA P.rg P.aK L m aJ.o.aC (by have h1:=a2.o.aC;have:=aJ.o.aC;have:=H.o;rw[jI]at h1;omega) oa oc (Ec F ab 0 WH aO) cv aJ.o.rd).mono ?_;rintro e cG ⟨aL,aM,rfl,bw,bg,bh⟩;have cH:=zh (a2.o.u bh);have B:=zh (aJ.o.u a2.o.ca.p.cl bh);have a4:=zh (A6 bw (λb D=>(⟨a2.o.ca.p.cl _ (bg b D).1,(bg b D).2⟩:br b=0/\b<cG.heap.size)));clear bw bg bh a2 aJ;obtain⟨bd,bH,bn,aN⟩:=Hw B.o.bk (E J t) (E J P.aA) (E J P.rg) (E Bk (U P.aK)) (Z aL (m+1) aM) (E J 0);have f0:=B.o.bk.v 0;have f1:=B.o.bk.v 1;have f2:=B.o.bk.v 2;have f3:=B.o.bk.v 3;have f4:=B.o.bk.v 4;have f5:=B.o.bk.v 5;have y0:=B.o.bk.m 0;have y1:=B.o.bk.m 1;have y2:=B.o.bk.m 2;have y3:=B.o.bk.m 3;have y4:=B.o.bk.m 4;have y5:=B.o.bk.m 5;have cI:=zh (cH.o.bj B.o.cb aN)
        have bo:∀b,(Z aL (m+1) aM).ownBlock=Bd b->b≠xb:=λb D e=>by
         have h1:=(a4.o.2 b D).1;rw[e,B.o.cb]at h1
         cases h1
        have cJ:Hd (BT bd br xb t P (L++[Ec F ab 0 WH aO]) aL (m+1) aM):=zh ⟨bn,B.o.cb,aN.aN a4.o.1 (λb D=>bo b D),λb D=>⟨(a4.o.2 b D).1,jJ (a4.o.2 b D).2 aN.aQ⟩,by rw[jI,B.o.aC];rfl⟩;clear bn aN bo;go_wp2_with fail
        try clear bH y0 y1 y2 y3 y4 y5 f0 f1 f2 f3 f4 f5
        skip
        go_roundg (gk - 1)
        case measure=>exact H.o.1
        exact⟨j+1,t,aO,q+120000,N2,br,(L++[Ec F ab 0 WH aO]),aL,(m+1),aM,by rw[WJ.o],H.o.2.1,cI.o,cJ.o⟩
       ·skip
        have f1:A4 ((nn:Int)>0)=A3:=jG Ω;have f2:A4 (0<nn)=A3:=jG Ω
        have cy:t+nn=en:=by rw[<-dV.o];exact(jN b2).symm
        have wt:wrap64 ((t:Int)+(nn:Int))=(en:Int):=by have:=cV.o;rw[A2 _ Ω];omega
        have c1:=Ba wt;clear b2 cy;go_wp2_with fail;clear f1 f2 u y f p;refine AS (λ_=>True) (.am [] [0,1,2,3,4,5,6,7,8] 9 O (.nil)) Φ Φ ?_;obtain⟨cK,dx,b3⟩:=AP cv;rw[dx];have dy:=zh (a2.o.u b3);have dz:=zh (aJ.o.u a2.o.ca.p.cl b3);have cL:=zh (a3.o.u b3 Δ);clear dx b3 a2 aJ a3;obtain⟨u,y,f,p⟩:=aj.o cK dy.o.below;have y0:=dz.o.bk.m 0;have u3:=cL.o.m 3;have v3:=cL.o.v 3;obtain⟨cM,b4⟩:=Af (cK.setCell ⟨xo,3,AA⟩ (E J en));have cN:=cL.o.setCell 3 (E J en);rw[b4]at cN
        have cO:Ac (λk=>k=xo) cK cM:=by rw[<-b4];exact Ay _ _ _ _
        have bx:=zh (dy.o.bj dw.o cO);have aP:=zh (dz.o.bj dw.o dt.o cO);have bi:Hd (Aa cM xo 53 [Ax F,Ax ab,A7 O,E J en,E J WH,E J aO,A7 O]):=zh cN;clear cN cO;refine Ap ?_
        iterate 9 refine Av ?_
        refine Aj ?_;refine Am ?_;intro K a
        try rw[b4]
        clear b4 y0 u3 v3 u y f p wt c1;refine Aq a ?_;clear a K;refine AG (Y ?_);have y0:=aP.o.bk.m 0;have y1:=aP.o.bk.m 1;have y2:=aP.o.bk.m 2;have y3:=aP.o.bk.m 3;have y4:=aP.o.bk.m 4;have y5:=aP.o.bk.m 5;have o0:=bi.o.m 0;have o1:=bi.o.m 1;have o2:=bi.o.m 2;have o3:=bi.o.m 3;have o4:=bi.o.m 4;have o5:=bi.o.m 5;have o6:=bi.o.m 6;go_wp2_with fail;clear y0 y1 y2 y3 y4 y5 o0 o1 o2 o3 o4 o5 o6;refine(KY t P.aA P.rg P.aK L m aP.o.aC (by have h1:=bx.o.aC;have:=aP.o.aC;have:=H.o;rw[jI]at h1;omega) oa oc (Ec F ab en WH aO) cM aP.o.rd).mono ?_;rintro e cG ⟨aL,aM,rfl,bw,bg,bh⟩;have cH:=zh (bx.o.u bh);have B:=zh (aP.o.u bx.o.ca.p.cl bh);have a4:=zh (A6 bw (λb D=>(⟨bx.o.ca.p.cl _ (bg b D).1,(bg b D).2⟩:br b=0/\b<cG.heap.size)));clear bw bg bh bx aP;obtain⟨bd,bH,bn,aN⟩:=Hw B.o.bk (E J t) (E J P.aA) (E J P.rg) (E Bk (U P.aK)) (Z aL (m+1) aM) (E J 0);have f0:=B.o.bk.v 0;have f1:=B.o.bk.v 1;have f2:=B.o.bk.v 2;have f3:=B.o.bk.v 3;have f4:=B.o.bk.v 4;have f5:=B.o.bk.v 5;have y0:=B.o.bk.m 0;have y1:=B.o.bk.m 1;have y2:=B.o.bk.m 2;have y3:=B.o.bk.m 3;have y4:=B.o.bk.m 4;have y5:=B.o.bk.m 5;have cI:=zh (cH.o.bj B.o.cb aN)
        have bo:∀b,(Z aL (m+1) aM).ownBlock=Bd b->b≠xb:=λb D e=>by
         have h1:=(a4.o.2 b D).1;rw[e,B.o.cb]at h1
         cases h1
        have cJ:Hd (BT bd br xb t P (L++[Ec F ab en WH aO]) aL (m+1) aM):=zh ⟨bn,B.o.cb,aN.aN a4.o.1 (λb D=>bo b D),λb D=>⟨(a4.o.2 b D).1,jJ (a4.o.2 b D).2 aN.aQ⟩,by rw[jI,B.o.aC];rfl⟩;clear bn aN bo;go_wp2_with fail
        try clear bH y0 y1 y2 y3 y4 y5 f0 f1 f2 f3 f4 f5
        skip
        go_roundg (gk - 1)
        case measure=>exact H.o.1
        exact⟨j+1,t,aO,q+120000,N2,br,(L++[Ec F ab en WH aO]),aL,(m+1),aM,by rw[WJ.o],H.o.2.1,cI.o,cJ.o⟩
     ·skip
      have CK:=zh (show CD xk<4 by rw[au];exact c);have e4:((M:Int)==4)=O:=Γ;have e5:((M:Int)==5)=O:=Γ;have e6:((M:Int)==6)=O:=Γ;have e7:((M:Int)==7)=O:=Γ;have e8:((M:Int)==8)=O:=Γ;have e9:((M:Int)==9)=O:=Γ;have a1:=zh au;clear au c bG;have eE:=XU I.o.ca I.o.dw F ab a6 bt xn (by rw[bZ];exact hz);rw[bZ]at eE;have gz:=zh eE;clear eE;refine(Tl aR c xk xn F ab aT.o.1 a6 bt E0 (Dn aR bm c A P q t lo L) CK.o gz.o).mono ?_;rintro e aA ⟨rfl,aB⟩;obtain⟨av,N2,s2,aC⟩:=I.o.el aB (j9 _) (j9 _) (I.o.ks);have Q:=zh aC;have aD:=zh (aV.o.ag s2 Dj GS);have aE:=zh (s2.y aW.o (by rw[bF.o];exact Dj));have al:=zh (Er xk xn F ab aT.o.1 aA);rw[a1.o]at al;obtain⟨u,y,f,p⟩:=aj.o aA Q.o.below;clear aB s2 aC I aV aW;go_wp2_with fail;refine al.o.mono ?_;rintro e ax ⟨rfl,R⟩;have aa:=zh (Q.o.u R);have aG:=zh (aD.o.u Q.o.ca.p.cl R);have aS:=zh (aE.o.u R Δ);clear R u y f p Q aD aE al;obtain⟨u,y,f,p⟩:=aj.o ax aa.o.below;go_wp2_with fail;refine AS (λ_=>True) (.am [] [0,1,2,3,4,5,6,7,8,9,10,11,12,13,14,15,16] 17 O (.am [] [] 18 O (.nil))) Φ Φ ?_;obtain⟨aX,aY,ao⟩:=AP ax;rw[aY];have X:=zh (aa.o.u ao);have z:=zh (aG.o.u aa.o.ca.p.cl ao);have a8:=zh (aS.o.u ao Δ);clear aY ao aa aG aS
      try clear u y f p
      obtain⟨u,y,f,p⟩:=aj.o aX X.o.below;have y0:=z.o.bk.m 0;have y1:=z.o.bk.m 1;have y2:=z.o.bk.m 2;have y3:=z.o.bk.m 3;have y4:=z.o.bk.m 4;have y5:=z.o.bk.m 5;refine Ap ?_
      iterate 17 refine Av ?_
      refine Aj ?_;clear y0 y1 y2 y3 y4 y5 u y f p;refine Am ?_;intro K a;have cu:=RH t P oa m oc F ab xn Ω HS.o.2 X.o.ca.t (Ψ dL.o) aX;rw[bZ]at cu;refine cu.mono ?_;clear cu;rintro e a7 ⟨rfl,ay⟩;dsimp only;have ad:=zh (X.o.u ay);have G:=zh (z.o.u X.o.ca.p.cl ay);have c0:=zh (a8.o.u ay Δ);have gA:(E0==E0)=A3:=Δ;have eN:(E0 !=E0)=O:=Δ;clear ay X z a8;refine Aq a ?_;clear a K;refine Ap ?_;refine Aj ?_;refine Am ?_;intro K a;refine Aq a ?_;clear a K;refine AG (Y ?_);obtain⟨u,y,f,p⟩:=aj.o a7 ad.o.below
      have gJ:(E0==0)=O:=by simpa using hz
      clear bZ hz gA eN u y f p;go_wp2_with fail
      go_roundg (gk - 1)
      case measure=>exact H.o.1
      exact⟨j+1,t,lo,q+120000,N2,av,L,oa,m,oc,by rw[WJ.o],H.o.2.1,ad.o,G.o⟩
end
