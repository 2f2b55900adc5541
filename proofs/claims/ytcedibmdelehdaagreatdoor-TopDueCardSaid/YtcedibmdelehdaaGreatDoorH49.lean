/- Lemmas. -/
import Derived.Test.YtcedibmdelehdaaGreatDoorH48
namespace Go.Proofs.YtcedibmdelehdaaGreatDoor
set_option maxRecDepth 100000
set_option maxHeartbeats 32000000
open And renaming intro->E
open Decidable renaming decide->J
open Go.IntWalk renaming wrap64_in->O
open Bool renaming false->V,true->Z
open Go.Value renaming string->Y,int->Ax
section
open Go Go.RowKit
attribute [local go_sem ↓] Go.wp_at_zero Go.wp_at_succ
theorem Wu(l:List CO)(n:Nat)(hn:l.length=n)(la:Option Addr)(lc:Nat)(w:World)(hT:EO w)(hG:0<w.heap.size)(hr:Ai w 4 (.slice la n lc) n (Je l))(hg:∀x∈l,(-9223372036854775808<=x.k/\x.k<=9223372036854775807)/\(-9223372036854775808<=x.n/\x.n<=9223372036854775807)):
  Calls Tryz.prog 4 #[.slice la n lc] w λe w'=>e=.returned (.bool Z)/\w.grownBy w' none:=by
 have HL:=zh (Xy l 40 Ω n hn la lc w hr);have HR:=zh hr;have X:=zh (E hT hG);have HN:=zh hn;have HA:=zh hg;clear hr hT hG hn hg
 go_enter Tryz.func4,Tryz.ntmps4
 go_wp2_with fail;refine HL.o.mono ?_;rintro e w0 ⟨rfl,rfl⟩
 cases hb:Ig l 40
 ·go_wp2_with fail;go_ret;exact⟨rfl,Bf _ _⟩
 have HB:=zh hb;have HD:=zh (SM 140 96 w (λ_=>0) (λ_ _=>rfl) Ω Ω Ω Ω);clear hb HL;go_wp2_with fail;refine HD.o.mono ?_;rintro e w1 ⟨d,rfl,hd,B,s1,dv⟩;have S1:=zh (s1.mono (C':=Ee) (λj e=>.inl Ω));have DV:=zh dv;clear s1 dv HD;go_wp2_with fail;refine(Rf w1).mono ?_;rintro e w2 ⟨rfl,g2⟩;have S2:=zh (S1.o.trans (Ab.grown S1.o.new g2))
 have HF:=zh (RY (DV.o.grown g2) S2.o.new (X.o.1.bg (by
  rw[g2.block _ (jY X.o.2 S1.o.size) Δ]
  exact S1.o.ak.bK _ X.o.2 PI)) (jY X.o.2 S2.o.size) (S2.o.ah _ X.o.2))
 clear g2 S1 DV;go_wp2_with fail;refine HF.o.mono ?_;rintro e w3 ⟨c,A,N,L,rfl,s3,bj,hf,cX,bN⟩;have S3:=zh (S2.o.trans s3);have C3:=zh bj;have I3:=zh (Cp.dx (P:=CZ) hf bN);have HW:=zh (eX bj.p.cl);clear s3 bj hf bN cX HF S2;go_wp2_with fail;refine HW.o.mono ?_;rintro e w4 ⟨b,bd,bz,ps,c4,rfl,s4,h4⟩;have T4:Hd (DT w w4 c4 c A b bd bz ps 0 50000 0 0 N [] (λ_=>none) (λ_ _=>V)):=zh ⟨C3.o.ae s4 Pp,I3.o,(S3.o.mono MV).trans (s4.mono Pv),by rw[Yt];omega,jS _,jS _,h4.mono Ω,Cm.new,DB.new⟩;clear s4 h4 C3 I3 S3 HW
 have cZ:Hd (n<=40):=zh (by
  have M:=HB.o;unfold Ig at M;rw[kh]at M;have h2:=kQ M.1;rw[HN.o]at h2
  exact h2)
 go_wp2_with fail
 go_loopg [6] n (λk i wr=>∃(j q t lo:Nat) (N:AC) (bl:Ad) (ax:List Bc) (D:Int->Option Nat) (Q:Nat->Int->Bool),i=Ax .i64 (j:Nat)/\j+k=n/\DT w wr bl c A b bd bz ps j q t lo N ax D Q)
 case atStart=>exact⟨0,50000,0,0,N,c4,[],_,_,rfl,Ω,T4.o⟩
 case round=>
  clear T4;obtain⟨j,q,t,lo,N1,bl,ax,D,Q,rfl,ay,tt⟩:=hrel;have T:=zh tt;clear tt
  by_cases h0:gk=0
  ·subst h0;obtain rfl:j=n:=Ω;have d1:J ((j:Int)<(j:Int))=V:=Δ;have c1:=zh (XZ wr (X.o.1.bg (T.o.below.block _ X.o.2 Δ)) (jY X.o.2 T.o.below.size));clear ay;go_wp2_with fail;refine c1.o.mono ?_;rintro e w9 ⟨rfl,g9⟩;have G9:=zh (Ae T.o.below g9);clear g9;go_wp2_with fail;go_ret;exact⟨rfl,G9.o⟩
  have bX:j<n:=Ω;obtain⟨x,hx⟩:∃x,l[j]?=some x:=⟨_,jW (by rw[HN.o];exact bX)⟩;have bm:=kX hx
  have az:Em x=Z:=by
   have M:=HB.o;unfold Ig at M;rw[kh,lQ]at M;exact M.2 x bm
  have bn:=HA.o x bm;have d1:J ((j:Int)<(n:Int))=Z:=jT Ω;have d2:J (j<n)=Z:=jT bX;have f:Hd (gk - 1<gk/\j+1+(gk - 1)=n/\j<40):=zh (Ψ cZ.o);obtain⟨lb,o,rfl,aA⟩:=HR.o.aZ Ω
  have bY:Hd (∀W,w.grownBy W none->W.cell? ⟨lb,o+j*4,none⟩=some (Ax .i64 x.k)/\W.cell? ⟨lb,o+j*4+1,none⟩=some (Ax .i64 x.n)/\W.cell? ⟨lb,o+j*4+2,none⟩=some (Y x.aN)/\W.cell? ⟨lb,o+j*4+3,none⟩=some (Y x.val)):=zh λW g=>by
   obtain⟨e0,e1,e2,e3⟩:=Qw l j x hx;have R:=aA _ _ e0;have B:=aA _ _ e1;have c2:=aA _ _ e2;have L:=aA _ _ e3;simp only[<-lw]at B c2 L;exact⟨g.cell R Δ,g.cell B Δ,g.cell c2 Δ,g.cell L Δ⟩
  obtain⟨xk,xn,aB,G⟩:=x;dsimp only at bY bn;unfold Em at az;rw[kh]at az;have HS:Hd (aB.size<=100/\G.size<=400):=zh ⟨kQ az.1,kQ az.2⟩;have c6:=zh bn;clear aA hx bm az bn ay h0;obtain⟨dZ,c7,b3,H⟩:=Aq wr 48 [Ax .i64 0,Ax .i64 0,Y ⟨#[]⟩,Y ⟨#[]⟩];obtain⟨b4,c8,I,b5⟩:=EZ H (Ax .i64 xk) (Ax .i64 xn) (Y aB) (Y G);have b6:wr.grownBy b4 none:=Ac.grown b3 b5 (λi e=>by rw[e];exact jS _);have S:=zh (T.o.grown b6);have b7:=zh I;have s0:=H.m 0;have f0:=H.v 0;have y0:=I.m 0;have s1:=H.m 1;have f1:=H.v 1;have y1:=I.m 1;have s2:=H.m 2;have f2:=H.v 2;have y2:=I.m 2;have s3:=H.m 3;have f3:=H.v 3;have y3:=I.m 3;obtain⟨z0,z1,z2,z3⟩:=bY.o wr T.o.below;obtain⟨k,hk,dk,dl⟩:=ji xn;have ak:(((k:Nat):Int)%256)=(k:Int):=Ω;obtain⟨K,dn⟩:=Ag (aB.size%20)
  have dq:Int.tmod (aB.size:Int) 20=((K:Nat):Int):=by rw[ln Ω];omega
  have ca:K<=20:=Ω;obtain⟨ds,dt,al⟩:=TI b4 k hk;have aZ:=zh al;have C:=zh (E ca hk);have cb:=zh (XI xk xn aB G c6.o.1 ds);have y0:=(I.grown al.1 Δ).m 0;have y1:=(I.grown al.1 Δ).m 1;have y2:=(I.grown al.1 Δ).m 2;have y3:=(I.grown al.1 Δ).m 3;clear b3 H b5 I b6 T al dn ca hk;go_wp2_with fail;refine cb.o.mono ?_;rintro e br ⟨rfl,a0⟩;have ag:=zh (aZ.o.grown a0);have ad:=zh (Ae aZ.o.1 a0);have am:=zh (b7.o.grown (Ae aZ.o.1 a0) Δ);clear a0 aZ b7 cb y0 y1 y2 y3 z0 z1 z2 z3 c8 c7 dt d1 d2 dk dl ak dq s0 s1 s2 s3 f0 f1 f2 f3;obtain⟨a,bs⟩:=Ag (KQ xk)
  have ak:a<10:=by
   rw[<-bs];unfold KQ;omega
  rw[bs];clear bs
  have wj:wrap64 ((j:Int)+1)=((j+1:Nat):Int):=by have:=f.o;rw[O _ Ω];omega
  have WJ:=zh wj;clear wj;obtain⟨g1,cd⟩:=Ag (gk - 1);rw[cd]at f;clear cd
  rcases(show a=4\/a=9\/a<4\/(a≠4/\a≠9/\¬a<4) by omega)with R|R|R|R
  ·skip
   have e4:((a:Int)==4)=Z:=Γ;clear R ak;have ce:=zh (dO S.o (Ψ f.o) C.o.2 br _ _ ag.o);go_wp2_with fail;refine ce.o.mono ?_;rintro e bt ⟨rfl,c2,N2,m2⟩;have aG:=zh (Sj m2 (Ψ f.o) C.o.2);clear m2 ce;go_wp2_with fail;refine aG.o.mono ?_;rintro e cf ⟨⟨v,rfl⟩,t2,_⟩;have bu:=zh t2;clear t2 aG;have u:=zh (Kw bu.o.wh);go_wp2_with fail;refine u.o.mono ?_;rintro e ba ⟨rfl,y⟩;have r:=zh (bu.o.grown y);have s:=zh (r.o.fk (Ψ f.o));clear y bu u;go_wp2_with fail;refine s.o.mono ?_;rintro e bb ⟨⟨a1,a2,a3,a4,a5,a6,a7,a8,rfl⟩,z⟩;have U:=zh (r.o.grown z);have rs:=JA;clear z r s;go_wp2_with fail
   go_roundg g1
   case measure=>exact f.o.1
   exact⟨j+1,q+120000,t,lo,_,_,_,_,_,by rw[WJ.o],f.o.2.1,U.o⟩
  ·skip
   have e4:((a:Int)==4)=V:=Γ;have e9:((a:Int)==9)=Z:=Γ;clear R ak;have F:=zh (S.o.grown ad.o);have cg:=zh (gJ F.o (Ψ f.o) C.o.1);clear S am ag ad;go_wp2_with fail;refine cg.o.mono ?_;rintro e bt ⟨va,vc,du,m,c2,D2,Q2,rfl,hm,st,cm,wh,wl,dr,rd,ro,ms,ct⟩;dsimp only;have cu:=zh (Z0 cm F.o.eg st wh rd ro (by have:=F.o.tm;have:=f.o;omega) C.o.1);have HX:=zh (E hm (E wl (E dr (E ms ct))));have bc:=zh (E F.o.q (E F.o.tm F.o.lo));have HM:Hd (m<=256):=zh (Ψ (OT D));clear hm st cm wh wl dr rd ro ms ct cg F;go_wp2_with fail;refine cu.o.mono ?_;rintro e cf ⟨rfl,L,N3,dg⟩;have cw:=zh dg;clear dg cu;go_wp2_with fail;obtain⟨wq,dA⟩:∃x,wr=x:=⟨_,rfl⟩;clear dA
   go_loopg [13] m (λk' i W=>∃(p:Nat) (N':AC) (dD:Ad),i=Ax .i64 p/\p+k'=m/\DG w W dD c A b bd bz ps (q+120000+120000*p) (t+K) lo N' ax D2 Q2 va m vc du)
   case atStart=>exact⟨0,N3,L,rfl,Ω,cw.o⟩
   case round=>
    clear cw;obtain⟨p,N4,c4,rfl,ay,dg⟩:=hrel;have ah:=zh dg;clear dg
    by_cases h0:gk=0
    ·subst h0;obtain rfl:p=m:=Ω;have p1:J ((p:Int)<(p:Int))=V:=Δ;have ap:Hd (DT w wr c4 c A b bd bz ps (j+1) (q+120000+120000*p) (t+K) lo N4 ax D2 Q2):=zh ⟨ah.o.ca,ah.o.eg,ah.o.st,by have:=bc.o;have:=HX.o.2.2.2.2;omega,Ψ bc.o,by have:=bc.o;have:=C.o;omega,ah.o.wh,HX.o.2.1,HX.o.2.2.1⟩;clear ah ay;have u:=zh (Kw ap.o.wh);go_wp2_with fail;refine u.o.mono ?_;rintro e ba ⟨rfl,y⟩;have r:=zh (ap.o.grown y);have s:=zh (r.o.fk (Ψ f.o));clear y ap u;go_wp2_with fail;refine s.o.mono ?_;rintro e bb ⟨⟨a1,a2,a3,a4,a5,a6,a7,a8,rfl⟩,z⟩;have U:=zh (r.o.grown z);have rs:=JA;clear z r s;go_wp2_with fail
     go_roundg g1
     case measure=>exact f.o.1
     exact⟨j+1,q+120000+120000*p,t+K,lo,_,_,_,_,_,by rw[WJ.o],f.o.2.1,U.o⟩
    have cx:p<m:=Ω;obtain⟨x,hx⟩:∃x,du[p]?=some x:=⟨_,jW (by rw[HX.o.1];exact cx)⟩;obtain⟨kq,cy,cz,bx⟩:=HX.o.2.2.2.1 x (kX hx);obtain⟨db,d4,dF,cA⟩:=ah.o.rd.aZ Ω;have y0:=cA _ _ (OL hx).1;rw[cz]at y0;have p1:J ((p:Int)<(m:Int))=Z:=jT Ω;have p2:J (p<m)=Z:=jT cx;obtain⟨cB,dG,cC⟩:=TI wr kq cy
    have cD:q+120000+120000*p<=1073300000:=by
     have M:=bc.o.1;have h2:=f.o.2.2;have h3:=HM.o;clear p1 p2 y0 bx;omega
    have HG:=zh (dm ah.o cD bx cB _ _ cC);have cF:Hd (gk - 1<gk/\p+1+(gk - 1)=m):=zh Ω;have d5:(((kq:Nat):Int)%256)=(kq:Int):=Ω
    have cG:wrap64 ((p:Int)+1)=((p+1:Nat):Int):=by have:=HM.o;rw[O _ Ω];omega
    have dI:=zh cG;subst dF;clear cA cz bx hx ay h0 cC cG cy cD;go_wp2_with fail;refine HG.o.mono ?_;rintro e d6 ⟨rfl,c5,N5,dg⟩;have dL:=zh dg;clear dg HG dG;dsimp only;go_wp2_with fail
    go_roundg (gk - 1)
    case measure=>exact cF.o.1
    have cH:=dL.o;rw[show q+120000+120000*p+120000=q+120000+120000*(p+1) by omega]at cH;exact⟨p+1,N5,c5,by rw[dI.o],cF.o.2,cH⟩
  ·skip
   have e4:((a:Int)==4)=V:=Γ;have e9:((a:Int)==9)=V:=Γ
   go_upto_if 62 with fail
   go_step
   go_step
   go_cut [102] (λdM W=>dM=.bool Z/\W=br)
   case first=>
    clear S ag am ad
    rcases(show a=0\/(0<a/\a<4) by omega)with B|⟨B,c2⟩
    ·skip
     subst B;go_wp2_with fail
     go_meet
     exact⟨rfl,rfl⟩
    rcases(show a=1\/(1<a/\a<4) by omega)with B|⟨L,c2⟩
    ·skip
     subst B;go_wp2_with fail
     go_meet
     exact⟨rfl,rfl⟩
    rcases(show a=2\/(2<a/\a<4) by omega)with B|⟨L,c2⟩
    ·skip
     subst B;go_wp2_with fail
     go_meet
     exact⟨rfl,rfl⟩
    obtain B:a=3:=Ω
    skip
    subst B;go_wp2_with fail
    go_meet
    exact⟨rfl,rfl⟩
   case rest=>
    obtain⟨rfl,rfl⟩:=hcut;clear e4 e9 R ak;have y3:=am.o.m 3
    by_cases hv:200<G.size
    ·skip
     have p1:J ((G.size:Int)>200)=Z:=jT Ω;have p2:J (200<G.size)=Z:=jT hv;have dN:=zh (S.o.grown ad.o).below;clear S ag am ad hv;go_wp2_with fail;go_ret;exact⟨rfl,dN.o⟩
    have p1:J ((G.size:Int)>200)=V:=jV Ω;have p2:J (200<G.size)=V:=jV hv;obtain⟨cv,bt,dP,cI,cJ⟩:=CN.mk ad.o G Ω;have cK:=zh cI;have cL:=zh (ag.o.grown cJ);have cM:=zh (ez S.o (Ψ f.o) C.o.2 G Ω C.o.1 bt _ _ _ _ cL.o cK.o);clear cI cJ ag am hv;go_wp2_with fail;refine cM.o.mono ?_;rintro e cf ⟨rfl,c2,N2,cN,d8,m2,dp⟩;have aG:=zh (Sj m2 (Ψ f.o) C.o.2);have dQ:=zh dp;clear m2 dp cM dP y3 p1 p2 cL cK;go_wp2_with fail;refine aG.o.mono ?_;rintro e d9 ⟨⟨v,rfl⟩,t2,hq⟩;have ai:=zh t2;have HQ:=zh hq;clear t2 hq aG
    by_cases h0:K=0
    ·skip
     subst h0;have u:=zh (Kw ai.o.wh);go_wp2_with fail;refine u.o.mono ?_;rintro e ba ⟨rfl,y⟩;have r:=zh (ai.o.grown y);have s:=zh (r.o.fk (Ψ f.o));clear y ai u;go_wp2_with fail;refine s.o.mono ?_;rintro e bb ⟨⟨a1,a2,a3,a4,a5,a6,a7,a8,rfl⟩,z⟩;have U:=zh (r.o.grown z);have rs:=JA;clear z r s;go_wp2_with fail
     go_roundg g1
     case measure=>exact f.o.1
     exact⟨j+1,q+120000,t,cN,_,_,_,_,_,by rw[WJ.o],f.o.2.1,U.o⟩
    have p1:J ((K:Int)>0)=Z:=jT Ω;have p2:J (0<K)=Z:=jT Ω;have s:=zh (ai.o.fk (Ψ f.o));have rs:=JA
    have wt:wrap64 ((t:Int)+(K:Int))=((t+K:Nat):Int):=by have:=ai.o.tm;have:=C.o;have:=f.o;rw[O _ Ω];omega
    go_wp2_with fail;refine s.o.mono ?_;rintro e eb ⟨⟨a1,a2,a3,a4,a5,a6,a7,a8,rfl⟩,cQ⟩;have ap:=zh (ai.o.grown cQ);have cR:=zh (aS ap.o C.o.2 (Ψ f.o) C.o.1 Ω (dQ.o Ω) HQ.o);clear cQ ai s h0;go_wp2_with fail;refine cR.o.mono ?_;rintro e cB ⟨rfl,Q4,t3⟩;have bA:=zh t3;clear t3 cR ap rs;have u:=zh (Kw bA.o.wh);go_wp2_with fail;refine u.o.mono ?_;rintro e ba ⟨rfl,y⟩;have r:=zh (bA.o.grown y);have s:=zh (r.o.fk (Ψ f.o));clear y bA u;go_wp2_with fail;refine s.o.mono ?_;rintro e bb ⟨⟨a1,a2,a3,a4,a5,a6,a7,a8,rfl⟩,z⟩;have U:=zh (r.o.grown z);have rs:=JA;clear z r s;go_wp2_with fail
    go_roundg g1
    case measure=>exact f.o.1
    exact⟨j+1,q+120000,t,cN,_,_,_,_,_,by rw[WJ.o],f.o.2.1,U.o⟩
  ·skip
   obtain⟨c4,c9,L⟩:=R;have e4:((a:Int)==4)=V:=Γ;have e9:((a:Int)==9)=V:=Γ;have e0:((a:Int)==0)=V:=Γ;have e1:((a:Int)==1)=V:=Γ;have e2:((a:Int)==2)=V:=Γ;have e3:((a:Int)==3)=V:=Γ;clear c4 c9 L ak
   have F:Hd (DT w br bl c A b bd bz ps (j+1) q t lo N1 ax D Q):=zh (by
    have h:=S.o.grown ad.o;have M:=h.q;have h2:=h.lo;have h3:=h.tm
    exact⟨h.ca,h.eg,h.st,Ω,Ω,Ω,h.wh,h.wl,h.du⟩)
   clear S ag am ad;have u:=zh (Kw F.o.wh);go_wp2_with fail;refine u.o.mono ?_;rintro e ba ⟨rfl,y⟩;have r:=zh (F.o.grown y);have s:=zh (r.o.fk (Ψ f.o));clear y F u;go_wp2_with fail;refine s.o.mono ?_;rintro e bb ⟨⟨a1,a2,a3,a4,a5,a6,a7,a8,rfl⟩,z⟩;have U:=zh (r.o.grown z);have rs:=JA;clear z r s;go_wp2_with fail
   go_roundg g1
   case measure=>exact f.o.1
   exact⟨j+1,q,t,lo,_,_,_,_,_,by rw[WJ.o],f.o.2.1,U.o⟩
end
