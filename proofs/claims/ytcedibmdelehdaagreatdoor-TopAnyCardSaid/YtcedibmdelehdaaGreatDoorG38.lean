/- Lemmas. -/
import Derived.Test.YtcedibmdelehdaaGreatDoorG37
import Derived.Deep.DeepCutAuto
namespace Go.Proofs.YtcedibmdelehdaaGreatDoor
set_option maxRecDepth 100000
set_option maxHeartbeats 32000000
open Go.Value renaming int->O,pointer->AA,slice->A2,ownBlock->BC,tuple->B7,bool->CB,agg->CE
open Go.IntKind renaming i64->V,wrap_u64->BX,u64->BZ
open Option renaming none->Ax,some->A7
open Go.Proofs.Tryz renaming prog->A3,ntmps182->C4,ntmps119->C5,ntmps112->C6,func236->C7,func182->C8,func119->C9,func112->DA,f119->DG
open Go.Ending renaming returned->A4
open Decidable renaming decide->A5
open Go renaming World->A6,Value->Bs,Calls->BE,bodyPost_ret->B0,results_tmp2->CK,wpQuiet_nil->CR,callsIn_wide->C1,TypeId->C3
open And renaming intro->Bd
open Bool renaming false->Bk,true->Bn
open Go.IntWalk renaming wrap64_in->BA
open Go.NoPanic renaming normal->BD
open Go.RowKit renaming wrap64->BR
open Go.World renaming ownsRow_nil->CA,grownBy_alloc->CX
open Go.Fence renaming wide->CL
open Go.Instr renaming index->CV
open Or renaming inr->C0,inl->C2
variable{f g w:A6}{h a c d i q r s t:Nat}{E:Int->List Nat}{J p x:Bs}{Y o:Ae}{Z:Pl}{b:List Nat}{e:Int}{j z:List Bs}{k:Program}{l:C3}{n:BO}
section
open Go.RowKit
attribute [local go_sem ↓] Go.wp_at_zero Go.wp_at_succ
theorem An(w:A6)(T:C3)(b:List Bs):∃a,w.alloc (.cells b.toArray T)=a/\w.grownBy a Ax/\Aa a w.heap.size T b:=⟨_,rfl,CX _ _ Ax,Aa.new _ _ _⟩
theorem AP(w:A6):∃a,w.drew=a/\w.grownBy a Ax:=⟨_,rfl,Bm w⟩
theorem Za(t:Bf f Y c a Z h (n h).length J b)(u:Cx Z h b n E)(hD:AF f Y a Z.ss Z.n d E)(hC:AD f Y)(o:Z.aY)(hl:h<=1099511627776)
  (q i:Nat)(h1:1<=q)(h2:q<=h)(h3:h<q+Z.rg)(h4:i*(Z.n - 19)<(n q).length):
  BE A3 182 #[AA (A7 ⟨c,0,Ax⟩),O V q,O V i,CB Bn] f λe w'=>∃l m,e=A4 (B7 #[A2 l (Ee (Z.n - 19) (n q) i).length m,O V 0])/\
   w'.ownsRow f.heap.size 5 1 (A2 l (Ee (Z.n - 19) (n q) i).length m) (Ee (Z.n - 19) (n q) i).length (Ar (Ee (Z.n - 19) (n q) i))/\f.grownBy w' Ax:=by
 have aI:=u.iz o h1 h2 h3 h4;have bg:=o.n0;have bh:=o.n1;have hM:0<Z.n - 19:=Ω;have aJ:Z.aA=Z.rs*(Z.n - 19):=rfl
 have hi:i<Z.rs:=by
  have h5:=u.dg q;rw[aJ]at h5;exact Nat.lt_of_mul_lt_mul_right (jJ h4 h5)
 have bj:=u.dg h;have bk:Z.aA<=32*493:=ln o.cQ Ω
 have aK:(Ee (Z.n - 19) (n q) i).length<=Z.n - 19:=by rw[SQ];omega
 have aL:∀x∈Ee (Z.n - 19) (n q) i,x<256:=λx hx=>u.bB q x (mI (lD hx))
 have bm:=u.fs o;have aM:=u.dS;have bn:=Lo o (q:=q) hi;have bo:=Z.eI;have bp:=o.eh;have bq:=o.dE;have br:=o.fJ
 have aN:=λ(W:A6) (hW:AF W Y a Z.ss Z.n d E) (bs:AD W Y) (T)=>SO a Z.ss Z.n d E ((Z.region+BY Z q i:Nat):Int) 3 (BY Z q i) q (Ee (Z.n - 19) (n q) i) W Y hW bs Ω (by exact_mod_cast (show Z.region+BY Z q i<Z.ss by omega)) T Ω Ω Ω Ω aK aL
 have aO:=λ(W:A6) (hW:Bf W Y c a Z h (n h).length J b)=>QL hW o q i hi
 obtain⟨pa,pc,rfl,aP⟩:=t.aN;have bv:=zh aP;have an:=zh aN;have aQ:=zh aO;have H:=zh t;have HD:=zh hD;have HC:=zh hC;obtain⟨B,C⟩:=Af (Ee (Z.n - 19) (n q) i);obtain⟨S,U⟩:=Af (BY Z q i);obtain⟨p,F⟩:=Af ((n h).length);obtain⟨M,aa⟩:=Af (Z.n - 19);obtain⟨RG,ab⟩:=Af Z.region;rw[C,U,F,aa,ab]at aI;rw[C,U,ab]at an;rw[U,F]at aQ;rw[F]at H;rw[C,aa]at aK;rw[C]
 have bw:b.length<=p:=by rw[aM,F];exact Nat.mod_le _ _
 have aT:BR ((RG:Int)+(S:Int))=((RG+S:Nat):Int):=Dm rfl Ω;have aU:=zh (Ba aT);have ac:Hd (p<=100000/\M<=1000/\77<=M/\b.length<=p/\b.length<M):=zh Ω;have aV:=zh aa;have ap:=zh ab;clear t u hD hC o aN aO aP C U F aM aJ bk bj bn bo bp bq br aL bg bh bm hM hi h4 bw aa ab aT
 have hz:((M:Int)==0)=Bk:=by have:=ac.o;simp;omega
 have bS:¬M=0:=by have:=ac.o;omega
 have aW:Hd (0<b.length->∃A:Nat,V.wrap ((p:Int) - 1)=(A:Int)/\BR ((p:Int) - 1)=(A:Int)/\BR ((A:Int)/(M:Int))=((p - 1)/M:Nat)):=zh (λhp=>by
  have h5:=ac.o
  have h6:BR ((p:Int) - 1)=((p - 1:Nat):Int):=by rw[BA _ Ω];omega
  refine⟨p - 1,Ba h6,h6,?_⟩;rw[<-nV]
  exact Ed (jM (mN _ _) Ω))
 rcases aI with⟨v,r,G,e4⟩|⟨v,r⟩
 ·subst v;subst e4;obtain⟨A,bz,a2,a3⟩:=aW.o r;rw[<-G]at a3;have b1:((q:Int)==(q:Int))=Bn:=Δ;have b2:A5 ((0:Int)<(b.length:Int))=Bn:=jG Ω;have a0:A5 (0<b.length)=Bn:=jG r;have b3:((i:Int)==(i:Int))=Bn:=Δ;obtain⟨_,_,_,_,_,ad,_,a1,bC⟩:=H.o.cells;rw[aV.o]at ad;clear G
  go_enter C8,C4
  go_wp2_with fail
  go_quiet (fail)
  clear ad a1;go_wp2_with fail;refine(Ek b pa pc _ (Ψ ac.o) (bv.o.u (AZ _ nq Ax) Δ)).mono ?_;rintro e w2 ⟨a',c',rfl,o2,g2⟩;go_wp2_with fail;refine B0 (CK rfl _ _ _) rfl ⟨a',c',rfl,?_,Ab (AZ f nq Ax) g2⟩;have bG:(f.drewN nq).heap.size=f.heap.size:=Δ
  rwa[bG]at o2
 ·have bH:=zh v;have bI:=zh r;clear v r
  go_enter C8,C4
  go_upto_region 1 with fail
  go_cut [43] (λbJ I=>bJ=CB Bk/\f.grownBy I Ax)
  case first=>
   obtain⟨_,_,_,_,_,ad,bU,a1,bC⟩:=H.o.cells;rw[aV.o]at ad
   by_cases v:q=h
   ·subst v;have b1:((q:Int)==(q:Int))=Bn:=Δ
    by_cases r:0<b.length
    ·have b2:A5 ((0:Int)<(b.length:Int))=Bn:=jG Ω;have a0:A5 (0<b.length)=Bn:=jG r;have G:=bH.o rfl r;obtain⟨A,bz,a2,a3⟩:=aW.o r;generalize(p - 1)/M=D at*
     have b3:((i:Int)==(D:Int))=Bk:=by simp;exact_mod_cast G
     clear G
     go_quiet (fail)
     go_wp2_with fail
     go_meet
     exact⟨rfl,AZ _ nq Ax⟩
    ·have b2:A5 ((0:Int)<(b.length:Int))=Bk:=jH Ω;have a0:A5 (0<b.length)=Bk:=jH r
     go_quiet (fail)
     go_wp2_with fail
     go_meet
     exact⟨rfl,AZ _ nq Ax⟩
   ·have b1:((q:Int)==(h:Int))=Bk:=by simp;exact_mod_cast v
    go_quiet (fail)
    go_wp2_with fail
    go_meet
    exact⟨rfl,AZ _ nq Ax⟩
  case rest=>
  obtain⟨rfl,g1⟩:=hcut;have G1:=zh g1;clear g1;go_wp2_with fail;refine(aQ.o _ (H.o.u G1.o)).mono ?_;rintro e w2 ⟨rfl,g2⟩;have G2:=zh (Ab G1.o g2);clear g2 G1;go_wp2_with fail
  go_upto_region 4 with fail
  go_cut [11,12] (λbL bM I=>bM=O V 0/\∃X l m,bL=AA (A7 ⟨X,0,Ax⟩)/\Aa I X 174 [O V 3,O V S,O V q,A2 l B.length m]/\I.ownsRow f.heap.size 5 1 (A2 l B.length m) B.length (Ar B)/\f.grownBy I Ax)
  case first=>
   refine AS (λW=>W.cell? ⟨c,0,Ax⟩=A7 (AA (A7 ⟨a,0,Ax⟩))/\W.cell? ⟨c,10,Ax⟩=A7 (O V RG)) (.bN [0,1,2,3,4,5,6,7,8,9,10,11] 12 Bk (.am [] [13,14,15] 16 Bn (.am [] [] 17 Bk (.am [] [] 18 Bk (.nil)))) 16 Bn (.am [] [] 12 Bk (.am [] [13,14,15] 17 Bk (.am [] [] 18 Bk (.nil))))) Φ Φ ?_;obtain⟨w3,a5,g3⟩:=AP w2;rw[a5];have w:=zh (Ab G2.o g3);have L:=zh (H.o.u w.o);clear a5 g3;have T:=bI.o;refine DK ⟨L.o.cells.1,by rw[<-ap.o];exact L.o.cells.2.2.2.1⟩ ?_
   iterate 12 ((apply AC rfl Θ;(· intro wS N;(try have N:=N rfl);(try dsimp only at N);(try(have c0:=N.1;have bX:=N.2));go_simp;(try with_reducible rfl)));refine Al ?_)
   refine Aj ⟨?_,?_⟩
   ·refine Am ?_;intro K k;rw[aU.o];refine(an.o w3 (HD.o.u w.o) (HC.o.u w.o) T).mono ?_;rintro e w4 ⟨⟨l,m,rfl,o4⟩,q4⟩;have y:=Ab w.o q4;have hX:f.heap.size<=w4.heap.size:=y.size;dsimp only;refine Aq k ?_;clear k K;refine Ap ?_
    iterate 3 refine Av ?_
    refine Aj ?_;refine Am ?_;intro K k;obtain⟨w5,a8,s,g⟩:=An w4 174 [O V 0,O V 0,O V 0,A2 Ax 0 0];rw[a8];have z:=AV (Cf o4 w.o.size) s;have P:=Ab y s;clear a8 o4 y;refine k _ _ ⟨_,λ_ t=>t,λ_=>⟨(L.o.u (Ab q4 s)).cells.1,by rw[<-ap.o];exact(L.o.u (Ab q4 s)).cells.2.2.2.1⟩,?_⟩;clear k K;refine Al ?_;refine Ap ?_;refine Aj ?_;have f0:=g.v 0;have f1:=g.v 1;have f2:=g.v 2;have f3:=g.v 3;have y0:=g.m 0;have y1:=g.m 1;have y2:=g.m 2;have y3:=g.m 3;refine Am ?_;intro K k;obtain⟨w6,Q,b6,R⟩:=Fm g (O V 3) (O V S) (O V q) (A2 l B.length m);rw[Q];clear f0 f1 f2 f3 y0 y1 y2 y3 Q;refine Aq k ?_;clear k K;refine Ap ?_;refine Aj ?_;refine Am ?_;intro K k;refine Aq k ?_;clear k K;refine AG (BD ?_);go_wp2_with fail
    go_meet
    exact⟨rfl,_,l,m,rfl,b6,R.aT z (λbP hb e=>by subst e;exact Bv g z Ξ hb),Ac.u P R (λj e=>by subst e;exact hX)⟩
   ·refine Am ?_;intro K k;obtain⟨w4,a9,y,b4⟩:=An w3 174 [O V 0,O V 0,O V 0,A2 Ax 0 0];rw[a9];have hX:f.heap.size<=w3.heap.size:=w.o.size;have G4:=zh (Ab w.o y);have H4:=zh (L.o.u y);clear a9 y;refine k _ _ ⟨_,λ_ t=>t,λ_=>⟨H4.o.cells.1,by rw[<-ap.o];exact H4.o.cells.2.2.2.1⟩,?_⟩;clear k K;refine Al ?_;refine Ap ?_;refine Aj ?_;refine Am ?_;intro K k;rw[aU.o];refine(an.o w4 (HD.o.u G4.o) (HC.o.u G4.o) T).mono ?_;rintro e w5 ⟨⟨l,m,rfl,bc⟩,s⟩;have g:=b4.u s Δ;have z:=Cf bc G4.o.size;have P:=Ab G4.o s;clear s b4 bc;dsimp only;refine Aq k ?_;clear k K;refine Ap ?_
    iterate 3 refine Av ?_
    refine Aj ?_;have f0:=g.v 0;have f1:=g.v 1;have f2:=g.v 2;have f3:=g.v 3;have y0:=g.m 0;have y1:=g.m 1;have y2:=g.m 2;have y3:=g.m 3;refine Am ?_;intro K k;obtain⟨w6,Q,b6,R⟩:=Fm g (O V 3) (O V S) (O V q) (A2 l B.length m);rw[Q];clear f0 f1 f2 f3 y0 y1 y2 y3 Q;refine Aq k ?_;clear k K;refine Ap ?_;refine Aj ?_;refine Am ?_;intro K k;refine Aq k ?_;clear k K;refine AG (BD ?_);go_wp2_with fail
    go_meet
    exact⟨rfl,_,l,m,rfl,b6,R.aT z (λbP hb e=>by subst e;exact Bv g z Ξ hb),Ac.u P R (λj e=>by subst e;exact hX)⟩
  case rest=>
  obtain⟨rfl,X,l,m,rfl,g,z,P⟩:=hcut;have b1:((q:Int)!=(q:Int))=Bk:=Δ;have y2:=g.m 2;have y3:=g.m 3;go_wp2_with fail;refine B0 (CK rfl _ _ _) rfl ⟨l,m,rfl,z,P⟩
end
section
open Go.RowKit Go.Shelf
attribute [local go_sem] Oper.semAt_some
structure He where
 q:Nat
 a:Nat
 n:Nat
 s:Nat
 f:Nat
abbrev Ur(x:He):Array Bs:=#[CE #[O V x.q,O V x.a,O V x.n,O V x.s,O V x.f]]
def dn(l:List He):Nat:=(l.map He.n).sum
theorem Ni(l:List He)(x:He):dn (l++[x])=dn l+x.n:=by simp[dn]
def iy(M q a n:Nat)(b:List He)(x:He):Prop:=dn b<n/\x=⟨q,a+dn b,min (n - dn b) (M - (a+dn b)%M),(a+dn b)/M,(a+dn b)%M⟩
def jq(B a g M:Nat)(c:Ae)(X:A6):Prop:=X.cell? ⟨a,0,Ax⟩=A7 (AA (A7 ⟨g,0,Ax⟩))/\X.cell? ⟨g,17,Ax⟩=A7 (O V M)/\c B=197
def jt(B q a n:Nat)(_:Ae)(X:A6):Prop:=Aa X B 128 [O V q,O V a,O V n]
theorem FM{j m:Bs}(n:Aa f h l [J,p,x,j,m])(b c d g i:Bs):∃a,(((((f.setCell ⟨h,0,Ax⟩ b).setCell ⟨h,1,Ax⟩ c).setCell ⟨h,2,Ax⟩ d).setCell ⟨h,3,Ax⟩ g).setCell ⟨h,4,Ax⟩ i)=a/\Aa a h l [b,c,d,g,i]/\Ac (λk=>k=h) f a:=
 ⟨_,rfl,((((n.setCell 0 _).setCell 1 _).setCell 2 _).setCell 3 _).setCell 4 _,((((Ac.of (Ao _ _ _) (λk e=>by cases e;rfl)).trans (Ac.of (Ao _ _ _) (λk e=>by cases e;rfl))).trans (Ac.of (Ao _ _ _) (λk e=>by cases e;rfl))).trans (Ac.of (Ao _ _ _) (λk e=>by cases e;rfl))).trans (Ac.of (Ao _ _ _) (λk e=>by cases e;rfl))⟩
theorem ZE{A:Nat}(b:h+a=A):((h+(a+c):Nat):Int)=(A:Int)+(c:Int):=Ω
theorem ZP{R:Nat}(b:a - c=R)(d:h<=R):((a - (c+h):Nat):Int)=(R:Int) - (h:Int):=Ω
def Np(B:Nat)(w:A6):Nat:=match w.cell? ⟨B,2,Ax⟩with
 |some v=>(intOf v).toNat
 |none=>0
theorem Wk(fn B Lb g M q a n:Nat)(hn:1<=fn)(hM:0<M)(bQ:M<=1000)(ha:a+n<=100000)(C:Nat->Prop)(be:¬C 0)(bf:¬C 197):
  Kf CL fn A3 236 #[AA (A7 ⟨B,0,Ax⟩),AA (A7 ⟨Lb,0,Ax⟩)] Ur C (λ(_:Unit)=>jq B Lb g M) (λd x _ _ _=>iy M q a n d x) (λxs=>dn xs=n) (n+1) (jt B q a n):=by
 intro l J Jx W m0 bh hJ aO bU E hY h0 hB;have HA:=zh E;have HJ:=zh hJ;have bi:=zh aO;have HY:=zh hY;have H0:=zh h0;have HB:=zh hB;have hz:((M:Int)==0)=Bk:=Γ;have bW:¬M=0:=Ω;clear E hJ aO hY h0 hB;refine callsIn_of_wp C7 rfl ki ?_ rfl;simp only[Tryz.ntmps236,kB,jT,kA,Nat.reduceAdd,Nat.reduceSub,kf,kh,kJ,kr,jX,ku]
 gi_wp2
 gi_loopw [] (λwr=>∃c d,J () c d wr/\Aa wr B 128 [O V q,O V (a+dn d:Nat),O V (n - dn d:Nat)]/\dn d<=n/\d.length<=dn d) (λwr=>Np B wr)
 case atStart=>exact⟨bh,[],H0.o,HB.o,ke _,jF _⟩
 case round=>
  obtain⟨c,d,hj,F,m,bm⟩:=hrel;obtain⟨⟨v,w,hc⟩,aT⟩:=HA.o _ _ _ _ hj;obtain⟨i,ao⟩:=Af (dn d);rw[ao]at F m bm;have x0:=F.m 0;have P:=F.m 1;have o:=F.m 2;have ad:=zh hj;have y:=zh F;have bn:=zh hc;have bo:=zh aT;have G:=zh ao;clear hj F hc aT ao
  by_cases he:i=n
  ·subst he;have d0:A5 ((0:Int)<((i - i:Nat):Int))=Bk:=jH Ω;have br:A5 (0<i - i)=Bk:=jH Ω
   gi_wp2
   go_end0
   exact⟨⟨_,rfl⟩,c,C2 ⟨(),d,G.o,ad.o⟩⟩
  ·obtain⟨A,E⟩:=Af (a+i);obtain⟨R,hR⟩:=Af (n - i);rw[E]at P y;rw[hR]at o y;have bs:0<R:=Ω;have bX:A<=100000/\R<=100000:=Ω;have ae:=zh (show a+i=A/\n - i=R from⟨E,hR⟩);clear E hR;have d0:A5 ((0:Int)<(R:Int))=Bn:=jG Ω;have br:A5 (0<R)=Bn:=jG bs;obtain⟨S,hS⟩:=Af (A/M);obtain⟨f,p⟩:=Af (A%M)
   have bY:f<M:=by rw[<-p];exact lA _ hM
   have q1:BR ((A:Int)/(M:Int))=(S:Int):=by rw[<-nV,hS];exact Ed (by rw[<-hS];exact jM (mN _ _) Ω)
   have q3:=Ba q1
   have q2:(A:Int).tmod (M:Int)=(f:Int):=by rw[kP Ω, <-p];rfl
   have bv:(A:Int)%(M:Int)=(f:Int):=by rw[<-p];rfl
   have aW:min (R:Int) ((M - f:Nat):Int)=((min R (M - f):Nat):Int):=Ω;obtain⟨Z,hZ⟩:=Af (min R (M - f));rw[hZ]at aW
   have Q:BR ((M:Int) - (f:Int))=((M - f:Nat):Int):=by rw[BA _ Ω];omega
   have ar:BR ((A:Int)+(Z:Int))=((A+Z:Nat):Int):=Dm rfl Ω
   have ag:BR ((R:Int) - (Z:Int))=((R - Z:Nat):Int):=by rw[BA _ Ω];omega
   have bw:=Ba Q;have au:=zh (show A/M=S/\A%M=f/\min R (M - f)=Z from⟨hS,p,hZ⟩);clear hS p hZ
   gi_wp2
   refine Ku (λW=>Aa W B 128 [O V q,O V A,O V R]/\W.cell? ⟨Lb,0,Ax⟩=A7 (AA (A7 ⟨g,0,Ax⟩))/\W.cell? ⟨g,17,Ax⟩=A7 (O V M)) [([0,1,2,3,4,5,6,7,8,9,10,11,12,13,14,15],16,Bn),([],17,Bk)] (show CL.round=Ax from rfl) Φ Φ ?_;obtain⟨w1,Q,H⟩:=AP wr;rw[Q];clear x0 P o Q;refine FX ⟨y.o.u H Δ,H.cell v Δ,H.cell w Δ⟩ ?_;clear v w
   repeat((apply FV rfl (λ_=>rfl) Θ;(· intro wS b;(try have b:=b rfl);(try dsimp only at b);(try have x0:=b.1.m 0);(try have P:=b.1.m 1);(try have o:=b.1.m 2);(try have v:=b.2.1);(try have w:=b.2.2);go_simp;(try with_reducible rfl)));(refine Al ?_))
   refine FW ?_;refine Dx rfl (λK s=>?_);go_simp;obtain⟨w2,ar,g2,h⟩:=An w1 296 [O V 0,O V 0,O V 0,O V 0,O V 0];rw[ar];have G2:=zh (Ab H g2);have hX:wr.heap.size<=w1.heap.size:=H.size;generalize w1.heap.size=X at*;clear ar H g2;have m:=HA.o _ _ _ _ (HJ.o _ _ _ _ _ ad.o G2.o);refine s _ _ ⟨λ_=>⟨y.o.u G2.o Δ,m.1.1,m.1.2.1⟩,?_⟩;clear s K m;refine Al ?_;refine GF ?_;refine Dx rfl (λK s=>?_);have f0:=h.v 0;have f1:=h.v 1;have z:=h.v 2;have f3:=h.v 3;have f4:=h.v 4;have y0:=h.m 0;have y1:=h.m 1;have k:=h.m 2;have y3:=h.m 3;have D:=h.m 4;go_simp;obtain⟨w3,ag,T,t3⟩:=FM h (O V q) (O V A) (O V R) (O V S) (O V f);rw[ag];have g3:=Ac.u G2.o t3 (λj e=>by rw[e];exact hX);clear f0 f1 z f3 f4 y0 y1 k y3 D ag t3 h G2;refine s _ _ ⟨λp=>(by cases p),?_⟩;clear s K;refine Al ?_;refine Gi (BD ?_);have B3:=zh (y.o.u g3 Δ);have m:=(HA.o _ _ _ _ (HJ.o _ _ _ _ _ ad.o g3)).1;have v:=m.1;have w:=m.2.1;have o:=B3.o.m 2;have k:=T.m 2;have D:=T.m 4;have z:=T.v 2;have P3:=zh T;have G3:=zh g3;clear m T g3
   gi_wp2
   refine Ku (λW=>W.cell? ⟨B,2,Ax⟩=A7 (O V R)/\W.cell? ⟨Lb,0,Ax⟩=A7 (AA (A7 ⟨g,0,Ax⟩))/\W.cell? ⟨g,17,Ax⟩=A7 (O V M)/\W.cell? ⟨X,2,Ax⟩=A7 (O V R)/\W.cell? ⟨X,4,Ax⟩=A7 (O V f)) [([0,1,2,3,4,5,6,7,8,9,10,11],12,Bk)] (show CL.round=Ax from rfl) Φ Φ ?_;obtain⟨w4,a1,t⟩:=AP w3;rw[a1];have bD:=P3.o.m 2;refine FX ⟨t.cell o Δ,t.cell v Δ,t.cell w Δ,t.cell k Δ,t.cell D Δ⟩ ?_;clear o v w k D z bD a1
   repeat((apply FV rfl (λ_=>rfl) Θ;(· intro wS b;(try have b:=b rfl);(try dsimp only at b);(try have o:=b.1);(try have v:=b.2.1);(try have w:=b.2.2.1);(try have k:=b.2.2.2.1);(try have D:=b.2.2.2.2);go_simp;(try with_reducible rfl)));(refine Al ?_))
   refine FW ?_;refine Dx rfl (λK s=>?_);have b4:=P3.o.u t Δ;have z:=b4.v 2;have k:=b4.m 2;go_simp;have u:=b4.setCell 2 (O V Z);simp only[jY,kE]at u;have I:Ac (λj=>j=X) w4 (w4.setCell ⟨X,2,Ax⟩ (O V Z)):=Ac.of (Ao _ _ _) (λj e=>by cases e;rfl);have g5:=Ac.u (Ab G3.o t) I (λj e=>by rw[e];exact hX);generalize w4.setCell ⟨X,2,Ax⟩ (O V Z)=w5 at*;clear z k b4 I t P3 G3 B3;refine s _ _ ⟨λp=>(by cases p),?_⟩;clear s K;refine Al ?_;refine Gi (BD ?_);have bF:=zh (HJ.o _ _ _ _ _ ad.o g5);have a2:c X=0:=bo.o X hX;have XC:=zh a2;have B5:=zh (y.o.u g5 Δ);have P5:=zh u;have L:=au.o;have r:=ae.o;obtain⟨b0,b1,b2,b3,hy,aE⟩:=HY.o () c d ⟨q,A,Z,S,f⟩ w5 bF.o Ω ⟨by rw[G.o];omega,by rw[G.o,r.1,r.2,L.1,L.2.1,L.2.2]⟩;dsimp only[Ur]at hy;have y0:=u.m 0;have y1:=u.m 1;have k:=u.m 2;have y3:=u.m 3;have D:=u.m 4;clear u g5 a2 L r
   gi_wp2
   clear y0 y1 k y3 D hy;refine aE.mono ?_;rintro e W4 ⟨c4,ak,(⟨rfl,⟨⟩,aG⟩|⟨rfl,bI⟩)⟩
   ·have al:=bn.o;have U:=XC.o;have Y:=ak.y B5.o (by rw[al];exact bf);have P6:=ak.y P5.o (by rw[U];exact be)
    have aI:c4 B=197:=by rw[ak.ak _ B5.o.lt];exact al
    have P:=Y.m 1;have o:=Y.m 2;have f1:=Y.v 1;have k:=P6.m 2;obtain⟨W5,aK⟩:=Af (W4.setCell ⟨B,1,Ax⟩ (O V ((A:Int)+(Z:Int))))
    have I:Ac (λj=>j=B) W4 W5:=by rw[<-aK];exact Ac.of (Ao _ _ _) (λj e=>by cases e;rfl)
    have N:=Y.setCell 1 (O V ((A:Int)+(Z:Int)));rw[aK]at N;simp only[jY,kE]at N;have z2:=N.m 2;have z:=N.v 2;have yy:=(I.y P6 (λe=>by rw[e]at U;rw[al]at U;cases U)).m 2;obtain⟨W6,aL⟩:=Af (W5.setCell ⟨B,2,Ax⟩ (O V ((R:Int) - (Z:Int))))
    have t6:Ac (λj=>j=B) W5 W6:=by rw[<-aL];exact Ac.of (Ao _ _ _) (λj e=>by cases e;rfl)
    have b8:=N.setCell 2 (O V ((R:Int) - (Z:Int)));rw[aL]at b8;simp only[jY,kE]at b8;have a8:=(HA.o _ _ _ _ aG).2;have a9:=bi.o _ _ _ _ _ _ aG (AL (C:=Ny) a8 (I.trans t6) (λj e=>by rw[e];exact aI));have J6:=zh a9;have B8:=zh b8;have L:=au.o;have r:=ae.o;have bN:0<Z/\Z<=R:=Ω;have b5:=zh aI;have ba:=b8.m 2
    have bb:Np B W6<Np B wr:=by
     unfold Np;rw[ba,y.o.m 2];simp[intOf];omega
    have bO:=zh bb;have bc:=zh bN;clear aG a9 N b8 I t6 a8 Y P6 aI L r ba bb ak aE al U;clear Q bw q1 q2 bv q3 aW ag
    gi_wp2
    clear P o f1 k z2 z yy aK aL;refine⟨⟨c4,d++[⟨q,A,Z,S,f⟩],J6.o,?_,?_,?_⟩,bO.o⟩
    ·have:=B8.o;have r:=ae.o;rw[Ni,G.o];rw[ZE r.1,ZP r.2 (jM (nU au.o.2.2.symm) (oh _ _))];exact this
    ·have r:=ae.o;rw[Ni,G.o];have:=bc.o;show i+Z<=n;omega
    ·rw[Ni,G.o,jI];have:=bc.o;show d.length+1<=i+Z;omega
   ·clear aE
    gi_wp2
    refine B0 (results_none rfl _ _ _) rfl ?_;exact⟨⟨_,rfl⟩,c4,C0 bI⟩
theorem U4{b:Array Oper}{o:Oper}{a:Act}{K:Act->A6->Prop}{Q:Exit->Act->A6->Prop}{E:Prop}(e:Region.wanted o (yielded b a.tmps)=Bn)(s c:Operand)(t d:C3)
  (i:o.op=.call {callee:=.builtin .append,args:=#[s,c],argTypes:=#[t,d]})(j:a.eval s=J)(l:a.eval c=p)
  (m:(Builtin.append_ #[t,d] o.type #[J,p]).run k f=.ok x g)(n:K (a.put o.dst x) g):if Region.wanted o (yielded b a.tmps)=Bn then Oper.wpIn CL h k o a f K Q else E:=by
 rw[jP e];unfold Oper.wpIn;refine⟨λ_ _=>ki,?_⟩;rw[show CL.round=Ax from rfl,Oper.semAt_none];unfold execOp;simp only[i,resolve,invoke,builtin,Sem.run_bind,Sem.run_pure,Result.andThen_ok,oN,pW,qe,j,l,m];exact n
theorem Va{P:Program}(m t:C3)(g:Nat)(e:C3)(i:TypeInfo)(n:Bs)(c o:Nat)(r:P.underlying t=A7 (.slice e))(s:P.info? e=A7 i)(y:i.zero=A7 n)
  (A:i.size=c)(B:i.bytes=o)(C:n.cells.size=c)(D:0<c)(q:f.ownsRow g e c J h z)
  (k:Ag f c p a j)(E:∀u∈j,u.oneCell'=Bn)(F:h+a<=maxLen)(G:(h+a)*o<=140737488355328)(H:g<=f.heap.size):
  ∃d l,(Builtin.append_ #[t,t] m #[J,p]).run P f=.ok d l/\l.ownsRow g e c d (h+a) (z++j)/\f.grownBy l J.ownBlock/\(d.ownBlock=J.ownBlock\/d.ownBlock=A7 f.heap.size):=by
 obtain⟨v,U,k⟩:=k
 rcases k with⟨rfl,rfl⟩|⟨⟨b,I,w⟩,K,rfl,L,M⟩
 ·have N:j=[]:=km (by simpa using v);subst N;exact⟨J,f,run_append_owned_none (P:=P) (w:=f) g t m e i c r s J h z q,by simpa using q,⟨rfl,rfl,rfl,jF _,λ_ _ _=>rfl⟩,C2 rfl⟩
 ·obtain⟨d,l,k,O,Q,_,R⟩:=run_append_own_at (P:=P) f g t m e i n c o r s y A B C D J h z q ⟨b,I,w⟩ a K j v (λS u x=>by
   have T:a≠0:=by
    rintro rfl;have:=(jL.1 x).1;omega
   obtain rfl:w=Ax:=L T;have:=M S u x;unfold Addr.add
   split
   ·subst_vars;simpa using this
   ·exact this) E F G H
  exact⟨d,l,k,O,Q,R⟩
theorem XW(l:77<=h)(m:d+r<=s)(n:a<r)(_g:t=d+a)(b:c=min (r - a) (h - (d+a)%h))(f:q=(d+a)/h)(e:i=(d+a)%h):
  q*h+i=d+a/\i+c<=h/\i+c<=min h (s - q*h)/\0<c/\a+c<=r/\q*h<s:=by
 have j:q*h+i=d+a:=by rw[f,e,lp];exact lE _ _
 have o:i<h:=by rw[e];exact lA _ Ω
 rw[<-e]at b;clear f e _g;generalize q*h=p at*
 have u:c<=r - a:=by rw[b];exact oh _ _
 have v:c<=h - i:=by rw[b];exact Nat.min_le_right _ _
 have k:0<c:=by rw[b];exact Nat.lt_min.2 ⟨Ω,Ω⟩
 exact⟨j,Ω,Nat.le_min.2 ⟨Ω,Ω⟩,k,Ω,Ω⟩
theorem Su{K S:Nat}{T:C3}(C:AD g Y)(b:Aa g S T [p])(o:g.ownsRow h l a p d z)(u:T≠l)(D:Y S=K)(v:∀b,p.ownBlock=A7 b->Y b=K)
  (w:g.grownBy f p.ownBlock)(r:f.ownsRow h l a J c j)(E:J.ownBlock=p.ownBlock\/J.ownBlock=A7 g.heap.size):
  Aa f S T [p]/\∃e,Ad (λm=>m=K) g Y (f.setCell ⟨S,0,Ax⟩ J) e/\Aa (f.setCell ⟨S,0,Ax⟩ J) S T [J]/\(f.setCell ⟨S,0,Ax⟩ J).ownsRow h l a J c j/\∀b,J.ownBlock=A7 b->e b=K:=by
 have s:=b.u w (λl=>Bv b o u l.symm);refine⟨s,?_⟩;have x:Ad (λm=>m=K) g Y f Y:=Ad.of C w (λk l=>v k l);have y:Ac (λm=>m=S) f (f.setCell ⟨S,0,Ax⟩ J):=Ac.of (Ao _ _ _) (λk l=>by cases l;rfl);have F:(f.setCell ⟨S,0,Ax⟩ J).ownsRow h l a J c j:=y.aT r (λk n l=>by subst l;exact Bv s r u n)
 have A:∀e,Ad (λm=>m=K) g Y f e->(∀b,J.ownBlock=A7 b->e b=K)->∃e,Ad (λm=>m=K) g Y (f.setCell ⟨S,0,Ax⟩ J) e/\Aa (f.setCell ⟨S,0,Ax⟩ J) S T [J]/\(f.setCell ⟨S,0,Ax⟩ J).ownsRow h l a J c j/\∀b,J.ownBlock=A7 b->e b=K:=λe t n=>
  ⟨e,t.trans (AL t.new y (λk l=>by rw[l,t.ak _ b.lt];exact D)),s.setCell 0 _,F,n⟩
 rcases E with q|q
 ·exact A Y x (λk n=>v k (by rw[<-q];exact n))
 ·exact A _ (x.bQ (B:=g.heap.size) (i:=K) (jF _) (r.lt _ q).2 rfl) (λk n=>by rw[q]at n;cases n;exact A0 _ _ _)
abbrev Gx:Nat->Prop:=λ_=>False
theorem VI(g q a n:Nat)(w:A6):
  BE A3 181 #[AA (A7 ⟨g,0,Ax⟩),CE #[O V q,O V a,O V n]] w λe b=>e=A4 (.func (.func 236) #[] #[AA (A7 ⟨w.heap.size+1,0,Ax⟩),AA (A7 ⟨w.heap.size,0,Ax⟩)])/\
   w.grownBy b Ax/\b.heap.size=w.heap.size+2/\Aa b w.heap.size 87 [AA (A7 ⟨g,0,Ax⟩)]/\Aa b (w.heap.size+1) 128 [O V q,O V a,O V n]:=by
 obtain⟨f,m,h,i⟩:=An w 87 [AA (A7 ⟨g,0,Ax⟩)]
 have j:f.heap.size=w.heap.size+1:=by rw[<-m];simp
 obtain⟨o,p,c,d⟩:=An f 128 [O V q,O V a,O V n]
 have k:o.heap.size=w.heap.size+2:=by rw[<-p];simp[j]
 rw[j]at d;have l:=i.u c Δ;have r:=zh (Bd (Ab h c) (Bd k (Bd l d)));clear h i c d k l
 go_enter Tryz.func181,Tryz.ntmps181
 go_wp2;go_ret;exact⟨rfl,r.o⟩
theorem Ad.iF{C:Nat->Prop}(b:Ad C f Y g o)(c:f.heap.size<=h)(d:h<g.heap.size):Ad C f Y g (Proofs.YtcedibmdelehdaaGreatDoor.AN o h 0):=
 ⟨b.au,λk a=>by rw[Bz _ _ Ω];exact b.ak k a,λk a=>by
  by_cases e:k=h
  ·subst e;rw[A0];exact C2 rfl
  ·rw[Bz _ _ e]
   exact b.dQ k a,λk a=>by rw[Bz _ _ Ω];exact b.new k a⟩
structure NE(w:A6)(i:Ae)(g d:Nat)(P:Pl)(j L:Nat)(k:Nat)(l:Int->List Nat)(m:Bs)(n:List Nat)(a b e f h:Nat)(c:Ae)(W:A6):Prop where
 hD:Bf W c g d P j L m n
 bH:AF W c d P.ss P.n k l
 st:Ad (Sc Gx 200) w i W c
 lb:W.cell? ⟨h,0,Ax⟩=A7 (AA (A7 ⟨g,0,Ax⟩))
 cl:c h=0
 cb:c f=197
 bl:f<W.heap.size
 b2:Aa W a 87 [AA (A7 ⟨g,0,Ax⟩)]
 c2:c a=0
 b4:Aa W b 64 [A2 Ax 0 0]
 c4:c b=196
 b5:Aa W e 32 [O V 0]
 c5:c e=196
theorem NE.ao{l:Nat}{m:Ae}{C:Nat->Prop}(e:NE g Y h a Z c d i E J b q r s t l o f)(k:Ad C f o w m)(n:¬C 0)(u:¬C 1)(v:¬C 4)(p:¬C 196)(x:∀j,C j->Sc Gx 200 j):NE g Y h a Z c d i E J b q r s t l m w:=by
 have y:=World.block_lt_of_cell? f _ e.lb
 exact⟨e.hD.ag k v,e.bH.ag k u,e.st.trans (k.mono x),k.ap e.lb (by rw[e.cl];exact n),by rw[k.ak _ y];exact e.cl,by rw[k.ak _ e.bl];exact e.cb,jJ e.bl k.aQ,k.y e.b2 (by rw[e.c2];exact n),by rw[k.ak _ e.b2.lt];exact e.c2,k.y e.b4 (by rw[e.c4];exact p),by rw[k.ak _ e.b4.lt];exact e.c4,
  k.y e.b5 (by rw[e.c5];exact p),by rw[k.ak _ e.b5.lt];exact e.c5⟩
structure LS(w:A6)(i:Ae)(g d:Nat)(P:Pl)(j L:Nat)(k:Nat)(l:Int->List Nat)(m:Bs)(n:List Nat)(p:List Nat)(a q r s f t u:Nat)(c:Ae)(h:List He)(W:A6):Prop where
 b:NE w i g d P j L k l m n q r s t u c W
 o:∃e,Aa W f 64 [e]/\W.ownsRow w.heap.size 5 1 e (dn h) (Ar (DN p a (dn h)))/\∀b,e.ownBlock=A7 b->c b=198
 c6:c f=198
theorem LS.ao{n:List Nat}{p u v:Nat}{x:Ae}{y:List He}{C:Nat->Prop}(k:LS f Y h a Z c d i E J b n q r s t p u v o y g)(e:Ad C g o w x)(F:¬C 0)(G:¬C 1)(H:¬C 4)(I:¬C 196)(z:¬C 198)(K:∀j,C j->Sc Gx 200 j):LS f Y h a Z c d i E J b n q r s t p u v x y w:=by
 obtain⟨L,A,B,D⟩:=k.o;exact⟨k.b.ao e F G H I K,⟨L,e.y A (by rw[k.c6];exact z),e.au.aT B (λl m=>by rw[D l m];exact z),λl m=>by rw[e.ak _ (B.lt l m).2];exact D l m⟩,by rw[e.ak _ A.lt];exact k.c6⟩
theorem Xu(g:Bf f Y a c Z h (n h).length J b)(hL:Cx Z h b n E)(hD:AF f Y c Z.ss Z.n d E)(hC:AD f Y)(U:Z.aY)(hl:h<=1099511627776)
  (q r t:Nat)(h1:CM Z h<=q)(h2:q<=h)(h3:r+t<=(n q).length):
  BE A3 119 #[AA (A7 ⟨a,0,Ax⟩),CE #[O V q,O V r,O V t]] f λe w'=>∃ra P,e=A4 (B7 #[A2 ra t P,O V 0])/\
   ∃bH,Ad (Sc Gx 200) f Y w' bH/\Ag w' 1 (A2 ra t P) t (Ar (DN (n q) r t))/\∀A,(A2 ra t P).ownBlock=A7 A->bH A=0:=by
 have cA:Z.aA=Z.rs*(Z.n - 19):=rfl;have bJ:=hL.dg q;have cB:=U.n1;have bK:Z.aA<=32*493:=ln U.cQ Ω;have bL:=zh (λ(W:A6) (hW:Bf W Y a c Z h (n h).length J b)=>Rd hW U hl q h2);have bM:A5 (CM Z h<=q)=Bn:=jG h1;rw[bM]at bL;obtain⟨RR,a2⟩:=Af Z.aA;rw[a2]at bJ bK;have d1:A5 ((r:Int)<0)=Bk:=jH Ω;have d2:A5 ((t:Int)<0)=Bk:=jH Ω;have d3:A5 ((RR:Int)<(r:Int))=Bk:=jH Ω;have cF:A5 (RR<r)=Bk:=jH Ω;have d4:A5 (((RR - r:Nat):Int)<(t:Int))=Bk:=jH Ω;have cH:A5 (RR - r<t)=Bk:=jH Ω
 have a3:BR ((RR:Int) - (r:Int))=((RR - r:Nat):Int):=by rw[BA _ Ω];omega
 have d0:=Ba a3;obtain⟨wa,cI,ga,ba⟩:=An f 87 [AA (A7 ⟨a,0,Ax⟩)];obtain⟨B,cJ,gb,bb⟩:=An wa 128 [O V q,O V r,O V t];obtain⟨wc,cK,gc,bc⟩:=An B 64 [A2 Ax 0 0];obtain⟨wd,cL,gd,bd⟩:=An wc 32 [O V 0];have F:=((ba.u gb Δ).u gc Δ).u gd Δ |>.m 0;have cM:f.heap.size<wa.heap.size:=ba.lt;have cN:wa.heap.size<B.heap.size:=bb.lt;have cO:B.heap.size<wc.heap.size:=bc.lt;have cP:wc.heap.size<wd.heap.size:=bd.lt;have HB:=zh (Bd (((ba.u gb Δ).u gc Δ).u gd Δ) (Bd ((bb.u gc Δ).u gd Δ) (Bd (bc.u gd Δ) bd)));have GD:=zh (Ab (Ab (Ab ga gb) gc) gd);have HZ:=zh (show f.heap.size<wa.heap.size/\wa.heap.size<B.heap.size/\B.heap.size<wc.heap.size/\wc.heap.size<wd.heap.size by omega);have H:=zh g;have HL:=zh hL;have HD:=zh hD;have HC:=zh hC;have cT:=zh a2;clear g hL hD hC a2 ga gb gc gd ba bb bc bd cM cN cO cP;have a9:CL.round=Ax:=rfl;refine(C1 (n:=20)).1 ?_;refine callsIn_of_wp_marks C9 rfl ki ?_ a9;simp only[C5,kB,jT,kA,Nat.reduceAdd,Nat.reduceSub,kf,kh,kJ,kr,jX,ku]
 gi_wp2
 have HX:=zh F;have be:=(H.o.u GD.o).cells.2.2.2.2.1;rw[cT.o]at be;have y0:=HB.o.2.1.m 0;have y1:=HB.o.2.1.m 1;have G:=HB.o.2.1.m 2;have e0:=AJ F;have e1:=AJ be;have e2:=AJ y0;have e3:=AJ y1;have e4:=AJ G;clear F be y0 y1 G cI cJ cK cL;refine wpIn_wide.2 ?_;refine Cb Φ Φ ?_
 repeat(go_big_quiet_step ((go_at_call 180;exact FY (λW hW=>bL.o W (H.o.u (Ab GD.o hW))) _)))
 refine CR ?_;rintro _ ⟨gg,rfl⟩;have Q:=Bu gg;generalize gw gg=R at*;clear e0 e1 e2 e3 e4 gg;have F:=Q.cell HX.o Δ;have c0:=zh (Ab GD.o Q);have y0:=(HB.o.2.1.u Q Δ).m 0;have y1:=(HB.o.2.1.u Q Δ).m 1;have G:=(HB.o.2.1.u Q Δ).m 2;obtain⟨z,c1,g3,b3⟩:=An R 64 [A2 Ax 0 0];have F:=g3.cell F Δ;have y0:=g3.cell y0 Δ;have y1:=g3.cell y1 Δ;have G:=g3.cell G Δ;have c2:=zh (Ab c0.o g3);have aJ:=zh (Bd ((HB.o.1.u Q Δ).u g3 Δ) (Bd ((HB.o.2.2.1.u Q Δ).u g3 Δ) (Bd ((HB.o.2.2.2.u Q Δ).u g3 Δ) b3)));have c3:Hd (wd.heap.size<=R.heap.size/\R.heap.size<z.heap.size):=zh ⟨Q.size,b3.lt⟩;clear g3 b3 Q
 gi_wp2_with (refine⟨ki,?_⟩;gi_at_call 181;refine(C1.2 (VI a q r t z)).mono ?_;rintro e w4 ⟨rfl,g4,d5,bQ,bR⟩)
 clear F y0 y1 G c1;obtain⟨c4,ai⟩:=Af (AN (AN (AN (AN Y B.heap.size 196) wc.heap.size 196) R.heap.size 198) (z.heap.size+1) 197);have hz:=HZ.o;have bS:=c3.o;have hG:=Ab c2.o g4
 have aL:Ad (Sc Gx 200) f Y w4 c4:=by
  rw[<-ai];exact((((Ad.u HC.o hG).bQ Ω Ω (C0 ⟨Ω,Ω⟩)).bQ Ω Ω (C0 ⟨Ω,Ω⟩)).bQ Ω Ω (C0 ⟨Ω,Ω⟩)).bQ Ω Ω (C0 ⟨Ω,Ω⟩)
 have bU:∀j,f.heap.size<=j->Y j=0:=HC.o
 have i:LS f Y a c Z h (n h).length d E J b (n q) r f.heap.size B.heap.size wc.heap.size R.heap.size (z.heap.size+1) z.heap.size c4 [] w4:=by
  have gv:=λ(j:Nat) (h1:f.heap.size<=j) (h2:j≠B.heap.size) (h3:j≠wc.heap.size) (h4:j≠R.heap.size) (h5:j≠z.heap.size+1)=>show c4 j=0 by rw[<-ai,Bz _ _ h5,Bz _ _ h4,Bz _ _ h3,Bz _ _ h2];exact bU j h1
  refine⟨⟨H.o.ag aL (Sc.aG (λg=>g) Ω),HD.o.ag aL (Sc.aG (λg=>g) Ω),aL,bQ.m 0,gv _ Ω Ω Ω Ω Ω,by rw[<-ai];exact A0 _ _ _,Ω,aJ.o.1.u g4 Δ,gv _ Ω Ω Ω Ω Ω,aJ.o.2.1.u g4 Δ,?_,aJ.o.2.2.1.u g4 Δ,?_⟩,⟨A2 Ax 0 0,aJ.o.2.2.2.u g4 Δ,CA _ _ _ _,λA w=>by simp[BC]at w⟩,?_⟩
  ·rw[<-ai,Bz _ _ Ω,Bz _ _ Ω,Bz _ _ Ω];exact A0 _ _ _
  ·rw[<-ai,Bz _ _ Ω,Bz _ _ Ω];exact A0 _ _ _
  ·rw[<-ai,Bz _ _ Ω];exact A0 _ _ _
 have HI:=zh i;have BB:=zh bR;have c8:=U.n0;have c9:=zh (Bd hz bS);clear i bR bQ hG aL hz bS g4 bU ai;have bX:r+t<=100000:=Ω
 refine Kz HI.o.b.st.new a9 Ω (gf:=236) (lb:=#[AA (A7 ⟨z.heap.size+1,0,Ax⟩),AA (A7 ⟨z.heap.size,0,Ax⟩)]) rfl ki (enters_of C7 Φ rfl)
  (C:=λj=>j=198\/j=113\/j=199) (C0 (C0 rfl)) (Wk 19 (z.heap.size+1) z.heap.size a (Z.n - 19) q r t Ω Ω Ω bX _ Ω Ω) (λW1 d7 hg _=>BB.o.u hg Δ) (λ_=>rfl)
  (λ_=>LS f Y a c Z h (n h).length d E J b (n q) r f.heap.size B.heap.size wc.heap.size R.heap.size (z.heap.size+1) z.heap.size) (λ_ _ _=>False)
  (λa0 x a' X v=>∃L,a'={tmps:=(a0.tmps.setIfInBounds 55 (CE #[O V (x.q:Nat),O V (x.a:Nat),O V (x.n:Nat),O V (x.s:Nat),O V (x.f:Nat)])).setIfInBounds 7 (AA (A7 ⟨L,0,Ax⟩)),defers:=[]}/\Aa X L 296 [O V (x.q:Nat),O V (x.a:Nat),O V (x.n:Nat),O V (x.s:Nat),O V (x.f:Nat)]/\v L=113)
  ()
  (λm v c' aN X de g s=>?i1)
  (λ_ _ _ _ _ g _=>g)
  (λm v aN X g=>⟨⟨g.b.lb,g.b.hD.cells.2.2.2.2.2.1,g.b.cb⟩,g.b.st.new⟩)
  (λ_ _ _ _ _ _ _ g _=>g)
  (λv c' x a' X de g s=>?i2)
  HI.o (λj=>j=198\/j=113) (λj g=>g.elim C2 (λg=>C0 (C2 g))) Ω Ω
  ?assign ?body ?done (λ_ _ _ _ g=>g.elim)
 case i1=>exact g.ao s Ω Ω Ω Ω Ω (λj e=>C0 (by rcases e with rfl|rfl<;>exact⟨Ω,Ω⟩))
 case i2=>exact let⟨L,h1,h2,h3⟩:=g;⟨L,h1,s.y h2 (by rw[h3];omega),by rw[s.ak _ h2.lt];exact h3⟩
 case assign=>
  intro l m v aN x X K i bY hR I;obtain⟨y,a',n',s',f'⟩:=x;obtain⟨w5,d8,g5,o⟩:=An X 296 [O V 0,O V 0,O V 0,O V 0,O V 0];obtain⟨w6,bj,b6,t6⟩:=FM o (O V y) (O V a') (O V n') (O V s') (O V f');have f0:=o.v 0;have p:=o.v 1;have f2:=o.v 2;have f3:=o.v 3;have f4:=o.v 4;have y0:=o.m 0;have y1:=o.m 1;have G:=o.m 2;have y3:=o.m 3;have y4:=o.m 4;have s6:Ad (λj=>j=113) X v w6 (AN v X.heap.size 113):=(Ad.u i.b.st.new (Ac.u g5 t6 (λj e=>by rw[e];exact jF _))).bQ (jF _) b6.lt rfl;have b8:=zh s6;have B6:=zh b6;clear g5 o t6 s6 b6
  gi_wp2
  exact I _ _ _ (b8.o.mono (λ_ e=>C0 e)) (i.ao b8.o Ω Ω Ω Ω Ω (λj e=>C0 ⟨Ω,Ω⟩)) hR ⟨X.heap.size,rfl,B6.o,A0 _ _ _⟩
 case body=>
  intro l m v aN x a' X i bY hR dk;obtain⟨y,a1,k,s1,p⟩:=x;obtain⟨aP,he⟩:=hR;obtain⟨L,rfl,w,ca⟩:=dk;simp only[He.mk.injEq]at he;obtain⟨rfl,bl,aQ,aR,aS⟩:=he;obtain⟨dd,bm⟩:=Af (dn aN);rw[bm]at aP bl aQ aR aS;obtain⟨M,hM⟩:=Af (Z.n - 19);have bn:77<=M/\M<=493:=Ω;rw[hM]at aQ aR aS;obtain⟨cb,bo,bp,cc,cd,ce⟩:=XW bn.1 h3 aP bl aQ aR aS;clear aQ aR aS
  have bq:1<=y/\h<y+Z.rg:=⟨jM (Nat.le_max_right _ _) h1,by
   have h5:h+1 - Z.rg<=y:=jM (Nat.le_max_left _ _) h1
   omega⟩
  have aU:=Za i.b.hD HL.o i.b.bH i.b.st.new U hl y s1 bq.1 h2 bq.2 (by rw[hM];exact ce);rw[hM]at aU;have br:(Ee M (n y) s1).length=min M ((n y).length - s1*M):=SQ _ _ _;obtain⟨LN,aB⟩:=Af ((Ee M (n y) s1).length);rw[<-br,aB]at bp
  have cf:LN<=M:=by rw[<-aB,br];exact oh _ _
  rw[aB]at aU
  have hcut:DN (Ee M (n y) s1) p k=DN (n y) (r+dd) k:=by rw[bI _ _ bo,cb]
  have cg:dd+k<=100000:=Ω;have dl:=zh hcut;have ch:=zh bm;have dm:=zh aB;have dp:=zh aU;have HJ:=zh i;have BL:=zh w;have LC:=zh ca;have ed:=zh aP;clear i w ca aU hcut bm aB bl cb bq bY aP hM br ce;have F:=HJ.o.b.b2.m 0;have y0:=BL.o.m 0;have y3:=BL.o.m 3;have ee:A5 ((LN:Int)<((p+k:Nat):Int))=Bk:=jH Ω;have ef:A5 (LN<p+k)=Bk:=jH Ω;have eg:A5 ((LN:Int)<(p:Int)+(k:Int))=Bk:=jH Ω;have a3:BR ((p:Int)+(k:Int))=((p+k:Nat):Int):=Dm rfl Ω;have au:=zh (show p+k<=M/\p+k<=LN/\LN<=M/\dd+k<=t/\dd+k<=100000/\M<=493/\0<k from⟨bo,bp,cf,cd,cg,bn.2,cc⟩);clear bo bp cf cd cg bn cc bM d1 d2 d3 cF d4 cH h1 h3 bJ bK c8 cB bX cA;simp only[nM,jY,kE]
  gi_wp2_with (refine⟨ki,?_⟩;gi_at_call 182;refine(CallsIn.inRound l (C1.2 dp.o)).mono ?_;rintro e w5 ⟨ra,P,rfl,o5,g5⟩;have G:=(BL.o.u g5 Δ).m 2;have y4:=(BL.o.u g5 Δ).m 4)
  obtain⟨ov,p1,N,p3⟩:=HJ.o.o;obtain⟨rb,ro,rfl,_⟩:=(Ag.ai o5).bA (show 0<LN by have:=au.o;omega)
  have cj:LN<=P:=by
   rcases o5.2 with⟨g,_⟩|⟨_,_,_,g,_,_,h5,_⟩
   ·cases g
   ·injection g with _ _ g;subst g;exact h5
  have O5:=zh o5;have P1:=zh p1;have P2:=zh N;have P3:=zh p3;have G5:=zh g5;have dt:=au.o;have du:p+k<=P:=Ω;have dv:(0:Int)<=(p:Int)+(k:Int):=Ω;have dw:(p:Int)+(k:Int)<=(P:Int):=Ω;have dx:((p:Int)+(k:Int)).toNat=p+k:=Ω;have dy:¬P=p:=Ω;clear dt;have ej:=zh cj;have ek:=Ba a3;clear o5 p1 N p3 cj;refine Kv (λW=>W.cell? ⟨R.heap.size,0,Ax⟩=A7 ov/\W.cell? ⟨L,2,Ax⟩=A7 (O V k)/\W.cell? ⟨L,4,Ax⟩=A7 (O V p)) [([0,1,2,3,4,5,6,7,8,9,10],11,Bk),([],12,Bk)] a9 Φ Φ ?_;obtain⟨w6,bj,g6⟩:=AP w5;rw[bj];refine FX ⟨((P1.o.u g5 Δ).u g6 Δ).m 0,g6.cell G Δ,g6.cell y4 Δ⟩ ?_;clear F y0 y3 G y4 bj
  repeat((apply FV rfl (λ_=>rfl) Θ;(· intro wS aw;(try have aw:=aw rfl);(try dsimp only at aw);(try have F:=aw.1);(try have G:=aw.2.1);(try have y4:=aw.2.2);go_simp;(try with_reducible rfl)));(refine Al ?_))
  refine FW ?_;refine Dx rfl (λK I=>?_);clear dv dw dx dy du;have bu:=dm.o;have r5:=Ag.ai O5.o;rw[<-bu]at r5;have r6:=(r5.f4 (n:=p) (by rw[bu];have:=au.o;omega) P).f0 (n:=k) (by rw[j0,bu];have:=au.o;omega) (P - p);have e6:List.take k (List.drop p (Ee M (n y) s1))=DN (n y) (r+dd) k:=dl.o;rw[e6]at r6;obtain⟨i0,dB,dC,dD,dE⟩:=info_parts GK;have N:=P2.o;rw[ch.o]at N;have aE:=Ab G5.o g6;obtain⟨v7,w7,dG,o7,g7,l7⟩:=Va (P:=A3) 64 64 f.heap.size 5 i0 _ 1 1 kY dB dC dD dE rfl Ξ (AV N aE) (r6.u g6 Δ) (λu hu=>by obtain⟨x,_,rfl⟩:=lB.1 hu;rfl) (by have:=au.o;unfold maxLen;omega) (Ψ au.o) (jM HJ.o.b.st.aQ aE.size);obtain⟨la,lc,rfl⟩:=(Ag.ai o7).slice;refine U4 Θ _ _ _ _ Θ Θ Θ dG ?_;refine I _ _ ⟨λU=>(by cases U),?_⟩;clear I K;refine Al ?_;have S6:=zh (Ad.u (C:=λj=>j=198) HJ.o.b.st.new aE);obtain⟨b7,c7,s7,dL,o8,k8⟩:=Su (K:=198) S6.o.new ((P1.o.u aE Δ)) (AV N aE) Ξ HJ.o.c6 (λA w=>P3.o A w) g7 o7 l7;refine GF ?_;refine Dx rfl (λK I=>?_);have z0:=b7.m 0;have f0:=b7.v 0;go_simp;generalize w7.setCell ⟨R.heap.size,0,Ax⟩ (A2 la (dd+k) lc)=w8 at*;refine I _ _ ⟨λU=>(by cases U),?_⟩;clear I K z0 f0;refine Al ?_;refine Gi (BD ?_);have st:=S6.o.trans s7;have hj:=HJ.o;rw[<-JK,dQ]at o8;have b9:=hj.b.ao st Ω Ω Ω Ω (λj e=>C0 (by rw[e];exact⟨Ω,Ω⟩))
  have dP:c7 R.heap.size=198:=by rw[st.ak _ P1.o.lt];exact hj.c6
  gi_wp2
  refine⟨c7,(),st.mono (λ_ e=>C2 e),b9,⟨_,dL,?_,k8⟩,dP⟩;rw[Ni,ch.o];exact o8
 case done=>
  intro D m v xs X hS i I aX;obtain⟨ov,p1,N,p3⟩:=i.o;rw[hS]at N;obtain⟨la,lc,rfl⟩:=(Ag.ai N).slice
  have bw:∀S,v S=196\/v S=198->S≠D:=λS g e=>by rw[e,aX]at g;omega
  have ct:D<X.heap.size:=(jR.1 I).1;obtain⟨X1,cu⟩:=Af (X.setCell ⟨B.heap.size,0,Ax⟩ (A2 la t lc));obtain⟨X2,cv⟩:=Af (X1.setCell ⟨wc.heap.size,0,Ax⟩ (O V 0))
  have t1:Ac (λj=>j=B.heap.size) X X1:=by rw[<-cu];exact Ac.of (Ao _ _ _) (λj e=>by cases e;rfl)
  have t2:Ac (λj=>j=wc.heap.size) X1 X2:=by rw[<-cv];exact Ac.of (Ao _ _ _) (λj e=>by cases e;rfl)
  have hz:=c9.o;have b4:=i.b.b4.setCell 0 (A2 la t lc);rw[cu]at b4;have o:=t1.y i.b.b5 Ω;have f5:=o.v 0;have v5:=o.m 0;have aY:=o.setCell 0 (O V 0);rw[cv]at aY;have bB:=t2.y b4 Ω;simp only[jY]at bB aY;have T:Ac (λj=>v j=196) X X2:=(t1.mono (λj e=>by rw[e];exact i.b.c4)).trans (t2.mono (λj e=>by rw[e];exact i.b.c5));have cw:X2.heap[D]?=A7 (.deferred (A7 [])):=(T.bV D ct (by rw[aX];omega)).trans I;have F:=p1.m 0;have f4:=i.b.b4.v 0;have v4:=i.b.b4.m 0;have HR:=zh (T.aT N (λA w=>by rw[p3 A w];omega));have HS:Hd (Ad (Sc Gx 200) f Y X2 v):=zh (i.b.st.trans (AL i.b.st.new T (λj e=>C0 (by rw[e];exact⟨Ω,Ω⟩))));have B4:=zh bB;have B5:=zh aY;have P3:=zh p3;have dU:=zh cw;have dV:=bw _ (C2 i.b.c4);have dW:=bw _ (C2 i.b.c5);have cy:v D=199:=aX;clear i p1 N p3 I aX b4 o aY bB T t1 t2 hz cw bw ct hS
  gi_wp2
  refine⟨Δ,C2 ⟨_,_,rfl,run_takeDeferred dU.o,?_⟩⟩;have t3:=Hg X2 D (.deferred Ax);have b4:=t3.y B4.o dV;have o:=t3.y B5.o dW;have o3:=t3.aT HR.o (λA w e=>by have:=P3.o A w;rw[e,cy]at this;omega);have s3:Ad (Sc Gx 200) f Y (X2.putObj D (.deferred Ax)) v:=HS.o.trans (AL HS.o.new t3 (λj e=>C0 (by rw[e,cy];exact⟨Ω,Ω⟩)));generalize X2.putObj D (.deferred Ax)=X3 at*;have z4:=b4.m 0;have z5:=o.m 0;refine⟨B7 #[A2 la t lc,O V 0],by simp[results,DG,go_sem,z4,z5],la,lc,rfl,?_⟩
  cases la with
  |none=>exact⟨v,s3,Ag.ai o3,λA w=>by simp[BC]at w⟩
  |some ad=>
   have w:=o3.lt ad.block (by simp[BC]);exact⟨_,s3.iF w.1 w.2,Ag.ai o3,λA g=>by simp only[BC,mK]at g;subst g;exact A0 _ _ _⟩
end
section
open Go.RowKit
attribute [local go_sem ↓] Go.wp_at_zero Go.wp_at_succ
theorem We(D:Bf f Y a c Z h d J b)(_S:AD f Y)(T:Z.aY)(U:h<=1099511627776)(q E n:Nat)(X:¬CM Z h<=q)(h2:q<=h):
  BE A3 119 #[AA (A7 ⟨a,0,Ax⟩),CE #[O V q,O V E,O V n]] f λe w'=>e=A4 (B7 #[A2 Ax 0 0,O V 13])/\f.grownBy w' Ax:=by
 have F:=zh (λ(W:A6) (t:Bf W Y a c Z h d J b)=>Rd t T U q h2);have ac:A5 (CM Z h<=q)=Bk:=jH X;rw[ac]at F;obtain⟨wa,ae,u,G⟩:=An f 87 [AA (A7 ⟨a,0,Ax⟩)];obtain⟨i,af,m,I⟩:=An wa 128 [O V q,O V E,O V n];obtain⟨wc,ag,o,g⟩:=An i 64 [A2 Ax 0 0];obtain⟨wd,ah,l,k⟩:=An wc 32 [O V 0];have K:=((G.u m Δ).u o Δ).u l Δ |>.m 0;have L:=((I.u o Δ).u l Δ).m 0;have M:=zh (Bd (g.u l Δ) k);have N:=zh (Ab (Ab (Ab u m) o) l);have HZ:=zh (show f.heap.size<=i.heap.size/\i.heap.size<wc.heap.size/\i.heap.size≠wc.heap.size by have:=(Ab u m).size;have:=g.lt;omega);have H:=zh D;clear D _S u m o l G I g k
 go_enter C9,C5
 go_wp2_with fail;have e0:=AJ K;have e1:=AJ L;clear K L ae af ag ah;refine Cb Φ Φ ?_
 repeat(go_big_quiet_step ((go_at_call 180;exact FY (λW t=>F.o W (H.o.u (Ab N.o t))) _)))
 refine CR ?_;rintro _ ⟨w,rfl⟩;have p:=Bu w;generalize gw w=x at*;clear e0 e1 w;have g:=M.o.1.u p Δ;have k:=M.o.2.u p Δ;have z4:=g.m 0;have f4:=g.v 0;have z5:=k.m 0;have f5:=k.v 0;obtain⟨y,P⟩:=Af (x.setCell ⟨i.heap.size,0,Ax⟩ (A2 Ax 0 0));obtain⟨Q,R⟩:=Af (y.setCell ⟨wc.heap.size,0,Ax⟩ (O V 13))
 have z:Ac (λj=>j=i.heap.size) x y:=by rw[<-P];exact Ac.of (Ao _ _ _) (λj e=>by cases e;rfl)
 have A:Ac (λj=>j=wc.heap.size) y Q:=by rw[<-R];exact Ac.of (Ao _ _ _) (λj e=>by cases e;rfl)
 have hz:=HZ.o;have B:=g.setCell 0 (A2 Ax 0 0);rw[P]at B;have r:=z.y k Ω;have u5:=r.m 0;have v5:=r.v 0;have s:=r.setCell 0 (O V 13);rw[R]at s;have C:=A.y B Ω;simp only[jY]at s C;have r4:=C.m 0;have r5:=s.m 0;have hG:=zh (Ac.u (Ab N.o p) ((z.mono (λj e=>C2 e)).trans (A.mono (λj e=>C0 e)):Ac (λj=>j=i.heap.size\/j=wc.heap.size) x Q) (λj e=>Ω));clear g k z A B r s C hz p;go_wp2_with fail;exact B0 (v:=B7 #[A2 Ax 0 0,O V 13]) (by simp[results,DG,go_sem,r4,r5]) rfl ⟨rfl,hG.o⟩
abbrev Db(a n b c d e f:Nat)(g:BitVec 64):List Bs:=[O V a,O V n,O V b,O V c,O V d,O V e,O V f,O BZ (U g)]
abbrev EQ(r a b c d e f:Nat):List Bs:=[O V 2,O V r,O V a,O V b,O V c,O V d,O V e,O V f]
theorem Hi{a:FuncId}{b:Array Bs}(h:∀W,f.grownBy W Ax->BE k a b W λe c=>e=A4 J/\W=c)(g:Fl f):
  BE k a b (gw g) λe d=>e=A4 J/\∃i:Fl f,d=gw i:=
 FY (λW j=>(h W j).mono λ_ _ ⟨l,e⟩=>⟨l,by rw[<-e];exact Bo _ _⟩) g
theorem Vv(d c n j k l m o:Nat)(p:BitVec 64)(r t u v x y i:Nat)(q:Nat)(ct:Int->List Nat)(w:A6)(au:Ae)(R:AF w au d c n q ct)
  (S:∀W,BE A3 32 #[CE (Db c n j k l m o p).toArray] W λe z=>e=A4 (B7 #[CE (EQ r t u v x y i).toArray,O V 0])/\W.grownBy z Ax)(T:96<=n)(U:n<=512):
  BE A3 85 #[AA (A7 ⟨d,0,Ax⟩),CE (Db c n j k l m o p).toArray] w λe z=>∃g,e=A4 (B7 #[AA (A7 ⟨g,0,Ax⟩),O V 0])/\w.heap.size<=g/\w.grownBy z Ax/\
   Aa z g 172 (AA (A7 ⟨d,0,Ax⟩)::(Db c n j k l m o p++(EQ r t u v x y i++[O V (n - 19:Nat),O V 0,O V i,A2 Ax 0 0]))):=by
 have Z:=zh R;have HF:=zh S;have aa:((n:Int) - 19)=((n - 19:Nat):Int):=Ω;have E:=zh (λW=>Jb n T U W);rw[aa]at E;obtain⟨M,F⟩:=Af (n - 19);rw[F]at E;rw[F];have b1:((c:Int)!=(c:Int))=Bk:=Δ;have b2:((n:Int)!=(n:Int))=Bk:=Δ;clear R S T U aa F;obtain⟨w1,ax,g1,b⟩:=An w 37 (Db c n j k l m o p);have P1:=zh b;have G1:=zh g1;have A:=b.m 0;have s:=b.m 1;have x2:=b.m 2;have x3:=b.m 3;have x4:=b.m 4;have x5:=b.m 5;have x6:=b.m 6;have x7:=b.m 7;clear g1 b
 go_enter Tryz.func85,Tryz.ntmps85
 go_wp2_with fail;clear ax A s x2 x3 x4 x5 x6 x7;refine(HF.o w1).mono ?_;rintro e w2 ⟨rfl,G⟩;obtain⟨w3,aA,H,l3⟩:=An w2 85 (EQ r t u v x y i);have I:=zh (Ab (Ab G1.o G) H);have J:=zh ((P1.o.u G Δ).u H Δ);have L3:=zh l3;have f0:=J.o.m 0;have f1:=J.o.m 1;have A:=AJ f0;have s:=AJ f1;clear G H l3;go_wp2_with fail;clear aA f0 f1;refine Cb Φ Φ ?_
 repeat(go_big_quiet_step (fail))
 go_big_quiet_step ((go_at_call 129;exact Hi (λW L=>Mi (Z.o.u (Ab I.o L))) _))
 repeat(go_big_quiet_step (fail))
 go_big_quiet_step ((go_at_call 130;exact Hi (λW L=>KJ (Z.o.u (Ab I.o L))) _))
 repeat(go_big_quiet_step (fail))
 refine CR ?_;rintro _ ⟨N,rfl⟩;have B:=Bu N;generalize gw N=w4 at*;have G4:=zh (Ab I.o B);have P4:=zh (J.o.u B Δ);have L4:=zh (L3.o.u B Δ);clear A s N;generalize w2.heap.size=X at*;go_wp2_with fail;obtain⟨C,aG,D⟩:=AP w4;have G5:=zh (Ab G4.o D);have P:=zh (P4.o.u D Δ);have L5:=zh (L4.o.u D Δ);clear D B;refine AS (λW=>Aa W w.heap.size 37 (Db c n j k l m o p)/\Aa W X 85 (EQ r t u v x y i)) (.am [1,2,6,7] [0,3,4] 5 Bn (.am [] [8] 9 Bk (.am [] [10] 11 Bk (.nil)))) Φ Φ ?_;rw[aG];refine Dz ⟨P.o,L5.o⟩ ?_
 iterate 4 ((apply AC rfl Θ;(· intro wS a;(try have a:=a rfl);(try dsimp only at a);(try(have A:=a.1.m 0;have s:=a.1.m 1;have x2:=a.1.m 2;have x3:=a.1.m 3;have x4:=a.1.m 4;have x5:=a.1.m 5;have x6:=a.1.m 6;have x7:=a.1.m 7;have y0:=a.2.m 0;have y1:=a.2.m 1;have y2:=a.2.m 2;have y3:=a.2.m 3;have y4:=a.2.m 4;have y5:=a.2.m 5;have y6:=a.2.m 6;have y7:=a.2.m 7));go_simp;(try with_reducible rfl)));refine Al ?_)
 refine Aj ?_;have s:=P.o.m 1
 iterate 3 refine Av ?_
 refine Aj ?_;clear s;refine Am ?_;intro K f;refine(E.o C).mono ?_;rintro e z ⟨rfl,rfl⟩;dsimp only;refine f _ _ ⟨_,λ_ h=>h,λ_=>⟨P.o,L5.o⟩,?_⟩;clear f K;refine Al ?_;refine Ap ?_;refine Av ?_;refine Aj ?_;refine Am ?_;intro K f;obtain⟨w6,ao,g6,b6⟩:=An C 172 (AA (A7 ⟨d,0,Ax⟩)::(Db c n j k l m o p++(EQ r t u v x y i++[O V M,O V 0,O V i,A2 Ax 0 0])));have Q:=ao;simp only[ku,jX]at Q;rw[Q];have B6:=zh b6;have G6:=zh (Ab G5.o g6);have aJ:w.heap.size<=C.heap.size:=G5.o.size;generalize C.heap.size=Y at*;clear ao Q b6 g6;refine Aq f ?_;clear f K;refine Ap ?_;refine Av ?_;refine Aj ?_;refine Am ?_;intro K f;refine Aq f ?_;clear f K;refine AG (BD ?_);go_wp2_with fail;exact B0 (CK rfl _ _ _) rfl ⟨Y,rfl,aJ,G6.o,B6.o⟩
theorem WO(d:AF f Y h Z.ss Z.n a E)(b:Z.aY):
  BE A3 85 #[AA (A7 ⟨h,0,Ax⟩),Z.val] f λe c=>∃g,e=A4 (B7 #[AA (A7 ⟨g,0,Ax⟩),O V 0])/\f.heap.size<=g/\f.grownBy c Ax/\
   Aa c g 172 (AA (A7 ⟨h,0,Ax⟩)::(Z.cells++(Z.dj++[O V (Z.n - 19:Nat),O V 0,O V Z.aA,A2 Ax 0 0]))):=
 Vv h Z.ss Z.n Z.rg Z.rs Z.lg Z.dp Z.a7 Z.aK Z.region Z.aP Z.a4 Z.bv Z.bg Z.bz Z.aA a E f Y d (λW=>I9 Z b W) b.n0 b.n1
theorem WU(d c n a b l m o:Nat)(p:BitVec 64)(r R S T U X u:Nat)(q:Nat)(x:Int->List Nat)(w:A6)(y:Ae)(Y:AF w y d c n q x)(Z:AD w y)
  (hf:∀W,AF W y d c n q x->BE A3 85 #[AA (A7 ⟨d,0,Ax⟩),CE (Db c n a b l m o p).toArray] W λe t=>∃g,e=A4 (B7 #[AA (A7 ⟨g,0,Ax⟩),O V 0])/\W.heap.size<=g/\W.grownBy t Ax/\
   Aa t g 172 (AA (A7 ⟨d,0,Ax⟩)::(Db c n a b l m o p++(EQ r R S T U X u++[O V (n - 19:Nat),O V 0,O V u,A2 Ax 0 0]))))
  (hm:a*b<=2048)(A:∀i:Nat,i<a*b->x ((r+i:Nat):Int)=AO n)(hr:r+a*b<=c)(az:c<=16384):
  BE A3 39 #[AA (A7 ⟨d,0,Ax⟩),CE (Db c n a b l m o p).toArray,O V 0] w λe t=>∃g,e=A4 (B7 #[AA (A7 ⟨g,0,Ax⟩),O V 0])/\w.heap.size<=g/\w.grownBy t Ax/\
   Aa t g 172 (AA (A7 ⟨d,0,Ax⟩)::(Db c n a b l m o p++(EQ r R S T U X u++[O V (n - 19:Nat),O V 0,O V u,A2 Ax 0 0]))):=by
 have HD:=zh Y;have HC:=zh Z;have HF:=zh hf
 have B:BR ((a:Int)*(b:Int))=((a*b:Nat):Int):=by rw[show(a:Int)*(b:Int)=((a*b:Nat):Int) by push_cast;rfl];exact Ed Ω
 obtain⟨N,hN⟩:=Af (a*b);rw[hN]at B hm A hr;have HZ:=zh A;obtain⟨M,C⟩:=Af (n - 19);rw[C]at HF;rw[C];clear Y Z hf A hN C;obtain⟨w1,D,g1,f⟩:=An w 37 (Db c n a b l m o p);have P1:=zh f;have E:=zh g1;have x0:=f.m 0;have x1:=f.m 1;have F:=f.m 2;have G:=f.m 3;have x4:=f.m 4;have x5:=f.m 5;have x6:=f.m 6;have x7:=f.m 7;clear g1 f
 go_enter Tryz.func39,Tryz.ntmps39
 go_wp2_with fail;clear D x0 x1 F G x4 x5 x6 x7;refine(HF.o w1 (HD.o.u E.o)).mono ?_;rintro e w2 ⟨g,rfl,aj,H,z⟩;have ak:w.heap.size<=g:=jM E.o.size aj
 have aJ:w.heap.size≠g:=λe=>by have:=P1.o.lt;omega
 have aT:=z.v 18;have aU:=z.m 18;have aV:(Db c n a b l m o p).length=8:=rfl;have I:=z.setCell 18 (O V 0);obtain⟨J,al⟩:=Af (w2.setCell ⟨g,18,Ax⟩ (O V 0));rw[al]at I
 have K:Ac (λj=>j=g) w2 J:=by rw[<-al];exact Ac.of (Ao _ _ _) (λj e=>by cases e;rfl)
 have P3:=zh (K.y (P1.o.u H Δ) aJ);have B3:=zh I;have G3:=zh (Ac.u (Ab E.o H) K (λj e=>by rw[e];exact ak));have F:=P3.o.m 2;have G:=P3.o.m 3;clear z I K H aj;go_wp2_with fail;rw[B];clear B F G
 go_loopg [34] N (λk v wr=>v=O V (N - k:Nat)/\k<=N/\J.grownBy wr Ax)
 case atStart=>exact⟨Δ,jF _,Bo _ _⟩
 case round=>
  obtain⟨rfl,hk,s⟩:=hrel;obtain⟨i,hi⟩:=Af (N - gk);rw[hi]
  by_cases aq:gk=0
  ·subst aq;have aL:i=N:=Ω;subst aL;have hd:A5 ((i:Int)<(i:Int))=Bk:=jH Ω;go_wp2_with fail;exact B0 (CK rfl _ _ _) rfl ⟨g,rfl,ak,Ab G3.o s,B3.o.u s Δ⟩
  ·have hd:A5 ((i:Int)<(N:Int))=Bn:=jG Ω;have aW:A5 (i<N)=Bn:=jG Ω;have aX:=(B3.o.u s Δ).m 10;have L:=Ab G3.o s;have ar:=HZ.o i Ω;have HG:=zh (OG d c n q x ((r+i:Nat):Int) 3 (i:Int) wr y (HD.o.u L) (HC.o.u L) Ω (by exact_mod_cast (show r+i<c by omega)) ar);have GR:=zh s;clear L ar s;have av:Hd (r+i<=16384/\i<=2048):=zh Ω;have P:Hd (i=N - gk/\i+1=N - (gk - 1)/\gk - 1<=N/\gk - 1<gk):=zh Ω;clear hi hk aq hr hm az;have D:BR ((r:Int)+(i:Int))=((r+i:Nat):Int):=Dm rfl (jM av.o.1 Ξ);have aO:BR ((i:Int)+1)=((i+1:Nat):Int):=Dm rfl (jM (mG av.o.2) Ξ);have aP:=zh aO;go_wp2_with fail;refine HG.o.mono ?_;rintro e w4 ⟨rfl,Q⟩;obtain⟨w5,aZ,g5,h⟩:=An w4 174 [O V 0,O V 0,O V 0,A2 Ax 0 0];have f0:=h.v 0;have f1:=h.v 1;have f2:=h.v 2;have f3:=h.v 3;have y0:=h.m 0;have y1:=h.m 1;have y2:=h.m 2;have y3:=h.m 3;obtain⟨w6,a9,b6,t6⟩:=Fm h (O V 0) (O V 0) (O V 0) (A2 Ax 0 0);have aR:J.heap.size<=w4.heap.size:=(Ab GR.o Q).size;have G6:=zh (Ac.u (Ab (Ab GR.o Q) g5) t6 (λj e=>by rw[e];exact aR));clear h g5 Q b6 t6 D;go_wp2_with fail
   go_roundg (gk - 1)
   case measure=>exact P.o.2.2.2
   exact⟨by rw[<-P.o.2.1,aP.o],P.o.2.2.1,G6.o⟩
theorem YU(n:AF f Y h Z.ss Z.n a E)(l:AD f Y)(c:Z.aY)(o:∀i:Nat,i<Z.rg*Z.rs->E ((Z.region+i:Nat):Int)=AO Z.n):
  BE A3 39 #[AA (A7 ⟨h,0,Ax⟩),Z.val,O V 0] f λe k=>∃g,e=A4 (B7 #[AA (A7 ⟨g,0,Ax⟩),O V 0])/\∃m,Ad (λj=>j=4) f Y k m/\DJ k m g h Z 0 (Gu Z) E:=by
 have t:=c.eh;have u:=Z.eI;refine(WU h Z.ss Z.n Z.rg Z.rs Z.lg Z.dp Z.a7 Z.aK Z.region Z.aP Z.a4 Z.bv Z.bg Z.bz Z.aA a E f Y n l (λW p=>WO p c) c.fJ o Ω c.dE).mono ?_;rintro e k ⟨g,rfl,q,r,d⟩;refine⟨g,rfl,_,(Ad.u l r).bQ q d.lt rfl,A2 Ax 0 0,[],⟨?_,CA _ _ _ _,A0 _ _ _,λb d=>by simp[BC]at d⟩,Cx.af Z c E⟩
 have s:(Gu Z 0).length=Z.aA:=by simp[Gu,AO]
 rw[s];exact d
structure BG where
 dr:Bool
 h:BitVec 64
 r:Nat
 a:Nat
 s:Nat
abbrev BG.cells(x:BG):List Bs:=[CB x.dr,O BZ (U x.h),O V x.r,O V x.a,O V x.s]
abbrev BG.val(x:BG):Bs:=CE #[CB x.dr,O BZ (U x.h),O V x.r,O V x.a,O V x.s]
def Ib(l:List BG):List Bs:=l.flatMap BG.cells
theorem eJ(l m:List BG):Ib (l++m)=Ib l++Ib m:=by simp[Ib]
theorem fx(l:List BG)(i:Nat)(x:BG)(h:l[i]?=A7 x)(j:Nat)(b:j<5):(Ib l)[i*5+j]?=x.cells[j]?:=by
 induction l generalizing i with
 |nil=>cases h
 |cons y l a=>
  cases i with
  |zero=>
   simp at h;subst h;show(y.cells++Ib l)[0*5+j]?=_;rw[kL Γ];simp
  |succ i=>
   show(y.cells++Ib l)[(i+1)*5+j]?=_;rw[kQ Γ];have:=a i (by simpa using h);rw[<-this]
   congr 1
   simp;omega
def DC(n:Nat):Nat:=(n - 28)/21
def BG.ok(x:BG):Prop:=if x.dr=Bn then x.r=0/\x.a=0/\x.s=0 else x.r<=1099511627776/\x.a<=65535/\x.s<=65535
theorem BG.ok.bB{x:BG}(h:x.ok):x.r<=1099511627776/\x.a<=65535/\x.s<=65535:=by
 unfold BG.ok at h
 split at h
 ·omega
 ·exact h
structure Ck(w:A6)(e:Ae)(l d:Nat)(P:Pl)(f g:Nat)(c:Bs)(a:List BG)(t:Nat):Prop where
 y:Aa w l 188 (AA (A7 ⟨d,0,Ax⟩)::(P.cells++[O V 2,O V (DC P.n:Nat),O V f,O V g,c,O V t]))
 aS:w.ownsRow 0 130 5 c a.length (Ib a)
 bC:a.length<=DC P.n
 hA:∀x∈a,x.ok
 c0:e l=5
 cp:∀b,c.ownBlock=A7 b->e b=5
theorem Ck.ao{l:List BG}{S:Nat->Prop}(e:Ck f Y h a Z c d J l i)(m:Ac S f g)(n:∀k,Y k=5->¬S k)(p:∀k,k<f.heap.size->o k=Y k):Ck g o h a Z c d J l i:=
 ⟨m.y e.y (n _ e.c0),m.aT e.aS (λb j=>n _ (e.cp b j)),e.bC,e.hA,by rw[p _ e.y.lt];exact e.c0,λb j=>by rw[p _ (e.aS.lt b j).2];exact e.cp b j⟩
theorem Ck.u{e:List BG}(b:Ck f Y h a Z c d J e i)(j:f.grownBy g Ax):Ck g Y h a Z c d J e i:=
 b.ao (Ac.az (S:=λ_=>False) j) (λ_ _ b=>b) (λ_ _=>rfl)
theorem Ck.ag{C:Nat->Prop}{b:List BG}(l:Ck f Y h a Z c d J b i)(k:Ad C f Y g o)(m:¬C 5):Ck g o h a Z c d J b i:=
 l.ao k.au (λj n e=>by rw[n]at e;exact m e) k.ak
theorem Ck.cells{e:List BG}(b:Ck f Y h a Z c d J e i):
  f.cell? ⟨h,0,Ax⟩=A7 (AA (A7 ⟨a,0,Ax⟩))/\f.cell? ⟨h,2,Ax⟩=A7 (O V Z.n)/\f.cell? ⟨h,5,Ax⟩=A7 (O V Z.lg)/\f.cell? ⟨h,9,Ax⟩=A7 (O V 2)/\f.cell? ⟨h,10,Ax⟩=A7 (O V (DC Z.n:Nat))/\
  f.cell? ⟨h,11,Ax⟩=A7 (O V c)/\f.cell? ⟨h,12,Ax⟩=A7 (O V d)/\f.cell? ⟨h,13,Ax⟩=A7 J/\f.cell? ⟨h,14,Ax⟩=A7 (O V i):=
 ⟨b.y.m 0,b.y.m 2,b.y.m 5,b.y.m 9,b.y.m 10,b.y.m 11,b.y.m 12,b.y.m 13,b.y.m 14⟩
def Cy(P:Pl)(a b:Nat):Nat:=P.lg - (b - a)
theorem Ky(n m:Nat)(h:n<=m)(w:A6):BE A3 113 #[O V n,O V m] w λe a=>e=A4 (CB Bn)/\w=a:=by
 have b:A5 ((0:Int)<=(n:Int))=Bn:=jG Ω;have c:A5 ((n:Int)<=(m:Int))=Bn:=jG Ω
 go_enter Tryz.func113,Tryz.ntmps113
 go_wp2;go_ret;exact⟨rfl,rfl⟩
theorem Xq(x:BG)(h:x.ok)(w:A6):BE A3 112 #[x.val] w λe b=>e=A4 (CB Bn)/\w.grownBy b Ax:=by
 obtain⟨g,j,r,a,s⟩:=x;have i:=CX w (.cells #[CB g,O BZ (U j),O V r,O V a,O V s] 130) Ax
 cases g with
 |true=>
  obtain⟨c,d,f⟩:r=0/\a=0/\s=0:=h;subst c d f
  go_enter DA,C6
  go_wp2;go_ret;exact⟨rfl,i⟩
 |false=>
  obtain⟨c,d,f⟩:r<=1099511627776/\a<=65535/\s<=65535:=h;have k:=zh (λW=>Ky r 1099511627776 c W);have l:=zh (λW=>Ky a 65535 d W);have m:=zh (λW=>Ky s 65535 f W);clear c d f
  go_enter DA,C6
  go_wp2_with fail;refine(k.o _).mono ?_;rintro e b ⟨rfl,rfl⟩;go_wp2_with fail;refine(l.o _).mono ?_;rintro e b ⟨rfl,rfl⟩;go_wp2_with fail;refine(m.o _).mono ?_;rintro e b ⟨rfl,rfl⟩;go_wp2_with fail;go_ret;exact⟨rfl,i⟩
theorem KH{l:List BG}(g:Ck f Y c d Z a h J l i)(j:Z.aY)(o:a<=h)(p:h<=2000000000):
  BE A3 49 #[AA (A7 ⟨c,0,Ax⟩)] f λe m=>e=A4 (O V (Cy Z a h:Nat))/\f.grownBy m Ax:=by
 obtain⟨_,_,q,_,_,r,s,_⟩:=g.cells;have t:=j.gg;clear g j;unfold Cy;generalize Z.lg=b at*;have k:max ((b:Int) - ((h:Int) - (a:Int))) 0=((b - (h - a):Nat):Int):=Ω;have n:=zh k;clear k;have u:BR ((h:Int) - (a:Int))=(h:Int) - (a:Int):=BA _ Ω;have v:BR ((b:Int) - ((h:Int) - (a:Int)))=(b:Int) - ((h:Int) - (a:Int)):=BA _ Ω
 go_enter Tryz.func49,Tryz.ntmps49
 go_wp2_with fail
 go_quiet (fail)
 go_wp2_with fail;go_ret;refine⟨?_,AZ _ nq Ax⟩;rw[<-n.o];rfl
theorem Y1{g:List BG}(b:Ck f Y h c Z d a J g i):
  BE A3 156 #[AA (A7 ⟨h,0,Ax⟩)] f λe j=>e=A4 (O V a)/\f=j:=by
 obtain⟨_,_,_,_,_,_,k,_⟩:=b.cells;clear b
 go_enter Tryz.func156,Tryz.ntmps156
 go_wp2_with fail;go_ret;exact⟨rfl,rfl⟩
theorem Ck.iH{j:List BG}(e:Ck f Y h a Z i c J j d)(g:Nat):Ck ((f.setCell ⟨h,11,Ax⟩ (O V g)).setCell ⟨h,13,Ax⟩ (A2 Ax 0 0)) Y h a Z g c (A2 Ax 0 0) [] d:=
 ⟨(e.y.setCell 11 _).setCell 13 _,CA _ _ _ _,ke _,(λx k=>by cases k),e.c0,λb l=>by simp[BC]at l⟩
theorem Vq{n:List BG}(b:Ck f Y h c Z i a J n d)(k:AD f Y):
  BE A3 42 #[AA (A7 ⟨h,0,Ax⟩)] f λe l=>(∃v,e=A4 v)/\Ad (λj=>j=5) f Y l Y/\Ck l Y h c Z a a (A2 Ax 0 0) [] d:=by
 obtain⟨_,_,_,_,_,r,s,t,_⟩:=b.cells;have u:=b.y.v 11;have w:=b.y.v 13;have o:=zh (b.iH a);have g:=b.y.setCell 11 (O V a);have x:=g.m 13;have y:=g.v 13;have p:=b.c0;have m:Ac (λj=>j=h) f ((f.setCell ⟨h,11,Ax⟩ (O V a)).setCell ⟨h,13,Ax⟩ (A2 Ax 0 0)):=(Ac.of (Ao _ _ _) (λj e=>by cases e;rfl)).trans (Ac.of (Ao _ _ _) (λj e=>by cases e;rfl));have q:=zh (AL (C:=λj=>j=5) k m (λj e=>by rw[e];exact p));clear b g m k
 go_enter Tryz.func42,Tryz.ntmps42
 go_wp2_with fail
 go_end0
 exact⟨⟨_,rfl⟩,q.o,o.o⟩
theorem In(h:∀x∈b,x<256)(n k:Nat):∀x∈b++At n k,x<256:=λx a=>(kI.1 a).elim (h x) (Es _ _ x)
theorem dL(n:PW g f h J b e)(x:BG)(v:x.ok)(w:(b.length:Int)+21<=e)(y:b.length<=1000)(z:∀x∈b,x<256):
  BE A3 174 #[x.val,AA (A7 ⟨h,0,Ax⟩)] f λd X=>∃Y o,d=A4 (B7 #[])/\PW g X h Y o e/\o.length=b.length+21/\∀x∈o,x<256:=by
 obtain⟨A,p,r,a,s⟩:=x;have i:=v.bB
 have u1:BZ.wrap (r:Int)=r:=by have:=i.1;rw[BX];simp only at this;omega
 have u2:BZ.wrap (a:Int)=a:=by have:=i.2.1;rw[BX];simp only at this;omega
 have u3:BZ.wrap (s:Int)=s:=by have:=i.2.2;rw[BX];simp only at this;omega
 have q:=zh i;have Z:=zh z;clear i v z;obtain⟨w1,am,B,t⟩:=An f 130 [CB A,O BZ (U p),O V r,O V a,O V s];have C:=zh (n.bw B)
 have D:¬DE h J f.heap.size:=λd=>by have:=n.wr.lt _ d;omega
 have u:=zh (Bd t D);have c:=zh (Bd w y);have x0:=t.m 0;clear n B t D w y
 go_enter Tryz.func174,Tryz.ntmps174
 go_upto_if 6 with fail
 go_cut [4] (λs4 wx=>wx=w1/\∃j:Nat,j<256/\s4=O BZ (j:Nat))
 case first=>
  cases A
  ·go_wp2_with fail
   go_meet
   exact⟨rfl,1,Ω,rfl⟩
  ·go_wp2_with fail
   go_meet
   exact⟨rfl,2,Ω,rfl⟩
 case rest=>
 obtain⟨rfl,j,E,rfl⟩:=hcut;have HK:=zh E;clear E x0;go_wp2_with fail;refine(C.o.be j 1 (Ψ HK.o) Ξ (Ψ c.o) (Ψ c.o)).mono ?_;rintro d w2 ⟨v2,rfl,F,G⟩;have k:=zh (G _ _ _ u.o.1 u.o.2);have H:=zh F;have x1:=k.o.1.m 1;clear F G C u;go_wp2_with fail;refine(H.o.be p.toNat 8 p.isLt Ξ (by have:=c.o;simp[AK];omega) (by have:=c.o;simp[AK];omega)).mono ?_;rintro d w3 ⟨v3,rfl,I,K⟩;have l:=zh (K _ _ _ k.o.1 k.o.2);have L:=zh I;have x2:=l.o.1.m 2;clear I K H k x1;go_wp2_with fail;refine(L.o.be r 8 (by have:=q.o.1;(try simp only at this);omega) Ξ (by have:=c.o;simp[AK];omega) (by have:=c.o;simp[AK];omega)).mono ?_;rintro d w4 ⟨v4,rfl,M,N⟩;have m:=zh (N _ _ _ l.o.1 l.o.2);have P:=zh M;have x3:=m.o.1.m 3;clear M N L l x2;go_wp2_with fail;refine(P.o.be a 2 (by have:=q.o.2.1;(try simp only at this);omega) Ξ (by have:=c.o;simp[AK];omega) (by have:=c.o;simp[AK];omega)).mono ?_;rintro d w5 ⟨v5,rfl,Q,R⟩;have S:=zh (R _ _ _ m.o.1 m.o.2);have T:=zh Q;have x4:=S.o.1.m 4;clear Q R P m x3;go_wp2_with fail;refine(T.o.be s 2 (by have:=q.o.2.2;(try simp only at this);omega) Ξ (by have:=c.o;simp[AK];omega) (by have:=c.o;simp[AK];omega)).mono ?_;rintro d w6 ⟨v6,rfl,W,k6⟩;have H6:=zh W;clear W k6 T S x4;go_wp2_with fail
 go_end0
 exact⟨v6,_,rfl,H6.o,by simp[AK],In (In (In (In (In Z.o _ _) _ _) _ _) _ _) _ _⟩
def WN(b w:A6)(B:Nat)(m:Nat)(c:Int):Prop:=∃v a,PW b w B v a c/\a.length=m/\∀x∈a,x<256
theorem WN.bw(b:WN f g h a e)(c:g.grownBy w Ax):WN f w h a e:=let⟨v,d,i,j⟩:=b;⟨v,d,i.bw c,j⟩
theorem WN.u(b:WN f g h a e):f.grownBy g Ax:=let⟨_,_,c,_⟩:=b;c.u
theorem WN.new(b:f.grownBy g Ax)(h:WR g f.heap.size (A2 Ax 0 0) [] e Bk):WN f g f.heap.size 0 e:=
 ⟨_,[],⟨h,λk a=>by
  rcases a with rfl|a
  ·exact jF _
  ·simp[BC]at a,b⟩,rfl,λx c=>by cases c⟩
theorem WN.be(d:WN f g a h e)(n k:Nat)(i:n<18446744073709551616)(j:Fe k=Bn)(l:(h:Int)+k<=e)(r:h<=1000):
  BE A3 124 #[AA (A7 ⟨a,0,Ax⟩),O BZ n,O V k] g λb c=>b=A4 (B7 #[])/\WN f c a (h+k) e:=by
 obtain⟨v,s,m,rfl,o⟩:=d;refine(m.be n k i j l Ω).mono ?_;rintro b c ⟨p,rfl,q,_⟩;exact⟨rfl,p,_,q,by simp[AK],In o _ _⟩
theorem WN.e0(r:WN g f h a e)(d:List Nat)(k:Option Addr)(c:Nat)(s:∀x∈d,x<256)(E:(a:Int)+d.length<=e)(F:a+d.length<=1000)(t:Ag f 1 (A2 k d.length c) d.length (Ar d))(u:∀b,(A2 k d.length c).ownBlock=A7 b->b≠h):
  BE A3 125 #[AA (A7 ⟨h,0,Ax⟩),A2 k d.length c] f λo p=>o=A4 (B7 #[])/\WN g p h (a+d.length) e:=by
 obtain⟨v,m,i,rfl,w⟩:=r;refine(PY h v m d e Bk k c f i.wr Ω t (λ_=>u)).mono ?_;rintro o p ⟨y,rfl,q,z,A⟩
 have B:Fo m e Bk d=(m++d,Bk):=by
  unfold Fo;rw[jN];intro l
  rcases l with l|l
  ·cases l
  ·omega
 rw[B]at q;refine⟨rfl,y,_,⟨q,λj C=>?_,z.u i.u i.fi⟩,Δ,λx D=>(kI.1 D).elim (w x) (s x)⟩
 rcases A j C with n|n
 ·exact i.fi j n
 ·exact jM i.u.size n
theorem WN.g7(l:WN f g a h e):
  BE A3 126 #[AA (A7 ⟨a,0,Ax⟩)] g λk i=>∃d c b,k=A4 (A2 d h c)/\b.length=h/\(∀x∈b,x<256)/\i.ownsRow f.heap.size 5 1 (A2 d h c) h (Ar b)/\f.grownBy i Ax:=by
 obtain⟨v,b,j,rfl,m⟩:=l;refine(Il _ _ _ _ _ g j.wr).mono ?_;rintro k i ⟨d,c,rfl,o,n⟩;exact⟨d,c,b,rfl,rfl,m,Cf o j.u.size,Ab j.u n⟩
theorem IQ{n:Nat}(h:n<18446744073709551616):BZ.wrap (n:Int)=n:=by rw[BX];omega
theorem Wr(o n p q r s t:Nat)(j:BitVec 64)(w:A6)(l:o<65536)(m:n<65536)(N:p<65536)(P:q<65536)(f:r<65536)(u:s<65536)(Q:t<65536):
  BE A3 216 #[CE #[O V (o:Nat),O V n,O V (p:Nat),O V q,O V r,O V s,O V t,O BZ (U j)]] w λe R=>∃a c y,e=A4 (A2 a 26 c)/\y.length=26/\(∀x∈y,x<256)/\R.ownsRow w.heap.size 5 1 (A2 a 26 c) 26 (Ar y)/\w.grownBy R Ax:=by
 have S:∀k:Nat,k<2->∃v:Nat,v<65536/\∀W,(CV 370 (CE #[O V (o:Nat),O V n]) (O V (k:Nat))).run A3 W=.ok (O V (v:Nat)) W:=λk h=>by
  rcases(show k=0\/k=1 by omega)with rfl|rfl
  ·exact⟨o,l,λW=>Φ⟩
  ·exact⟨n,m,λW=>Φ⟩
 have T:∀k:Nat,k<5->∃v:Nat,v<65536/\∀W,(CV 371 (CE #[O V (p:Nat),O V q,O V r,O V s,O V t]) (O V (k:Nat))).run A3 W=.ok (O V (v:Nat)) W:=λk h=>by
  rcases(show k=0\/k=1\/k=2\/k=3\/k=4 by omega)with rfl|rfl|rfl|rfl|rfl
  ·exact⟨p,N,λW=>Φ⟩
  ·exact⟨q,P,λW=>Φ⟩
  ·exact⟨r,f,λW=>Φ⟩
  ·exact⟨s,u,λW=>Φ⟩
  ·exact⟨t,Q,λW=>Φ⟩
 have I1:=zh S;have I2:=zh T;clear S T l m N P f u Q;obtain⟨z,af,X,Y⟩:=An w 37 (Db o n p q r s t j);have Z:=zh X;have g:=zh Y;clear X Y
 go_enter Tryz.func216,Tryz.ntmps216
 go_wp2_with fail;refine(IV 26 Ω z).mono ?_;rintro e w2 ⟨rfl,F,E⟩;rw[jP Ω]at F;have W2:=zh (WN.new E F);have x0:=(g.o.u E Δ).m 0;have x1:=(g.o.u E Δ).m 1;clear F E af;go_wp2_with fail;clear x0 x1
 go_loopg [14] 2 (λk v wr=>v=O V (2 - k:Nat)/\k<=2/\WN z wr z.heap.size (4*(2 - k)) 26)
 case atStart=>exact⟨rfl,jF _,W2.o⟩
 case round=>
  obtain⟨rfl,h,A⟩:=hrel;have b:=zh A;clear A W2
  by_cases B:gk=0
  ·subst B;rw[lW]at b⊢;have x2:=(g.o.u b.o.u Δ).m 2;have x3:=(g.o.u b.o.u Δ).m 3;have x4:=(g.o.u b.o.u Δ).m 4;have x5:=(g.o.u b.o.u Δ).m 5;have x6:=(g.o.u b.o.u Δ).m 6;have W3:=zh b.o;clear h b;go_wp2_with fail;clear x2 x3 x4 x5 x6
   go_loopg [33] 5 (λk v wr=>v=O V (5 - k:Nat)/\k<=5/\WN z wr z.heap.size (8+2*(5 - k)) 26)
   case atStart=>exact⟨rfl,jF _,W3.o⟩
   case round=>
    obtain⟨rfl,h,A⟩:=hrel;have b:=zh A;clear A W3
    by_cases B:gk=0
    ·subst B;rw[lW]at b⊢;have y7:=(g.o.u b.o.u Δ).m 7;have hU:U j=((j.toNat:Nat):Int):=rfl;rw[hU]at y7;clear h;go_wp2_with fail;refine(b.o.be j.toNat 8 j.isLt Ξ Ω Ω).mono ?_;rintro e w6 ⟨rfl,u⟩;have W6:=zh u;clear u b y7;go_wp2_with fail;refine(W6.o.g7).mono ?_;rintro e w7 ⟨a,c,y,rfl,hl,aq,ho,hg⟩;go_wp2_with fail;go_ret;exact⟨a,c,y,rfl,hl,aq,Cf ho Z.o.size,Ab Z.o hg⟩
    ·obtain⟨i,C⟩:=Af (5 - gk);rw[C]at b⊢;have G:A5 ((i:Int)<5)=Bn:=jG Ω;have H:A5 (i<5)=Bn:=jG Ω;obtain⟨v,D,I⟩:=I2.o i Ω;have J:=IQ (n:=v) Ω;have K:=zh D;have d:Hd (i+1=5 - (gk - 1)/\gk - 1<=5/\gk - 1<gk/\i<5):=zh Ω;have L:Hd (BR ((i:Int)+1)=((i+1:Nat):Int)):=zh (Dm rfl Ω);clear C h B D;go_wp2_with fail;refine(b.o.be v 2 (Ψ K.o) Ξ (Ψ d.o) (Ψ d.o)).mono ?_;rintro e w5 ⟨rfl,f⟩;have M:=zh f;clear f b G H I J;go_wp2_with fail
     go_roundg (gk - 1)
     case measure=>exact d.o.2.2.1
     exact⟨by rw[<-d.o.1,L.o],d.o.2.1,by
      have l:=M.o;have m:=d.o.1;rw[<-m,oq,mj];rw[<-kO]
      exact l⟩
  ·obtain⟨i,C⟩:=Af (2 - gk);rw[C]at b⊢;have G:A5 ((i:Int)<2)=Bn:=jG Ω;have H:A5 (i<2)=Bn:=jG Ω;obtain⟨v,D,I⟩:=I1.o i Ω;have J:=IQ (n:=v) Ω;have K:=zh D;have d:Hd (i+1=2 - (gk - 1)/\gk - 1<=2/\gk - 1<gk/\i<2):=zh Ω;have L:Hd (BR ((i:Int)+1)=((i+1:Nat):Int)):=zh (Dm rfl Ω);clear C h B D;go_wp2_with fail;refine(b.o.be v 4 (Ψ K.o) Ξ (Ψ d.o) (Ψ d.o)).mono ?_;rintro e w5 ⟨rfl,f⟩;have M:=zh f;clear f b G H I J;go_wp2_with fail
   go_roundg (gk - 1)
   case measure=>exact d.o.2.2.1
   exact⟨by rw[<-d.o.1,L.o],d.o.2.1,by
    have l:=M.o;have m:=d.o.1;rw[<-m,oq,mj]
    exact l⟩
abbrev Ft(a n b c d e f:Nat)(g:BitVec 64)(h i j k l m t:Nat):List Bs:=[O V a,O V n,O V b,O V c,O V d,O V e,O V f,O BZ (U g),O V h,O V i,O V j,O V k,O V l,O V m,O V t]
theorem Wx(j n l m o c p:Nat)(q:BitVec 64)(f g s d h u t:Nat)(r D E F G H I:Nat)(w:A6)
  (J:∀W,BE A3 32 #[CE (Db j n l m o c p q).toArray] W λe x=>e=A4 (B7 #[CE (EQ r D E F G H I).toArray,O V 0])/\W.grownBy x Ax)
  (P:1<=f)(Q:g<=2147483647)(R:d<=c)(S:1<=h)(T:t<=281474976710656):
  BE A3 215 #[CE (Ft j n l m o c p q f g s d h u t).toArray] w λe x=>e=A4 (O V 0)/\w.grownBy x Ax:=by
 have U:A5 ((1:Int)<=(f:Int))=Bn:=jG Ω;have X:A5 (1<=f)=Bn:=jG Ω;have Y:A5 ((0:Int)<=(g:Int))=Bn:=jG Ω;have Z:A5 ((g:Int)<=2147483647)=Bn:=jG Ω;have d4:A5 ((0:Int)<=(s:Int))=Bn:=jG Ω;have d5:A5 ((0:Int)<=(d:Int))=Bn:=jG Ω;have d6:A5 ((d:Int)<=(c:Int))=Bn:=jG Ω;have ad:A5 (d<=c)=Bn:=jG Ω;have d7:A5 ((1:Int)<=(h:Int))=Bn:=jG Ω;have d8:A5 ((0:Int)<=(u:Int))=Bn:=jG Ω;have d9:A5 ((0:Int)<=(t:Int))=Bn:=jG Ω;have ah:A5 ((t:Int)<=281474976710656)=Bn:=jG Ω
 have K:∀k:Nat,k<7->∀W,(CV 369 (CE #[CB Bn,CB Bn,CB Bn,CB Bn,CB Bn,CB Bn,CB Bn]) (O V (k:Nat))).run A3 W=.ok (CB Bn) W:=λk y=>by
  rcases(show k=0\/k=1\/k=2\/k=3\/k=4\/k=5\/k=6 by omega)with rfl|rfl|rfl|rfl|rfl|rfl|rfl<;>exact λW=>Φ
 have I1:=zh K;have HF:=zh J;clear K J P Q R S T;obtain⟨w1,al,L,a⟩:=An w 191 (Ft j n l m o c p q f g s d h u t);have P1:=zh a;have G1:=zh L;have x0:=a.m 0;have x1:=a.m 1;have x2:=a.m 2;have x3:=a.m 3;have x4:=a.m 4;have z:=a.m 5;have x6:=a.m 6;have x7:=a.m 7;clear L a
 go_enter Tryz.func215,Tryz.ntmps215
 go_wp2_with fail;clear al x0 x1 x2 x3 x4 z x6 x7;refine(HF.o w1).mono ?_;rintro e w2 ⟨rfl,A⟩;obtain⟨w3,az,B,l3⟩:=An w2 85 (EQ r D E F G H I);have G3:=zh (Ab (Ab G1.o A) B);have b:=zh ((P1.o.u A Δ).u B Δ);have z:=b.o.m 5;have x8:=b.o.m 8;have x9:=b.o.m 9;have aE:=b.o.m 10;have aF:=b.o.m 11;have aG:=b.o.m 12;have aH:=b.o.m 13;have aI:=b.o.m 14;clear A B l3;go_wp2_with fail;clear az z x8 x9 aE aF aG aH aI U X Y Z d4 d5 d6 ad d7 d8 d9 ah
 go_loopg [59] 7 (λk v wr=>v=O V (7 - k:Nat)/\k<=7/\wr=w3)
 case atStart=>exact⟨rfl,jF _,rfl⟩
 case round=>
  obtain⟨rfl,y,rfl⟩:=hrel
  by_cases M:gk=0
  ·subst M;rw[lW];clear y;go_wp2_with fail;go_ret;exact⟨rfl,G3.o⟩
  ·obtain⟨i,N⟩:=Af (7 - gk);rw[N];have hd:A5 ((i:Int)<7)=Bn:=jG Ω;have aL:A5 (i<7)=Bn:=jG Ω;have aM:=I1.o i Ω;have C:Hd (i+1=7 - (gk - 1)/\gk - 1<=7/\gk - 1<gk):=zh Ω;have aJ:Hd (BR ((i:Int)+1)=((i+1:Nat):Int)):=zh (Dm rfl Ω);clear N y M;go_wp2_with fail
   go_roundg (gk - 1)
   case measure=>exact C.o.2.2
   exact⟨by rw[<-C.o.1,aJ.o],C.o.2.1,rfl⟩
theorem Xo(B n C D E F G:Nat)(H:BitVec 64)(P s u y l m t:Nat)(w:A6)
  (hr:∀W,BE A3 215 #[CE (Ft B n C D E F G H P s u y l m t).toArray] W λe j=>e=A4 (O V 0)/\W.grownBy j Ax)
  (hp:∀W,BE A3 216 #[CE (Db B n C D E F G H).toArray] W λe j=>∃a c f,e=A4 (A2 a 26 c)/\f.length=26/\(∀x∈f,x<256)/\j.ownsRow W.heap.size 5 1 (A2 a 26 c) 26 (Ar f)/\W.grownBy j Ax)
  (Q:s<18446744073709551616)(R:u<18446744073709551616)(S:y<18446744073709551616)(g:l<18446744073709551616)(o:m<18446744073709551616)(p:t<18446744073709551616):
  BE A3 152 #[CE (Ft B n C D E F G H P s u y l m t).toArray] w λe j=>∃a c f,e=A4 (B7 #[A2 a 63 c,O V 0])/\f.length=63/\(∀x∈f,x<256)/\j.ownsRow w.heap.size 5 1 (A2 a 63 c) 63 (Ar f)/\w.grownBy j Ax:=by
 have i1:∀k:Nat,k<3->∃v:Nat,v<18446744073709551616/\∀W,(CV 328 (CE #[O V (l:Nat),O V m,O V t]) (O V (k:Nat))).run A3 W=.ok (O V (v:Nat)) W:=λk T=>by
  rcases(show k=0\/k=1\/k=2 by omega)with rfl|rfl|rfl
  ·exact⟨l,g,λW=>Φ⟩
  ·exact⟨m,o,λW=>Φ⟩
  ·exact⟨t,p,λW=>Φ⟩
 have I1:=zh i1;have HR:=zh hr;have HP:=zh hp;have u1:=IQ Q;have u2:=IQ R;have u3:=IQ S;have U:=zh (Bd Q (Bd R S));clear i1 hr hp Q R S g o p;obtain⟨w1,aT,g1,d⟩:=An w 191 (Ft B n C D E F G H P s u y l m t);have P1:=zh d;have G1:=zh g1;have X:=d.m 0;have Y:=d.m 1;have Z:=d.m 2;have x3:=d.m 3;have x4:=d.m 4;have x5:=d.m 5;have x6:=d.m 6;have x7:=d.m 7;have x8:=d.m 8;have x9:=d.m 9;have ag:=d.m 10;have ah:=d.m 11;have ai:=d.m 12;have aj:=d.m 13;have ak:=d.m 14;clear g1 d
 go_enter Tryz.func152,Tryz.ntmps152
 go_wp2_with fail;clear aT X Y Z x3 x4 x5 x6 x7 x8 x9 ag ah ai aj ak;refine(HR.o w1).mono ?_;rintro e I ⟨rfl,g2⟩;have z:=zh (P1.o.u g2 Δ);have G2:=zh (Ab G1.o g2);clear g2 P1;go_wp2_with fail;refine(IV 63 Ω I).mono ?_;rintro e w3 ⟨rfl,am,g3⟩;rw[jP Ω]at am;have W3:=zh (WN.new g3 am);have h:=z.o.u g3 Δ;have X:=h.m 0;have Y:=h.m 1;have Z:=h.m 2;have x3:=h.m 3;have x4:=h.m 4;have x5:=h.m 5;have x6:=h.m 6;have x7:=h.m 7;clear am g3 h;go_wp2_with fail;clear X Y Z x3 x4 x5 x6 x7;refine(HP.o w3).mono ?_;rintro e w4 ⟨a,c,f,rfl,J,K,L,g4⟩;have W4:=zh (W3.o.bw g4);have HO:=zh L;have q:=zh (Bd J K)
 have aE:I.heap.size<w3.heap.size:=by obtain⟨v,f,h1,_⟩:=W3.o;exact h1.wr.lt _ (C2 rfl)
 have aW:=zh aE;clear J K L g4 W3 aE;go_wp2_with fail;have aF:=Ag.ai HO.o;have ar:=W4.o.e0 f a c q.o.2 (by rw[q.o.1];omega) (by rw[q.o.1];omega) (by rw[q.o.1];exact aF) (λb hb=>by rw[q.o.1]at hb;have:=(HO.o.lt b hb).1;have:=aW.o;omega);rw[q.o.1]at ar;refine ar.mono ?_;rintro e w5 ⟨rfl,g⟩;have M:=zh g;have P5:=z.o.u g.u Δ;have x9:=P5.m 9;clear aF ar g P5 W4 HO;go_wp2_with fail;refine(M.o.be s 4 U.o.1 Ξ Ω Ω).mono ?_;rintro e w6 ⟨rfl,o⟩;have W6:=zh o;have ag:=(z.o.u o.u Δ).m 10;clear o x9 M;go_wp2_with fail;refine(W6.o.be u 8 U.o.2.1 Ξ Ω Ω).mono ?_;rintro e w7 ⟨rfl,p⟩;have W7:=zh p;have ah:=(z.o.u p.u Δ).m 11;clear p ag W6;go_wp2_with fail;refine(W7.o.be y 1 U.o.2.2 Ξ Ω Ω).mono ?_;rintro e w8 ⟨rfl,h8⟩;have W8:=zh h8;have N:=z.o.u h8.u Δ;have ai:=N.m 12;have aj:=N.m 13;have ak:=N.m 14;clear h8 ah W7 N u1 u2 u3;go_wp2_with fail;clear ai aj ak
 go_loopg [43] 3 (λk v wr=>v=O V (3 - k:Nat)/\k<=3/\WN I wr I.heap.size (39+8*(3 - k)) 63)
 case atStart=>exact⟨rfl,jF _,W8.o⟩
 case round=>
  obtain⟨rfl,T,hw⟩:=hrel;have A:=zh hw;clear hw W8
  by_cases h0:gk=0
  ·subst h0;rw[lW]at A⊢;clear T;go_wp2_with fail;refine(A.o.g7).mono ?_;rintro e w9 ⟨a,c,f,rfl,J,K,L,hg⟩;go_wp2_with fail;exact B0 (CK rfl _ _ _) rfl ⟨a,c,f,rfl,J,K,Cf L G2.o.size,Ab G2.o hg⟩
  ·obtain⟨i,hi⟩:=Af (3 - gk);rw[hi]at A⊢;have hd:A5 ((i:Int)<3)=Bn:=jG Ω;have a0:A5 (i<3)=Bn:=jG Ω;obtain⟨v,hv,a1⟩:=I1.o i Ω;have a2:=IQ (n:=v) Ω;have HV:=zh hv;have r:Hd (i+1=3 - (gk - 1)/\gk - 1<=3/\gk - 1<gk/\i<3):=zh Ω;have a4:Hd (BR ((i:Int)+1)=((i+1:Nat):Int)):=zh (Dm rfl Ω);clear hi T h0 hv;go_wp2_with fail;refine(A.o.be v 8 HV.o Ξ (Ψ r.o) (Ψ r.o)).mono ?_;rintro e w5 ⟨rfl,g⟩;have M:=zh g;clear g A hd a0 a1 a2;go_wp2_with fail
   go_roundg (gk - 1)
   case measure=>exact r.o.2.2.1
   exact⟨by rw[<-r.o.1,a4.o],r.o.2.1,by
    have h1:=M.o;rw[<-r.o.1,oq,mj, <-kO]
    exact h1⟩
theorem Yf(d a n i j k l m:Nat)(o:BitVec 64)(p q r s u v t:Nat)(w:AF f Y d a n h E):
  BE A3 153 #[CE (Ft a n i j k l m o p q r s u v t).toArray,AA (A7 ⟨d,0,Ax⟩)] f λe C=>e=A4 (CB Bn)/\f.grownBy C Ax:=by
 have F:((a:Int)==(a:Int))=Bn:=Δ;have G:((n:Int)==(n:Int))=Bn:=Δ;have x:=zh w;clear w;obtain⟨H,I,y,b⟩:=An f 191 (Ft a n i j k l m o p q r s u v t);have c:=zh y;have z:=b.m 0;have A:=b.m 1;have J:=AJ z;have K:=AJ A;clear y b
 go_enter Tryz.func153,Tryz.ntmps153
 go_wp2_with fail;clear z A;refine Cb Φ Φ ?_
 repeat(go_big_quiet_step (fail))
 go_big_quiet_step ((go_at_call 129;exact Hi (λW g=>Mi (x.o.u (Ab c.o g))) _))
 repeat(go_big_quiet_step (fail))
 go_big_quiet_step ((go_at_call 130;exact Hi (λW g=>KJ (x.o.u (Ab c.o g))) _))
 repeat(go_big_quiet_step (fail))
 refine CR ?_;rintro _ ⟨B,rfl⟩;have D:=Bu B;generalize gw B=L at*;go_wp2_with fail;go_ret;exact⟨rfl,Ab c.o D⟩
theorem Yc(d k n q r s u v:Nat)(w:BitVec 64)(i y z A B C t:Nat)(hD:AF f Y d k n h E)(hC:AD f Y)(hq:h<=1073741824)
  (hp:∀W,BE A3 152 #[CE (Ft k n q r s u v w i y z A B C t).toArray] W λe o=>∃a c l,e=A4 (B7 #[A2 a 63 c,O V 0])/\l.length=63/\(∀x∈l,x<256)/\o.ownsRow W.heap.size 5 1 (A2 a 63 c) 63 (Ar l)/\W.grownBy o Ax)
  (hg:i<=9223372036854775807)(aj:2<=k)(m:96<=n):
  BE A3 93 #[AA (A7 ⟨d,0,Ax⟩),CE (Ft k n q r s u v w i y z A B C t).toArray] f λe o=>e=A4 (O V 0)/\∃D l,Ad (λj=>j=1) f Y o D/\AF o D d k n (h+1) (CJ E ((i%2:Nat):Int) l):=by
 have HD:=zh hD;have HC:=zh hC;have HP:=zh hp;have HF:=zh (λ(W:A6) (hW:AF W Y d k n h E)=>Yf d k n q r s u v w i y z A B C t hW)
 have hm:((i:Int)).tmod 2=((i%2:Nat):Int):=by rw[kP Ω];rfl
 have aB:(i:Int)%2=((i%2:Nat):Int):=rfl;have H:i%2<=1:=Ω;obtain⟨T,am⟩:=Af (i%2);rw[am]at hm aB H⊢;have HN:=zh (show T<=1/\i<=9223372036854775807/\2<=k/\96<=n/\h<=1073741824 from⟨H,hg,aj,m,hq⟩);clear hD hC hp hg aj m hq H am;obtain⟨w1,aE,g1,b⟩:=An f 191 (Ft k n q r s u v w i y z A B C t);have P1:=zh b;have G1:=zh g1;have I:=b.m 0;have J:=b.m 1;have K:=b.m 2;have L:=b.m 3;have M:=b.m 4;have N:=b.m 5;have P:=b.m 6;have Q:=b.m 7;have p:=b.m 8;have R:=b.m 9;have S:=b.m 10;have U:=b.m 11;have X:=b.m 12;have Z:=b.m 13;have aa:=b.m 14;clear g1 b
 go_enter Tryz.func93,Tryz.ntmps93
 go_wp2_with fail;clear aE I J K L M N P Q p R S U X Z aa;refine(HP.o w1).mono ?_;rintro e w2 ⟨a,c,l,rfl,hl,aq,ho,g2⟩;have HO:=zh ho;have F:=zh (Bd hl aq);have G2:=zh (Ab G1.o g2);have g:=P1.o.u g2 Δ;have P2:=zh g;have I:=g.m 0;have J:=g.m 1;have K:=g.m 2;have L:=g.m 3;have M:=g.m 4;have N:=g.m 5;have P:=g.m 6;have Q:=g.m 7;have p:=g.m 8;have R:=g.m 9;have S:=g.m 10;have U:=g.m 11;have X:=g.m 12;have Z:=g.m 13;have aa:=g.m 14;clear hl aq ho g2 g P1;go_wp2_with fail;clear I J K L M N P Q p R S U X Z aa;refine(HF.o w2 (HD.o.u G2.o)).mono ?_;rintro e w3 ⟨rfl,G⟩;have O3:=zh (AV HO.o G);have G3:=zh (Ab G2.o G);have p:=(P2.o.u G Δ).m 8;clear G HO;go_wp2_with fail;have aw:=Ag.ai O3.o;have m:=HN.o;have ad:=MQ d k n h E (T:Int) 1 T i l a c w3 Y (HD.o.u G3.o) (HC.o.u G3.o) m.2.2.2.2 Ω Ω Ω Ω Ω m.2.1 (by rw[F.o.1];omega) F.o.2 (by rw[F.o.1];exact aw);rw[F.o.1]at ad;refine ad.mono ?_;rintro e w4 ⟨rfl,D,s4,d4⟩;clear aw ad m p;go_wp2_with fail;go_ret;exact⟨rfl,D,_,(Ad.u HC.o G3.o).trans s4,d4⟩
def Is(a b:Int->List Nat):Prop:=∀i:Int,2<=i->b i=a i
theorem Is.cX(a:Int->List Nat)(g:Nat)(b:List Nat):Is a (CJ a ((g%2:Nat):Int) b):=by
 intro i c;unfold CJ;rw[jN Ω]
theorem Is.ei{a:Int->List Nat}(h:Is E a):Ln Z E a:=λk _=>h _ (by have:Z.region=2+Z.lg:=rfl;omega)
theorem Is.ew{a:Int->List Nat}(h:Is E a):Kb Z E a:=λk _=>h _ (by have:Z.aP=2+Z.lg+Z.rg*Z.rs:=rfl;omega)
theorem ZU(p:AF f Y h Z.ss Z.n a E)(q:AD f Y)(b:Z.aY)(r:a<=1073741824)(c g i k d l t:Nat)(u:1<=c)(A:c<=2000000000)(v:g<=2147483647)(B:i<=2000000000)(w:k<=Z.dp)(x:1<=d)(C:d<=2000000000)(D:l<=1099511627776)(y:t<=281474976710656):
  BE A3 93 #[AA (A7 ⟨h,0,Ax⟩),CE (Ft Z.ss Z.n Z.rg Z.rs Z.lg Z.dp Z.a7 Z.aK c g i k d l t).toArray] f λe n=>e=A4 (O V 0)/\∃m o,Ad (λj=>j=1) f Y n m/\AF n m h Z.ss Z.n (a+1) o/\Is E o:=by
 have F:=b.dE;have G:=b.n1;have H:=b.fq;have I:=b.cQ;have J:=b.gg;have K:=b.e2;have L:=b.hp;have M:=b.eh;have N:Z.aP=2+Z.lg+Z.rg*Z.rs:=rfl;refine(Yc h Z.ss Z.n Z.rg Z.rs Z.lg Z.dp Z.a7 Z.aK c g i k d l t p q r (λW=>Xo Z.ss Z.n Z.rg Z.rs Z.lg Z.dp Z.a7 Z.aK c g i k d l t W (λW=>Wx Z.ss Z.n Z.rg Z.rs Z.lg Z.dp Z.a7 Z.aK c g i k d l t Z.region Z.aP Z.a4 Z.bv Z.bg Z.bz Z.aA W (λW=>I9 Z b W) u v w x y) (λW=>Wr Z.ss Z.n Z.rg Z.rs Z.lg Z.dp Z.a7 Z.aK W Ω Ω Ω Ω Ω Ω Ω) Ω Ω Ω Ω Ω Ω) Ω Ω b.n0).mono ?_;rintro e n ⟨rfl,m,z,s,h⟩;exact⟨rfl,m,_,s,h,Is.cX E c z⟩
theorem Ck.iD{j:List BG}(e:Ck f Y h a Z c d J j i)(v:Nat)(g:Nat):Ck (((f.setCell ⟨h,12,Ax⟩ (O V v)).setCell ⟨h,13,Ax⟩ (A2 Ax 0 0)).setCell ⟨h,14,Ax⟩ (O V g)) Y h a Z c v (A2 Ax 0 0) [] g:=
 ⟨((e.y.setCell 12 _).setCell 13 _).setCell 14 _,CA _ _ _ _,ke _,(λx k=>by cases k),e.c0,λb l=>by simp[BC]at l⟩
def Hb:Nat->Prop:=λj=>j=1\/j=5
theorem QQ{fr:Nat}{D:List BG}(n:Ck f Y a c Z fr h J D q)(hD:AF f Y c Z.ss Z.n d E)(hC:AD f Y)(hf:Z.aY)(hq:d<=1073741824)(G:h<=2000000000)(t:Nat)(ht:t<=281474976710656):
  BE A3 114 #[AA (A7 ⟨a,0,Ax⟩),O V t] f λe w'=>e=A4 (O V 0)/\∃aj m,Ad Hb f Y w' aj/\Ck w' aj a c Z fr (h+1) (A2 Ax 0 0) [] t/\AF w' aj c Z.ss Z.n (d+1) (CJ E ((2+h%Z.lg:Nat):Int) m):=by
 have bg:=hf.n0;have bh:=hf.n1;have b9:=hf.fM;have ca:=hf.gg;have cb:=n.bC
 have cc:21*DC Z.n+9<=Z.n - 19:=by unfold DC;omega
 have bi:h%Z.lg<Z.lg:=lA _ Ω
 have cd:2+Z.lg<=Z.ss:=by have h1:=hf.eh;have P:Z.aP=2+Z.lg+Z.rg*Z.rs:=rfl;omega
 have ce:=hf.dE;obtain⟨R,hR⟩:=Af (h%Z.lg);rw[hR]at bi⊢;obtain⟨pa,pc,rfl⟩:=(Ag.ai n.aS).slice;have bj:((Z.n:Int) - 19)=((Z.n - 19:Nat):Int):=Ω;have aS:=zh (λW=>Jb Z.n bg bh W);rw[bj]at aS
 have bk:=λ(W:A6) (aT:Ae) (cf:AF W aT c Z.ss Z.n d E) (cg:AD W aT) (ld:List Nat) (p:Option Addr) (r:Nat) (h1:ld.length<=Z.n - 19) (P:∀x∈ld,x<256) (hR:Ag W 1 (A2 p ld.length r) ld.length (Ar ld))=>
  MQ c Z.ss Z.n d E ((2+R:Nat):Int) 4 R h ld p r W aT cf cg hq Ω (by exact_mod_cast (show 2+R<Z.ss by omega)) Ω Ω Ω Ω h1 P hR
 have u1:BZ.wrap (t:Int)=t:=by rw[BX];omega
 have u2:BZ.wrap (D.length:Int)=D.length:=by rw[BX];omega
 have hz:((Z.lg:Int)==0)=Bk:=Γ;have bm:¬Z.lg=0:=Ω
 have bn:((h:Int)).tmod (Z.lg:Int)=(R:Int):=by rw[kP Ω, <-hR];rfl
 have bo:(h:Int)%(Z.lg:Int)=(R:Int):=by rw[<-hR];rfl
 have bp:=zh bk;have H:=zh n;have HD:=zh hD;have HC:=zh hC;have A:=zh (show 21*D.length+9<=Z.n - 19/\Z.n - 19<=493/\D.length<=24 from⟨Ω,Ω,Ω⟩);have br:=zh (Bd bn bo);have bs:=zh (Bd G (show R<=256 by omega));obtain⟨M,hM⟩:=Af (Z.n - 19);rw[hM]at aS A bp;obtain⟨_,x2,x5,x9,_,_,z,I,_⟩:=n.cells;clear n hD hC bg bh b9 ca cb cc bi cd ce bj bk bn bo hq G hR hM
 go_enter Tryz.func114,Tryz.ntmps114
 go_wp2_with fail;refine(aS.o f).mono ?_;rintro e w' ⟨rfl,rfl⟩;go_wp2_with fail;refine(IV (M:Nat) (Ψ A.o) f).mono ?_;rintro e w1 ⟨rfl,aV,g1⟩;rw[jP Ω]at aV
 have W1:=zh (show PW f w1 f.heap.size (A2 Ax 0 0) [] (M:Nat)from⟨aV,λk hk=>by
  rcases hk with rfl|hk
  ·exact jF _
  ·simp[BC]at hk,g1⟩)
 clear aV g1;go_wp2_with fail;refine(W1.o.be t 8 Ω Ξ (by have:=A.o;simp;omega) Δ).mono ?_;rintro e w2 ⟨v2,rfl,P,_⟩;have W2:=zh P;have I:=P.u.cell I Δ;clear P W1;go_wp2_with fail;refine(W2.o.be D.length 1 (Ψ A.o) Ξ (by have:=A.o;simp[AK];omega) (by simp[AK])).mono ?_;rintro e w3 ⟨v3,rfl,h3,_⟩;have W3:=zh (show∃v m,PW f w3 f.heap.size v m (M:Nat)/\m.length=9/\∀x∈m,x<256 from⟨_,_,h3,by simp[AK],In (In (λx G=>by cases G) _ _) _ _⟩);have I:=h3.u.cell (H.o.cells.2.2.2.2.2.2.2.1) Δ;clear h3 W2;go_wp2_with fail;obtain⟨s,aW⟩:=Af D.length;rw[aW]at A⊢;have bz:=zh aW;clear x2 x5 x9 z I u1 u2 aW
 go_loopg [34] s (λk v wr=>v=O V (s - k:Nat)/\k<=s/\∃vv m,PW f wr f.heap.size vv m (M:Nat)/\m.length=9+21*(s - k)/\∀x∈m,x<256)
 case atStart=>
  obtain⟨v,m,h1,P,h3⟩:=W3.o;exact⟨Δ,jF _,v,m,h1,Ω,h3⟩
 case round=>
  obtain⟨rfl,hk,vv,m,hw,af,bD⟩:=hrel;have Q:=zh hw;have bE:=zh bD;clear hw W3 bD
  by_cases bF:gk=0
  ·subst bF;have hd:A5 ((s:Int)<(s:Int))=Bk:=jH Ω;rw[lW]at af;rw[lW];have an:=zh af;clear af hk;obtain⟨_,x2,x5,x9,_,_,z,I,_⟩:=H.o.cells;have x5:=Q.o.u.cell x5 Δ;have z:=Q.o.u.cell z Δ;clear x2 x9 I;have HZ:=zh (Bd hz bm);have ck:=br.o.1;have cl:=br.o.2;go_wp2_with fail
   go_quiet (fail)
   have W4:=zh (Q.o.bw (AZ wr nq Ax));generalize wr.drewN nq=w4 at*;clear x5 z ck cl hz bm Q
   go_upto_region 10 with fail
   go_cut [9] (λs9 wx=>∃X p r,s9=AA (A7 ⟨X,0,Ax⟩)/\Aa wx X 174 [O V 4,O V R,O V h,A2 p m.length r]/\wx.ownsRow f.heap.size 5 1 (A2 p m.length r) m.length (Ar m)/\f.grownBy wx Ax/\f.heap.size<=X)
   case first=>
    obtain⟨w5,aK,g5⟩:=AP w4;have B:=zh (W4.o.bw g5);have z:=B.o.u.cell (H.o.cells.2.2.2.2.2.2.1) Δ;clear g5;refine AS (λW=>W.cell? ⟨a,12,Ax⟩=A7 (O V h)) (.bN [0,1,2,3,4,5] 6 Bn (.am [7] [] 8 Bn (.am [] [] 9 Bk (.nil))) 8 Bn (.am [] [] 6 Bn (.am [] [7] 9 Bk (.nil)))) Φ Φ ?_;rw[aK];refine DK z ?_;clear aK
    iterate 6 ((apply AC rfl Θ;(· intro wS F;(try have F:=F rfl);(try dsimp only at F);(try(have co:=F));go_simp;(try with_reducible rfl)));refine Al ?_)
    refine Aj ⟨?_,?_⟩
    ·refine Am ?_;intro K g;refine(Il _ _ _ _ _ w5 B.o.wr).mono ?_;rintro e w6 ⟨p,r,rfl,o6,w⟩;have S:f.heap.size<=w6.heap.size:=jM B.o.u.size w.size;have ag:=w.cell z Δ;dsimp only;refine g _ _ ⟨_,λ_ n=>n,λ_=>ag,?_⟩;clear g K;refine Al ?_;refine Dz ag ?_
     iterate 1 ((apply AC rfl Θ;(· intro wS F;(try have F:=F rfl);(try dsimp only at F);(try(have co:=F));go_simp;(try with_reducible rfl)));refine Al ?_)
     refine Aj ?_;refine Aj ?_;refine Am ?_;intro K g;obtain⟨w7,aL,T,l⟩:=An w6 174 [O V 0,O V 0,O V 0,A2 Ax 0 0];rw[aL];have g7:=Ab B.o.u (Ab w T);have o7:=AV (Cf o6 B.o.u.size) T;refine g _ _ ⟨_,λ_ n=>n,λ_=>(T.cell ag Δ),?_⟩;clear g K;refine Al ?_;refine Ap ?_;refine Aj ?_;have f0:=l.v 0;have f1:=l.v 1;have f2:=l.v 2;have f3:=l.v 3;have y0:=l.m 0;have y1:=l.m 1;have y2:=l.m 2;have y3:=l.m 3;refine Am ?_;intro K g;obtain⟨w8,L,b8,t8⟩:=Fm l (O V 4) (O V R) (O V h) (A2 p m.length r);rw[L];clear f0 f1 f2 f3 y0 y1 y2 y3 L;refine Aq g ?_;clear g K;refine AG (BD ?_);go_wp2_with fail
     go_meet
     exact⟨_,p,r,rfl,b8,t8.aT o7 (λb hb e=>by subst e;exact Bv l o7 Ξ hb),Ac.u g7 t8 (λj e=>by subst e;exact S),S⟩
    ·refine Am ?_;intro K g;obtain⟨w6,cp,w,b6⟩:=An w5 174 [O V 0,O V 0,O V 0,A2 Ax 0 0];rw[cp];have S:f.heap.size<=w5.heap.size:=B.o.u.size;have W6:=zh (B.o.bw w);have ag:=w.cell z Δ;refine g _ _ ⟨_,λ_ n=>n,λ_=>ag,?_⟩;clear g K;refine Al ?_;refine Ap ?_;refine Aj ?_;refine Am ?_;intro K g;refine(Il _ _ _ _ _ w6 W6.o.wr).mono ?_;rintro e w7 ⟨p,r,rfl,cq,T⟩;have l:=b6.u T Δ;have g7:=Ab W6.o.u T;have o7:=Cf cq W6.o.u.size;dsimp only;refine g _ _ ⟨_,λ_ n=>n,λ_=>(T.cell ag Δ),?_⟩;clear g K;refine Al ?_;refine Ap ?_;refine Av ?_;refine Aj ?_;have f0:=l.v 0;have f1:=l.v 1;have f2:=l.v 2;have f3:=l.v 3;have y0:=l.m 0;have y1:=l.m 1;have y2:=l.m 2;have y3:=l.m 3;refine Am ?_;intro K g;obtain⟨w8,L,b8,t8⟩:=Fm l (O V 4) (O V R) (O V h) (A2 p m.length r);rw[L];clear f0 f1 f2 f3 y0 y1 y2 y3 L;refine Aq g ?_;clear g K;refine AG (BD ?_);go_wp2_with fail
     go_meet
     exact⟨_,p,r,rfl,b8,t8.aT o7 (λb hb e=>by subst e;exact Bv l o7 Ξ hb),Ac.u g7 t8 (λj e=>by subst e;exact S),S⟩
   case rest=>
   obtain⟨X,p,r,rfl,b6,o6,w,S⟩:=hcut;have H6:=zh (H.o.u w)
   have bK:a≠X:=λe=>by have:=H.o.y.lt;omega
   have a2:=H.o.c0;obtain⟨_,_,_,_,_,_,z,I,cr⟩:=H6.o.cells;have cs:=H6.o.y.v 12;have ct:=H6.o.y.v 13;have cu:=H6.o.y.v 14;have N:Ac (λj=>j=a) wc (((wc.setCell ⟨a,12,Ax⟩ (O V ((h:Int)+1))).setCell ⟨a,13,Ax⟩ (A2 Ax 0 0)).setCell ⟨a,14,Ax⟩ (O V t)):=((Ac.of (Ao _ _ _) (λj e=>by cases e;rfl)).trans (Ac.of (Ao _ _ _) (λj e=>by cases e;rfl))).trans (Ac.of (Ao _ _ _) (λj e=>by cases e;rfl));have h9:Ck (((wc.setCell ⟨a,12,Ax⟩ (O V ((h:Int)+1))).setCell ⟨a,13,Ax⟩ (A2 Ax 0 0)).setCell ⟨a,14,Ax⟩ (O V t)) Y a c Z fr (h+1) (A2 Ax 0 0) [] t:=H6.o.iD (h+1) t;have b1:=H6.o.y.setCell 12 (O V ((h:Int)+1));have bL:=b1.m 13;have bM:=b1.v 13;have b2:=b1.setCell 13 (A2 Ax 0 0);have a4:=b2.m 14;have a5:=b2.v 14;obtain⟨w7,aL⟩:=Af (wc.setCell ⟨a,12,Ax⟩ (O V ((h:Int)+1)));rw[aL]at N h9 bL bM a4 a5;obtain⟨w8,L⟩:=Af (w7.setCell ⟨a,13,Ax⟩ (A2 Ax 0 0));rw[L]at N h9 a4 a5;obtain⟨w9,bN⟩:=Af (w8.setCell ⟨a,14,Ax⟩ (O V t));rw[bN]at N h9;have H9:=zh h9;have S9:=zh ((Ad.u (C:=Hb) HC.o w).trans (AL (C:=Hb) (HC.o.u w) N (λj e=>by rw[e];exact C0 a2)));have D9:=zh ((HD.o.u w).ao N (λj hj e=>by rw[e,a2]at hj;cases hj) (λ_ _=>rfl));have B9:=zh (N.y b6 (λe=>bK e.symm));have O9:=zh (N.aT o6 (λb hb e=>by subst e;exact Bv H6.o.y o6 Ξ hb));have cz:BR ((h:Int)+1)=(h:Int)+1:=BA _ (Ψ bs.o);clear b1 b2 N h9 b6 o6 w S bK a2 W4;go_wp2_with fail;clear aL L bN z I cr cs ct cu bL bM a4 a5 cz;obtain⟨wA,cB,gA⟩:=AP w9;obtain⟨x0,_,_,x9,_⟩:=(H9.o.u gA).cells;have bA:=B9.o.u gA Δ;have z0:=bA.m 0;have z1:=bA.m 1;have z2:=bA.m 2;have z3:=bA.m 3
   have ha:V.wrap (2+(R:Int))=((2+R:Nat):Int):=by have:=bs.o;exact Ba (by rw[BA _ Ω];omega)
   have GA:=zh gA;clear gA bA;refine AS (λ_=>True) (.am [] [0,1,2,3,4,5,6,7,8,9,10] 11 Bk (.am [] [] 12 Bk (.nil))) Φ Φ ?_;rw[cB];refine Ap ?_
   iterate 11 refine Av ?_
   refine Aj ?_;refine Am ?_;intro K g;rw[show(2:Int)+(R:Int)=((2+R:Nat):Int) by omega];have rA:=Ag.ai (AV O9.o GA.o);refine(bp.o wA Y (D9.o.u GA.o) (S9.o.new.u GA.o) m p r (by have:=A.o;have:=an.o;omega) bE.o rA).mono ?_;rintro e wB ⟨rfl,aj,sB,dB⟩;dsimp only;clear x0 x9 z0 z1 z2 z3 rA ha;refine Aq g ?_;clear g K;refine Ap ?_;refine Aj ?_;refine Am ?_;intro K g;refine Aq g ?_;clear g K;refine AG (BD ?_);go_wp2_with fail;go_ret;exact⟨rfl,aj,_,(S9.o.trans (Ad.u S9.o.new GA.o)).trans (sB.mono (λj e=>C2 e)),(H9.o.u GA.o).ag sB Ω,dB⟩
  ·obtain⟨i,hi⟩:=Af (s - gk);rw[hi]at af⊢;have bb:i<s:=Ω;have hd:A5 ((i:Int)<(s:Int))=Bn:=jG Ω;have cF:A5 (i<s)=Bn:=jG bb;have bc:=Ag.ai H.o.aS;rw[bz.o]at bc;obtain⟨b,o,rfl,hc⟩:=bc.bA Ω;obtain⟨x,G⟩:∃x,D[i]?=A7 x:=⟨_,jK (by rw[bz.o];exact bb)⟩;have bT:=H.o.hA x (kp G)
   have ah:=λ(j:Nat) (u:Bs) (hj:j<5) (hu:x.cells[j]?=A7 u)=>Q.o.u.cell (hc (i*5+j) u (by rw[fx D i x G j hj];exact hu)) Δ
   have c0:=ah 0 _ Ω rfl;have c1:=ah 1 _ Ω rfl;have c2:=ah 2 _ Ω rfl;have c3:=ah 3 _ Ω rfl;have c4:=ah 4 _ Ω rfl;simp only[<-kO,kU]at c0 c1 c2 c3 c4;have HX:=zh bT;have an:=zh af;have aQ:Hd (i+1=s - (gk - 1)/\gk - 1<=s/\gk - 1<gk/\i<s):=zh Ω;obtain⟨w4,cI,g4,y⟩:=An wr 130 [CB Bk,O BZ 0,O V 0,O V 0,O V 0];obtain⟨w5,aK,b5,t5⟩:=FM y (CB x.dr) (O BZ (U x.h)) (O V x.r) (O V x.a) (O V x.s);have f0:=y.v 0;have f1:=y.v 1;have f2:=y.v 2;have f3:=y.v 3;have f4:=y.v 4;have y0:=y.m 0;have y1:=y.m 1;have y2:=y.m 2;have y3:=y.m 3;have y4:=y.m 4;have z0:=b5.m 0;have z1:=b5.m 1;have z2:=b5.m 2;have z3:=b5.m 3;have z4:=b5.m 4;have B:=zh (Q.o.bw (Ac.u g4 t5 (λj e=>by rw[e];exact jF _)));clear hc ah G bT af hi hk bF y g4 b5 t5 Q bc;go_wp2_with fail;refine(dL B.o x HX.o (by have:=A.o;have:=an.o;omega) (by have:=A.o;have:=an.o;omega) bE.o).mono ?_;rintro e w6 ⟨v6,y6,rfl,h6,l6,m6⟩;have W6:=zh h6;have L6:=zh l6;have M6:=zh m6;have cQ:Hd (BR ((i:Int)+1)=((i+1:Nat):Int)):=zh (Dm rfl (Ψ A.o));clear h6 l6 m6 B c0 c1 c2 c3 c4 f0 f1 f2 f3 f4 y0 y1 y2 y3 y4 z0 z1 z2 z3 z4 cI aK hd cF bb;go_wp2_with fail
   go_roundg (gk - 1)
   case measure=>exact aQ.o.2.2.1
   exact⟨by rw[<-aQ.o.1,cQ.o],aQ.o.2.1,v6,y6,W6.o,by have:=L6.o;have:=an.o;have:=aQ.o;omega,M6.o⟩
end
