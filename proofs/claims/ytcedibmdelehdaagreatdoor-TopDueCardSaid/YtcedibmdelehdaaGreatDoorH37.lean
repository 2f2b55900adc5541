/- Lemmas. -/
import Derived.Test.YtcedibmdelehdaaGreatDoorH36
import Derived.Deep.DeepCutAuto
namespace Go.Proofs.YtcedibmdelehdaaGreatDoor
set_option maxRecDepth 100000
set_option maxHeartbeats 32000000
open Go.Value renaming int->O,pointer->AA,slice->A2,ownBlock->BR,tuple->CL,bool->CV,agg->CX
open Go.IntKind renaming i64->V,wrap_u64->CA,u64->CB
open Option renaming none->Ax,some->Bn
open Go.Proofs.Tryz renaming prog->A3,ntmps182->C9,ntmps119->DA,ntmps112->DV,func236->DX,func182->D0,func119->D1,func112->D2,f119->D3
open Go.Ending renaming returned->A4
open Decidable renaming decide->Bd
open Go renaming World->Bk,Value->BD,Calls->B0,bodyPost_ret->CE,results_tmp2->C0,wpQuiet_nil->C2,callsIn_wide->C6,TypeId->C8
open And renaming intro->Bs
open Bool renaming false->BA,true->BC
open Go.IntWalk renaming wrap64_in->BE
open Go.NoPanic renaming normal->BX
open Go.RowKit renaming wrap64->B7
open Go.World renaming ownsRow_nil->CR,grownBy_alloc->C4
open Go.Fence renaming wide->C1
open Go.Instr renaming index->C3
open Or renaming inr->C5,inl->C7
variable{h g w:Bk}{E b d e i q r s t:Nat}{J:Int->List Nat}{Y p x:BD}{Z o:Ad}{a:Pl}{c:List Nat}{f:Int}{j y:List BD}{k:Program}{l:C8}{n:Bz}
section
open Go.RowKit
attribute [local go_sem ↓] Go.wp_at_zero Go.wp_at_succ
theorem Aq(w:Bk)(T:C8)(b:List BD):∃a,w.alloc (.cells b.toArray T)=a/\w.grownBy a Ax/\Aa a w.heap.size T b:=⟨_,rfl,C4 _ _ Ax,Aa.new _ _ _⟩
theorem AZ(w:Bk):∃a,w.drew=a/\w.grownBy a Ax:=⟨_,rfl,Be w⟩
theorem YW(t:A8 h Z d b a E (n E).length Y c)(u:Cl a E c n J)(hD:AD h Z b a.ss a.n e J)(hC:Aw h Z)(o:a.aU)(hl:E<=1099511627776)
  (q i:Nat)(h1:1<=q)(h2:q<=E)(h3:E<q+a.rg)(h4:i*(a.n - 19)<(n q).length):
  B0 A3 182 #[AA (Bn ⟨d,0,Ax⟩),O V q,O V i,CV BC] h λk w'=>∃l m,k=A4 (CL #[A2 l (DP (a.n - 19) (n q) i).length m,O V 0])/\
   w'.ownsRow h.heap.size 5 1 (A2 l (DP (a.n - 19) (n q) i).length m) (DP (a.n - 19) (n q) i).length (Ao (DP (a.n - 19) (n q) i))/\h.grownBy w' Ax:=by
 have aI:=u.iO o h1 h2 h3 h4;have bg:=o.n0;have bh:=o.n1;have hM:0<a.n - 19:=Ω;have aJ:a.aI=a.rs*(a.n - 19):=rfl
 have hi:i<a.rs:=by
  have h5:=u.dh q;rw[aJ]at h5;exact Nat.lt_of_mul_lt_mul_right (jY h4 h5)
 have bj:=u.dh E;have bk:a.aI<=32*493:=mn o.dq Ω
 have aK:(DP (a.n - 19) (n q) i).length<=a.n - 19:=by rw[Sx];omega
 have aL:∀x∈DP (a.n - 19) (n q) i,x<256:=λx hx=>u.bx q x (nj (lV hx))
 have bm:=u.ft o;have aM:=u.dN;have bn:=KU o (q:=q) hi;have bo:=a.eI;have bp:=o.ec;have bq:=o.d4;have br:=o.fN
 have aN:=λ(W:Bk) (hW:AD W Z b a.ss a.n e J) (bs:Aw W Z) (T)=>Sv b a.ss a.n e J ((a.region+BM a q i:Nat):Int) 3 (BM a q i) q (DP (a.n - 19) (n q) i) W Z hW bs Ω (by exact_mod_cast (show a.region+BM a q i<a.ss by omega)) T Ω Ω Ω Ω aK aL
 have aO:=λ(W:Bk) (hW:A8 W Z d b a E (n E).length Y c)=>QD hW o q i hi
 obtain⟨pa,pc,rfl,aP⟩:=t.aP;have bv:=zh aP;have an:=zh aN;have aQ:=zh aO;have H:=zh t;have HD:=zh hD;have HC:=zh hC;obtain⟨B,C⟩:=Ag (DP (a.n - 19) (n q) i);obtain⟨S,U⟩:=Ag (BM a q i);obtain⟨p,F⟩:=Ag ((n E).length);obtain⟨M,aa⟩:=Ag (a.n - 19);obtain⟨RG,ab⟩:=Ag a.region;rw[C,U,F,aa,ab]at aI;rw[C,U,ab]at an;rw[U,F]at aQ;rw[F]at H;rw[C,aa]at aK;rw[C]
 have bw:c.length<=p:=by rw[aM,F];exact Nat.mod_le _ _
 have aT:B7 ((RG:Int)+(S:Int))=((RG+S:Nat):Int):=De rfl Ω;have aU:=zh (Cn aT);have ac:Hd (p<=100000/\M<=1000/\77<=M/\c.length<=p/\c.length<M):=zh Ω;have aV:=zh aa;have ap:=zh ab;clear t u hD hC o aN aO aP C U F aM aJ bk bj bn bo bp bq br aL bg bh bm hM hi h4 bw aa ab aT
 have hz:((M:Int)==0)=BA:=by have:=ac.o;simp;omega
 have bS:¬M=0:=by have:=ac.o;omega
 have aW:Hd (0<c.length->∃A:Nat,V.wrap ((p:Int) - 1)=(A:Int)/\B7 ((p:Int) - 1)=(A:Int)/\B7 ((A:Int)/(M:Int))=((p - 1)/M:Nat)):=zh (λhp=>by
  have h5:=ac.o
  have h6:B7 ((p:Int) - 1)=((p - 1:Nat):Int):=by rw[BE _ Ω];omega
  refine⟨p - 1,Cn h6,h6,?_⟩;rw[<-oJ]
  exact EX (j8 (nK _ _) Ω))
 rcases aI with⟨v,r,G,e4⟩|⟨v,r⟩
 ·subst v;subst e4;obtain⟨A,bz,a2,a3⟩:=aW.o r;rw[<-G]at a3;have b1:((q:Int)==(q:Int))=BC:=Δ;have b2:Bd ((0:Int)<(c.length:Int))=BC:=jT Ω;have a0:Bd (0<c.length)=BC:=jT r;have b3:((i:Int)==(i:Int))=BC:=Δ;obtain⟨_,_,_,_,_,ad,_,a1,bC⟩:=H.o.cells;rw[aV.o]at ad;clear G
  go_enter D0,C9
  go_wp2_with fail
  go_quiet (fail)
  clear ad a1;go_wp2_with fail;refine(DW c pa pc _ (Ψ ac.o) (bv.o.grown (AS _ nq Ax) Δ)).mono ?_;rintro k w2 ⟨a',c',rfl,o2,g2⟩;go_wp2_with fail;refine CE (C0 rfl _ _ _) rfl ⟨a',c',rfl,?_,Ae (AS h nq Ax) g2⟩;have bG:(h.drewN nq).heap.size=h.heap.size:=Δ
  rwa[bG]at o2
 ·have bH:=zh v;have bI:=zh r;clear v r
  go_enter D0,C9
  go_upto_region 1 with fail
  go_cut [43] (λbJ I=>bJ=CV BA/\h.grownBy I Ax)
  case first=>
   obtain⟨_,_,_,_,_,ad,bU,a1,bC⟩:=H.o.cells;rw[aV.o]at ad
   by_cases v:q=E
   ·subst v;have b1:((q:Int)==(q:Int))=BC:=Δ
    by_cases r:0<c.length
    ·have b2:Bd ((0:Int)<(c.length:Int))=BC:=jT Ω;have a0:Bd (0<c.length)=BC:=jT r;have G:=bH.o rfl r;obtain⟨A,bz,a2,a3⟩:=aW.o r;generalize(p - 1)/M=D at*
     have b3:((i:Int)==(D:Int))=BA:=by simp;exact_mod_cast G
     clear G
     go_quiet (fail)
     go_wp2_with fail
     go_meet
     exact⟨rfl,AS _ nq Ax⟩
    ·have b2:Bd ((0:Int)<(c.length:Int))=BA:=jV Ω;have a0:Bd (0<c.length)=BA:=jV r
     go_quiet (fail)
     go_wp2_with fail
     go_meet
     exact⟨rfl,AS _ nq Ax⟩
   ·have b1:((q:Int)==(E:Int))=BA:=by simp;exact_mod_cast v
    go_quiet (fail)
    go_wp2_with fail
    go_meet
    exact⟨rfl,AS _ nq Ax⟩
  case rest=>
  obtain⟨rfl,g1⟩:=hcut;have G1:=zh g1;clear g1;go_wp2_with fail;refine(aQ.o _ (H.o.grown G1.o)).mono ?_;rintro k w2 ⟨rfl,g2⟩;have G2:=zh (Ae G1.o g2);clear g2 G1;go_wp2_with fail
  go_upto_region 4 with fail
  go_cut [11,12] (λbL bM I=>bM=O V 0/\∃X l m,bL=AA (Bn ⟨X,0,Ax⟩)/\Aa I X 174 [O V 3,O V S,O V q,A2 l B.length m]/\I.ownsRow h.heap.size 5 1 (A2 l B.length m) B.length (Ao B)/\h.grownBy I Ax)
  case first=>
   refine A7 (λW=>W.cell? ⟨d,0,Ax⟩=Bn (AA (Bn ⟨b,0,Ax⟩))/\W.cell? ⟨d,10,Ax⟩=Bn (O V RG)) (.bP [0,1,2,3,4,5,6,7,8,9,10,11] 12 BA (.an [] [13,14,15] 16 BC (.an [] [] 17 BA (.an [] [] 18 BA (.nil)))) 16 BC (.an [] [] 12 BA (.an [] [13,14,15] 17 BA (.an [] [] 18 BA (.nil))))) Φ Φ ?_;obtain⟨w3,a5,g3⟩:=AZ w2;rw[a5];have w:=zh (Ae G2.o g3);have L:=zh (H.o.grown w.o);clear a5 g3;have T:=bI.o;refine Ej ⟨L.o.cells.1,by rw[<-ap.o];exact L.o.cells.2.2.2.1⟩ ?_
   iterate 12 ((apply AB rfl Θ;(· intro wS N;(try have N:=N rfl);(try dsimp only at N);(try(have c0:=N.1;have bX:=N.2));go_simp;(try with_reducible rfl)));refine Ak ?_)
   refine Aj ⟨?_,?_⟩
   ·refine Al ?_;intro K g;rw[aU.o];refine(an.o w3 (HD.o.grown w.o) (HC.o.grown w.o) T).mono ?_;rintro k w4 ⟨⟨l,m,rfl,o4⟩,q4⟩;have y:=Ae w.o q4;have hX:h.heap.size<=w4.heap.size:=y.size;dsimp only;refine As g ?_;clear g K;refine Ar ?_
    iterate 3 refine Az ?_
    refine Aj ?_;refine Al ?_;intro K g;obtain⟨w5,a8,s,f⟩:=Aq w4 174 [O V 0,O V 0,O V 0,A2 Ax 0 0];rw[a8];have z:=AP (BQ o4 w.o.size) s;have P:=Ae y s;clear a8 o4 y;refine g _ _ ⟨_,λ_ t=>t,λ_=>⟨(L.o.grown (Ae q4 s)).cells.1,by rw[<-ap.o];exact(L.o.grown (Ae q4 s)).cells.2.2.2.1⟩,?_⟩;clear g K;refine Ak ?_;refine Ar ?_;refine Aj ?_;have f0:=f.v 0;have f1:=f.v 1;have f2:=f.v 2;have f3:=f.v 3;have y0:=f.m 0;have y1:=f.m 1;have y2:=f.m 2;have y3:=f.m 3;refine Al ?_;intro K g;obtain⟨w6,Q,b6,R⟩:=EZ f (O V 3) (O V S) (O V q) (A2 l B.length m);rw[Q];clear f0 f1 f2 f3 y0 y1 y2 y3 Q;refine As g ?_;clear g K;refine Ar ?_;refine Aj ?_;refine Al ?_;intro K g;refine As g ?_;clear g K;refine AK (BX ?_);go_wp2_with fail
    go_meet
    exact⟨rfl,_,l,m,rfl,b6,R.aL z (λbP hb k=>by subst k;exact Bh f z Ξ hb),Ac.grown P R (λj k=>by subst k;exact hX)⟩
   ·refine Al ?_;intro K g;obtain⟨w4,a9,y,b4⟩:=Aq w3 174 [O V 0,O V 0,O V 0,A2 Ax 0 0];rw[a9];have hX:h.heap.size<=w3.heap.size:=w.o.size;have G4:=zh (Ae w.o y);have H4:=zh (L.o.grown y);clear a9 y;refine g _ _ ⟨_,λ_ t=>t,λ_=>⟨H4.o.cells.1,by rw[<-ap.o];exact H4.o.cells.2.2.2.1⟩,?_⟩;clear g K;refine Ak ?_;refine Ar ?_;refine Aj ?_;refine Al ?_;intro K g;rw[aU.o];refine(an.o w4 (HD.o.grown G4.o) (HC.o.grown G4.o) T).mono ?_;rintro k w5 ⟨⟨l,m,rfl,bc⟩,s⟩;have f:=b4.grown s Δ;have z:=BQ bc G4.o.size;have P:=Ae G4.o s;clear s b4 bc;dsimp only;refine As g ?_;clear g K;refine Ar ?_
    iterate 3 refine Az ?_
    refine Aj ?_;have f0:=f.v 0;have f1:=f.v 1;have f2:=f.v 2;have f3:=f.v 3;have y0:=f.m 0;have y1:=f.m 1;have y2:=f.m 2;have y3:=f.m 3;refine Al ?_;intro K g;obtain⟨w6,Q,b6,R⟩:=EZ f (O V 3) (O V S) (O V q) (A2 l B.length m);rw[Q];clear f0 f1 f2 f3 y0 y1 y2 y3 Q;refine As g ?_;clear g K;refine Ar ?_;refine Aj ?_;refine Al ?_;intro K g;refine As g ?_;clear g K;refine AK (BX ?_);go_wp2_with fail
    go_meet
    exact⟨rfl,_,l,m,rfl,b6,R.aL z (λbP hb k=>by subst k;exact Bh f z Ξ hb),Ac.grown P R (λj k=>by subst k;exact hX)⟩
  case rest=>
  obtain⟨rfl,X,l,m,rfl,f,z,P⟩:=hcut;have b1:((q:Int)!=(q:Int))=BA:=Δ;have y2:=f.m 2;have y3:=f.m 3;go_wp2_with fail;refine CE (C0 rfl _ _ _) rfl ⟨l,m,rfl,z,P⟩
end
section
open Go.RowKit Go.Shelf
attribute [local go_sem] Oper.semAt_some
structure GS where
 q:Nat
 a:Nat
 n:Nat
 s:Nat
 f:Nat
abbrev Uh(x:GS):Array BD:=#[CX #[O V x.q,O V x.a,O V x.n,O V x.s,O V x.f]]
def dn(l:List GS):Nat:=(l.map GS.n).sum
theorem MW(l:List GS)(x:GS):dn (l++[x])=dn l+x.n:=by simp[dn]
def iz(M q a n:Nat)(b:List GS)(x:GS):Prop:=dn b<n/\x=⟨q,a+dn b,min (n - dn b) (M - (a+dn b)%M),(a+dn b)/M,(a+dn b)%M⟩
def jx(B a g M:Nat)(c:Ad)(X:Bk):Prop:=X.cell? ⟨a,0,Ax⟩=Bn (AA (Bn ⟨g,0,Ax⟩))/\X.cell? ⟨g,17,Ax⟩=Bn (O V M)/\c B=197
def jC(B q a n:Nat)(_:Ad)(X:Bk):Prop:=Aa X B 128 [O V q,O V a,O V n]
theorem FI{i j:BD}(m:Aa h E l [Y,p,x,i,j])(b c d f g:BD):∃a,(((((h.setCell ⟨E,0,Ax⟩ b).setCell ⟨E,1,Ax⟩ c).setCell ⟨E,2,Ax⟩ d).setCell ⟨E,3,Ax⟩ f).setCell ⟨E,4,Ax⟩ g)=a/\Aa a E l [b,c,d,f,g]/\Ac (λk=>k=E) h a:=
 ⟨_,rfl,((((m.setCell 0 _).setCell 1 _).setCell 2 _).setCell 3 _).setCell 4 _,((((Ac.of (An _ _ _) (λk e=>by cases e;rfl)).trans (Ac.of (An _ _ _) (λk e=>by cases e;rfl))).trans (Ac.of (An _ _ _) (λk e=>by cases e;rfl))).trans (Ac.of (An _ _ _) (λk e=>by cases e;rfl))).trans (Ac.of (An _ _ _) (λk e=>by cases e;rfl))⟩
theorem Zt{A:Nat}(h:E+b=A):((E+(b+d):Nat):Int)=(A:Int)+(d:Int):=Ω
theorem ZE{R:Nat}(h:b - d=R)(a:E<=R):((b - (d+E):Nat):Int)=(R:Int) - (E:Int):=Ω
def Nf(B:Nat)(w:Bk):Nat:=match w.cell? ⟨B,2,Ax⟩with
 |some v=>(intOf v).toNat
 |none=>0
theorem Wd(fn B Lb g M q a n:Nat)(hn:1<=fn)(hM:0<M)(bQ:M<=1000)(ha:a+n<=100000)(C:Nat->Prop)(be:¬C 0)(bf:¬C 197):
  Iu C1 fn A3 236 #[AA (Bn ⟨B,0,Ax⟩),AA (Bn ⟨Lb,0,Ax⟩)] Uh C (λ(_:Unit)=>jx B Lb g M) (λd x _ _ _=>iz M q a n d x) (λxs=>dn xs=n) (n+1) (jC B q a n):=by
 intro l J Jx W m0 bh hJ aO bU E hY h0 hB;have HA:=zh E;have HJ:=zh hJ;have bi:=zh aO;have HY:=zh hY;have H0:=zh h0;have HB:=zh hB;have hz:((M:Int)==0)=BA:=Γ;have bW:¬M=0:=Ω;clear E hJ aO hY h0 hB;refine callsIn_of_wp DX rfl kI ?_ rfl;simp only[Tryz.ntmps236,kR,kj,kP,Nat.reduceAdd,Nat.reduceSub,kF,kG,kU,kJ,kv,kO]
 gi_wp2
 gi_loopw [] (λwr=>∃c d,J () c d wr/\Aa wr B 128 [O V q,O V (a+dn d:Nat),O V (n - dn d:Nat)]/\dn d<=n/\d.length<=dn d) (λwr=>Nf B wr)
 case atStart=>exact⟨bh,[],H0.o,HB.o,kN _,jS _⟩
 case round=>
  obtain⟨c,d,hj,F,m,bm⟩:=hrel;obtain⟨⟨v,w,hc⟩,aT⟩:=HA.o _ _ _ _ hj;obtain⟨i,ao⟩:=Ag (dn d);rw[ao]at F m bm;have x0:=F.m 0;have P:=F.m 1;have o:=F.m 2;have ad:=zh hj;have y:=zh F;have bn:=zh hc;have bo:=zh aT;have G:=zh ao;clear hj F hc aT ao
  by_cases he:i=n
  ·subst he;have d0:Bd ((0:Int)<((i - i:Nat):Int))=BA:=jV Ω;have br:Bd (0<i - i)=BA:=jV Ω
   gi_wp2
   go_end0
   exact⟨⟨_,rfl⟩,c,C7 ⟨(),d,G.o,ad.o⟩⟩
  ·obtain⟨A,E⟩:=Ag (a+i);obtain⟨R,hR⟩:=Ag (n - i);rw[E]at P y;rw[hR]at o y;have bs:0<R:=Ω;have bX:A<=100000/\R<=100000:=Ω;have ae:=zh (show a+i=A/\n - i=R from⟨E,hR⟩);clear E hR;have d0:Bd ((0:Int)<(R:Int))=BC:=jT Ω;have br:Bd (0<R)=BC:=jT bs;obtain⟨S,hS⟩:=Ag (A/M);obtain⟨f,p⟩:=Ag (A%M)
   have bY:f<M:=by rw[<-p];exact lT _ hM
   have q1:B7 ((A:Int)/(M:Int))=(S:Int):=by rw[<-oJ,hS];exact EX (by rw[<-hS];exact j8 (nK _ _) Ω)
   have q3:=Cn q1
   have q2:(A:Int).tmod (M:Int)=(f:Int):=by rw[ln Ω, <-p];rfl
   have bv:(A:Int)%(M:Int)=(f:Int):=by rw[<-p];rfl
   have aW:min (R:Int) ((M - f:Nat):Int)=((min R (M - f):Nat):Int):=Ω;obtain⟨Z,hZ⟩:=Ag (min R (M - f));rw[hZ]at aW
   have Q:B7 ((M:Int) - (f:Int))=((M - f:Nat):Int):=by rw[BE _ Ω];omega
   have ar:B7 ((A:Int)+(Z:Int))=((A+Z:Nat):Int):=De rfl Ω
   have ag:B7 ((R:Int) - (Z:Int))=((R - Z:Nat):Int):=by rw[BE _ Ω];omega
   have bw:=Cn Q;have au:=zh (show A/M=S/\A%M=f/\min R (M - f)=Z from⟨hS,p,hZ⟩);clear hS p hZ
   gi_wp2
   refine Kg (λW=>Aa W B 128 [O V q,O V A,O V R]/\W.cell? ⟨Lb,0,Ax⟩=Bn (AA (Bn ⟨g,0,Ax⟩))/\W.cell? ⟨g,17,Ax⟩=Bn (O V M)) [([0,1,2,3,4,5,6,7,8,9,10,11,12,13,14,15],16,BC),([],17,BA)] (show C1.round=Ax from rfl) Φ Φ ?_;obtain⟨w1,Q,H⟩:=AZ wr;rw[Q];clear x0 P o Q;refine Fe ⟨y.o.grown H Δ,H.cell v Δ,H.cell w Δ⟩ ?_;clear v w
   repeat((apply Fa rfl (λ_=>rfl) Θ;(· intro wS b;(try have b:=b rfl);(try dsimp only at b);(try have x0:=b.1.m 0);(try have P:=b.1.m 1);(try have o:=b.1.m 2);(try have v:=b.2.1);(try have w:=b.2.2);go_simp;(try with_reducible rfl)));(refine Ak ?_))
   refine Fc ?_;refine BW rfl (λK s=>?_);go_simp;obtain⟨w2,ar,g2,h⟩:=Aq w1 296 [O V 0,O V 0,O V 0,O V 0,O V 0];rw[ar];have G2:=zh (Ae H g2);have hX:wr.heap.size<=w1.heap.size:=H.size;generalize w1.heap.size=X at*;clear ar H g2;have m:=HA.o _ _ _ _ (HJ.o _ _ _ _ _ ad.o G2.o);refine s _ _ ⟨λ_=>⟨y.o.grown G2.o Δ,m.1.1,m.1.2.1⟩,?_⟩;clear s K m;refine Ak ?_;refine Eg ?_;refine BW rfl (λK s=>?_);have f0:=h.v 0;have f1:=h.v 1;have z:=h.v 2;have f3:=h.v 3;have f4:=h.v 4;have y0:=h.m 0;have y1:=h.m 1;have k:=h.m 2;have y3:=h.m 3;have D:=h.m 4;go_simp;obtain⟨w3,ag,T,t3⟩:=FI h (O V q) (O V A) (O V R) (O V S) (O V f);rw[ag];have g3:=Ac.grown G2.o t3 (λj e=>by rw[e];exact hX);clear f0 f1 z f3 f4 y0 y1 k y3 D ag t3 h G2;refine s _ _ ⟨λp=>(by cases p),?_⟩;clear s K;refine Ak ?_;refine Fu (BX ?_);have B3:=zh (y.o.grown g3 Δ);have m:=(HA.o _ _ _ _ (HJ.o _ _ _ _ _ ad.o g3)).1;have v:=m.1;have w:=m.2.1;have o:=B3.o.m 2;have k:=T.m 2;have D:=T.m 4;have z:=T.v 2;have P3:=zh T;have G3:=zh g3;clear m T g3
   gi_wp2
   refine Kg (λW=>W.cell? ⟨B,2,Ax⟩=Bn (O V R)/\W.cell? ⟨Lb,0,Ax⟩=Bn (AA (Bn ⟨g,0,Ax⟩))/\W.cell? ⟨g,17,Ax⟩=Bn (O V M)/\W.cell? ⟨X,2,Ax⟩=Bn (O V R)/\W.cell? ⟨X,4,Ax⟩=Bn (O V f)) [([0,1,2,3,4,5,6,7,8,9,10,11],12,BA)] (show C1.round=Ax from rfl) Φ Φ ?_;obtain⟨w4,a1,t⟩:=AZ w3;rw[a1];have bD:=P3.o.m 2;refine Fe ⟨t.cell o Δ,t.cell v Δ,t.cell w Δ,t.cell k Δ,t.cell D Δ⟩ ?_;clear o v w k D z bD a1
   repeat((apply Fa rfl (λ_=>rfl) Θ;(· intro wS b;(try have b:=b rfl);(try dsimp only at b);(try have o:=b.1);(try have v:=b.2.1);(try have w:=b.2.2.1);(try have k:=b.2.2.2.1);(try have D:=b.2.2.2.2);go_simp;(try with_reducible rfl)));(refine Ak ?_))
   refine Fc ?_;refine BW rfl (λK s=>?_);have b4:=P3.o.grown t Δ;have z:=b4.v 2;have k:=b4.m 2;go_simp;have u:=b4.setCell 2 (O V Z);simp only[ku,kM]at u;have I:Ac (λj=>j=X) w4 (w4.setCell ⟨X,2,Ax⟩ (O V Z)):=Ac.of (An _ _ _) (λj e=>by cases e;rfl);have g5:=Ac.grown (Ae G3.o t) I (λj e=>by rw[e];exact hX);generalize w4.setCell ⟨X,2,Ax⟩ (O V Z)=w5 at*;clear z k b4 I t P3 G3 B3;refine s _ _ ⟨λp=>(by cases p),?_⟩;clear s K;refine Ak ?_;refine Fu (BX ?_);have bF:=zh (HJ.o _ _ _ _ _ ad.o g5);have a2:c X=0:=bo.o X hX;have XC:=zh a2;have B5:=zh (y.o.grown g5 Δ);have P5:=zh u;have L:=au.o;have r:=ae.o;obtain⟨b0,b1,b2,b3,hy,aE⟩:=HY.o () c d ⟨q,A,Z,S,f⟩ w5 bF.o Ω ⟨by rw[G.o];omega,by rw[G.o,r.1,r.2,L.1,L.2.1,L.2.2]⟩;dsimp only[Uh]at hy;have y0:=u.m 0;have y1:=u.m 1;have k:=u.m 2;have y3:=u.m 3;have D:=u.m 4;clear u g5 a2 L r
   gi_wp2
   clear y0 y1 k y3 D hy;refine aE.mono ?_;rintro e W4 ⟨c4,ak,(⟨rfl,⟨⟩,aG⟩|⟨rfl,bI⟩)⟩
   ·have al:=bn.o;have U:=XC.o;have Y:=ak.u B5.o (by rw[al];exact bf);have P6:=ak.u P5.o (by rw[U];exact be)
    have aI:c4 B=197:=by rw[ak.ah _ B5.o.lt];exact al
    have P:=Y.m 1;have o:=Y.m 2;have f1:=Y.v 1;have k:=P6.m 2;obtain⟨W5,aK⟩:=Ag (W4.setCell ⟨B,1,Ax⟩ (O V ((A:Int)+(Z:Int))))
    have I:Ac (λj=>j=B) W4 W5:=by rw[<-aK];exact Ac.of (An _ _ _) (λj e=>by cases e;rfl)
    have N:=Y.setCell 1 (O V ((A:Int)+(Z:Int)));rw[aK]at N;simp only[ku,kM]at N;have z2:=N.m 2;have z:=N.v 2;have yy:=(I.u P6 (λe=>by rw[e]at U;rw[al]at U;cases U)).m 2;obtain⟨W6,aL⟩:=Ag (W5.setCell ⟨B,2,Ax⟩ (O V ((R:Int) - (Z:Int))))
    have t6:Ac (λj=>j=B) W5 W6:=by rw[<-aL];exact Ac.of (An _ _ _) (λj e=>by cases e;rfl)
    have b8:=N.setCell 2 (O V ((R:Int) - (Z:Int)));rw[aL]at b8;simp only[ku,kM]at b8;have a8:=(HA.o _ _ _ _ aG).2;have a9:=bi.o _ _ _ _ _ _ aG (AG (C:=J3) a8 (I.trans t6) (λj e=>by rw[e];exact aI));have J6:=zh a9;have B8:=zh b8;have L:=au.o;have r:=ae.o;have bN:0<Z/\Z<=R:=Ω;have b5:=zh aI;have ba:=b8.m 2
    have bb:Nf B W6<Nf B wr:=by
     unfold Nf;rw[ba,y.o.m 2];simp[intOf];omega
    have bO:=zh bb;have bc:=zh bN;clear aG a9 N b8 I t6 a8 Y P6 aI L r ba bb ak aE al U;clear Q bw q1 q2 bv q3 aW ag
    gi_wp2
    clear P o f1 k z2 z yy aK aL;refine⟨⟨c4,d++[⟨q,A,Z,S,f⟩],J6.o,?_,?_,?_⟩,bO.o⟩
    ·have:=B8.o;have r:=ae.o;rw[MW,G.o];rw[Zt r.1,ZE r.2 (j8 (pU au.o.2.2.symm) (oZ _ _))];exact this
    ·have r:=ae.o;rw[MW,G.o];have:=bc.o;show i+Z<=n;omega
    ·rw[MW,G.o,jU];have:=bc.o;show d.length+1<=i+Z;omega
   ·clear aE
    gi_wp2
    refine CE (results_none rfl _ _ _) rfl ?_;exact⟨⟨_,rfl⟩,c4,C5 bI⟩
theorem UT{b:Array Oper}{o:Oper}{a:Act}{K:Act->Bk->Prop}{Q:Exit->Act->Bk->Prop}{e:Prop}(f:Region.wanted o (yielded b a.tmps)=BC)(s c:Operand)(t d:C8)
  (i:o.op=.call {callee:=.builtin .append,args:=#[s,c],argTypes:=#[t,d]})(j:a.eval s=Y)(l:a.eval c=p)
  (m:(Builtin.append_ #[t,d] o.type #[Y,p]).run k h=.ok x g)(n:K (a.put o.dst x) g):if Region.wanted o (yielded b a.tmps)=BC then Oper.wpIn C1 E k o a h K Q else e:=by
 rw[ke f];unfold Oper.wpIn;refine⟨λ_ _=>kI,?_⟩;rw[show C1.round=Ax from rfl,Oper.semAt_none];unfold execOp;simp only[i,resolve,invoke,builtin,Sem.run_bind,Sem.run_pure,Result.andThen_ok,pD,qy,qH,j,l,m];exact n
theorem U0{P:Program}(k t:C8)(d:Nat)(e:C8)(i:TypeInfo)(z:BD)(a l:Nat)(n:P.underlying t=Bn (.slice e))(o:P.info? e=Bn i)(v:i.zero=Bn z)
  (w:i.size=a)(x:i.bytes=l)(A:z.cells.size=a)(B:0<a)(m:h.ownsRow d e a Y E y)
  (f:Ai h a p b j)(C:∀u∈j,u.oneCell'=BC)(D:E+b<=maxLen)(F:(E+b)*l<=140737488355328)(G:d<=h.heap.size):
  ∃c g,(Builtin.append_ #[t,t] k #[Y,p]).run P h=.ok c g/\g.ownsRow d e a c (E+b) (y++j)/\h.grownBy g Y.ownBlock/\(c.ownBlock=Y.ownBlock\/c.ownBlock=Bn h.heap.size):=by
 obtain⟨q,T,f⟩:=f
 rcases f with⟨rfl,rfl⟩|⟨⟨H,I,r⟩,J,rfl,K,L⟩
 ·have M:j=[]:=kV (by simpa using q);subst M;exact⟨Y,h,run_append_owned_none (P:=P) (w:=h) d t k e i a n o Y E y m,by simpa using m,⟨rfl,rfl,rfl,jS _,λ_ _ _=>rfl⟩,C7 rfl⟩
 ·obtain⟨c,g,f,N,O,_,Q⟩:=run_append_own_at (P:=P) h d t k e i z a l n o v w x A B Y E y m ⟨H,I,r⟩ b J j q (λR u s=>by
   have S:b≠0:=by
    rintro rfl;have:=(jX.1 s).1;omega
   obtain rfl:r=Ax:=K S;have:=L R u s;unfold Addr.add
   split
   ·subst_vars;simpa using this
   ·exact this) C D F G
  exact⟨c,g,f,N,O,Q⟩
theorem XL(l:77<=E)(h:e+r<=s)(m:b<r)(_g:t=e+b)(a:d=min (r - b) (E - (e+b)%E))(f:q=(e+b)/E)(c:i=(e+b)%E):
  q*E+i=e+b/\i+d<=E/\i+d<=min E (s - q*E)/\0<d/\b+d<=r/\q*E<s:=by
 have j:q*E+i=e+b:=by rw[f,c,lM];exact lW _ _
 have n:i<E:=by rw[c];exact lT _ Ω
 rw[<-c]at a;clear f c _g;generalize q*E=o at*
 have p:d<=r - b:=by rw[a];exact oZ _ _
 have u:d<=E - i:=by rw[a];exact Nat.min_le_right _ _
 have k:0<d:=by rw[a];exact Nat.lt_min.2 ⟨Ω,Ω⟩
 exact⟨j,Ω,Nat.le_min.2 ⟨Ω,Ω⟩,k,Ω,Ω⟩
theorem Oj{K S:Nat}{T:C8}(A:Aw g Z)(a:Aa g S T [p])(o:g.ownsRow E l b p e y)(t:T≠l)(C:Z S=K)(u:∀a,p.ownBlock=Bn a->Z a=K)
  (v:g.grownBy h p.ownBlock)(q:h.ownsRow E l b Y d j)(D:Y.ownBlock=p.ownBlock\/Y.ownBlock=Bn g.heap.size):
  Aa h S T [p]/\∃c,Ab (λf=>f=K) g Z (h.setCell ⟨S,0,Ax⟩ Y) c/\Aa (h.setCell ⟨S,0,Ax⟩ Y) S T [Y]/\(h.setCell ⟨S,0,Ax⟩ Y).ownsRow E l b Y d j/\∀a,Y.ownBlock=Bn a->c a=K:=by
 have r:=a.grown v (λl=>Bh a o t l.symm);refine⟨r,?_⟩;have w:Ab (λf=>f=K) g Z h Z:=Ab.of A v (λk l=>u k l);have x:Ac (λf=>f=S) h (h.setCell ⟨S,0,Ax⟩ Y):=Ac.of (An _ _ _) (λk l=>by cases l;rfl);have F:(h.setCell ⟨S,0,Ax⟩ Y).ownsRow E l b Y d j:=x.aL q (λk m l=>by subst l;exact Bh r q t m)
 have z:∀c,Ab (λf=>f=K) g Z h c->(∀a,Y.ownBlock=Bn a->c a=K)->∃c,Ab (λf=>f=K) g Z (h.setCell ⟨S,0,Ax⟩ Y) c/\Aa (h.setCell ⟨S,0,Ax⟩ Y) S T [Y]/\(h.setCell ⟨S,0,Ax⟩ Y).ownsRow E l b Y d j/\∀a,Y.ownBlock=Bn a->c a=K:=λc s m=>
  ⟨c,s.trans (AG s.new x (λk l=>by rw[l,s.ah _ a.lt];exact C)),r.setCell 0 _,F,m⟩
 rcases D with n|n
 ·exact z Z w (λk m=>u k (by rw[<-n];exact m))
 ·exact z _ (w.bC (B:=g.heap.size) (i:=K) (jS _) (q.lt _ n).2 rfl) (λk m=>by rw[n]at m;cases m;exact AY _ _ _)
abbrev Gp:Nat->Prop:=λ_=>False
theorem VB(g q a n:Nat)(w:Bk):
  B0 A3 181 #[AA (Bn ⟨g,0,Ax⟩),CX #[O V q,O V a,O V n]] w λe b=>e=A4 (.func (.func 236) #[] #[AA (Bn ⟨w.heap.size+1,0,Ax⟩),AA (Bn ⟨w.heap.size,0,Ax⟩)])/\
   w.grownBy b Ax/\b.heap.size=w.heap.size+2/\Aa b w.heap.size 87 [AA (Bn ⟨g,0,Ax⟩)]/\Aa b (w.heap.size+1) 128 [O V q,O V a,O V n]:=by
 obtain⟨f,m,h,i⟩:=Aq w 87 [AA (Bn ⟨g,0,Ax⟩)]
 have j:f.heap.size=w.heap.size+1:=by rw[<-m];simp
 obtain⟨o,p,c,d⟩:=Aq f 128 [O V q,O V a,O V n]
 have k:o.heap.size=w.heap.size+2:=by rw[<-p];simp[j]
 rw[j]at d;have l:=i.grown c Δ;have r:=zh (Bs (Ae h c) (Bs k (Bs l d)));clear h i c d k l
 go_enter Tryz.func181,Tryz.ntmps181
 go_wp2;go_ret;exact⟨rfl,r.o⟩
theorem Ab.iV{C:Nat->Prop}(b:Ab C h Z g o)(c:h.heap.size<=E)(d:E<g.heap.size):Ab C h Z g (Proofs.YtcedibmdelehdaaGreatDoor.AL o E 0):=
 ⟨b.ak,λk a=>by rw[Bg _ _ Ω];exact b.ah k a,λk a=>by
  by_cases e:k=E
  ·subst e;rw[AY];exact C7 rfl
  ·rw[Bg _ _ e]
   exact b.dx k a,λk a=>by rw[Bg _ _ Ω];exact b.new k a⟩
structure Nw(w:Bk)(i:Ad)(g d:Nat)(P:Pl)(j L:Nat)(k:Nat)(l:Int->List Nat)(m:BD)(n:List Nat)(a b e f h:Nat)(c:Ad)(W:Bk):Prop where
 hS:A8 W c g d P j L m n
 bI:AD W c d P.ss P.n k l
 st:Ab (Sc Gp 200) w i W c
 lb:W.cell? ⟨h,0,Ax⟩=Bn (AA (Bn ⟨g,0,Ax⟩))
 cl:c h=0
 cb:c f=197
 bl:f<W.heap.size
 b2:Aa W a 87 [AA (Bn ⟨g,0,Ax⟩)]
 c2:c a=0
 b4:Aa W b 64 [A2 Ax 0 0]
 c4:c b=196
 b5:Aa W e 32 [O V 0]
 c5:c e=196
theorem Nw.am{l:Nat}{m:Ad}{C:Nat->Prop}(f:Nw g Z E b a d e i J Y c q r s t l o h)(k:Ab C h o w m)(n:¬C 0)(u:¬C 1)(v:¬C 4)(p:¬C 196)(x:∀j,C j->Sc Gp 200 j):Nw g Z E b a d e i J Y c q r s t l m w:=by
 have y:=World.block_lt_of_cell? h _ f.lb
 exact⟨f.hS.ae k v,f.bI.ae k u,f.st.trans (k.mono x),k.aq f.lb (by rw[f.cl];exact n),by rw[k.ah _ y];exact f.cl,by rw[k.ah _ f.bl];exact f.cb,jY f.bl k.size,k.u f.b2 (by rw[f.c2];exact n),by rw[k.ah _ f.b2.lt];exact f.c2,k.u f.b4 (by rw[f.c4];exact p),by rw[k.ah _ f.b4.lt];exact f.c4,
  k.u f.b5 (by rw[f.c5];exact p),by rw[k.ah _ f.b5.lt];exact f.c5⟩
structure Lr(w:Bk)(i:Ad)(g d:Nat)(P:Pl)(j L:Nat)(k:Nat)(l:Int->List Nat)(m:BD)(n:List Nat)(p:List Nat)(a q r s f t u:Nat)(c:Ad)(h:List GS)(W:Bk):Prop where
 b:Nw w i g d P j L k l m n q r s t u c W
 o:∃e,Aa W f 64 [e]/\W.ownsRow w.heap.size 5 1 e (dn h) (Ao (Dy p a (dn h)))/\∀b,e.ownBlock=Bn b->c b=198
 c6:c f=198
theorem Lr.am{n:List Nat}{p u v:Nat}{x:Ad}{y:List GS}{C:Nat->Prop}(k:Lr h Z E b a d e i J Y c n q r s t p u v o y g)(f:Ab C g o w x)(F:¬C 0)(G:¬C 1)(H:¬C 4)(I:¬C 196)(z:¬C 198)(K:∀j,C j->Sc Gp 200 j):Lr h Z E b a d e i J Y c n q r s t p u v x y w:=by
 obtain⟨L,A,B,D⟩:=k.o;exact⟨k.b.am f F G H I K,⟨L,f.u A (by rw[k.c6];exact z),f.ak.aL B (λl m=>by rw[D l m];exact z),λl m=>by rw[f.ah _ (B.lt l m).2];exact D l m⟩,by rw[f.ah _ A.lt];exact k.c6⟩
theorem Xj(f:A8 h Z b d a E (n E).length Y c)(hL:Cl a E c n J)(hD:AD h Z d a.ss a.n e J)(hC:Aw h Z)(U:a.aU)(hl:E<=1099511627776)
  (q r t:Nat)(h1:Cv a E<=q)(h2:q<=E)(h3:r+t<=(n q).length):
  B0 A3 119 #[AA (Bn ⟨b,0,Ax⟩),CX #[O V q,O V r,O V t]] h λg w'=>∃ra P,g=A4 (CL #[A2 ra t P,O V 0])/\
   ∃bI,Ab (Sc Gp 200) h Z w' bI/\Ai w' 1 (A2 ra t P) t (Ao (Dy (n q) r t))/\∀A,(A2 ra t P).ownBlock=Bn A->bI A=0:=by
 have cA:a.aI=a.rs*(a.n - 19):=rfl;have bJ:=hL.dh q;have cB:=U.n1;have bK:a.aI<=32*493:=mn U.dq Ω;have bL:=zh (λ(W:Bk) (hW:A8 W Z b d a E (n E).length Y c)=>QX hW U hl q h2);have bM:Bd (Cv a E<=q)=BC:=jT h1;rw[bM]at bL;obtain⟨RR,a2⟩:=Ag a.aI;rw[a2]at bJ bK;have d1:Bd ((r:Int)<0)=BA:=jV Ω;have d2:Bd ((t:Int)<0)=BA:=jV Ω;have d3:Bd ((RR:Int)<(r:Int))=BA:=jV Ω;have cF:Bd (RR<r)=BA:=jV Ω;have d4:Bd (((RR - r:Nat):Int)<(t:Int))=BA:=jV Ω;have cH:Bd (RR - r<t)=BA:=jV Ω
 have a3:B7 ((RR:Int) - (r:Int))=((RR - r:Nat):Int):=by rw[BE _ Ω];omega
 have d0:=Cn a3;obtain⟨wa,cI,ga,ba⟩:=Aq h 87 [AA (Bn ⟨b,0,Ax⟩)];obtain⟨B,cJ,gb,bb⟩:=Aq wa 128 [O V q,O V r,O V t];obtain⟨wc,cK,gc,bc⟩:=Aq B 64 [A2 Ax 0 0];obtain⟨wd,cL,gd,bd⟩:=Aq wc 32 [O V 0];have F:=((ba.grown gb Δ).grown gc Δ).grown gd Δ |>.m 0;have cM:h.heap.size<wa.heap.size:=ba.lt;have cN:wa.heap.size<B.heap.size:=bb.lt;have cO:B.heap.size<wc.heap.size:=bc.lt;have cP:wc.heap.size<wd.heap.size:=bd.lt;have HB:=zh (Bs (((ba.grown gb Δ).grown gc Δ).grown gd Δ) (Bs ((bb.grown gc Δ).grown gd Δ) (Bs (bc.grown gd Δ) bd)));have GD:=zh (Ae (Ae (Ae ga gb) gc) gd);have HZ:=zh (show h.heap.size<wa.heap.size/\wa.heap.size<B.heap.size/\B.heap.size<wc.heap.size/\wc.heap.size<wd.heap.size by omega);have H:=zh f;have HL:=zh hL;have HD:=zh hD;have HC:=zh hC;have cT:=zh a2;clear f hL hD hC a2 ga gb gc gd ba bb bc bd cM cN cO cP;have a9:C1.round=Ax:=rfl;refine(C6 (n:=20)).1 ?_;refine callsIn_of_wp_marks D1 rfl kI ?_ a9;simp only[DA,kR,kj,kP,Nat.reduceAdd,Nat.reduceSub,kF,kG,kU,kJ,kv,kO]
 gi_wp2
 have HX:=zh F;have bf:=(H.o.grown GD.o).cells.2.2.2.2.1;rw[cT.o]at bf;have y0:=HB.o.2.1.m 0;have y1:=HB.o.2.1.m 1;have G:=HB.o.2.1.m 2;have e0:=AV F;have e1:=AV bf;have e2:=AV y0;have e3:=AV y1;have e4:=AV G;clear F bf y0 y1 G cI cJ cK cL;refine wpIn_wide.2 ?_;refine CU Φ Φ ?_
 repeat(go_big_quiet_step ((go_at_call 180;exact LS (λW hW=>bL.o W (H.o.grown (Ae GD.o hW))) _)))
 refine C2 ?_;rintro _ ⟨gg,rfl⟩;have Q:=CY gg;generalize gw gg=R at*;clear e0 e1 e2 e3 e4 gg;have F:=Q.cell HX.o Δ;have c0:=zh (Ae GD.o Q);have y0:=(HB.o.2.1.grown Q Δ).m 0;have y1:=(HB.o.2.1.grown Q Δ).m 1;have G:=(HB.o.2.1.grown Q Δ).m 2;obtain⟨z,c1,g3,b3⟩:=Aq R 64 [A2 Ax 0 0];have F:=g3.cell F Δ;have y0:=g3.cell y0 Δ;have y1:=g3.cell y1 Δ;have G:=g3.cell G Δ;have c2:=zh (Ae c0.o g3);have aJ:=zh (Bs ((HB.o.1.grown Q Δ).grown g3 Δ) (Bs ((HB.o.2.2.1.grown Q Δ).grown g3 Δ) (Bs ((HB.o.2.2.2.grown Q Δ).grown g3 Δ) b3)));have c3:Hd (wd.heap.size<=R.heap.size/\R.heap.size<z.heap.size):=zh ⟨Q.size,b3.lt⟩;clear g3 b3 Q
 gi_wp2_with (refine⟨kI,?_⟩;gi_at_call 181;refine(C6.2 (VB b q r t z)).mono ?_;rintro g w4 ⟨rfl,g4,d5,bQ,bB⟩)
 clear F y0 y1 G c1;obtain⟨c4,ai⟩:=Ag (AL (AL (AL (AL Z B.heap.size 196) wc.heap.size 196) R.heap.size 198) (z.heap.size+1) 197);have hz:=HZ.o;have bS:=c3.o;have hG:=Ae c2.o g4
 have aL:Ab (Sc Gp 200) h Z w4 c4:=by
  rw[<-ai];exact((((Ab.grown HC.o hG).bC Ω Ω (C5 ⟨Ω,Ω⟩)).bC Ω Ω (C5 ⟨Ω,Ω⟩)).bC Ω Ω (C5 ⟨Ω,Ω⟩)).bC Ω Ω (C5 ⟨Ω,Ω⟩)
 have bU:∀j,h.heap.size<=j->Z j=0:=HC.o
 have i:Lr h Z b d a E (n E).length e J Y c (n q) r h.heap.size B.heap.size wc.heap.size R.heap.size (z.heap.size+1) z.heap.size c4 [] w4:=by
  have gv:=λ(j:Nat) (h1:h.heap.size<=j) (h2:j≠B.heap.size) (h3:j≠wc.heap.size) (h4:j≠R.heap.size) (h5:j≠z.heap.size+1)=>show c4 j=0 by rw[<-ai,Bg _ _ h5,Bg _ _ h4,Bg _ _ h3,Bg _ _ h2];exact bU j h1
  refine⟨⟨H.o.ae aL (Sc.az (λf=>f) Ω),HD.o.ae aL (Sc.az (λf=>f) Ω),aL,bQ.m 0,gv _ Ω Ω Ω Ω Ω,by rw[<-ai];exact AY _ _ _,Ω,aJ.o.1.grown g4 Δ,gv _ Ω Ω Ω Ω Ω,aJ.o.2.1.grown g4 Δ,?_,aJ.o.2.2.1.grown g4 Δ,?_⟩,⟨A2 Ax 0 0,aJ.o.2.2.2.grown g4 Δ,CR _ _ _ _,λA w=>by simp[BR]at w⟩,?_⟩
  ·rw[<-ai,Bg _ _ Ω,Bg _ _ Ω,Bg _ _ Ω];exact AY _ _ _
  ·rw[<-ai,Bg _ _ Ω,Bg _ _ Ω];exact AY _ _ _
  ·rw[<-ai,Bg _ _ Ω];exact AY _ _ _
 have HI:=zh i;have BB:=zh bB;have c8:=U.n0;have c9:=zh (Bs hz bS);clear i bB bQ hG aL hz bS g4 bU ai;have bX:r+t<=100000:=Ω
 refine IJ HI.o.b.st.new a9 Ω (gf:=236) (lb:=#[AA (Bn ⟨z.heap.size+1,0,Ax⟩),AA (Bn ⟨z.heap.size,0,Ax⟩)]) rfl kI (enters_of DX Φ rfl)
  (C:=λj=>j=198\/j=113\/j=199) (C5 (C5 rfl)) (Wd 19 (z.heap.size+1) z.heap.size b (a.n - 19) q r t Ω Ω Ω bX _ Ω Ω) (λW1 d7 hg _=>BB.o.grown hg Δ) (λ_=>rfl)
  (λ_=>Lr h Z b d a E (n E).length e J Y c (n q) r h.heap.size B.heap.size wc.heap.size R.heap.size (z.heap.size+1) z.heap.size) (λ_ _ _=>False)
  (λa0 x a' X v=>∃L,a'={tmps:=(a0.tmps.setIfInBounds 55 (CX #[O V (x.q:Nat),O V (x.a:Nat),O V (x.n:Nat),O V (x.s:Nat),O V (x.f:Nat)])).setIfInBounds 7 (AA (Bn ⟨L,0,Ax⟩)),defers:=[]}/\Aa X L 296 [O V (x.q:Nat),O V (x.a:Nat),O V (x.n:Nat),O V (x.s:Nat),O V (x.f:Nat)]/\v L=113)
  ()
  (λm v c' aN X de f s=>?i1)
  (λ_ _ _ _ _ f _=>f)
  (λm v aN X f=>⟨⟨f.b.lb,f.b.hS.cells.2.2.2.2.2.1,f.b.cb⟩,f.b.st.new⟩)
  (λ_ _ _ _ _ _ _ f _=>f)
  (λv c' x a' X de f s=>?i2)
  HI.o (λj=>j=198\/j=113) (λj f=>f.elim C7 (λf=>C5 (C7 f))) Ω Ω
  ?assign ?body ?done (λ_ _ _ _ f=>f.elim)
 case i1=>exact f.am s Ω Ω Ω Ω Ω (λj g=>C5 (by rcases g with rfl|rfl<;>exact⟨Ω,Ω⟩))
 case i2=>exact let⟨L,h1,h2,h3⟩:=f;⟨L,h1,s.u h2 (by rw[h3];omega),by rw[s.ah _ h2.lt];exact h3⟩
 case assign=>
  intro l m v aN x X K i bY hR I;obtain⟨y,a',n',s',f'⟩:=x;obtain⟨w5,d8,g5,o⟩:=Aq X 296 [O V 0,O V 0,O V 0,O V 0,O V 0];obtain⟨w6,bk,b6,t6⟩:=FI o (O V y) (O V a') (O V n') (O V s') (O V f');have f0:=o.v 0;have p:=o.v 1;have f2:=o.v 2;have f3:=o.v 3;have f4:=o.v 4;have y0:=o.m 0;have y1:=o.m 1;have G:=o.m 2;have y3:=o.m 3;have y4:=o.m 4;have s6:Ab (λj=>j=113) X v w6 (AL v X.heap.size 113):=(Ab.grown i.b.st.new (Ac.grown g5 t6 (λj g=>by rw[g];exact jS _))).bC (jS _) b6.lt rfl;have b8:=zh s6;have B6:=zh b6;clear g5 o t6 s6 b6
  gi_wp2
  exact I _ _ _ (b8.o.mono (λ_ g=>C5 g)) (i.am b8.o Ω Ω Ω Ω Ω (λj g=>C5 ⟨Ω,Ω⟩)) hR ⟨X.heap.size,rfl,B6.o,AY _ _ _⟩
 case body=>
  intro l m v aN x a' X i bY hR dk;obtain⟨y,a1,k,s1,p⟩:=x;obtain⟨aP,he⟩:=hR;obtain⟨L,rfl,w,ca⟩:=dk;simp only[GS.mk.injEq]at he;obtain⟨rfl,bm,aQ,aR,aS⟩:=he;obtain⟨dd,bn⟩:=Ag (dn aN);rw[bn]at aP bm aQ aR aS;obtain⟨M,hM⟩:=Ag (a.n - 19);have bo:77<=M/\M<=493:=Ω;rw[hM]at aQ aR aS;obtain⟨cb,bp,bq,cc,cd,ce⟩:=XL bo.1 h3 aP bm aQ aR aS;clear aQ aR aS
  have br:1<=y/\E<y+a.rg:=⟨j8 (Nat.le_max_right _ _) h1,by
   have h5:E+1 - a.rg<=y:=j8 (Nat.le_max_left _ _) h1
   omega⟩
  have aU:=YW i.b.hS HL.o i.b.bI i.b.st.new U hl y s1 br.1 h2 br.2 (by rw[hM];exact ce);rw[hM]at aU;have bs:(DP M (n y) s1).length=min M ((n y).length - s1*M):=Sx _ _ _;obtain⟨LN,aB⟩:=Ag ((DP M (n y) s1).length);rw[<-bs,aB]at bq
  have cf:LN<=M:=by rw[<-aB,bs];exact oZ _ _
  rw[aB]at aU
  have hcut:Dy (DP M (n y) s1) p k=Dy (n y) (r+dd) k:=by rw[be _ _ bp,cb]
  have cg:dd+k<=100000:=Ω;have dl:=zh hcut;have ch:=zh bn;have dm:=zh aB;have dp:=zh aU;have HJ:=zh i;have BL:=zh w;have LC:=zh ca;have ed:=zh aP;clear i w ca aU hcut bn aB bm cb br bY aP hM bs ce;have F:=HJ.o.b.b2.m 0;have y0:=BL.o.m 0;have y3:=BL.o.m 3;have ee:Bd ((LN:Int)<((p+k:Nat):Int))=BA:=jV Ω;have ef:Bd (LN<p+k)=BA:=jV Ω;have eg:Bd ((LN:Int)<(p:Int)+(k:Int))=BA:=jV Ω;have a3:B7 ((p:Int)+(k:Int))=((p+k:Nat):Int):=De rfl Ω;have au:=zh (show p+k<=M/\p+k<=LN/\LN<=M/\dd+k<=t/\dd+k<=100000/\M<=493/\0<k from⟨bp,bq,cf,cd,cg,bo.2,cc⟩);clear bp bq cf cd cg bo cc bM d1 d2 d3 cF d4 cH h1 h3 bJ bK c8 cB bX cA;simp only[mG,ku,kM]
  gi_wp2_with (refine⟨kI,?_⟩;gi_at_call 182;refine(CallsIn.inRound l (C6.2 dp.o)).mono ?_;rintro g w5 ⟨ra,P,rfl,o5,g5⟩;have G:=(BL.o.grown g5 Δ).m 2;have y4:=(BL.o.grown g5 Δ).m 4)
  obtain⟨ov,p1,N,p3⟩:=HJ.o.o;obtain⟨rb,ro,rfl,_⟩:=(Ai.aj o5).aZ (show 0<LN by have:=au.o;omega)
  have cj:LN<=P:=by
   rcases o5.2 with⟨f,_⟩|⟨_,_,_,f,_,_,h5,_⟩
   ·cases f
   ·injection f with _ _ f;subst f;exact h5
  have O5:=zh o5;have P1:=zh p1;have P2:=zh N;have P3:=zh p3;have G5:=zh g5;have dt:=au.o;have du:p+k<=P:=Ω;have dv:(0:Int)<=(p:Int)+(k:Int):=Ω;have dw:(p:Int)+(k:Int)<=(P:Int):=Ω;have dx:((p:Int)+(k:Int)).toNat=p+k:=Ω;have dy:¬P=p:=Ω;clear dt;have ej:=zh cj;have ek:=Cn a3;clear o5 p1 N p3 cj;refine IH (λW=>W.cell? ⟨R.heap.size,0,Ax⟩=Bn ov/\W.cell? ⟨L,2,Ax⟩=Bn (O V k)/\W.cell? ⟨L,4,Ax⟩=Bn (O V p)) [([0,1,2,3,4,5,6,7,8,9,10],11,BA),([],12,BA)] a9 Φ Φ ?_;obtain⟨w6,bk,g6⟩:=AZ w5;rw[bk];refine Fe ⟨((P1.o.grown g5 Δ).grown g6 Δ).m 0,g6.cell G Δ,g6.cell y4 Δ⟩ ?_;clear F y0 y3 G y4 bk
  repeat((apply Fa rfl (λ_=>rfl) Θ;(· intro wS aw;(try have aw:=aw rfl);(try dsimp only at aw);(try have F:=aw.1);(try have G:=aw.2.1);(try have y4:=aw.2.2);go_simp;(try with_reducible rfl)));(refine Ak ?_))
  refine Fc ?_;refine BW rfl (λK I=>?_);clear dv dw dx dy du;have bv:=dm.o;have r5:=Ai.aj O5.o;rw[<-bv]at r5;have r6:=(r5.f8 (n:=p) (by rw[bv];have:=au.o;omega) P).f7 (n:=k) (by rw[kK,bv];have:=au.o;omega) (P - p);have e6:List.take k (List.drop p (DP M (n y) s1))=Dy (n y) (r+dd) k:=dl.o;rw[e6]at r6;obtain⟨i0,dB,dC,dD,dE⟩:=info_parts Ia;have N:=P2.o;rw[ch.o]at N;have aE:=Ae G5.o g6;obtain⟨v7,w7,dG,o7,g7,l7⟩:=U0 (P:=A3) 64 64 h.heap.size 5 i0 _ 1 1 mc dB dC dD dE rfl Ξ (AP N aE) (r6.grown g6 Δ) (λu hu=>by obtain⟨x,_,rfl⟩:=lP.1 hu;rfl) (by have:=au.o;unfold maxLen;omega) (Ψ au.o) (j8 HJ.o.b.st.size aE.size);obtain⟨la,lc,rfl⟩:=(Ai.aj o7).slice;refine UT Θ _ _ _ _ Θ Θ Θ dG ?_;refine I _ _ ⟨λU=>(by cases U),?_⟩;clear I K;refine Ak ?_;have S6:=zh (Ab.grown (C:=λj=>j=198) HJ.o.b.st.new aE);obtain⟨b7,c7,s7,dM,o8,k8⟩:=Oj (K:=198) S6.o.new ((P1.o.grown aE Δ)) (AP N aE) Ξ HJ.o.c6 (λA w=>P3.o A w) g7 o7 l7;refine Eg ?_;refine BW rfl (λK I=>?_);have z0:=b7.m 0;have f0:=b7.v 0;go_simp;generalize w7.setCell ⟨R.heap.size,0,Ax⟩ (A2 la (dd+k) lc)=w8 at*;refine I _ _ ⟨λU=>(by cases U),?_⟩;clear I K z0 f0;refine Ak ?_;refine Fu (BX ?_);have st:=S6.o.trans s7;have hj:=HJ.o;rw[<-Km,dK]at o8;have b9:=hj.b.am st Ω Ω Ω Ω (λj g=>C5 (by rw[g];exact⟨Ω,Ω⟩))
  have dQ:c7 R.heap.size=198:=by rw[st.ah _ P1.o.lt];exact hj.c6
  gi_wp2
  refine⟨c7,(),st.mono (λ_ g=>C7 g),b9,⟨_,dM,?_,k8⟩,dQ⟩;rw[MW,ch.o];exact o8
 case done=>
  intro D m v xs X hS i I aX;obtain⟨ov,p1,N,p3⟩:=i.o;rw[hS]at N;obtain⟨la,lc,rfl⟩:=(Ai.aj N).slice
  have bx:∀S,v S=196\/v S=198->S≠D:=λS f g=>by rw[g,aX]at f;omega
  have ct:D<X.heap.size:=(kf.1 I).1;obtain⟨X1,cu⟩:=Ag (X.setCell ⟨B.heap.size,0,Ax⟩ (A2 la t lc));obtain⟨X2,cv⟩:=Ag (X1.setCell ⟨wc.heap.size,0,Ax⟩ (O V 0))
  have t1:Ac (λj=>j=B.heap.size) X X1:=by rw[<-cu];exact Ac.of (An _ _ _) (λj g=>by cases g;rfl)
  have t2:Ac (λj=>j=wc.heap.size) X1 X2:=by rw[<-cv];exact Ac.of (An _ _ _) (λj g=>by cases g;rfl)
  have hz:=c9.o;have b4:=i.b.b4.setCell 0 (A2 la t lc);rw[cu]at b4;have o:=t1.u i.b.b5 Ω;have f5:=o.v 0;have v5:=o.m 0;have aY:=o.setCell 0 (O V 0);rw[cv]at aY;have bC:=t2.u b4 Ω;simp only[ku]at bC aY;have T:Ac (λj=>v j=196) X X2:=(t1.mono (λj g=>by rw[g];exact i.b.c4)).trans (t2.mono (λj g=>by rw[g];exact i.b.c5));have cw:X2.heap[D]?=Bn (.deferred (Bn [])):=(T.bK D ct (by rw[aX];omega)).trans I;have F:=p1.m 0;have f4:=i.b.b4.v 0;have v4:=i.b.b4.m 0;have HR:=zh (T.aL N (λA w=>by rw[p3 A w];omega));have HS:Hd (Ab (Sc Gp 200) h Z X2 v):=zh (i.b.st.trans (AG i.b.st.new T (λj g=>C5 (by rw[g];exact⟨Ω,Ω⟩))));have B4:=zh bC;have B5:=zh aY;have P3:=zh p3;have dU:=zh cw;have dV:=bx _ (C7 i.b.c4);have dW:=bx _ (C7 i.b.c5);have cy:v D=199:=aX;clear i p1 N p3 I aX b4 o aY bC T t1 t2 hz cw bx ct hS
  gi_wp2
  refine⟨Δ,C7 ⟨_,_,rfl,run_takeDeferred dU.o,?_⟩⟩;have t3:=F5 X2 D (.deferred Ax);have b4:=t3.u B4.o dV;have o:=t3.u B5.o dW;have o3:=t3.aL HR.o (λA w g=>by have:=P3.o A w;rw[g,cy]at this;omega);have s3:Ab (Sc Gp 200) h Z (X2.putObj D (.deferred Ax)) v:=HS.o.trans (AG HS.o.new t3 (λj g=>C5 (by rw[g,cy];exact⟨Ω,Ω⟩)));generalize X2.putObj D (.deferred Ax)=X3 at*;have z4:=b4.m 0;have z5:=o.m 0;refine⟨CL #[A2 la t lc,O V 0],by simp[results,D3,go_sem,z4,z5],la,lc,rfl,?_⟩
  cases la with
  |none=>exact⟨v,s3,Ai.aj o3,λA w=>by simp[BR]at w⟩
  |some ad=>
   have w:=o3.lt ad.block (by simp[BR]);exact⟨_,s3.iV w.1 w.2,Ai.aj o3,λA f=>by simp only[BR,oh]at f;subst f;exact AY _ _ _⟩
end
section
open Go.RowKit
attribute [local go_sem ↓] Go.wp_at_zero Go.wp_at_succ
theorem V5(D:A8 h Z b d a E e Y c)(_S:Aw h Z)(T:a.aU)(U:E<=1099511627776)(q F n:Nat)(X:¬Cv a E<=q)(h2:q<=E):
  B0 A3 119 #[AA (Bn ⟨b,0,Ax⟩),CX #[O V q,O V F,O V n]] h λf w'=>f=A4 (CL #[A2 Ax 0 0,O V 13])/\h.grownBy w' Ax:=by
 have G:=zh (λ(W:Bk) (t:A8 W Z b d a E e Y c)=>QX t T U q h2);have ac:Bd (Cv a E<=q)=BA:=jV X;rw[ac]at G;obtain⟨wa,ae,u,I⟩:=Aq h 87 [AA (Bn ⟨b,0,Ax⟩)];obtain⟨i,af,m,J⟩:=Aq wa 128 [O V q,O V F,O V n];obtain⟨wc,ag,o,g⟩:=Aq i 64 [A2 Ax 0 0];obtain⟨wd,ah,l,k⟩:=Aq wc 32 [O V 0];have K:=((I.grown m Δ).grown o Δ).grown l Δ |>.m 0;have L:=((J.grown o Δ).grown l Δ).m 0;have M:=zh (Bs (g.grown l Δ) k);have N:=zh (Ae (Ae (Ae u m) o) l);have HZ:=zh (show h.heap.size<=i.heap.size/\i.heap.size<wc.heap.size/\i.heap.size≠wc.heap.size by have:=(Ae u m).size;have:=g.lt;omega);have H:=zh D;clear D _S u m o l I J g k
 go_enter D1,DA
 go_wp2_with fail;have e0:=AV K;have e1:=AV L;clear K L ae af ag ah;refine CU Φ Φ ?_
 repeat(go_big_quiet_step ((go_at_call 180;exact LS (λW t=>G.o W (H.o.grown (Ae N.o t))) _)))
 refine C2 ?_;rintro _ ⟨w,rfl⟩;have p:=CY w;generalize gw w=x at*;clear e0 e1 w;have g:=M.o.1.grown p Δ;have k:=M.o.2.grown p Δ;have z4:=g.m 0;have f4:=g.v 0;have z5:=k.m 0;have f5:=k.v 0;obtain⟨y,P⟩:=Ag (x.setCell ⟨i.heap.size,0,Ax⟩ (A2 Ax 0 0));obtain⟨Q,R⟩:=Ag (y.setCell ⟨wc.heap.size,0,Ax⟩ (O V 13))
 have z:Ac (λj=>j=i.heap.size) x y:=by rw[<-P];exact Ac.of (An _ _ _) (λj f=>by cases f;rfl)
 have A:Ac (λj=>j=wc.heap.size) y Q:=by rw[<-R];exact Ac.of (An _ _ _) (λj f=>by cases f;rfl)
 have hz:=HZ.o;have B:=g.setCell 0 (A2 Ax 0 0);rw[P]at B;have r:=z.u k Ω;have u5:=r.m 0;have v5:=r.v 0;have s:=r.setCell 0 (O V 13);rw[R]at s;have C:=A.u B Ω;simp only[ku]at s C;have r4:=C.m 0;have r5:=s.m 0;have hG:=zh (Ac.grown (Ae N.o p) ((z.mono (λj f=>C7 f)).trans (A.mono (λj f=>C5 f)):Ac (λj=>j=i.heap.size\/j=wc.heap.size) x Q) (λj f=>Ω));clear g k z A B r s C hz p;go_wp2_with fail;exact CE (v:=CL #[A2 Ax 0 0,O V 13]) (by simp[results,D3,go_sem,r4,r5]) rfl ⟨rfl,hG.o⟩
abbrev CH(a n b c d e f:Nat)(g:BitVec 64):List BD:=[O V a,O V n,O V b,O V c,O V d,O V e,O V f,O CB (U g)]
abbrev EN(r a b c d e f:Nat):List BD:=[O V 2,O V r,O V a,O V b,O V c,O V d,O V e,O V f]
theorem GW{f:FuncId}{a:Array BD}(b:∀W,h.grownBy W Ax->B0 k f a W λe c=>e=A4 Y/\W=c)(g:Fl h):
  B0 k f a (gw g) λe d=>e=A4 Y/\∃i:Fl h,d=gw i:=
 LS (λW j=>(b W j).mono λ_ _ ⟨l,e⟩=>⟨l,by rw[<-e];exact Bf _ _⟩) g
theorem Vn(d c n j k l m o:Nat)(p:BitVec 64)(r t u v x y i:Nat)(q:Nat)(ct:Int->List Nat)(w:Bk)(au:Ad)(R:AD w au d c n q ct)
  (S:∀W,B0 A3 32 #[CX (CH c n j k l m o p).toArray] W λe z=>e=A4 (CL #[CX (EN r t u v x y i).toArray,O V 0])/\W.grownBy z Ax)(T:96<=n)(U:n<=512):
  B0 A3 85 #[AA (Bn ⟨d,0,Ax⟩),CX (CH c n j k l m o p).toArray] w λe z=>∃g,e=A4 (CL #[AA (Bn ⟨g,0,Ax⟩),O V 0])/\w.heap.size<=g/\w.grownBy z Ax/\
   Aa z g 172 (AA (Bn ⟨d,0,Ax⟩)::(CH c n j k l m o p++(EN r t u v x y i++[O V (n - 19:Nat),O V 0,O V i,A2 Ax 0 0]))):=by
 have Z:=zh R;have HF:=zh S;have aa:((n:Int) - 19)=((n - 19:Nat):Int):=Ω;have E:=zh (λW=>IU n T U W);rw[aa]at E;obtain⟨M,F⟩:=Ag (n - 19);rw[F]at E;rw[F];have b1:((c:Int)!=(c:Int))=BA:=Δ;have b2:((n:Int)!=(n:Int))=BA:=Δ;clear R S T U aa F;obtain⟨w1,ax,g1,b⟩:=Aq w 37 (CH c n j k l m o p);have P1:=zh b;have G1:=zh g1;have A:=b.m 0;have s:=b.m 1;have x2:=b.m 2;have x3:=b.m 3;have x4:=b.m 4;have x5:=b.m 5;have x6:=b.m 6;have x7:=b.m 7;clear g1 b
 go_enter Tryz.func85,Tryz.ntmps85
 go_wp2_with fail;clear ax A s x2 x3 x4 x5 x6 x7;refine(HF.o w1).mono ?_;rintro e w2 ⟨rfl,G⟩;obtain⟨w3,aA,H,l3⟩:=Aq w2 85 (EN r t u v x y i);have I:=zh (Ae (Ae G1.o G) H);have J:=zh ((P1.o.grown G Δ).grown H Δ);have L3:=zh l3;have f0:=J.o.m 0;have f1:=J.o.m 1;have A:=AV f0;have s:=AV f1;clear G H l3;go_wp2_with fail;clear aA f0 f1;refine CU Φ Φ ?_
 repeat(go_big_quiet_step (fail))
 go_big_quiet_step ((go_at_call 129;exact GW (λW L=>LP (Z.o.grown (Ae I.o L))) _))
 repeat(go_big_quiet_step (fail))
 go_big_quiet_step ((go_at_call 130;exact GW (λW L=>Kr (Z.o.grown (Ae I.o L))) _))
 repeat(go_big_quiet_step (fail))
 refine C2 ?_;rintro _ ⟨N,rfl⟩;have B:=CY N;generalize gw N=w4 at*;have G4:=zh (Ae I.o B);have P4:=zh (J.o.grown B Δ);have L4:=zh (L3.o.grown B Δ);clear A s N;generalize w2.heap.size=X at*;go_wp2_with fail;obtain⟨C,aG,D⟩:=AZ w4;have G5:=zh (Ae G4.o D);have P:=zh (P4.o.grown D Δ);have L5:=zh (L4.o.grown D Δ);clear D B;refine A7 (λW=>Aa W w.heap.size 37 (CH c n j k l m o p)/\Aa W X 85 (EN r t u v x y i)) (.an [1,2,6,7] [0,3,4] 5 BC (.an [] [8] 9 BA (.an [] [10] 11 BA (.nil)))) Φ Φ ?_;rw[aG];refine DK ⟨P.o,L5.o⟩ ?_
 iterate 4 ((apply AB rfl Θ;(· intro wS a;(try have a:=a rfl);(try dsimp only at a);(try(have A:=a.1.m 0;have s:=a.1.m 1;have x2:=a.1.m 2;have x3:=a.1.m 3;have x4:=a.1.m 4;have x5:=a.1.m 5;have x6:=a.1.m 6;have x7:=a.1.m 7;have y0:=a.2.m 0;have y1:=a.2.m 1;have y2:=a.2.m 2;have y3:=a.2.m 3;have y4:=a.2.m 4;have y5:=a.2.m 5;have y6:=a.2.m 6;have y7:=a.2.m 7));go_simp;(try with_reducible rfl)));refine Ak ?_)
 refine Aj ?_;have s:=P.o.m 1
 iterate 3 refine Az ?_
 refine Aj ?_;clear s;refine Al ?_;intro K f;refine(E.o C).mono ?_;rintro e z ⟨rfl,rfl⟩;dsimp only;refine f _ _ ⟨_,λ_ h=>h,λ_=>⟨P.o,L5.o⟩,?_⟩;clear f K;refine Ak ?_;refine Ar ?_;refine Az ?_;refine Aj ?_;refine Al ?_;intro K f;obtain⟨w6,ao,g6,b6⟩:=Aq C 172 (AA (Bn ⟨d,0,Ax⟩)::(CH c n j k l m o p++(EN r t u v x y i++[O V M,O V 0,O V i,A2 Ax 0 0])));have Q:=ao;simp only[kO,kv]at Q;rw[Q];have B6:=zh b6;have G6:=zh (Ae G5.o g6);have aJ:w.heap.size<=C.heap.size:=G5.o.size;generalize C.heap.size=Y at*;clear ao Q b6 g6;refine As f ?_;clear f K;refine Ar ?_;refine Az ?_;refine Aj ?_;refine Al ?_;intro K f;refine As f ?_;clear f K;refine AK (BX ?_);go_wp2_with fail;exact CE (C0 rfl _ _ _) rfl ⟨Y,rfl,aJ,G6.o,B6.o⟩
theorem WH(f:AD h Z E a.ss a.n b J)(c:a.aU):
  B0 A3 85 #[AA (Bn ⟨E,0,Ax⟩),a.val] h λe d=>∃g,e=A4 (CL #[AA (Bn ⟨g,0,Ax⟩),O V 0])/\h.heap.size<=g/\h.grownBy d Ax/\
   Aa d g 172 (AA (Bn ⟨E,0,Ax⟩)::(a.cells++(a.c7++[O V (a.n - 19:Nat),O V 0,O V a.aI,A2 Ax 0 0]))):=
 Vn E a.ss a.n a.rg a.rs a.lg a.dp a.a7 a.aQ a.region a.aK a.a2 a.bi a.ba a.bv a.aI b J h Z f (λW=>IS a c W) c.n0 c.n1
theorem WM(d c n a b l m o:Nat)(p:BitVec 64)(r R S T U X u:Nat)(q:Nat)(x:Int->List Nat)(w:Bk)(y:Ad)(Y:AD w y d c n q x)(Z:Aw w y)
  (hf:∀W,AD W y d c n q x->B0 A3 85 #[AA (Bn ⟨d,0,Ax⟩),CX (CH c n a b l m o p).toArray] W λe t=>∃g,e=A4 (CL #[AA (Bn ⟨g,0,Ax⟩),O V 0])/\W.heap.size<=g/\W.grownBy t Ax/\
   Aa t g 172 (AA (Bn ⟨d,0,Ax⟩)::(CH c n a b l m o p++(EN r R S T U X u++[O V (n - 19:Nat),O V 0,O V u,A2 Ax 0 0]))))
  (hm:a*b<=2048)(A:∀i:Nat,i<a*b->x ((r+i:Nat):Int)=AJ n)(hr:r+a*b<=c)(az:c<=16384):
  B0 A3 39 #[AA (Bn ⟨d,0,Ax⟩),CX (CH c n a b l m o p).toArray,O V 0] w λe t=>∃g,e=A4 (CL #[AA (Bn ⟨g,0,Ax⟩),O V 0])/\w.heap.size<=g/\w.grownBy t Ax/\
   Aa t g 172 (AA (Bn ⟨d,0,Ax⟩)::(CH c n a b l m o p++(EN r R S T U X u++[O V (n - 19:Nat),O V 0,O V u,A2 Ax 0 0]))):=by
 have HD:=zh Y;have HC:=zh Z;have HF:=zh hf
 have B:B7 ((a:Int)*(b:Int))=((a*b:Nat):Int):=by rw[show(a:Int)*(b:Int)=((a*b:Nat):Int) by push_cast;rfl];exact EX Ω
 obtain⟨N,hN⟩:=Ag (a*b);rw[hN]at B hm A hr;have HZ:=zh A;obtain⟨M,C⟩:=Ag (n - 19);rw[C]at HF;rw[C];clear Y Z hf A hN C;obtain⟨w1,D,g1,f⟩:=Aq w 37 (CH c n a b l m o p);have P1:=zh f;have E:=zh g1;have x0:=f.m 0;have x1:=f.m 1;have F:=f.m 2;have G:=f.m 3;have x4:=f.m 4;have x5:=f.m 5;have x6:=f.m 6;have x7:=f.m 7;clear g1 f
 go_enter Tryz.func39,Tryz.ntmps39
 go_wp2_with fail;clear D x0 x1 F G x4 x5 x6 x7;refine(HF.o w1 (HD.o.grown E.o)).mono ?_;rintro e w2 ⟨g,rfl,aj,H,z⟩;have ak:w.heap.size<=g:=j8 E.o.size aj
 have aJ:w.heap.size≠g:=λe=>by have:=P1.o.lt;omega
 have aT:=z.v 18;have aU:=z.m 18;have aV:(CH c n a b l m o p).length=8:=rfl;have I:=z.setCell 18 (O V 0);obtain⟨J,al⟩:=Ag (w2.setCell ⟨g,18,Ax⟩ (O V 0));rw[al]at I
 have K:Ac (λj=>j=g) w2 J:=by rw[<-al];exact Ac.of (An _ _ _) (λj e=>by cases e;rfl)
 have P3:=zh (K.u (P1.o.grown H Δ) aJ);have B3:=zh I;have G3:=zh (Ac.grown (Ae E.o H) K (λj e=>by rw[e];exact ak));have F:=P3.o.m 2;have G:=P3.o.m 3;clear z I K H aj;go_wp2_with fail;rw[B];clear B F G
 go_loopg [34] N (λk v wr=>v=O V (N - k:Nat)/\k<=N/\J.grownBy wr Ax)
 case atStart=>exact⟨Δ,jS _,Bf _ _⟩
 case round=>
  obtain⟨rfl,hk,s⟩:=hrel;obtain⟨i,hi⟩:=Ag (N - gk);rw[hi]
  by_cases aq:gk=0
  ·subst aq;have aL:i=N:=Ω;subst aL;have hd:Bd ((i:Int)<(i:Int))=BA:=jV Ω;go_wp2_with fail;exact CE (C0 rfl _ _ _) rfl ⟨g,rfl,ak,Ae G3.o s,B3.o.grown s Δ⟩
  ·have hd:Bd ((i:Int)<(N:Int))=BC:=jT Ω;have aW:Bd (i<N)=BC:=jT Ω;have aX:=(B3.o.grown s Δ).m 10;have L:=Ae G3.o s;have ar:=HZ.o i Ω;have HG:=zh (Ou d c n q x ((r+i:Nat):Int) 3 (i:Int) wr y (HD.o.grown L) (HC.o.grown L) Ω (by exact_mod_cast (show r+i<c by omega)) ar);have GR:=zh s;clear L ar s;have av:Hd (r+i<=16384/\i<=2048):=zh Ω;have P:Hd (i=N - gk/\i+1=N - (gk - 1)/\gk - 1<=N/\gk - 1<gk):=zh Ω;clear hi hk aq hr hm az;have D:B7 ((r:Int)+(i:Int))=((r+i:Nat):Int):=De rfl (j8 av.o.1 Ξ);have aO:B7 ((i:Int)+1)=((i+1:Nat):Int):=De rfl (j8 (mJ av.o.2) Ξ);have aP:=zh aO;go_wp2_with fail;refine HG.o.mono ?_;rintro e w4 ⟨rfl,Q⟩;obtain⟨w5,aZ,g5,h⟩:=Aq w4 174 [O V 0,O V 0,O V 0,A2 Ax 0 0];have f0:=h.v 0;have f1:=h.v 1;have f2:=h.v 2;have f3:=h.v 3;have y0:=h.m 0;have y1:=h.m 1;have y2:=h.m 2;have y3:=h.m 3;obtain⟨w6,a9,b6,t6⟩:=EZ h (O V 0) (O V 0) (O V 0) (A2 Ax 0 0);have aR:J.heap.size<=w4.heap.size:=(Ae GR.o Q).size;have G6:=zh (Ac.grown (Ae (Ae GR.o Q) g5) t6 (λj e=>by rw[e];exact aR));clear h g5 Q b6 t6 D;go_wp2_with fail
   go_roundg (gk - 1)
   case measure=>exact P.o.2.2.2
   exact⟨by rw[<-P.o.2.1,aP.o],P.o.2.2.1,G6.o⟩
theorem YI(m:AD h Z E a.ss a.n b J)(k:Aw h Z)(c:a.aU)(n:∀i:Nat,i<a.rg*a.rs->J ((a.region+i:Nat):Int)=AJ a.n):
  B0 A3 39 #[AA (Bn ⟨E,0,Ax⟩),a.val,O V 0] h λe f=>∃g,e=A4 (CL #[AA (Bn ⟨g,0,Ax⟩),O V 0])/\∃l,Ab (λj=>j=4) h Z f l/\Ds f l g E a 0 (Gi a) J:=by
 have s:=c.ec;have t:=a.eI;refine(WM E a.ss a.n a.rg a.rs a.lg a.dp a.a7 a.aQ a.region a.aK a.a2 a.bi a.ba a.bv a.aI b J h Z m k (λW o=>WH o c) c.fN n Ω c.d4).mono ?_;rintro e f ⟨g,rfl,p,q,d⟩;refine⟨g,rfl,_,(Ab.grown k q).bC p d.lt rfl,A2 Ax 0 0,[],⟨?_,CR _ _ _ _,AY _ _ _,λu d=>by simp[BR]at d⟩,Cl.ad a c J⟩
 have r:(Gi a 0).length=a.aI:=by simp[Gi,AJ]
 rw[r];exact d
structure Bt where
 dr:Bool
 h:BitVec 64
 r:Nat
 a:Nat
 s:Nat
abbrev Bt.cells(x:Bt):List BD:=[CV x.dr,O CB (U x.h),O V x.r,O V x.a,O V x.s]
abbrev Bt.val(x:Bt):BD:=CX #[CV x.dr,O CB (U x.h),O V x.r,O V x.a,O V x.s]
def Hm(l:List Bt):List BD:=l.flatMap Bt.cells
theorem eK(l m:List Bt):Hm (l++m)=Hm l++Hm m:=by simp[Hm]
theorem fv(l:List Bt)(i:Nat)(x:Bt)(h:l[i]?=Bn x)(j:Nat)(b:j<5):(Hm l)[i*5+j]?=x.cells[j]?:=by
 induction l generalizing i with
 |nil=>cases h
 |cons y l a=>
  cases i with
  |zero=>
   simp at h;subst h;show(y.cells++Hm l)[0*5+j]?=_;rw[lj Γ];simp
  |succ i=>
   show(y.cells++Hm l)[(i+1)*5+j]?=_;rw[lf Γ];have:=a i (by simpa using h);rw[<-this]
   congr 1
   simp;omega
def Do(n:Nat):Nat:=(n - 28)/21
def Bt.ok(x:Bt):Prop:=if x.dr=BC then x.r=0/\x.a=0/\x.s=0 else x.r<=1099511627776/\x.a<=65535/\x.s<=65535
theorem Bt.ok.bx{x:Bt}(h:x.ok):x.r<=1099511627776/\x.a<=65535/\x.s<=65535:=by
 unfold Bt.ok at h
 split at h
 ·omega
 ·exact h
structure Cb(w:Bk)(e:Ad)(l d:Nat)(P:Pl)(f g:Nat)(c:BD)(a:List Bt)(t:Nat):Prop where
 u:Aa w l 188 (AA (Bn ⟨d,0,Ax⟩)::(P.cells++[O V 2,O V (Do P.n:Nat),O V f,O V g,c,O V t]))
 aM:w.ownsRow 0 130 5 c a.length (Hm a)
 bA:a.length<=Do P.n
 hO:∀x∈a,x.ok
 c0:e l=5
 cp:∀b,c.ownBlock=Bn b->e b=5
theorem Cb.am{l:List Bt}{S:Nat->Prop}(c:Cb h Z E b a d e Y l i)(m:Ac S h g)(n:∀k,Z k=5->¬S k)(p:∀k,k<h.heap.size->o k=Z k):Cb g o E b a d e Y l i:=
 ⟨m.u c.u (n _ c.c0),m.aL c.aM (λf j=>n _ (c.cp f j)),c.bA,c.hO,by rw[p _ c.u.lt];exact c.c0,λf j=>by rw[p _ (c.aM.lt f j).2];exact c.cp f j⟩
theorem Cb.grown{f:List Bt}(c:Cb h Z E b a d e Y f i)(j:h.grownBy g Ax):Cb g Z E b a d e Y f i:=
 c.am (Ac.au (S:=λ_=>False) j) (λ_ _ c=>c) (λ_ _=>rfl)
theorem Cb.ae{C:Nat->Prop}{c:List Bt}(l:Cb h Z E b a d e Y c i)(k:Ab C h Z g o)(m:¬C 5):Cb g o E b a d e Y c i:=
 l.am k.ak (λj n f=>by rw[n]at f;exact m f) k.ah
theorem Cb.cells{f:List Bt}(c:Cb h Z E b a d e Y f i):
  h.cell? ⟨E,0,Ax⟩=Bn (AA (Bn ⟨b,0,Ax⟩))/\h.cell? ⟨E,2,Ax⟩=Bn (O V a.n)/\h.cell? ⟨E,5,Ax⟩=Bn (O V a.lg)/\h.cell? ⟨E,9,Ax⟩=Bn (O V 2)/\h.cell? ⟨E,10,Ax⟩=Bn (O V (Do a.n:Nat))/\
  h.cell? ⟨E,11,Ax⟩=Bn (O V d)/\h.cell? ⟨E,12,Ax⟩=Bn (O V e)/\h.cell? ⟨E,13,Ax⟩=Bn Y/\h.cell? ⟨E,14,Ax⟩=Bn (O V i):=
 ⟨c.u.m 0,c.u.m 2,c.u.m 5,c.u.m 9,c.u.m 10,c.u.m 11,c.u.m 12,c.u.m 13,c.u.m 14⟩
def DO(P:Pl)(a b:Nat):Nat:=P.lg - (b - a)
theorem LU(n m:Nat)(h:n<=m)(w:Bk):B0 A3 113 #[O V n,O V m] w λe a=>e=A4 (CV BC)/\w=a:=by
 have b:Bd ((0:Int)<=(n:Int))=BC:=jT Ω;have c:Bd ((n:Int)<=(m:Int))=BC:=jT Ω
 go_enter Tryz.func113,Tryz.ntmps113
 go_wp2;go_ret;exact⟨rfl,rfl⟩
theorem Xg(x:Bt)(h:x.ok)(w:Bk):B0 A3 112 #[x.val] w λe b=>e=A4 (CV BC)/\w.grownBy b Ax:=by
 obtain⟨g,j,r,a,s⟩:=x;have i:=C4 w (.cells #[CV g,O CB (U j),O V r,O V a,O V s] 130) Ax
 cases g with
 |true=>
  obtain⟨c,d,f⟩:r=0/\a=0/\s=0:=h;subst c d f
  go_enter D2,DV
  go_wp2;go_ret;exact⟨rfl,i⟩
 |false=>
  obtain⟨c,d,f⟩:r<=1099511627776/\a<=65535/\s<=65535:=h;have k:=zh (λW=>LU r 1099511627776 c W);have l:=zh (λW=>LU a 65535 d W);have m:=zh (λW=>LU s 65535 f W);clear c d f
  go_enter D2,DV
  go_wp2_with fail;refine(k.o _).mono ?_;rintro e b ⟨rfl,rfl⟩;go_wp2_with fail;refine(l.o _).mono ?_;rintro e b ⟨rfl,rfl⟩;go_wp2_with fail;refine(m.o _).mono ?_;rintro e b ⟨rfl,rfl⟩;go_wp2_with fail;go_ret;exact⟨rfl,i⟩
theorem NY{k:List Bt}(f:Cb h Z d e a b E Y k i)(g:a.aU)(o:b<=E)(p:E<=2000000000):
  B0 A3 49 #[AA (Bn ⟨d,0,Ax⟩)] h λl m=>l=A4 (O V (DO a b E:Nat))/\h.grownBy m Ax:=by
 obtain⟨_,_,q,_,_,r,s,_⟩:=f.cells;have t:=g.gk;clear f g;unfold DO;generalize a.lg=c at*;have j:max ((c:Int) - ((E:Int) - (b:Int))) 0=((c - (E - b):Nat):Int):=Ω;have n:=zh j;clear j;have u:B7 ((E:Int) - (b:Int))=(E:Int) - (b:Int):=BE _ Ω;have v:B7 ((c:Int) - ((E:Int) - (b:Int)))=(c:Int) - ((E:Int) - (b:Int)):=BE _ Ω
 go_enter Tryz.func49,Tryz.ntmps49
 go_wp2_with fail
 go_quiet (fail)
 go_wp2_with fail;go_ret;refine⟨?_,AS _ nq Ax⟩;rw[<-n.o];rfl
theorem YP{f:List Bt}(c:Cb h Z E d a e b Y f i):
  B0 A3 156 #[AA (Bn ⟨E,0,Ax⟩)] h λg j=>g=A4 (O V b)/\h=j:=by
 obtain⟨_,_,_,_,_,_,k,_⟩:=c.cells;clear c
 go_enter Tryz.func156,Tryz.ntmps156
 go_wp2_with fail;go_ret;exact⟨rfl,rfl⟩
theorem Cb.iY{g:List Bt}(c:Cb h Z E b a i d Y g e)(f:Nat):Cb ((h.setCell ⟨E,11,Ax⟩ (O V f)).setCell ⟨E,13,Ax⟩ (A2 Ax 0 0)) Z E b a f d (A2 Ax 0 0) [] e:=
 ⟨(c.u.setCell 11 _).setCell 13 _,CR _ _ _ _,kN _,(λx j=>by cases j),c.c0,λl k=>by simp[BR]at k⟩
theorem Vh{n:List Bt}(c:Cb h Z E d a i b Y n e)(k:Aw h Z):
  B0 A3 42 #[AA (Bn ⟨E,0,Ax⟩)] h λf l=>(∃v,f=A4 v)/\Ab (λj=>j=5) h Z l Z/\Cb l Z E d a b b (A2 Ax 0 0) [] e:=by
 obtain⟨_,_,_,_,_,r,s,t,_⟩:=c.cells;have u:=c.u.v 11;have w:=c.u.v 13;have o:=zh (c.iY b);have g:=c.u.setCell 11 (O V b);have x:=g.m 13;have y:=g.v 13;have p:=c.c0;have m:Ac (λj=>j=E) h ((h.setCell ⟨E,11,Ax⟩ (O V b)).setCell ⟨E,13,Ax⟩ (A2 Ax 0 0)):=(Ac.of (An _ _ _) (λj f=>by cases f;rfl)).trans (Ac.of (An _ _ _) (λj f=>by cases f;rfl));have q:=zh (AG (C:=λj=>j=5) k m (λj f=>by rw[f];exact p));clear c g m k
 go_enter Tryz.func42,Tryz.ntmps42
 go_wp2_with fail
 go_end0
 exact⟨⟨_,rfl⟩,q.o,o.o⟩
theorem Hx(h:∀x∈c,x<256)(n k:Nat):∀x∈c++At n k,x<256:=λx a=>(kY.1 a).elim (h x) (Ek _ _ x)
theorem dE(m:PW g h E Y c f)(x:Bt)(u:x.ok)(v:(c.length:Int)+21<=f)(w:c.length<=1000)(y:∀x∈c,x<256):
  B0 A3 174 #[x.val,AA (Bn ⟨E,0,Ax⟩)] h λe W=>∃X n,e=A4 (CL #[])/\PW g W E X n f/\n.length=c.length+21/\∀x∈n,x<256:=by
 obtain⟨z,o,r,a,s⟩:=x;have d:=u.bx
 have u1:CB.wrap (r:Int)=r:=by have:=d.1;rw[CA];simp only at this;omega
 have u2:CB.wrap (a:Int)=a:=by have:=d.2.1;rw[CA];simp only at this;omega
 have u3:CB.wrap (s:Int)=s:=by have:=d.2.2;rw[CA];simp only at this;omega
 have p:=zh d;have Z:=zh y;clear d u y;obtain⟨w1,am,A,q⟩:=Aq h 130 [CV z,O CB (U o),O V r,O V a,O V s];have B:=zh (m.bq A)
 have C:¬Dm E Y h.heap.size:=λe=>by have:=m.wr.lt _ e;omega
 have t:=zh (Bs q C);have b:=zh (Bs v w);have x0:=q.m 0;clear m A q C v w
 go_enter Tryz.func174,Tryz.ntmps174
 go_upto_if 6 with fail
 go_cut [4] (λs4 wx=>wx=w1/\∃i:Nat,i<256/\s4=O CB (i:Nat))
 case first=>
  cases z
  ·go_wp2_with fail
   go_meet
   exact⟨rfl,1,Ω,rfl⟩
  ·go_wp2_with fail
   go_meet
   exact⟨rfl,2,Ω,rfl⟩
 case rest=>
 obtain⟨rfl,i,D,rfl⟩:=hcut;have HK:=zh D;clear D x0;go_wp2_with fail;refine(B.o.a8 i 1 (Ψ HK.o) Ξ (Ψ b.o) (Ψ b.o)).mono ?_;rintro e w2 ⟨v2,rfl,F,G⟩;have j:=zh (G _ _ _ t.o.1 t.o.2);have H:=zh F;have x1:=j.o.1.m 1;clear F G B t;go_wp2_with fail;refine(H.o.a8 o.toNat 8 o.isLt Ξ (by have:=b.o;simp[AI];omega) (by have:=b.o;simp[AI];omega)).mono ?_;rintro e w3 ⟨v3,rfl,I,J⟩;have k:=zh (J _ _ _ j.o.1 j.o.2);have K:=zh I;have x2:=k.o.1.m 2;clear I J H j x1;go_wp2_with fail;refine(K.o.a8 r 8 (by have:=p.o.1;(try simp only at this);omega) Ξ (by have:=b.o;simp[AI];omega) (by have:=b.o;simp[AI];omega)).mono ?_;rintro e w4 ⟨v4,rfl,L,M⟩;have l:=zh (M _ _ _ k.o.1 k.o.2);have N:=zh L;have x3:=l.o.1.m 3;clear L M K k x2;go_wp2_with fail;refine(N.o.a8 a 2 (by have:=p.o.2.1;(try simp only at this);omega) Ξ (by have:=b.o;simp[AI];omega) (by have:=b.o;simp[AI];omega)).mono ?_;rintro e w5 ⟨v5,rfl,P,Q⟩;have R:=zh (Q _ _ _ l.o.1 l.o.2);have S:=zh P;have x4:=R.o.1.m 4;clear P Q N l x3;go_wp2_with fail;refine(S.o.a8 s 2 (by have:=p.o.2.2;(try simp only at this);omega) Ξ (by have:=b.o;simp[AI];omega) (by have:=b.o;simp[AI];omega)).mono ?_;rintro e w6 ⟨v6,rfl,T,k6⟩;have H6:=zh T;clear T k6 S R x4;go_wp2_with fail
 go_end0
 exact⟨v6,_,rfl,H6.o,by simp[AI],Hx (Hx (Hx (Hx (Hx Z.o _ _) _ _) _ _) _ _) _ _⟩
def WN(b w:Bk)(B:Nat)(m:Nat)(c:Int):Prop:=∃v a,PW b w B v a c/\a.length=m/\∀x∈a,x<256
theorem WN.bq(a:WN h g E b f)(c:g.grownBy w Ax):WN h w E b f:=let⟨v,d,e,i⟩:=a;⟨v,d,e.bq c,i⟩
theorem WN.grown(a:WN h g E b f):h.grownBy g Ax:=let⟨_,_,c,_⟩:=a;c.grown
theorem WN.new(b:h.grownBy g Ax)(c:WR g h.heap.size (A2 Ax 0 0) [] f BA):WN h g h.heap.size 0 f:=
 ⟨_,[],⟨c,λk a=>by
  rcases a with rfl|a
  ·exact jS _
  ·simp[BR]at a,b⟩,rfl,λx d=>by cases d⟩
theorem WN.a8(c:WN h g b E f)(n k:Nat)(d:n<18446744073709551616)(i:E7 k=BC)(j:(E:Int)+k<=f)(q:E<=1000):
  B0 A3 124 #[AA (Bn ⟨b,0,Ax⟩),O CB n,O V k] g λe a=>e=A4 (CL #[])/\WN h a b (E+k) f:=by
 obtain⟨v,r,l,rfl,m⟩:=c;refine(l.a8 n k d i j Ω).mono ?_;rintro e a ⟨o,rfl,p,_⟩;exact⟨rfl,o,_,p,by simp[AI],Hx m _ _⟩
theorem WN.e4(q:WN g h E b f)(d:List Nat)(a:Option Addr)(c:Nat)(r:∀x∈d,x<256)(D:(b:Int)+d.length<=f)(F:b+d.length<=1000)(s:Ai h 1 (A2 a d.length c) d.length (Ao d))(t:∀n,(A2 a d.length c).ownBlock=Bn n->n≠E):
  B0 A3 125 #[AA (Bn ⟨E,0,Ax⟩),A2 a d.length c] h λe o=>e=A4 (CL #[])/\WN g o E (b+d.length) f:=by
 obtain⟨v,l,i,rfl,u⟩:=q;refine(PJ E v l d f BA a c h i.wr Ω s (λ_=>t)).mono ?_;rintro e o ⟨w,rfl,p,y,z⟩
 have A:Fm l f BA d=(l++d,BA):=by
  unfold Fm;rw[j7];intro k
  rcases k with k|k
  ·cases k
  ·omega
 rw[A]at p;refine⟨rfl,w,_,⟨p,λj B=>?_,y.grown i.grown i.fo⟩,Δ,λx C=>(kY.1 C).elim (u x) (r x)⟩
 rcases z j B with m|m
 ·exact i.fo j m
 ·exact j8 i.grown.size m
theorem WN.hv(k:WN h g b E f):
  B0 A3 126 #[AA (Bn ⟨b,0,Ax⟩)] g λe i=>∃a c d,e=A4 (A2 a E c)/\d.length=E/\(∀x∈d,x<256)/\i.ownsRow h.heap.size 5 1 (A2 a E c) E (Ao d)/\h.grownBy i Ax:=by
 obtain⟨v,d,j,rfl,l⟩:=k;refine(Hv _ _ _ _ _ g j.wr).mono ?_;rintro e i ⟨a,c,rfl,o,m⟩;exact⟨a,c,d,rfl,rfl,l,BQ o j.grown.size,Ae j.grown m⟩
theorem Iy{n:Nat}(h:n<18446744073709551616):CB.wrap (n:Int)=n:=by rw[CA];omega
theorem Wm(o n p q r s t:Nat)(j:BitVec 64)(w:Bk)(l:o<65536)(m:n<65536)(N:p<65536)(P:q<65536)(f:r<65536)(u:s<65536)(Q:t<65536):
  B0 A3 216 #[CX #[O V (o:Nat),O V n,O V (p:Nat),O V q,O V r,O V s,O V t,O CB (U j)]] w λe R=>∃a c y,e=A4 (A2 a 26 c)/\y.length=26/\(∀x∈y,x<256)/\R.ownsRow w.heap.size 5 1 (A2 a 26 c) 26 (Ao y)/\w.grownBy R Ax:=by
 have S:∀k:Nat,k<2->∃v:Nat,v<65536/\∀W,(C3 370 (CX #[O V (o:Nat),O V n]) (O V (k:Nat))).run A3 W=.ok (O V (v:Nat)) W:=λk h=>by
  rcases(show k=0\/k=1 by omega)with rfl|rfl
  ·exact⟨o,l,λW=>Φ⟩
  ·exact⟨n,m,λW=>Φ⟩
 have T:∀k:Nat,k<5->∃v:Nat,v<65536/\∀W,(C3 371 (CX #[O V (p:Nat),O V q,O V r,O V s,O V t]) (O V (k:Nat))).run A3 W=.ok (O V (v:Nat)) W:=λk h=>by
  rcases(show k=0\/k=1\/k=2\/k=3\/k=4 by omega)with rfl|rfl|rfl|rfl|rfl
  ·exact⟨p,N,λW=>Φ⟩
  ·exact⟨q,P,λW=>Φ⟩
  ·exact⟨r,f,λW=>Φ⟩
  ·exact⟨s,u,λW=>Φ⟩
  ·exact⟨t,Q,λW=>Φ⟩
 have I1:=zh S;have I2:=zh T;clear S T l m N P f u Q;obtain⟨z,af,X,Y⟩:=Aq w 37 (CH o n p q r s t j);have Z:=zh X;have g:=zh Y;clear X Y
 go_enter Tryz.func216,Tryz.ntmps216
 go_wp2_with fail;refine(II 26 Ω z).mono ?_;rintro e w2 ⟨rfl,F,E⟩;rw[ke Ω]at F;have W2:=zh (WN.new E F);have x0:=(g.o.grown E Δ).m 0;have x1:=(g.o.grown E Δ).m 1;clear F E af;go_wp2_with fail;clear x0 x1
 go_loopg [14] 2 (λk v wr=>v=O V (2 - k:Nat)/\k<=2/\WN z wr z.heap.size (4*(2 - k)) 26)
 case atStart=>exact⟨rfl,jS _,W2.o⟩
 case round=>
  obtain⟨rfl,h,A⟩:=hrel;have b:=zh A;clear A W2
  by_cases B:gk=0
  ·subst B;rw[mA]at b⊢;have x2:=(g.o.grown b.o.grown Δ).m 2;have x3:=(g.o.grown b.o.grown Δ).m 3;have x4:=(g.o.grown b.o.grown Δ).m 4;have x5:=(g.o.grown b.o.grown Δ).m 5;have x6:=(g.o.grown b.o.grown Δ).m 6;have W3:=zh b.o;clear h b;go_wp2_with fail;clear x2 x3 x4 x5 x6
   go_loopg [33] 5 (λk v wr=>v=O V (5 - k:Nat)/\k<=5/\WN z wr z.heap.size (8+2*(5 - k)) 26)
   case atStart=>exact⟨rfl,jS _,W3.o⟩
   case round=>
    obtain⟨rfl,h,A⟩:=hrel;have b:=zh A;clear A W3
    by_cases B:gk=0
    ·subst B;rw[mA]at b⊢;have y7:=(g.o.grown b.o.grown Δ).m 7;have hU:U j=((j.toNat:Nat):Int):=rfl;rw[hU]at y7;clear h;go_wp2_with fail;refine(b.o.a8 j.toNat 8 j.isLt Ξ Ω Ω).mono ?_;rintro e w6 ⟨rfl,u⟩;have W6:=zh u;clear u b y7;go_wp2_with fail;refine(W6.o.hv).mono ?_;rintro e w7 ⟨a,c,y,rfl,hl,aq,ho,hg⟩;go_wp2_with fail;go_ret;exact⟨a,c,y,rfl,hl,aq,BQ ho Z.o.size,Ae Z.o hg⟩
    ·obtain⟨i,C⟩:=Ag (5 - gk);rw[C]at b⊢;have G:Bd ((i:Int)<5)=BC:=jT Ω;have H:Bd (i<5)=BC:=jT Ω;obtain⟨v,D,I⟩:=I2.o i Ω;have J:=Iy (n:=v) Ω;have K:=zh D;have d:Hd (i+1=5 - (gk - 1)/\gk - 1<=5/\gk - 1<gk/\i<5):=zh Ω;have L:Hd (B7 ((i:Int)+1)=((i+1:Nat):Int)):=zh (De rfl Ω);clear C h B D;go_wp2_with fail;refine(b.o.a8 v 2 (Ψ K.o) Ξ (Ψ d.o) (Ψ d.o)).mono ?_;rintro e w5 ⟨rfl,f⟩;have M:=zh f;clear f b G H I J;go_wp2_with fail
     go_roundg (gk - 1)
     case measure=>exact d.o.2.2.1
     exact⟨by rw[<-d.o.1,L.o],d.o.2.1,by
      have l:=M.o;have m:=d.o.1;rw[<-m,pk,mL];rw[<-lw]
      exact l⟩
  ·obtain⟨i,C⟩:=Ag (2 - gk);rw[C]at b⊢;have G:Bd ((i:Int)<2)=BC:=jT Ω;have H:Bd (i<2)=BC:=jT Ω;obtain⟨v,D,I⟩:=I1.o i Ω;have J:=Iy (n:=v) Ω;have K:=zh D;have d:Hd (i+1=2 - (gk - 1)/\gk - 1<=2/\gk - 1<gk/\i<2):=zh Ω;have L:Hd (B7 ((i:Int)+1)=((i+1:Nat):Int)):=zh (De rfl Ω);clear C h B D;go_wp2_with fail;refine(b.o.a8 v 4 (Ψ K.o) Ξ (Ψ d.o) (Ψ d.o)).mono ?_;rintro e w5 ⟨rfl,f⟩;have M:=zh f;clear f b G H I J;go_wp2_with fail
   go_roundg (gk - 1)
   case measure=>exact d.o.2.2.1
   exact⟨by rw[<-d.o.1,L.o],d.o.2.1,by
    have l:=M.o;have m:=d.o.1;rw[<-m,pk,mL]
    exact l⟩
abbrev Fs(a n b c d e f:Nat)(g:BitVec 64)(h i j k l m t:Nat):List BD:=[O V a,O V n,O V b,O V c,O V d,O V e,O V f,O CB (U g),O V h,O V i,O V j,O V k,O V l,O V m,O V t]
theorem Wt(j n l m o c p:Nat)(q:BitVec 64)(f g s d h u t:Nat)(r D E F G H I:Nat)(w:Bk)
  (J:∀W,B0 A3 32 #[CX (CH j n l m o c p q).toArray] W λe x=>e=A4 (CL #[CX (EN r D E F G H I).toArray,O V 0])/\W.grownBy x Ax)
  (P:1<=f)(Q:g<=2147483647)(R:d<=c)(S:1<=h)(T:t<=281474976710656):
  B0 A3 215 #[CX (Fs j n l m o c p q f g s d h u t).toArray] w λe x=>e=A4 (O V 0)/\w.grownBy x Ax:=by
 have U:Bd ((1:Int)<=(f:Int))=BC:=jT Ω;have X:Bd (1<=f)=BC:=jT Ω;have Y:Bd ((0:Int)<=(g:Int))=BC:=jT Ω;have Z:Bd ((g:Int)<=2147483647)=BC:=jT Ω;have d4:Bd ((0:Int)<=(s:Int))=BC:=jT Ω;have d5:Bd ((0:Int)<=(d:Int))=BC:=jT Ω;have d6:Bd ((d:Int)<=(c:Int))=BC:=jT Ω;have ad:Bd (d<=c)=BC:=jT Ω;have d7:Bd ((1:Int)<=(h:Int))=BC:=jT Ω;have d8:Bd ((0:Int)<=(u:Int))=BC:=jT Ω;have d9:Bd ((0:Int)<=(t:Int))=BC:=jT Ω;have ah:Bd ((t:Int)<=281474976710656)=BC:=jT Ω
 have K:∀k:Nat,k<7->∀W,(C3 369 (CX #[CV BC,CV BC,CV BC,CV BC,CV BC,CV BC,CV BC]) (O V (k:Nat))).run A3 W=.ok (CV BC) W:=λk y=>by
  rcases(show k=0\/k=1\/k=2\/k=3\/k=4\/k=5\/k=6 by omega)with rfl|rfl|rfl|rfl|rfl|rfl|rfl<;>exact λW=>Φ
 have I1:=zh K;have HF:=zh J;clear K J P Q R S T;obtain⟨w1,al,L,a⟩:=Aq w 191 (Fs j n l m o c p q f g s d h u t);have P1:=zh a;have G1:=zh L;have x0:=a.m 0;have x1:=a.m 1;have x2:=a.m 2;have x3:=a.m 3;have x4:=a.m 4;have z:=a.m 5;have x6:=a.m 6;have x7:=a.m 7;clear L a
 go_enter Tryz.func215,Tryz.ntmps215
 go_wp2_with fail;clear al x0 x1 x2 x3 x4 z x6 x7;refine(HF.o w1).mono ?_;rintro e w2 ⟨rfl,A⟩;obtain⟨w3,az,B,l3⟩:=Aq w2 85 (EN r D E F G H I);have G3:=zh (Ae (Ae G1.o A) B);have b:=zh ((P1.o.grown A Δ).grown B Δ);have z:=b.o.m 5;have x8:=b.o.m 8;have x9:=b.o.m 9;have aE:=b.o.m 10;have aF:=b.o.m 11;have aG:=b.o.m 12;have aH:=b.o.m 13;have aI:=b.o.m 14;clear A B l3;go_wp2_with fail;clear az z x8 x9 aE aF aG aH aI U X Y Z d4 d5 d6 ad d7 d8 d9 ah
 go_loopg [59] 7 (λk v wr=>v=O V (7 - k:Nat)/\k<=7/\wr=w3)
 case atStart=>exact⟨rfl,jS _,rfl⟩
 case round=>
  obtain⟨rfl,y,rfl⟩:=hrel
  by_cases M:gk=0
  ·subst M;rw[mA];clear y;go_wp2_with fail;go_ret;exact⟨rfl,G3.o⟩
  ·obtain⟨i,N⟩:=Ag (7 - gk);rw[N];have hd:Bd ((i:Int)<7)=BC:=jT Ω;have aL:Bd (i<7)=BC:=jT Ω;have aM:=I1.o i Ω;have C:Hd (i+1=7 - (gk - 1)/\gk - 1<=7/\gk - 1<gk):=zh Ω;have aJ:Hd (B7 ((i:Int)+1)=((i+1:Nat):Int)):=zh (De rfl Ω);clear N y M;go_wp2_with fail
   go_roundg (gk - 1)
   case measure=>exact C.o.2.2
   exact⟨by rw[<-C.o.1,aJ.o],C.o.2.1,rfl⟩
theorem Xe(B n C D E F G:Nat)(H:BitVec 64)(P s u y l m t:Nat)(w:Bk)
  (hr:∀W,B0 A3 215 #[CX (Fs B n C D E F G H P s u y l m t).toArray] W λe j=>e=A4 (O V 0)/\W.grownBy j Ax)
  (hp:∀W,B0 A3 216 #[CX (CH B n C D E F G H).toArray] W λe j=>∃a c f,e=A4 (A2 a 26 c)/\f.length=26/\(∀x∈f,x<256)/\j.ownsRow W.heap.size 5 1 (A2 a 26 c) 26 (Ao f)/\W.grownBy j Ax)
  (Q:s<18446744073709551616)(R:u<18446744073709551616)(S:y<18446744073709551616)(g:l<18446744073709551616)(o:m<18446744073709551616)(p:t<18446744073709551616):
  B0 A3 152 #[CX (Fs B n C D E F G H P s u y l m t).toArray] w λe j=>∃a c f,e=A4 (CL #[A2 a 63 c,O V 0])/\f.length=63/\(∀x∈f,x<256)/\j.ownsRow w.heap.size 5 1 (A2 a 63 c) 63 (Ao f)/\w.grownBy j Ax:=by
 have i1:∀k:Nat,k<3->∃v:Nat,v<18446744073709551616/\∀W,(C3 328 (CX #[O V (l:Nat),O V m,O V t]) (O V (k:Nat))).run A3 W=.ok (O V (v:Nat)) W:=λk T=>by
  rcases(show k=0\/k=1\/k=2 by omega)with rfl|rfl|rfl
  ·exact⟨l,g,λW=>Φ⟩
  ·exact⟨m,o,λW=>Φ⟩
  ·exact⟨t,p,λW=>Φ⟩
 have I1:=zh i1;have HR:=zh hr;have HP:=zh hp;have u1:=Iy Q;have u2:=Iy R;have u3:=Iy S;have U:=zh (Bs Q (Bs R S));clear i1 hr hp Q R S g o p;obtain⟨w1,aT,g1,d⟩:=Aq w 191 (Fs B n C D E F G H P s u y l m t);have P1:=zh d;have G1:=zh g1;have X:=d.m 0;have Y:=d.m 1;have Z:=d.m 2;have x3:=d.m 3;have x4:=d.m 4;have x5:=d.m 5;have x6:=d.m 6;have x7:=d.m 7;have x8:=d.m 8;have x9:=d.m 9;have ag:=d.m 10;have ah:=d.m 11;have ai:=d.m 12;have aj:=d.m 13;have ak:=d.m 14;clear g1 d
 go_enter Tryz.func152,Tryz.ntmps152
 go_wp2_with fail;clear aT X Y Z x3 x4 x5 x6 x7 x8 x9 ag ah ai aj ak;refine(HR.o w1).mono ?_;rintro e I ⟨rfl,g2⟩;have z:=zh (P1.o.grown g2 Δ);have G2:=zh (Ae G1.o g2);clear g2 P1;go_wp2_with fail;refine(II 63 Ω I).mono ?_;rintro e w3 ⟨rfl,am,g3⟩;rw[ke Ω]at am;have W3:=zh (WN.new g3 am);have h:=z.o.grown g3 Δ;have X:=h.m 0;have Y:=h.m 1;have Z:=h.m 2;have x3:=h.m 3;have x4:=h.m 4;have x5:=h.m 5;have x6:=h.m 6;have x7:=h.m 7;clear am g3 h;go_wp2_with fail;clear X Y Z x3 x4 x5 x6 x7;refine(HP.o w3).mono ?_;rintro e w4 ⟨a,c,f,rfl,J,K,L,g4⟩;have W4:=zh (W3.o.bq g4);have HO:=zh L;have q:=zh (Bs J K)
 have aE:I.heap.size<w3.heap.size:=by obtain⟨v,f,h1,_⟩:=W3.o;exact h1.wr.lt _ (C7 rfl)
 have aW:=zh aE;clear J K L g4 W3 aE;go_wp2_with fail;have aF:=Ai.aj HO.o;have ar:=W4.o.e4 f a c q.o.2 (by rw[q.o.1];omega) (by rw[q.o.1];omega) (by rw[q.o.1];exact aF) (λb hb=>by rw[q.o.1]at hb;have:=(HO.o.lt b hb).1;have:=aW.o;omega);rw[q.o.1]at ar;refine ar.mono ?_;rintro e w5 ⟨rfl,g⟩;have M:=zh g;have P5:=z.o.grown g.grown Δ;have x9:=P5.m 9;clear aF ar g P5 W4 HO;go_wp2_with fail;refine(M.o.a8 s 4 U.o.1 Ξ Ω Ω).mono ?_;rintro e w6 ⟨rfl,o⟩;have W6:=zh o;have ag:=(z.o.grown o.grown Δ).m 10;clear o x9 M;go_wp2_with fail;refine(W6.o.a8 u 8 U.o.2.1 Ξ Ω Ω).mono ?_;rintro e w7 ⟨rfl,p⟩;have W7:=zh p;have ah:=(z.o.grown p.grown Δ).m 11;clear p ag W6;go_wp2_with fail;refine(W7.o.a8 y 1 U.o.2.2 Ξ Ω Ω).mono ?_;rintro e w8 ⟨rfl,h8⟩;have W8:=zh h8;have N:=z.o.grown h8.grown Δ;have ai:=N.m 12;have aj:=N.m 13;have ak:=N.m 14;clear h8 ah W7 N u1 u2 u3;go_wp2_with fail;clear ai aj ak
 go_loopg [43] 3 (λk v wr=>v=O V (3 - k:Nat)/\k<=3/\WN I wr I.heap.size (39+8*(3 - k)) 63)
 case atStart=>exact⟨rfl,jS _,W8.o⟩
 case round=>
  obtain⟨rfl,T,hw⟩:=hrel;have A:=zh hw;clear hw W8
  by_cases h0:gk=0
  ·subst h0;rw[mA]at A⊢;clear T;go_wp2_with fail;refine(A.o.hv).mono ?_;rintro e w9 ⟨a,c,f,rfl,J,K,L,hg⟩;go_wp2_with fail;exact CE (C0 rfl _ _ _) rfl ⟨a,c,f,rfl,J,K,BQ L G2.o.size,Ae G2.o hg⟩
  ·obtain⟨i,hi⟩:=Ag (3 - gk);rw[hi]at A⊢;have hd:Bd ((i:Int)<3)=BC:=jT Ω;have a0:Bd (i<3)=BC:=jT Ω;obtain⟨v,hv,a1⟩:=I1.o i Ω;have a2:=Iy (n:=v) Ω;have HV:=zh hv;have r:Hd (i+1=3 - (gk - 1)/\gk - 1<=3/\gk - 1<gk/\i<3):=zh Ω;have a4:Hd (B7 ((i:Int)+1)=((i+1:Nat):Int)):=zh (De rfl Ω);clear hi T h0 hv;go_wp2_with fail;refine(A.o.a8 v 8 HV.o Ξ (Ψ r.o) (Ψ r.o)).mono ?_;rintro e w5 ⟨rfl,g⟩;have M:=zh g;clear g A hd a0 a1 a2;go_wp2_with fail
   go_roundg (gk - 1)
   case measure=>exact r.o.2.2.1
   exact⟨by rw[<-r.o.1,a4.o],r.o.2.1,by
    have h1:=M.o;rw[<-r.o.1,pk,mL, <-lw]
    exact h1⟩
theorem XU(d a n g i j k l:Nat)(m:BitVec 64)(o p q r s u t:Nat)(v:AD h Z d a n E J):
  B0 A3 153 #[CX (Fs a n g i j k l m o p q r s u t).toArray,AA (Bn ⟨d,0,Ax⟩)] h λe B=>e=A4 (CV BC)/\h.grownBy B Ax:=by
 have D:((a:Int)==(a:Int))=BC:=Δ;have F:((n:Int)==(n:Int))=BC:=Δ;have w:=zh v;clear v;obtain⟨G,H,x,b⟩:=Aq h 191 (Fs a n g i j k l m o p q r s u t);have c:=zh x;have y:=b.m 0;have z:=b.m 1;have I:=AV y;have K:=AV z;clear x b
 go_enter Tryz.func153,Tryz.ntmps153
 go_wp2_with fail;clear y z;refine CU Φ Φ ?_
 repeat(go_big_quiet_step (fail))
 go_big_quiet_step ((go_at_call 129;exact GW (λW f=>LP (w.o.grown (Ae c.o f))) _))
 repeat(go_big_quiet_step (fail))
 go_big_quiet_step ((go_at_call 130;exact GW (λW f=>Kr (w.o.grown (Ae c.o f))) _))
 repeat(go_big_quiet_step (fail))
 refine C2 ?_;rintro _ ⟨A,rfl⟩;have C:=CY A;generalize gw A=L at*;go_wp2_with fail;go_ret;exact⟨rfl,Ae c.o C⟩
theorem XP(d i n p q r s u:Nat)(v:BitVec 64)(g w y z A B t:Nat)(hD:AD h Z d i n E J)(hC:Aw h Z)(hq:E<=1073741824)
  (hp:∀W,B0 A3 152 #[CX (Fs i n p q r s u v g w y z A B t).toArray] W λe m=>∃a c k,e=A4 (CL #[A2 a 63 c,O V 0])/\k.length=63/\(∀x∈k,x<256)/\m.ownsRow W.heap.size 5 1 (A2 a 63 c) 63 (Ao k)/\W.grownBy m Ax)
  (hg:g<=9223372036854775807)(aj:2<=i)(l:96<=n):
  B0 A3 93 #[AA (Bn ⟨d,0,Ax⟩),CX (Fs i n p q r s u v g w y z A B t).toArray] h λe m=>e=A4 (O V 0)/\∃C k,Ab (λj=>j=1) h Z m C/\AD m C d i n (E+1) (Cu J ((g%2:Nat):Int) k):=by
 have HD:=zh hD;have HC:=zh hC;have HP:=zh hp;have HF:=zh (λ(W:Bk) (hW:AD W Z d i n E J)=>XU d i n p q r s u v g w y z A B t hW)
 have hm:((g:Int)).tmod 2=((g%2:Nat):Int):=by rw[ln Ω];rfl
 have aB:(g:Int)%2=((g%2:Nat):Int):=rfl;have G:g%2<=1:=Ω;obtain⟨T,am⟩:=Ag (g%2);rw[am]at hm aB G⊢;have HN:=zh (show T<=1/\g<=9223372036854775807/\2<=i/\96<=n/\E<=1073741824 from⟨G,hg,aj,l,hq⟩);clear hD hC hp hg aj l hq G am;obtain⟨w1,aE,g1,b⟩:=Aq h 191 (Fs i n p q r s u v g w y z A B t);have P1:=zh b;have G1:=zh g1;have H:=b.m 0;have I:=b.m 1;have K:=b.m 2;have L:=b.m 3;have M:=b.m 4;have N:=b.m 5;have P:=b.m 6;have Q:=b.m 7;have o:=b.m 8;have R:=b.m 9;have S:=b.m 10;have U:=b.m 11;have X:=b.m 12;have Y:=b.m 13;have aa:=b.m 14;clear g1 b
 go_enter Tryz.func93,Tryz.ntmps93
 go_wp2_with fail;clear aE H I K L M N P Q o R S U X Y aa;refine(HP.o w1).mono ?_;rintro e w2 ⟨a,c,k,rfl,hl,aq,ho,g2⟩;have HO:=zh ho;have D:=zh (Bs hl aq);have G2:=zh (Ae G1.o g2);have f:=P1.o.grown g2 Δ;have P2:=zh f;have H:=f.m 0;have I:=f.m 1;have K:=f.m 2;have L:=f.m 3;have M:=f.m 4;have N:=f.m 5;have P:=f.m 6;have Q:=f.m 7;have o:=f.m 8;have R:=f.m 9;have S:=f.m 10;have U:=f.m 11;have X:=f.m 12;have Y:=f.m 13;have aa:=f.m 14;clear hl aq ho g2 f P1;go_wp2_with fail;clear H I K L M N P Q o R S U X Y aa;refine(HF.o w2 (HD.o.grown G2.o)).mono ?_;rintro e w3 ⟨rfl,F⟩;have O3:=zh (AP HO.o F);have G3:=zh (Ae G2.o F);have o:=(P2.o.grown F Δ).m 8;clear F HO;go_wp2_with fail;have aw:=Ai.aj O3.o;have l:=HN.o;have ad:=MA d i n E J (T:Int) 1 T g k a c w3 Z (HD.o.grown G3.o) (HC.o.grown G3.o) l.2.2.2.2 Ω Ω Ω Ω Ω l.2.1 (by rw[D.o.1];omega) D.o.2 (by rw[D.o.1];exact aw);rw[D.o.1]at ad;refine ad.mono ?_;rintro e w4 ⟨rfl,C,s4,d4⟩;clear aw ad l o;go_wp2_with fail;go_ret;exact⟨rfl,C,_,(Ab.grown HC.o G3.o).trans s4,d4⟩
def Ib(a b:Int->List Nat):Prop:=∀i:Int,2<=i->b i=a i
theorem Ib.dn(a:Int->List Nat)(g:Nat)(b:List Nat):Ib a (Cu a ((g%2:Nat):Int) b):=by
 intro i c;unfold Cu;rw[j7 Ω]
theorem Ib.ed{b:Int->List Nat}(h:Ib J b):KT a J b:=λk _=>h _ (by have:a.region=2+a.lg:=rfl;omega)
theorem Ib.eN{b:Int->List Nat}(h:Ib J b):JT a J b:=λk _=>h _ (by have:a.aK=2+a.lg+a.rg*a.rs:=rfl;omega)
theorem ZJ(p:AD h Z E a.ss a.n b J)(q:Aw h Z)(c:a.aU)(r:b<=1073741824)(d g i k f l t:Nat)(u:1<=d)(A:d<=2000000000)(v:g<=2147483647)(B:i<=2000000000)(w:k<=a.dp)(x:1<=f)(C:f<=2000000000)(D:l<=1099511627776)(y:t<=281474976710656):
  B0 A3 93 #[AA (Bn ⟨E,0,Ax⟩),CX (Fs a.ss a.n a.rg a.rs a.lg a.dp a.a7 a.aQ d g i k f l t).toArray] h λe n=>e=A4 (O V 0)/\∃m o,Ab (λj=>j=1) h Z n m/\AD n m E a.ss a.n (b+1) o/\Ib J o:=by
 have F:=c.d4;have G:=c.n1;have H:=c.gg;have I:=c.dq;have K:=c.gk;have L:=c.e5;have M:=c.hF;have N:=c.ec;have P:a.aK=2+a.lg+a.rg*a.rs:=rfl;refine(XP E a.ss a.n a.rg a.rs a.lg a.dp a.a7 a.aQ d g i k f l t p q r (λW=>Xe a.ss a.n a.rg a.rs a.lg a.dp a.a7 a.aQ d g i k f l t W (λW=>Wt a.ss a.n a.rg a.rs a.lg a.dp a.a7 a.aQ d g i k f l t a.region a.aK a.a2 a.bi a.ba a.bv a.aI W (λW=>IS a c W) u v w x y) (λW=>Wm a.ss a.n a.rg a.rs a.lg a.dp a.a7 a.aQ W Ω Ω Ω Ω Ω Ω Ω) Ω Ω Ω Ω Ω Ω) Ω Ω c.n0).mono ?_;rintro e n ⟨rfl,m,z,s,E⟩;exact⟨rfl,m,_,s,E,Ib.dn J d z⟩
theorem Cb.iS{g:List Bt}(c:Cb h Z E b a d e Y g i)(v:Nat)(f:Nat):Cb (((h.setCell ⟨E,12,Ax⟩ (O V v)).setCell ⟨E,13,Ax⟩ (A2 Ax 0 0)).setCell ⟨E,14,Ax⟩ (O V f)) Z E b a d v (A2 Ax 0 0) [] f:=
 ⟨((c.u.setCell 12 _).setCell 13 _).setCell 14 _,CR _ _ _ _,kN _,(λx j=>by cases j),c.c0,λl k=>by simp[BR]at k⟩
def Ho:Nat->Prop:=λj=>j=1\/j=5
theorem Wl{fr:Nat}{B:List Bt}(n:Cb h Z b d a fr E Y B q)(hD:AD h Z d a.ss a.n e J)(hC:Aw h Z)(hf:a.aU)(hq:e<=1073741824)(F:E<=2000000000)(t:Nat)(ht:t<=281474976710656):
  B0 A3 114 #[AA (Bn ⟨b,0,Ax⟩),O V t] h λf w'=>f=A4 (O V 0)/\∃ai m,Ab Ho h Z w' ai/\Cb w' ai b d a fr (E+1) (A2 Ax 0 0) [] t/\AD w' ai d a.ss a.n (e+1) (Cu J ((2+E%a.lg:Nat):Int) m):=by
 have bg:=hf.n0;have bh:=hf.n1;have b9:=hf.fR;have ca:=hf.gk;have cb:=n.bA
 have cc:21*Do a.n+9<=a.n - 19:=by unfold Do;omega
 have bi:E%a.lg<a.lg:=lT _ Ω
 have cd:2+a.lg<=a.ss:=by have h1:=hf.ec;have N:a.aK=2+a.lg+a.rg*a.rs:=rfl;omega
 have ce:=hf.d4;obtain⟨R,hR⟩:=Ag (E%a.lg);rw[hR]at bi⊢;obtain⟨pa,pc,rfl⟩:=(Ai.aj n.aM).slice;have bj:((a.n:Int) - 19)=((a.n - 19:Nat):Int):=Ω;have aR:=zh (λW=>IU a.n bg bh W);rw[bj]at aR
 have bk:=λ(W:Bk) (aS:Ad) (cf:AD W aS d a.ss a.n e J) (cg:Aw W aS) (ld:List Nat) (p:Option Addr) (c:Nat) (h1:ld.length<=a.n - 19) (N:∀x∈ld,x<256) (hR:Ai W 1 (A2 p ld.length c) ld.length (Ao ld))=>
  MA d a.ss a.n e J ((2+R:Nat):Int) 4 R E ld p c W aS cf cg hq Ω (by exact_mod_cast (show 2+R<a.ss by omega)) Ω Ω Ω Ω h1 N hR
 have u1:CB.wrap (t:Int)=t:=by rw[CA];omega
 have u2:CB.wrap (B.length:Int)=B.length:=by rw[CA];omega
 have hz:((a.lg:Int)==0)=BA:=Γ;have bm:¬a.lg=0:=Ω
 have bn:((E:Int)).tmod (a.lg:Int)=(R:Int):=by rw[ln Ω, <-hR];rfl
 have bo:(E:Int)%(a.lg:Int)=(R:Int):=by rw[<-hR];rfl
 have bp:=zh bk;have H:=zh n;have HD:=zh hD;have HC:=zh hC;have z:=zh (show 21*B.length+9<=a.n - 19/\a.n - 19<=493/\B.length<=24 from⟨Ω,Ω,Ω⟩);have br:=zh (Bs bn bo);have bs:=zh (Bs F (show R<=256 by omega));obtain⟨M,hM⟩:=Ag (a.n - 19);rw[hM]at aR z bp;obtain⟨_,x2,x5,x9,_,_,y,G,_⟩:=n.cells;clear n hD hC bg bh b9 ca cb cc bi cd ce bj bk bn bo hq F hR hM
 go_enter Tryz.func114,Tryz.ntmps114
 go_wp2_with fail;refine(aR.o h).mono ?_;rintro f w' ⟨rfl,rfl⟩;go_wp2_with fail;refine(II (M:Nat) (Ψ z.o) h).mono ?_;rintro f w1 ⟨rfl,aU,g1⟩;rw[ke Ω]at aU
 have W1:=zh (show PW h w1 h.heap.size (A2 Ax 0 0) [] (M:Nat)from⟨aU,λk hk=>by
  rcases hk with rfl|hk
  ·exact jS _
  ·simp[BR]at hk,g1⟩)
 clear aU g1;go_wp2_with fail;refine(W1.o.a8 t 8 Ω Ξ (by have:=z.o;simp;omega) Δ).mono ?_;rintro f w2 ⟨v2,rfl,N,_⟩;have W2:=zh N;have G:=N.grown.cell G Δ;clear N W1;go_wp2_with fail;refine(W2.o.a8 B.length 1 (Ψ z.o) Ξ (by have:=z.o;simp[AI];omega) (by simp[AI])).mono ?_;rintro f w3 ⟨v3,rfl,h3,_⟩;have W3:=zh (show∃v m,PW h w3 h.heap.size v m (M:Nat)/\m.length=9/\∀x∈m,x<256 from⟨_,_,h3,by simp[AI],Hx (Hx (λx F=>by cases F) _ _) _ _⟩);have G:=h3.grown.cell (H.o.cells.2.2.2.2.2.2.2.1) Δ;clear h3 W2;go_wp2_with fail;obtain⟨r,aV⟩:=Ag B.length;rw[aV]at z⊢;have bz:=zh aV;clear x2 x5 x9 y G u1 u2 aV
 go_loopg [34] r (λk v wr=>v=O V (r - k:Nat)/\k<=r/\∃vv m,PW h wr h.heap.size vv m (M:Nat)/\m.length=9+21*(r - k)/\∀x∈m,x<256)
 case atStart=>
  obtain⟨v,m,h1,N,h3⟩:=W3.o;exact⟨Δ,jS _,v,m,h1,Ω,h3⟩
 case round=>
  obtain⟨rfl,hk,vv,m,hw,ae,bD⟩:=hrel;have P:=zh hw;have bE:=zh bD;clear hw W3 bD
  by_cases bF:gk=0
  ·subst bF;have hd:Bd ((r:Int)<(r:Int))=BA:=jV Ω;rw[mA]at ae;rw[mA];have am:=zh ae;clear ae hk;obtain⟨_,x2,x5,x9,_,_,y,G,_⟩:=H.o.cells;have x5:=P.o.grown.cell x5 Δ;have y:=P.o.grown.cell y Δ;clear x2 x9 G;have HZ:=zh (Bs hz bm);have ck:=br.o.1;have cl:=br.o.2;go_wp2_with fail
   go_quiet (fail)
   have W4:=zh (P.o.bq (AS wr nq Ax));generalize wr.drewN nq=w4 at*;clear x5 y ck cl hz bm P
   go_upto_region 10 with fail
   go_cut [9] (λs9 wx=>∃X p c,s9=AA (Bn ⟨X,0,Ax⟩)/\Aa wx X 174 [O V 4,O V R,O V E,A2 p m.length c]/\wx.ownsRow h.heap.size 5 1 (A2 p m.length c) m.length (Ao m)/\h.grownBy wx Ax/\h.heap.size<=X)
   case first=>
    obtain⟨w5,aJ,g5⟩:=AZ w4;have A:=zh (W4.o.bq g5);have y:=A.o.grown.cell (H.o.cells.2.2.2.2.2.2.1) Δ;clear g5;refine A7 (λW=>W.cell? ⟨b,12,Ax⟩=Bn (O V E)) (.bP [0,1,2,3,4,5] 6 BC (.an [7] [] 8 BC (.an [] [] 9 BA (.nil))) 8 BC (.an [] [] 6 BC (.an [] [7] 9 BA (.nil)))) Φ Φ ?_;rw[aJ];refine Ej y ?_;clear aJ
    iterate 6 ((apply AB rfl Θ;(· intro wS D;(try have D:=D rfl);(try dsimp only at D);(try(have co:=D));go_simp;(try with_reducible rfl)));refine Ak ?_)
    refine Aj ⟨?_,?_⟩
    ·refine Al ?_;intro K g;refine(Hv _ _ _ _ _ w5 A.o.wr).mono ?_;rintro f w6 ⟨p,c,rfl,o6,s⟩;have Q:h.heap.size<=w6.heap.size:=j8 A.o.grown.size s.size;have af:=s.cell y Δ;dsimp only;refine g _ _ ⟨_,λ_ n=>n,λ_=>af,?_⟩;clear g K;refine Ak ?_;refine DK af ?_
     iterate 1 ((apply AB rfl Θ;(· intro wS D;(try have D:=D rfl);(try dsimp only at D);(try(have co:=D));go_simp;(try with_reducible rfl)));refine Ak ?_)
     refine Aj ?_;refine Aj ?_;refine Al ?_;intro K g;obtain⟨w7,aK,S,l⟩:=Aq w6 174 [O V 0,O V 0,O V 0,A2 Ax 0 0];rw[aK];have g7:=Ae A.o.grown (Ae s S);have o7:=AP (BQ o6 A.o.grown.size) S;refine g _ _ ⟨_,λ_ n=>n,λ_=>(S.cell af Δ),?_⟩;clear g K;refine Ak ?_;refine Ar ?_;refine Aj ?_;have f0:=l.v 0;have f1:=l.v 1;have f2:=l.v 2;have f3:=l.v 3;have y0:=l.m 0;have y1:=l.m 1;have y2:=l.m 2;have y3:=l.m 3;refine Al ?_;intro K g;obtain⟨w8,I,b8,t8⟩:=EZ l (O V 4) (O V R) (O V E) (A2 p m.length c);rw[I];clear f0 f1 f2 f3 y0 y1 y2 y3 I;refine As g ?_;clear g K;refine AK (BX ?_);go_wp2_with fail
     go_meet
     exact⟨_,p,c,rfl,b8,t8.aL o7 (λa1 hb f=>by subst f;exact Bh l o7 Ξ hb),Ac.grown g7 t8 (λj f=>by subst f;exact Q),Q⟩
    ·refine Al ?_;intro K g;obtain⟨w6,cp,s,b6⟩:=Aq w5 174 [O V 0,O V 0,O V 0,A2 Ax 0 0];rw[cp];have Q:h.heap.size<=w5.heap.size:=A.o.grown.size;have W6:=zh (A.o.bq s);have af:=s.cell y Δ;refine g _ _ ⟨_,λ_ n=>n,λ_=>af,?_⟩;clear g K;refine Ak ?_;refine Ar ?_;refine Aj ?_;refine Al ?_;intro K g;refine(Hv _ _ _ _ _ w6 W6.o.wr).mono ?_;rintro f w7 ⟨p,c,rfl,cq,S⟩;have l:=b6.grown S Δ;have g7:=Ae W6.o.grown S;have o7:=BQ cq W6.o.grown.size;dsimp only;refine g _ _ ⟨_,λ_ n=>n,λ_=>(S.cell af Δ),?_⟩;clear g K;refine Ak ?_;refine Ar ?_;refine Az ?_;refine Aj ?_;have f0:=l.v 0;have f1:=l.v 1;have f2:=l.v 2;have f3:=l.v 3;have y0:=l.m 0;have y1:=l.m 1;have y2:=l.m 2;have y3:=l.m 3;refine Al ?_;intro K g;obtain⟨w8,I,b8,t8⟩:=EZ l (O V 4) (O V R) (O V E) (A2 p m.length c);rw[I];clear f0 f1 f2 f3 y0 y1 y2 y3 I;refine As g ?_;clear g K;refine AK (BX ?_);go_wp2_with fail
     go_meet
     exact⟨_,p,c,rfl,b8,t8.aL o7 (λa1 hb f=>by subst f;exact Bh l o7 Ξ hb),Ac.grown g7 t8 (λj f=>by subst f;exact Q),Q⟩
   case rest=>
   obtain⟨X,p,c,rfl,b6,o6,s,Q⟩:=hcut;have T:=zh (H.o.grown s)
   have bK:b≠X:=λf=>by have:=H.o.u.lt;omega
   have a2:=H.o.c0;obtain⟨_,_,_,_,_,_,y,G,cr⟩:=T.o.cells;have cs:=T.o.u.v 12;have ct:=T.o.u.v 13;have cu:=T.o.u.v 14;have L:Ac (λj=>j=b) wc (((wc.setCell ⟨b,12,Ax⟩ (O V ((E:Int)+1))).setCell ⟨b,13,Ax⟩ (A2 Ax 0 0)).setCell ⟨b,14,Ax⟩ (O V t)):=((Ac.of (An _ _ _) (λj f=>by cases f;rfl)).trans (Ac.of (An _ _ _) (λj f=>by cases f;rfl))).trans (Ac.of (An _ _ _) (λj f=>by cases f;rfl));have h9:Cb (((wc.setCell ⟨b,12,Ax⟩ (O V ((E:Int)+1))).setCell ⟨b,13,Ax⟩ (A2 Ax 0 0)).setCell ⟨b,14,Ax⟩ (O V t)) Z b d a fr (E+1) (A2 Ax 0 0) [] t:=T.o.iS (E+1) t;have b1:=T.o.u.setCell 12 (O V ((E:Int)+1));have bL:=b1.m 13;have bM:=b1.v 13;have b2:=b1.setCell 13 (A2 Ax 0 0);have a4:=b2.m 14;have a5:=b2.v 14;obtain⟨w7,aK⟩:=Ag (wc.setCell ⟨b,12,Ax⟩ (O V ((E:Int)+1)));rw[aK]at L h9 bL bM a4 a5;obtain⟨w8,I⟩:=Ag (w7.setCell ⟨b,13,Ax⟩ (A2 Ax 0 0));rw[I]at L h9 a4 a5;obtain⟨w9,bN⟩:=Ag (w8.setCell ⟨b,14,Ax⟩ (O V t));rw[bN]at L h9;have H9:=zh h9;have S9:=zh ((Ab.grown (C:=Ho) HC.o s).trans (AG (C:=Ho) (HC.o.grown s) L (λj f=>by rw[f];exact C5 a2)));have D9:=zh ((HD.o.grown s).am L (λj hj f=>by rw[f,a2]at hj;cases hj) (λ_ _=>rfl));have B9:=zh (L.u b6 (λf=>bK f.symm));have O9:=zh (L.aL o6 (λa1 hb f=>by subst f;exact Bh T.o.u o6 Ξ hb));have cz:B7 ((E:Int)+1)=(E:Int)+1:=BE _ (Ψ bs.o);clear b1 b2 L h9 b6 o6 s Q bK a2 W4;go_wp2_with fail;clear aK I bN y G cr cs ct cu bL bM a4 a5 cz;obtain⟨wA,cB,gA⟩:=AZ w9;obtain⟨x0,_,_,x9,_⟩:=(H9.o.grown gA).cells;have bA:=B9.o.grown gA Δ;have z0:=bA.m 0;have z1:=bA.m 1;have z2:=bA.m 2;have z3:=bA.m 3
   have ha:V.wrap (2+(R:Int))=((2+R:Nat):Int):=by have:=bs.o;exact Cn (by rw[BE _ Ω];omega)
   have GA:=zh gA;clear gA bA;refine A7 (λ_=>True) (.an [] [0,1,2,3,4,5,6,7,8,9,10] 11 BA (.an [] [] 12 BA (.nil))) Φ Φ ?_;rw[cB];refine Ar ?_
   iterate 11 refine Az ?_
   refine Aj ?_;refine Al ?_;intro K g;rw[show(2:Int)+(R:Int)=((2+R:Nat):Int) by omega];have rA:=Ai.aj (AP O9.o GA.o);refine(bp.o wA Z (D9.o.grown GA.o) (S9.o.new.grown GA.o) m p c (by have:=z.o;have:=am.o;omega) bE.o rA).mono ?_;rintro f wB ⟨rfl,ai,sB,dB⟩;dsimp only;clear x0 x9 z0 z1 z2 z3 rA ha;refine As g ?_;clear g K;refine Ar ?_;refine Aj ?_;refine Al ?_;intro K g;refine As g ?_;clear g K;refine AK (BX ?_);go_wp2_with fail;go_ret;exact⟨rfl,ai,_,(S9.o.trans (Ab.grown S9.o.new GA.o)).trans (sB.mono (λj f=>C7 f)),(H9.o.grown GA.o).ae sB Ω,dB⟩
  ·obtain⟨i,hi⟩:=Ag (r - gk);rw[hi]at ae⊢;have bb:i<r:=Ω;have hd:Bd ((i:Int)<(r:Int))=BC:=jT Ω;have cF:Bd (i<r)=BC:=jT bb;have bc:=Ai.aj H.o.aM;rw[bz.o]at bc;obtain⟨a1,o,rfl,hc⟩:=bc.aZ Ω;obtain⟨x,F⟩:∃x,B[i]?=Bn x:=⟨_,jW (by rw[bz.o];exact bb)⟩;have bT:=H.o.hO x (kX F)
   have ag:=λ(j:Nat) (u:BD) (hj:j<5) (hu:x.cells[j]?=Bn u)=>P.o.grown.cell (hc (i*5+j) u (by rw[fv B i x F j hj];exact hu)) Δ
   have c0:=ag 0 _ Ω rfl;have c1:=ag 1 _ Ω rfl;have c2:=ag 2 _ Ω rfl;have c3:=ag 3 _ Ω rfl;have c4:=ag 4 _ Ω rfl;simp only[<-lw,lD]at c0 c1 c2 c3 c4;have HX:=zh bT;have am:=zh ae;have aP:Hd (i+1=r - (gk - 1)/\gk - 1<=r/\gk - 1<gk/\i<r):=zh Ω;obtain⟨w4,cI,g4,w⟩:=Aq wr 130 [CV BA,O CB 0,O V 0,O V 0,O V 0];obtain⟨w5,aJ,b5,t5⟩:=FI w (CV x.dr) (O CB (U x.h)) (O V x.r) (O V x.a) (O V x.s);have f0:=w.v 0;have f1:=w.v 1;have f2:=w.v 2;have f3:=w.v 3;have f4:=w.v 4;have y0:=w.m 0;have y1:=w.m 1;have y2:=w.m 2;have y3:=w.m 3;have y4:=w.m 4;have z0:=b5.m 0;have z1:=b5.m 1;have z2:=b5.m 2;have z3:=b5.m 3;have z4:=b5.m 4;have A:=zh (P.o.bq (Ac.grown g4 t5 (λj f=>by rw[f];exact jS _)));clear hc ag F bT ae hi hk bF w g4 b5 t5 P bc;go_wp2_with fail;refine(dE A.o x HX.o (by have:=z.o;have:=am.o;omega) (by have:=z.o;have:=am.o;omega) bE.o).mono ?_;rintro f w6 ⟨v6,y6,rfl,h6,l6,m6⟩;have W6:=zh h6;have L6:=zh l6;have M6:=zh m6;have cQ:Hd (B7 ((i:Int)+1)=((i+1:Nat):Int)):=zh (De rfl (Ψ z.o));clear h6 l6 m6 A c0 c1 c2 c3 c4 f0 f1 f2 f3 f4 y0 y1 y2 y3 y4 z0 z1 z2 z3 z4 cI aJ hd cF bb;go_wp2_with fail
   go_roundg (gk - 1)
   case measure=>exact aP.o.2.2.1
   exact⟨by rw[<-aP.o.1,cQ.o],aP.o.2.1,v6,y6,W6.o,by have:=L6.o;have:=am.o;have:=aP.o;omega,M6.o⟩
end
