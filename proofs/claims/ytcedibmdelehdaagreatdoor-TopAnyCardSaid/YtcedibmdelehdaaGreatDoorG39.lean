/- Lemmas. -/
import Derived.Test.YtcedibmdelehdaaGreatDoorG38
namespace Go.Proofs.YtcedibmdelehdaaGreatDoor
set_option maxRecDepth 100000
set_option maxHeartbeats 32000000
open Go.IntKind renaming i64->O
open Option renaming none->V,some->A3
open Go.Value renaming int->Z,pointer->Ax,slice->AA,tuple->BA,bool->B8,agg->CA
open And renaming intro->A2
open Bool renaming false->A4,true->BB
open Go.NoPanic renaming normal->A5
open Go.Proofs.Tryz renaming prog->A6,ntmps70->BR,func70->BX,ntmps100->B7,func146->CB,func100->CE
open Go renaming World->A7,Value->Bs,callsIn_wide->Bx,bodyPost_ret->BC,Calls->BD,maxLen->CL,TypeId->CR
open Go.Ending renaming returned->Bd
open Decidable renaming decide->Bk
open Go.IntWalk renaming wrap64_in->Bn,i64_in->BE
open Or renaming inr->BZ,inl->CK
variable{f q:Int->List Nat}{h j n:A7}{E g i k l o:Nat}{J r:Ae}{Y p:Bs}{a:List Bs}{b:Pl}{c:List BG}{d s:List Nat}{e:CR}
section
open Go.RowKit
attribute [local go_sem ↓] Go.wp_at_zero Go.wp_at_succ
theorem fD:(A6.info? 130).map (λi=>(i.zero,i.size,i.bytes))=A3 (A3 (CA #[B8 A4,Z .u64 0,Z O 0,Z O 0,Z O 0]),5,40):=Φ
def IU(w:A7)(b:Ae)(l d:Nat)(P:Pl)(c e t:Nat):Prop:=∃f a,Ck w b l d P c e f a t/\a.length<DC P.n
def FG(P:Pl)(a b:Int->List Nat):Prop:=∀i:Int,(i<2\/(P.region:Int)<=i)->b i=a i
theorem FG.refl(P:Pl)(a:Int->List Nat):FG P a a:=λ_ _=>rfl
theorem FG.cX(d:b.aY)(a:Int->List Nat)(c:Nat)(e:List Nat):FG b a (CJ a ((2+c%b.lg:Nat):Int) e):=by
 intro i f;have g:c%b.lg<b.lg:=lA _ (Ψ d.fM);have h:b.region=2+b.lg:=rfl;unfold CJ;rw[jN Ω]
theorem FG.ei(h:FG b f q):Ln b f q:=λk _=>h _ (BZ (by push_cast;omega))
theorem FG.ew(h:FG b f q):Kb b f q:=λk _=>h _ (BZ (by have:=b.eI;push_cast;omega))
def Pt(w:A7)(h:Ae)(l d:Nat)(P:Pl)(i f q:Nat)(j:Int->List Nat)(e:Ending)(a:A7):Prop:=
 e=Bd (Z O 0)/\∃b c g k,Ad Hb w h a b/\f<=c/\c<=f+1/\IU a b l d P i c k/\AF a b d P.ss P.n (q+1) g/\FG P j g
theorem Ck.bK{s:Nat}(d:Ck h J E g b s k p c l)(C:AD h J)(v:h.grownBy j p.ownBlock)(x:BG)(D:x.ok)(I:c.length<DC b.n)(o:j.ownsRow 0 130 5 Y (c.length+1) (Ib (c++[x])))(F:Y.ownBlock=p.ownBlock\/Y.ownBlock=A3 h.heap.size):
  Aa j E 188 (Ax (A3 ⟨g,0,V⟩)::(b.cells++[Z O 2,Z O (DC b.n:Nat),Z O s,Z O k,p,Z O l]))/\
  ∃a,Ad (λf=>f=5) h J (j.setCell ⟨E,13,V⟩ Y) a/\Ck (j.setCell ⟨E,13,V⟩ Y) a E g b s k Y (c++[x]) l:=by
 have t:=d.y.u v (λe=>Bv d.y d.aS Ξ e.symm);have w:Ad (λf=>f=5) h J j J:=Ad.of C v (λr e=>d.cp r e);have G:(c++[x]).length=c.length+1:=Δ
 have z:∀a,Ad (λf=>f=5) h J j a->(∀m,Y.ownBlock=A3 m->a m=5)->∃a,Ad (λf=>f=5) h J (j.setCell ⟨E,13,V⟩ Y) a/\Ck (j.setCell ⟨E,13,V⟩ Y) a E g b s k Y (c++[x]) l:=λa u H=>by
  have A:a E=5:=by rw[u.ak _ d.y.lt];exact d.c0
  refine⟨a,u.trans (Ad.of u.new (Ao _ _ _) (λr e=>by cases e;exact A)),t.setCell 13 _,?_,Ω,λy n=>?_,A,H⟩
  ·rw[G];exact(Ac.of (S:=λr=>r=E) (Ao _ _ _) (λr e=>by cases e;rfl)).aT o (λm q e=>by subst e;exact Bv t o Ξ q)
  ·rcases kI.1 n with n|n
   ·exact d.hA y n
   ·rw[j8]at n;subst n;exact D
 refine⟨t,?_⟩
 rcases F with e|e
 ·exact z J w (λm q=>d.cp m (by rw[<-e];exact q))
 ·exact z _ (w.bQ (B:=h.heap.size) (i:=5) (jF _) (o.lt _ e).2 rfl) (λm q=>by rw[e]at q;cases q;exact A0 _ _ _)
theorem dH{d:List BG}(q:Ck h J i k b g E Y d l)(z:d.length<DC b.n)(hD:AF h J k b.ss b.n o f)(hC:AD h J)(I:b.aY)(hq:o<=1073741824)(aB:g<=E)(S:E<=2000000000)(a5:0<Cy b g E)(x:BG)(T:x.ok)(t:Nat)(X:t<=281474976710656):
  BD A6 65 #[Ax (A3 ⟨i,0,V⟩),x.val,Z O t] h (Pt h J i k b g E o f):=by
 obtain⟨pa,pc,rfl⟩:=(Ag.ai q.aS).slice;have HR:=zh (λW=>Xq x T W);have HW:=zh (λW=>Ky t 281474976710656 X W);have HL:=zh (λ(W:A7) (hW:Ck W J i k b g E (AA pa d.length pc) d l)=>KH hW I aB S)
 have aD:DC b.n<=24:=by unfold DC;have:=I.n1;omega
 have bz:(((Cy b g E:Nat):Int)==0)=A4:=Γ;obtain⟨LF,aF⟩:=Af (Cy b g E);rw[aF]at HL bz;have H:=zh q;have HD:=zh hD;have HC:=zh hC;have ba:=zh T;have HF:=zh I;have w:=zh (A2 z (A2 aD (A2 hq (A2 S X))));obtain⟨L,M,r,a,s⟩:=x;obtain⟨w1,bc,g1,y⟩:=An h 130 [B8 L,Z .u64 (U M),Z O r,Z O a,Z O s];have B1:=zh y;have G1:=zh g1;have y0:=y.m 0;have y1:=y.m 1;have y2:=y.m 2;have y3:=y.m 3;have y4:=y.m 4;clear q hD hC T I z aD hq S X aB a5 aF g1 y
 go_enter Tryz.func65,Tryz.ntmps65
 go_wp2_with fail;clear bc y0 y1 y2 y3 y4;refine(HR.o w1).mono ?_;rintro e w2 ⟨rfl,g2⟩;have G2:=zh (Ab G1.o g2);have B2:=zh (B1.o.u g2 Δ);clear g2 G1 B1;go_wp2_with fail;refine(HW.o w2).mono ?_;rintro e w' ⟨rfl,rfl⟩;go_wp2_with fail;refine(HL.o w2 (H.o.u G2.o)).mono ?_;rintro e w3 ⟨rfl,g3⟩;have G3:=zh (Ab G2.o g3);have B3:=zh (B2.o.u g3 Δ);clear g3 G2 B2;go_wp2_with fail;obtain⟨w4,aO,N⟩:=AP w3;have H4:=zh (H.o.u (Ab G3.o N));have G4:=zh (Ab G3.o N);have A:=zh (B3.o.u N Δ);clear N G3 B3 bz;refine AS (λW=>W.cell? ⟨i,13,V⟩=A3 (AA pa d.length pc)) (.am [1,2,3,4] [0,5] 6 BB (.am [] [] 7 BB (.am [] [8,9] 10 A4 (.nil)))) Φ Φ ?_;rw[aO];clear aO;refine Dz H4.o.cells.2.2.2.2.2.2.2.1 ?_
 iterate 4 ((apply AC rfl Θ;(· intro wS P;(try have P:=P rfl);(try dsimp only at P);(try(have Q:=P));go_simp;(try with_reducible rfl)));refine Al ?_)
 refine Aj ?_;have y0:=A.o.m 0;have y1:=A.o.m 1;have y2:=A.o.m 2;have y3:=A.o.m 3;have y4:=A.o.m 4
 iterate 2 refine Av ?_
 refine Aj ?_;clear y0 y1 y2 y3 y4;refine Am ?_;intro K m;obtain⟨w5,aQ,g5,b5⟩:=An w4 130 [B8 L,Z .u64 (U M),Z O r,Z O a,Z O s];rw[aQ];have H5:=zh (H4.o.u g5);have G5:=zh (Ab G4.o g5);have B5:=zh b5;clear g5 b5 aQ H4 G4 A;refine m _ _ ⟨_,λ_ q=>q,λ_=>H5.o.cells.2.2.2.2.2.2.2.1,?_⟩;clear m K;refine Al ?_;refine Ap ?_;refine Aj ?_;obtain⟨i0,aS,aT,aU,aV⟩:=info_parts fD;refine AE rfl (λK m=>?_);refine Gh Θ _ _ 100 Θ 0 130 i0 _ 5 40 Tryz.underlying100 aS aT aU aV rfl Ξ (v:=AA pa d.length pc) Θ H5.o.aS Θ (Ag.bq (sz:=5) (n:=1) (c:=1) B5.o rfl (by unfold CL;omega)) (λu hu=>by simp at hu;rcases hu with rfl|rfl|rfl|rfl|rfl<;>rfl) (by have:=w.o;unfold CL;omega) (Ψ w.o) (ke _) ?_;intro bC w6 o6 g6 l6;obtain⟨la,lc,rfl⟩:=(Ag.ai o6).slice;have aZ:AD w5 J:=HC.o.u G5.o;obtain⟨b6,bl,s7,h7⟩:=H5.o.bK aZ g6 ⟨L,M,r,a,s⟩ ba.o w.o.1 (by rw[eJ];exact o6) l6;have R:=zh ((HD.o.u G5.o).ag s7 Ω);have B:=zh ((Ad.u (C:=Hb) HC.o G5.o).trans (s7.mono (λj e=>BZ e)));have D:=zh h7;have B6:=zh b6;clear aZ o6 g6 l6 s7 h7 b6 aS aT aU aV;refine m _ _ ⟨_,λ_ q=>q,λ_=>(B6.o.m 13),?_⟩;clear m K;refine Al ?_;refine Ap ?_;have Q:=B6.o.m 13;have bm:=B6.o.v 13
 iterate 2 refine Av ?_
 refine Aj ?_;refine Am ?_;intro K m;clear Q bm;obtain⟨w7,av⟩:=Af (w6.setCell ⟨i,13,V⟩ (AA la (d.length+1) lc));rw[av]at R B D;rw[av];clear av;refine Aq m ?_;clear m K;refine AG (A5 ?_);have a2:Hd ((d++[BG.mk L M r a s]).length=d.length+1):=zh Δ;obtain⟨F,aw⟩:=Af (d.length+1);rw[aw]at D a2;have bD:=zh aw;clear aw;obtain⟨G,ax⟩:=Af (DC b.n);have bn:=zh ax;obtain⟨_,_,_,_,a3,_,_,Q,_⟩:=D.o.cells;rw[ax]at a3;clear ax
 by_cases z:F<G
 ·have d1:Bk ((F:Int)<(G:Int))=BB:=jG Ω;have d2:Bk (F<G)=BB:=jG z;go_wp2_with fail
  go_quiet (fail)
  go_wp2_with fail;go_ret;have p:=AZ w7 nq V;refine⟨rfl,bl,E,f,l,B.o.trans (Ad.u B.o.new p),jF _,j9 _,⟨_,_,D.o.u p,?_⟩,(R.o.u p).mono (j9 _),FG.refl _ _⟩;rw[a2.o,bn.o];exact z
 ·have d1:Bk ((F:Int)<(G:Int))=A4:=jH Ω;have d2:Bk (F<G)=A4:=jH z;go_wp2_with fail
  go_quiet (fail)
  have p:=AZ w7 nq V;have H8:=zh (D.o.u p);have S8:=zh (B.o.trans (Ad.u B.o.new p));have D8:=zh (R.o.u p);generalize w7.drewN nq=w8 at*;clear p a3 Q D B R;go_wp2_with fail;refine(QQ H8.o D8.o S8.o.new HF.o w.o.2.2.1 w.o.2.2.2.1 t w.o.2.2.2.2).mono ?_;rintro e w9 ⟨rfl,bs,ys,s9,h9,d9⟩;go_wp2_with fail;go_ret;exact⟨rfl,bs,E+1,_,t,S8.o.trans s9,j9 _,jF _,⟨_,_,h9,by have:=w.o.1;simp;omega⟩,d9,FG.cX HF.o f E ys⟩
theorem XG(a:Ck h J i k b g E Y c l)(s:c.length<DC b.n)(u:AF h J k b.ss b.n o f)(v:AD h J)(m:b.aY)(w:o<=1073741824)(x:g<=E)(n:E<=2000000000)(A:0<Cy b g E)(t:Nat)(p:t<=281474976710656):
  BD A6 100 #[Ax (A3 ⟨i,0,V⟩),Z O t] h (Pt h J i k b g E o f):=by
 obtain⟨pa,pc,rfl⟩:=(Ag.ai a.aS).slice;have B:=zh (λW=>Ky t 281474976710656 p W);have D:=zh (KH a m x n);have M:(((Cy b g E:Nat):Int)==0)=A4:=Γ;obtain⟨LF,y⟩:=Af (Cy b g E);rw[y]at D M;have H:=zh a;have F:=zh u;have G:=zh v;have I:=zh m;have d:=zh (A2 s (A2 w (A2 n p)));obtain⟨_,_,_,_,_,_,_,z,N⟩:=a.cells
 by_cases j:c.length=0/\t=l
 ·obtain⟨P,rfl⟩:=j;rw[P]at z;have K:((t:Int)==(t:Int))=BB:=Δ;clear a u v m s w n p x A y
  go_enter CE,B7
  go_wp2_with fail;refine(B.o h).mono ?_;rintro e Q ⟨rfl,rfl⟩;go_wp2_with fail;go_ret;exact⟨rfl,J,E,f,t,Ad.refl G.o,jF _,j9 _,⟨_,_,H.o,d.o.1⟩,F.o.mono (j9 _),FG.refl _ _⟩
 ·clear a u v m s w n p x A y
  go_enter CE,B7
  go_wp2_with fail;refine(B.o h).mono ?_;rintro e Q ⟨rfl,rfl⟩
  go_upto_region 3 with fail
  go_cut [13] (λR S=>R=B8 A4/\S=h)
  case first=>
   by_cases q:c.length=0
   ·rw[q]at z
    have K:((t:Int)==(l:Int))=A4:=by simp;exact λe=>j ⟨q,by exact_mod_cast e⟩
    clear j;go_wp2_with fail
    go_meet
    exact⟨rfl,rfl⟩
   ·have K:(((c.length:Nat):Int)==0)=A4:=by simp;exact λe=>q (by rw[e];rfl)
    clear j q;go_wp2_with fail
    go_meet
    exact⟨rfl,rfl⟩
  case rest=>
  obtain⟨rfl,rfl⟩:=hcut;clear j z N;go_wp2_with fail;refine D.o.mono ?_;rintro e w2 ⟨rfl,r⟩;have T:=zh (H.o.u r);have L:=zh (Ad.u (C:=Hb) G.o r);have U:=zh (F.o.u r);clear r;go_wp2_with fail;refine(QQ T.o U.o L.o.new I.o d.o.2.1 d.o.2.2.1 t d.o.2.2.2).mono ?_;rintro e w9 ⟨rfl,X,ys,s9,h9,d9⟩;go_wp2_with fail;go_ret;exact⟨rfl,X,E+1,_,t,L.o.trans s9,j9 _,jF _,⟨_,_,h9,by have:=d.o.1;simp;omega⟩,d9,FG.cX I.o f E ys⟩
end
section
open Go.RowKit Go.Shelf
attribute [local go_sem ↓] Go.wp_at_zero Go.wp_at_succ
theorem gi(n:Nat)(c:96<=n)(d:n<=512)(w:A7):BD A6 145 #[Z O n] w λe a=>e=Bd (Z O (DC n:Nat))/\w=a:=by
 have f:=zh (Jb n c d w);unfold DC;have h:max ((n:Int) - 19 - 9) 0=((n - 28:Nat):Int):=Ω;have i:wrap64 ((n:Int) - 19 - 9)=(n:Int) - 19 - 9:=Bn _ Ω;have b:((n - 28:Nat):Int)/21=(((n - 28)/21:Nat):Int):=Ω;have g:=zh b;clear b
 go_enter Tryz.func145,Tryz.ntmps145
 go_wp2_with fail;refine f.o.mono ?_;rintro e a ⟨rfl,rfl⟩;go_wp2_with fail;go_ret;refine⟨?_,rfl⟩;show Bd (Z O (((n - 28:Nat):Int)/21))=_;rw[g.o]
abbrev IT(d a n b c e f g:Nat)(h:BitVec 64)(i:Nat)(j k:Int)(l:Bs)(t:Int):List Bs:=Ax (A3 ⟨d,0,V⟩)::(Db a n b c e f g h++[Z O 2,Z O i,Z O j,Z O k,l,Z O t])
theorem Vw(d c n g i j k m:Nat)(o:BitVec 64)(r y z A B C D:Nat)(q:Nat)(ct:Int->List Nat)(w:A7)(au:Ae)(Q:AF w au d c n q ct)
  (R:∀W,BD A6 32 #[CA (Db c n g i j k m o).toArray] W λe s=>e=Bd (BA #[CA (EQ r y z A B C D).toArray,Z O 0])/\W.grownBy s V)(S:96<=n)(T:n<=512):
  BD A6 87 #[Ax (A3 ⟨d,0,V⟩),CA (Db c n g i j k m o).toArray] w λe s=>∃l,e=Bd (BA #[Ax (A3 ⟨l,0,V⟩),Z O 0])/\w.heap.size<=l/\w.grownBy s V/\
   Aa s l 188 (IT d c n g i j k m o (DC n) 1 1 (AA V 0 0) 0):=by
 have U:=zh Q;have HF:=zh R;have aa:=zh (λW=>gi n S T W);obtain⟨M,E⟩:=Af (DC n);rw[E]at aa;rw[E];have b1:((c:Int)!=(c:Int))=A4:=Δ;have b2:((n:Int)!=(n:Int))=A4:=Δ;clear Q R S T E;obtain⟨w1,ax,g1,b⟩:=An w 37 (Db c n g i j k m o);have P1:=zh b;have G1:=zh g1;have t:=b.m 0;have p:=b.m 1;have x2:=b.m 2;have x3:=b.m 3;have x4:=b.m 4;have x5:=b.m 5;have x6:=b.m 6;have x7:=b.m 7;clear g1 b
 go_enter Tryz.func87,Tryz.ntmps87
 go_wp2_with fail;clear ax t p x2 x3 x4 x5 x6 x7;refine(HF.o w1).mono ?_;rintro e w2 ⟨rfl,F⟩;obtain⟨w3,aA,G,l3⟩:=An w2 85 (EQ r y z A B C D);have H:=zh (Ab (Ab G1.o F) G);have I:=zh ((P1.o.u F Δ).u G Δ);have L3:=zh l3;have f0:=I.o.m 0;have f1:=I.o.m 1;have t:=AJ f0;have p:=AJ f1;clear F G l3;go_wp2_with fail;clear aA f0 f1;refine Cb Φ Φ ?_
 repeat(go_big_quiet_step (fail))
 go_big_quiet_step ((go_at_call 129;exact Hi (λW J=>Mi (U.o.u (Ab H.o J))) _))
 repeat(go_big_quiet_step (fail))
 go_big_quiet_step ((go_at_call 130;exact Hi (λW J=>KJ (U.o.u (Ab H.o J))) _))
 repeat(go_big_quiet_step (fail))
 refine wpQuiet_nil ?_;rintro _ ⟨L,rfl⟩;have u:=Bu L;generalize gw L=w4 at*;have G4:=zh (Ab H.o u);have P4:=zh (I.o.u u Δ);have L4:=zh (L3.o.u u Δ);clear t p L;generalize w2.heap.size=X at*;go_wp2_with fail;obtain⟨v,aG,x⟩:=AP w4;have G5:=zh (Ab G4.o x);have N:=zh (P4.o.u x Δ);have L5:=zh (L4.o.u x Δ);clear x u;refine AS (λW=>Aa W w.heap.size 37 (Db c n g i j k m o)/\Aa W X 85 (EQ r y z A B C D)) (.am [1,2,3] [0,4,5] 6 BB (.am [] [7] 8 A4 (.am [] [9] 10 A4 (.nil)))) Φ Φ ?_;rw[aG];refine Dz ⟨N.o,L5.o⟩ ?_
 iterate 3 ((apply AC rfl Θ;(· intro wS a;(try have a:=a rfl);(try dsimp only at a);(try(have t:=a.1.m 0;have p:=a.1.m 1;have x2:=a.1.m 2;have x3:=a.1.m 3;have x4:=a.1.m 4;have x5:=a.1.m 5;have x6:=a.1.m 6;have x7:=a.1.m 7;have y0:=a.2.m 0));go_simp;(try with_reducible rfl)));refine Al ?_)
 refine Aj ?_;have p:=N.o.m 1
 iterate 3 refine Av ?_
 refine Aj ?_;clear p;refine Am ?_;intro K f;refine(aa.o v).mono ?_;rintro e s ⟨rfl,rfl⟩;dsimp only;refine f _ _ ⟨_,λ_ h=>h,λ_=>⟨N.o,L5.o⟩,?_⟩;clear f K;refine Al ?_;refine Ap ?_;refine Av ?_;refine Aj ?_;refine Am ?_;intro K f;obtain⟨w6,ao,g6,b6⟩:=An v 188 (IT d c n g i j k m o M 1 1 (AA V 0 0) 0);have P:=ao;simp only[IT,ku,jX]at P;rw[P];have B6:=zh b6;have G6:=zh (Ab G5.o g6);have aJ:w.heap.size<=v.heap.size:=G5.o.size;generalize v.heap.size=Y at*;clear ao P b6 g6;refine Aq f ?_;clear f K;refine Ap ?_;refine Av ?_;refine Aj ?_;refine Am ?_;intro K f;refine Aq f ?_;clear f K;refine AG (A5 ?_);go_wp2_with fail;exact BC (results_tmp2 rfl _ _ _) rfl ⟨Y,rfl,aJ,G6.o,B6.o⟩
theorem Vu{l n lg:Nat}(R:AF h J g E n k f)(S:AD h J)(T:h.cell? ⟨l,0,V⟩=A3 (Ax (A3 ⟨g,0,V⟩)))(h5:h.cell? ⟨l,5,V⟩=A3 (Z O lg))(U:h.cell? ⟨l,9,V⟩=A3 (Z O 2))
  (c:∀i:Nat,i<lg->f ((2+i:Nat):Int)=AO n)(hr:2+lg<=E)(aj:E<=16384):
  BD A6 88 #[Ax (A3 ⟨l,0,V⟩)] h λe w'=>e=Bd (BA #[Z O 0,Z O 0])/\h.grownBy w' V:=by
 have x:=zh (λ(W:A7) (m:h.grownBy W V)=>A2 (m.cell T Δ) (m.cell U Δ));have al:=zh (λ(i:Nat) (p:i<lg) (W:A7) (m:h.grownBy W V)=>OG g E n k f ((2+i:Nat):Int) 4 (i:Int) W J (R.u m) (S.u m) Ω (by exact_mod_cast (show 2+i<E by omega)) (c i p));have am:Hd (lg<=16384):=zh Ω;clear R S T U c hr aj
 go_enter Tryz.func88,Tryz.ntmps88
 go_wp2_with fail;clear h5
 go_loopg [13,4] lg (λX v o wr=>v=Z O (lg - X:Nat)/\o=Z O 0/\X<=lg/\h.grownBy wr V)
 case atStart=>exact⟨Δ,rfl,jF _,Bo _ _⟩
 case round=>
  obtain⟨rfl,rfl,Y,y⟩:=hrel;obtain⟨i,p⟩:=Af (lg - gk);rw[p]
  by_cases aa:gk=0
  ·subst aa;have an:i=lg:=Ω;subst an;have z:Bk ((i:Int)<(i:Int))=A4:=jH Ω;clear p Y;go_wp2_with fail;exact BC (results_tmp2 rfl _ _ _) rfl ⟨rfl,y⟩
  ·have z:Bk ((i:Int)<(lg:Int))=BB:=jG Ω;have ab:Bk (i<lg)=BB:=jG Ω;have HG:=zh (al.o i Ω);have A:Hd (i+1=lg - (gk - 1)/\gk - 1<=lg/\gk - 1<gk):=zh Ω;have HI:Hd (i<=16384):=zh (Ψ am.o);have GR:=zh y;clear p Y aa y
   go_upto_region 5 with fail
   go_cut [7] (λs7 wx=>s7=Z O 5/\h.grownBy wx V)
   case first=>
    have HA:=zh (show O.wrap (2+(i:Int))=((2+i:Nat):Int) by have:=HI.o;exact Ba (by rw[Bn _ Ω];omega));have ha:=HA.o;clear z ab;refine AS (λW=>W.cell? ⟨l,0,V⟩=A3 (Ax (A3 ⟨g,0,V⟩))/\W.cell? ⟨l,9,V⟩=A3 (Z O 2)) (.bN [0,1,2,3,4,5,6,7,8,9,10] 11 A4 (.am [] [12,13,14] 15 BB (.am [] [] 16 A4 (.am [] [] 17 A4 (.nil)))) 15 BB (.am [] [] 11 A4 (.am [] [12,13,14] 16 A4 (.am [] [] 17 A4 (.nil))))) Φ Φ ?_;obtain⟨u1,ae,v1⟩:=AP wr;rw[ae];have d:=zh (Ab GR.o v1);clear v1 ae;have S1:=zh (x.o u1 d.o);refine DK S1.o ?_
    iterate 11 ((apply AC rfl Θ;(· intro wS q;(try have q:=q rfl);(try dsimp only at q);(try(have c0:=q.1;have c9:=q.2));go_simp;(try with_reducible rfl)));refine Al ?_)
    refine Aj ⟨?_,?_⟩
    ·refine Am ?_;intro K a;refine(HG.o u1 d.o).mono ?_;rintro e u2 ⟨rfl,t⟩;dsimp only;refine Aq a ?_;clear a K;refine Ap ?_
     iterate 3 refine Av ?_
     refine Aj ?_;refine Am ?_;intro K a;obtain⟨u3,av,u,b⟩:=An u2 174 [Z O 0,Z O 0,Z O 0,AA V 0 0];rw[av];have c:h.heap.size<=u2.heap.size:=(Ab d.o t).size;have w:=zh (Ab (Ab d.o t) u);refine a _ _ ⟨_,λ_ B=>B,λ_=>(x.o u3 w.o),?_⟩;clear a K;refine Al ?_;refine Ap ?_;refine Aj ?_;have C:=b.v 0;have D:=b.v 1;have F:=b.v 2;have G:=b.v 3;have H:=b.m 0;have I:=b.m 1;have L:=b.m 2;have M:=b.m 3;refine Am ?_;intro K a;obtain⟨u4,r,N,s⟩:=Fm b (Z O 0) (Z O 0) (Z O 0) (AA V 0 0);rw[r];have P:=Ac.u w.o s (λj e=>by rw[e];exact c);clear C D F G H I L M r N s b;refine Aq a ?_;clear a K;refine Ap ?_;refine Aj ?_;refine Am ?_;intro K a;refine Aq a ?_;clear a K;refine AG (A5 ?_);go_wp2_with fail
     go_meet
     exact⟨rfl,P⟩
    ·refine Am ?_;intro K a;obtain⟨u2,aw,t,b2⟩:=An u1 174 [Z O 0,Z O 0,Z O 0,AA V 0 0];rw[aw];have c:h.heap.size<=u1.heap.size:=d.o.size;have Q:=zh (Ab d.o t);refine a _ _ ⟨_,λ_ B=>B,λ_=>(x.o u2 Q.o),?_⟩;clear a K;refine Al ?_;refine Ap ?_;refine Aj ?_;refine Am ?_;intro K a;refine(HG.o u2 Q.o).mono ?_;rintro e u3 ⟨rfl,u⟩;have b:=b2.u u Δ;have w:=zh (Ab Q.o u);dsimp only;refine Aq a ?_;clear a K;refine Ap ?_
     iterate 3 refine Av ?_
     refine Aj ?_;have C:=b.v 0;have D:=b.v 1;have F:=b.v 2;have G:=b.v 3;have H:=b.m 0;have I:=b.m 1;have L:=b.m 2;have M:=b.m 3;refine Am ?_;intro K a;obtain⟨u4,r,N,s⟩:=Fm b (Z O 0) (Z O 0) (Z O 0) (AA V 0 0);rw[r];have P:=Ac.u w.o s (λj e=>by rw[e];exact c);clear C D F G H I L M r N s b;refine Aq a ?_;clear a K;refine Ap ?_;refine Aj ?_;refine Am ?_;intro K a;refine Aq a ?_;clear a K;refine AG (A5 ?_);go_wp2_with fail
     go_meet
     exact⟨rfl,P⟩
   case rest=>
   obtain⟨rfl,g6⟩:=hcut;have G6:=zh g6;have az:Hd (wrap64 ((i:Int)+1)=((i+1:Nat):Int)):=zh (Dm rfl (Ψ HI.o));clear g6 z ab;go_wp2_with fail
   go_roundg (gk - 1)
   case measure=>exact A.o.2.2
   exact⟨by rw[<-A.o.1,az.o],rfl,A.o.2.1,G6.o⟩
theorem ZN{q:Nat}(U:AF h J k q l o f)(X:AD h J)(Y:h.cell? ⟨g,0,V⟩=A3 (Ax (A3 ⟨k,0,V⟩)))(h5:h.cell? ⟨g,5,V⟩=A3 (Z O E))(h9:h.cell? ⟨g,9,V⟩=A3 (Z O 2))
  (m:∀i:Nat,i<E->f ((2+i:Nat):Int)=AO l)(hr:2+E<=q)(am:q<=16384)(ac:0<E)(w:Nat)(ev:Bs):
  BD A6 147 #[Ax (A3 ⟨g,0,V⟩),Z O w,ev] h λe w'=>e=Bd (BA #[CA #[Z O 0,AA V 0 0],B8 A4])/\h.grownBy w' V:=by
 obtain⟨i,x⟩:=Af (w%E)
 have ad:i<E:=by rw[<-x];exact lA _ ac
 obtain⟨c,ap,d,b1⟩:=An h 186 [Z O 0,AA V 0 0];have G:=zh (λ(W:A7) (r:c.grownBy W V)=>A2 ((Ab d r).cell Y Δ) ((Ab d r).cell h9 Δ));have HG:=zh (λ(W:A7) (r:c.grownBy W V)=>OG k q l o f ((2+i:Nat):Int) 4 (i:Int) W J (U.u (Ab d r)) (X.u (Ab d r)) Ω (by exact_mod_cast (show 2+i<q by omega)) (m i ad));have HI:Hd (i<=16384):=zh Ω;have ar:((E:Int)==0)=A4:=Γ;have au:¬E=0:=Ω
 have av:((w:Int)).tmod (E:Int)=(i:Int):=by rw[kP Ω, <-x];rfl
 have aw:(w:Int)%(E:Int)=(i:Int):=by rw[<-x];rfl
 have x5:=d.cell h5 Δ;have G1:=zh d;have B1:=zh b1;clear U X Y h9 m hr am h5 x ad ac d b1
 go_enter Tryz.func147,Tryz.ntmps147
 go_wp2_with fail;clear ar au av aw x5 ap
 go_upto_region 2 with fail
 go_cut [10] (λaA wx=>aA=Z O 5/\c.grownBy wx V)
 case first=>
  have HA:=zh (show O.wrap (2+(i:Int))=((2+i:Nat):Int) by have:=HI.o;exact Ba (by rw[Bn _ Ω];omega));have ha:=HA.o;refine AS (λW=>W.cell? ⟨g,0,V⟩=A3 (Ax (A3 ⟨k,0,V⟩))/\W.cell? ⟨g,9,V⟩=A3 (Z O 2)) (.bN [0,1,2,3,4,5,6,7,8,9,10] 11 A4 (.am [] [12,13,14] 15 BB (.am [] [] 16 A4 (.am [] [] 17 A4 (.nil)))) 15 BB (.am [] [] 11 A4 (.am [] [12,13,14] 16 A4 (.am [] [] 17 A4 (.nil))))) Φ Φ ?_;obtain⟨u1,ag,v1⟩:=AP c;rw[ag];have n:=zh (Ab (Bo c V) v1);clear v1 ag;have S1:=zh (G.o u1 n.o);refine DK S1.o ?_
  iterate 11 ((apply AC rfl Θ;(· intro wS s;(try have s:=s rfl);(try dsimp only at s);(try(have c0:=s.1;have c9:=s.2));go_simp;(try with_reducible rfl)));refine Al ?_)
  refine Aj ⟨?_,?_⟩
  ·refine Am ?_;intro K a;refine(HG.o u1 n.o).mono ?_;rintro e u2 ⟨rfl,y⟩;dsimp only;refine Aq a ?_;clear a K;refine Ap ?_
   iterate 3 refine Av ?_
   refine Aj ?_;refine Am ?_;intro K a;obtain⟨u3,aE,z,b⟩:=An u2 174 [Z O 0,Z O 0,Z O 0,AA V 0 0];rw[aE];have m:c.heap.size<=u2.heap.size:=(Ab n.o y).size;have A:=zh (Ab (Ab n.o y) z);refine a _ _ ⟨_,λ_ H=>H,λ_=>(G.o u3 A.o),?_⟩;clear a K;refine Al ?_;refine Ap ?_;refine Aj ?_;have B:=b.v 0;have C:=b.v 1;have I:=b.v 2;have L:=b.v 3;have D:=b.m 0;have F:=b.m 1;have M:=b.m 2;have N:=b.m 3;refine Am ?_;intro K a;obtain⟨u4,t,P,u⟩:=Fm b (Z O 0) (Z O 0) (Z O 0) (AA V 0 0);rw[t];have Q:=Ac.u A.o u (λj e=>by rw[e];exact m);clear B C I L D F M N t P u b;refine Aq a ?_;clear a K;refine Ap ?_;refine Aj ?_;refine Am ?_;intro K a;refine Aq a ?_;clear a K;refine AG (A5 ?_);go_wp2_with fail
   go_meet
   exact⟨rfl,Q⟩
  ·refine Am ?_;intro K a;obtain⟨u2,aF,y,b2⟩:=An u1 174 [Z O 0,Z O 0,Z O 0,AA V 0 0];rw[aF];have m:c.heap.size<=u1.heap.size:=n.o.size;have R:=zh (Ab n.o y);refine a _ _ ⟨_,λ_ H=>H,λ_=>(G.o u2 R.o),?_⟩;clear a K;refine Al ?_;refine Ap ?_;refine Aj ?_;refine Am ?_;intro K a;refine(HG.o u2 R.o).mono ?_;rintro e u3 ⟨rfl,z⟩;have b:=b2.u z Δ;have A:=zh (Ab R.o z);dsimp only;refine Aq a ?_;clear a K;refine Ap ?_
   iterate 3 refine Av ?_
   refine Aj ?_;have B:=b.v 0;have C:=b.v 1;have I:=b.v 2;have L:=b.v 3;have D:=b.m 0;have F:=b.m 1;have M:=b.m 2;have N:=b.m 3;refine Am ?_;intro K a;obtain⟨u4,t,P,u⟩:=Fm b (Z O 0) (Z O 0) (Z O 0) (AA V 0 0);rw[t];have Q:=Ac.u A.o u (λj e=>by rw[e];exact m);clear B C I L D F M N t P u b;refine Aq a ?_;clear a K;refine Ap ?_;refine Aj ?_;refine Am ?_;intro K a;refine Aq a ?_;clear a K;refine AG (A5 ?_);go_wp2_with fail
   go_meet
   exact⟨rfl,Q⟩
 case rest=>
 obtain⟨rfl,S⟩:=hcut;have p:=B1.o.u S Δ;have g6:=Ab G1.o S;have B:=p.v 0;have C:=p.v 1;have D:=p.m 0;have F:=p.m 1;have b7:=(p.setCell 0 (Z O 0)).setCell 1 (AA V 0 0);have t7:Ac (λj=>j=h.heap.size) wc ((wc.setCell ⟨h.heap.size,0,V⟩ (Z O 0)).setCell ⟨h.heap.size,1,V⟩ (AA V 0 0)):=(Ac.of (Ao _ _ _) (λj e=>by cases e;rfl)).trans (Ac.of (Ao _ _ _) (λj e=>by cases e;rfl));have T:=zh (A2 b7 (Ac.u g6 t7 (λj e=>by rw[e];exact jF _)));clear g6 p b7 t7 S;go_wp2_with fail;have z0:=T.o.1.m 0;have z1:=T.o.1.m 1;exact BC (v:=BA #[CA #[Z O 0,AA V 0 0],B8 A4]) (by simp[results,Tryz.f147,go_sem,z0,z1]) rfl ⟨rfl,T.o.2⟩
theorem Vg(l c:Nat)(d:Bs)(o:∃p,d=Ax p)(w:A7):
  BD A6 89 #[Ax (A3 ⟨l,0,V⟩),Z O c,d] w λe a=>e=Bd (.func (.func 146) #[] #[Ax (A3 ⟨w.heap.size+1,0,V⟩),Ax (A3 ⟨w.heap.size,0,V⟩),Ax (A3 ⟨w.heap.size+2,0,V⟩)])/\
   w.grownBy a V/\Aa a w.heap.size 88 [Ax (A3 ⟨l,0,V⟩)]/\Aa a (w.heap.size+1) 3 [Z O c]/\Aa a (w.heap.size+2) 184 [d]:=by
 obtain⟨p,rfl⟩:=o;obtain⟨i,q,j,k⟩:=An w 88 [Ax (A3 ⟨l,0,V⟩)]
 have m:i.heap.size=w.heap.size+1:=by rw[<-q];simp
 obtain⟨n,r,f,g⟩:=An i 3 [Z O c]
 have s:n.heap.size=w.heap.size+2:=by rw[<-r];simp[m]
 obtain⟨u,v,b,h⟩:=An n 184 [Ax p];rw[m]at g;rw[s]at h;have t:=zh (A2 (Ab (Ab j f) b) (A2 ((k.u f Δ).u b Δ) (A2 (g.u b Δ) h)));clear j k f g b h
 go_enter Tryz.func89,Tryz.ntmps89
 go_wp2;go_ret;exact⟨rfl,t.o⟩
def ju(a b e l d f n g q h:Nat)(i:Int->List Nat)(j:Bs)(c:Ae)(X:A7):Prop:=
 X.cell? ⟨a,0,V⟩=A3 (Z O h)/\X.cell? ⟨b,0,V⟩=A3 (Ax (A3 ⟨l,0,V⟩))/\X.cell? ⟨e,0,V⟩=A3 j/\X.cell? ⟨l,0,V⟩=A3 (Ax (A3 ⟨d,0,V⟩))/\X.cell? ⟨l,5,V⟩=A3 (Z O g)/\X.cell? ⟨l,9,V⟩=A3 (Z O 2)/\AF X c d f n q i
theorem Vn(Y z A B l d u n b q a:Nat)(D:Int->List Nat)(p:Option Addr)(E:∀i:Nat,i<b->D ((2+i:Nat):Int)=AO n)(F:2+b<=u)(G:u<=16384)(H:0<b)(aa:a<=1000000)(C:Nat->Prop):
  Kf Fence.wide Y A6 146 #[Ax (A3 ⟨z,0,V⟩),Ax (A3 ⟨A,0,V⟩),Ax (A3 ⟨B,0,V⟩)] (λ_:Unit=>#[undef,undef]) C (λ(_:Unit)=>ju z A B l d u n b q a D (Ax p)) (λ_ _ _ _ _=>False) (λxs=>xs=[]) 1:=by
 intro ly J Jx W m0 ad I _ ae K hY w _;obtain⟨⟨x,m,f,L,s,M,N⟩,P⟩:=K _ _ _ _ w;have HG:=zh (λ(X:A7) (c:W.grownBy X V)=>ZN (N.u c) (P.u c) (c.cell L Δ) (c.cell s Δ) (c.cell M Δ) E F G H a (Ax p));have HJ:=zh (λ(X:A7) (c:W.grownBy X V)=>I _ _ _ _ _ w c);have g:=zh (A2 x (A2 m (A2 f s)));have d1:Bk ((a:Int)<((a+b:Nat):Int))=BB:=jG Ω;have d2:Bk (a<a+b)=BB:=jG Ω;have d3:Bk ((a:Int)<(a:Int)+(b:Int))=BB:=jG Ω
 have Q:wrap64 ((a:Int)+(b:Int))=((a+b:Nat):Int):=by rw[Bn _ Ω];omega
 have al:=Ba Q;clear K I hY w N P E F G H aa ae f L M;refine Bx.2 ?_
 go_enter CB,Tryz.ntmps146
 go_wp2_with fail;refine wp_scope_straight ?_;go_wp2_with fail;refine wp_label ?_;go_wp2_with fail
 go_loopg [5] 0 (λk v wr=>v=Z O a/\W.grownBy wr V)
 case atStart=>exact⟨rfl,Bo _ _⟩
 case round=>
  obtain⟨rfl,h⟩:=hrel;have GR:=zh h;have x:=h.cell g.o.1 Δ;have m:=h.cell g.o.2.1 Δ;have f:=h.cell g.o.2.2.1 Δ;have s:=h.cell g.o.2.2.2 Δ;clear h;go_wp2_with fail
  go_quiet (fail)
  have o:=zh (Ab GR.o (AZ wr nq V));generalize wr.drewN nq=w2 at*;clear x m f s d1 d2 d3 Q al;have m:=o.o.cell g.o.2.1 Δ;have f:=o.o.cell g.o.2.2.1 Δ;go_wp2_with fail;refine(HG.o w2 o.o).mono ?_;rintro e t ⟨rfl,y⟩;obtain⟨R,ar,S,r⟩:=An t 186 [Z O 0,AA V 0 0];have f0:=r.v 0;have f1:=r.v 1;have y0:=r.m 0;have y1:=r.m 1;have T:Ac (λj=>j=t.heap.size) R ((R.setCell ⟨t.heap.size,0,V⟩ (Z O 0)).setCell ⟨t.heap.size,1,V⟩ (AA V 0 0)):=(Ac.of (Ao _ _ _) (λj e=>by cases e;rfl)).trans (Ac.of (Ao _ _ _) (λj e=>by cases e;rfl));have U:=(Ab o.o y).size;have G5:=zh (Ac.u (Ab (Ab o.o y) S) T (λj e=>by rw[e];exact U));clear m f y S r T U;go_wp2_with fail;simp only[Exit.noGoto]
  go_end0
  exact⟨⟨_,rfl⟩,ad,CK ⟨m0,[],rfl,HJ.o _ G5.o⟩⟩
end
section
open Go.RowKit Go.Shelf
attribute [local go_sem] Oper.semAt_some
structure LM(w:A7)(g:Ae)(d h n q:Nat)(i:Int->List Nat)(l:Nat)(j:List Bs)(b e a f F L E:Nat)(c:Ae)(W:A7):Prop where
 st:Ad (Sc Gx 200) w g W c
 bH:AF W c d h n q i
 bl:Aa W l 188 j
 b7:Aa W b 100 [AA V 0 0]
 b8:Aa W e 3 [Z O 0]
 b9:Aa W a 32 [Z O 0]
 hB:Aa W f 3 [Z O 0]
 bF:Aa W F 3 [Z O 1]
 bL:Aa W L 88 [Ax (A3 ⟨l,0,V⟩)]
 bE:Aa W E 184 [Ax (A3 ⟨a,0,V⟩)]
 z:c l=0/\c b=0/\c e=0/\c a=0/\c f=0/\c F=0/\c L=0/\c E=0
 ge:w.heap.size<=l
theorem LM.ao{d e m F L p:Nat}{q:Ae}{C:Nat->Prop}(b:LM h J E g i k f l a o d e m F L p r j)(s:Ad C j r n q)(c:¬C 0)(D:¬C 1)(G:∀t,C t->Sc Gx 200 t):LM h J E g i k f l a o d e m F L p q n:=by
 obtain⟨u,v,w,x,y,z,A,B⟩:=b.z
 exact⟨b.st.trans (s.mono G),b.bH.ag s D,s.y b.bl (by rw[u];exact c),s.y b.b7 (by rw[v];exact c),s.y b.b8 (by rw[w];exact c),s.y b.b9 (by rw[x];exact c),s.y b.hB (by rw[y];exact c),s.y b.bF (by rw[z];exact c),s.y b.bL (by rw[A];exact c),s.y b.bE (by rw[B];exact c),
  ⟨by rw[s.ak _ b.bl.lt];exact u,by rw[s.ak _ b.b7.lt];exact v,by rw[s.ak _ b.b8.lt];exact w,by rw[s.ak _ b.b9.lt];exact x,by rw[s.ak _ b.hB.lt];exact y,by rw[s.ak _ b.bF.lt];exact z,by rw[s.ak _ b.bL.lt];exact A,by rw[s.ak _ b.bE.lt];exact B⟩,b.ge⟩
theorem Ad.ig{C S:Nat->Prop}(b:Ad C h r j J)(t:Ac S j n)(d:∀a,S a->h.heap.size<=a\/C (J a)):Ad C h r n J:=
 ⟨b.au.ag t (λa e=>(d a e).elim BZ (λc=>(mn a h.heap.size).elim (λf=>CK (by rw[b.ak a f]at c;exact c)) BZ)),b.ak,b.dQ,b.new.au t⟩
theorem Yv(d f n I J p M N:Nat)(P:BitVec 64)(pr:Nat)(q:Nat)(U:Int->List Nat)(w:A7)(u:Ae)(hD:AF w u d f n q U)(hC:AD w u)
  (hf:∀W,AF W u d f n q U->BD A6 87 #[Ax (A3 ⟨d,0,V⟩),CA (Db f n I J p M N P).toArray] W λe w'=>∃l,e=Bd (BA #[Ax (A3 ⟨l,0,V⟩),Z O 0])/\W.heap.size<=l/\W.grownBy w' V/\
   Aa w' l 188 (IT d f n I J p M N P pr 1 1 (AA V 0 0) 0))
  (v:∀i:Nat,i<p->U ((2+i:Nat):Int)=AO n)(hr:2+p<=f)(aX:f<=16384)(bA:0<p):
  BD A6 41 #[Ax (A3 ⟨d,0,V⟩),CA (Db f n I J p M N P).toArray,Z O 1] w λe w'=>∃l,e=Bd (BA #[Ax (A3 ⟨l,0,V⟩),AA V 0 0,Z O 0,Z O 0])/\
   ∃c,Ad (Sc Gx 200) w u w' c/\w.heap.size<=l/\c l=0/\Aa w' l 188 (IT d f n I J p M N P pr 1 1 (AA V 0 0) 0):=by
 obtain⟨z,cm,ga,ba⟩:=An w 37 (Db f n I J p M N P);obtain⟨x,cn,gb,bb⟩:=An z 100 [AA V 0 0];obtain⟨wc,co,gc,bc⟩:=An x 3 [Z O 0];obtain⟨wd,cp,gd,bd⟩:=An wc 32 [Z O 0];have cq:=ba.lt;have bD:=bb.lt;have bE:=bc.lt;have bF:=bd.lt;have A:=((ba.u gb Δ).u gc Δ).u gd Δ;have x0:=A.m 0;have x1:=A.m 1;have x2:=A.m 2;have x3:=A.m 3;have x4:=A.m 4;have x5:=A.m 5;have x6:=A.m 6;have x7:=A.m 7;have HB:=zh (A2 ((bb.u gc Δ).u gd Δ) (A2 (bc.u gd Δ) bd));have GD:=zh (Ab (Ab (Ab ga gb) gc) gd);have HZ:=zh (show w.heap.size<=z.heap.size/\z.heap.size<x.heap.size/\x.heap.size<wc.heap.size/\wc.heap.size<wd.heap.size from⟨Ω,bD,bE,bF⟩);have HD:=zh hD;have HC:=zh hC;have HF:=zh hf;have cz:=zh (λ(l:Nat) (W:A7) (hW:AF W u d f n q U) (cB:AD W u) (k0) (k5) (k9)=>Vu (l:=l) (lg:=p) hW cB k0 k5 k9 v hr aX);have cF:=zh (λ(F L E l k:Nat) (C:Nat->Prop)=>Vn 19 F L E l d f n p q 1 U (A3 ⟨k,0,V⟩) v hr aX bA Ω C);clear hD hC hf v hr aX bA ga gb gc gd ba bb bc bd A cq bD bE bF;have bH:Fence.wide.round=V:=rfl;refine(Bx (n:=20)).1 ?_;refine callsIn_of_wp_marks Tryz.func41 rfl ki ?_ bH;simp only[Tryz.ntmps41,kB,jT,kA,Nat.reduceAdd,Nat.reduceSub,kf,kh,kJ,kr,jX,ku]
 gi_wp2_with (refine⟨ki,?_⟩;gi_at_call 87;refine(Bx.2 (HF.o wd (HD.o.u GD.o))).mono ?_;rintro e we ⟨l,rfl,cG,g5,bl⟩;have f9:=(HB.o.2.2.u g5 Δ).v 0;have y9:=(HB.o.2.2.u g5 Δ).m 0;have b9:=(HB.o.2.2.u g5 Δ).setCell 0 (Z O 0);have r:Ac (λj=>j=wc.heap.size) we (we.setCell ⟨wc.heap.size,0,V⟩ (Z O 0)):=Ac.of (Ao _ _ _) (λj e=>by cases e;rfl);obtain⟨wf,bJ⟩:=Af (we.setCell ⟨wc.heap.size,0,V⟩ (Z O 0));rw[bJ]at b9 r;have u9:=b9.m 0)
 have v:=HZ.o;have an:w.heap.size<=l:=Ω;have a7:l≠wc.heap.size:=Ω;have G6:=zh (Ac.u (Ab GD.o g5) r (λj e=>Ω));have BL:=zh (r.y bl a7);have B9:=zh b9;have a8:=zh (A2 (r.y (HB.o.1.u g5 Δ) Ω) (r.y (HB.o.2.1.u g5 Δ) Ω));have a9:=zh (A2 an a7);have bK:=zh r.aQ;clear cm cn co cp x0 x1 x2 x3 x4 x5 x6 x7 f9 y9 u9 b9 r bJ bl g5 cG v an a7 HB;refine⟨ki,?_⟩;refine(Bx.2 (cz.o l wf (HD.o.u G6.o) (HC.o.u G6.o) (BL.o.m 0) (BL.o.m 5) (BL.o.m 9))).mono ?_;rintro e a ⟨rfl,g7⟩;obtain⟨wh,cJ,g8,aD⟩:=An a 3 [Z O 0];have af:=Ab g7 g8;have b9:=B9.o.u af Δ
 have aE:wc.heap.size≠a.heap.size:=by have:=bK.o;have:=B9.o.lt;have:=g7.size;omega
 have q0:=aD.v 0;have v0:=aD.m 0;have be:=aD.setCell 0 (Z O 0);obtain⟨wi,aG⟩:=Af (wh.setCell ⟨a.heap.size,0,V⟩ (Z O 0))
 have t1:Ac (λj=>j=a.heap.size\/j=wc.heap.size) wh wi:=by rw[<-aG];exact Ac.of (Ao _ _ _) (λj e=>by cases e;exact CK rfl)
 rw[aG]at be
 have aH:Aa wi wc.heap.size 32 [Z O 0]:=by rw[<-aG];exact(Ac.of (S:=λj=>j=a.heap.size) (Ao _ _ _) (λj e=>by cases e;rfl)).y b9 aE
 have q1:=aH.v 0;have B:=aH.m 0;have bf:=aH.setCell 0 (Z O 0);obtain⟨wj,aJ⟩:=Af (wi.setCell ⟨wc.heap.size,0,V⟩ (Z O 0))
 have t2:Ac (λj=>j=a.heap.size\/j=wc.heap.size) wi wj:=by rw[<-aJ];exact Ac.of (Ao _ _ _) (λj e=>by cases e;exact BZ rfl)
 rw[aJ]at bf
 have aK:Aa wj a.heap.size 3 [Z O 0]:=by rw[<-aJ];exact(Ac.of (S:=λj=>j=wc.heap.size) (Ao _ _ _) (λj e=>by cases e;rfl)).y be aE.symm
 have q2:=aK.v 0;have v2:=aK.m 0;have bg:=aK.setCell 0 (Z O 0);obtain⟨o,aL⟩:=Af (wj.setCell ⟨a.heap.size,0,V⟩ (Z O 0))
 have t3:Ac (λj=>j=a.heap.size\/j=wc.heap.size) wj o:=by rw[<-aL];exact Ac.of (Ao _ _ _) (λj e=>by cases e;exact CK rfl)
 rw[aL]at bg
 have bO:Aa o wc.heap.size 32 [Z O 0]:=by rw[<-aL];exact(Ac.of (S:=λj=>j=a.heap.size) (Ao _ _ _) (λj e=>by cases e;rfl)).y bf aE
 have T:=(t1.trans t2).trans t3;have v:=HZ.o;have an:=a9.o;have cP:=bK.o;have bh:=g7.size;have cQ:=B9.o.lt
 have nl:∀j,j<a.heap.size->j≠wc.heap.size->¬(j=a.heap.size\/j=wc.heap.size):=λj g t h=>Ω
 have bP:=zh (T.y (BL.o.u af Δ) (nl _ (Ψ BL.o.lt) an.2));have bQ:=zh (T.y (a8.o.1.u af Δ) (nl _ Ω Ω));have bR:=zh (T.y (a8.o.2.u af Δ) (nl _ Ω Ω));have bS:=zh bO;have bT:=zh bg;have Gk:=zh (Ac.u (Ab G6.o af) T (λj e=>Ω));have cR:=zh (show wc.heap.size<a.heap.size/\w.heap.size<=a.heap.size by omega);clear T t1 t2 t3 af g7 g8 b9 aD be aH bf aK bg bO v an cP bh cQ nl aE BL B9 a8 G6
 gi_wp2_with (refine⟨ki,?_⟩;gi_at_call 89;refine(Bx.2 (Vg l 1 _ ⟨_,rfl⟩ o)).mono ?_;rintro e wm ⟨rfl,Q,bL,bV,bW⟩)
 have v:=HZ.o;have bh:=cR.o;have G:∀j,w.heap.size<=j->u j=0:=HC.o
 have hI:LM w u d f n q U l (IT d f n I J p M N P pr 1 1 (AA V 0 0) 0) z.heap.size x.heap.size wc.heap.size a.heap.size (o.heap.size+1) o.heap.size (o.heap.size+2) u wm:=
  ⟨Ad.u HC.o (Ab Gk.o Q),HD.o.u (Ab Gk.o Q),bP.o.u Q Δ,bQ.o.u Q Δ,bR.o.u Q Δ,bS.o.u Q Δ,bT.o.u Q Δ,bV,bL,bW,
   ⟨G _ a9.o.1,G _ Ω,G _ Ω,G _ Ω,G _ Ω,G _ (jM Gk.o.size (j9 _)),G _ Gk.o.size,G _ (jM Gk.o.size Ω)⟩,a9.o.1⟩
 have y:=zh hI;clear hI Q bL bV bW v bh G cJ q0 v0 aG q1 B aJ q2 v2 aL bP bQ bR bS bT
 refine Kz y.o.st.new bH Ω (gf:=146) (lb:=#[Ax (A3 ⟨o.heap.size+1,0,V⟩),Ax (A3 ⟨o.heap.size,0,V⟩),Ax (A3 ⟨o.heap.size+2,0,V⟩)]) rfl ki (enters_of CB Φ rfl)
  (C:=λj=>j=199) rfl (cF.o (o.heap.size+1) o.heap.size (o.heap.size+2) l wc.heap.size _) (λ_ _ _ _=>ki) (λ_=>rfl)
  (λ_ c _ W=>LM w u d f n q U l (IT d f n I J p M N P pr 1 1 (AA V 0 0) 0) z.heap.size x.heap.size wc.heap.size a.heap.size (o.heap.size+1) o.heap.size (o.heap.size+2) c W) (λ_ _ _=>False) (λ_ _ _ _ _=>False)
  ()
  (λm c c' cT X Y h s=>h.ao s Ω Ω (λj e=>BZ (by rcases e with rfl|rfl<;>exact⟨Ω,Ω⟩)))
  (λ_ _ _ _ _ h _=>h)
  (λm c cT X h=>⟨⟨h.bF.m 0,h.bL.m 0,h.bE.m 0,h.bl.m 0,h.bl.m 5,h.bl.m 9,h.bH⟩,h.st.new⟩)
  (λ_ _ _ _ _ _ _ h _=>h)
  (λ_ _ _ _ _ _ h _=>h)
  y.o (λ_=>False) (λ_ h=>h.elim) (λh=>h) (λh=>h)
  (λ_ _ _ _ _ _ _ _ _ hR=>hR.elim) (λ_ _ _ _ _ _ _ _ _ hR=>hR.elim) ?done (λ_ _ _ _ h=>h.elim)
 case done=>
  intro D m c xs X hS hI b aq;have y:=zh hI;have bX:D<X.heap.size:=(jR.1 b).1;obtain⟨z1,z2,z3,z4,z5,z6,z7,z8⟩:=hI.z;have x9:=hI.b9.m 0;have aN:=zh (A2 b (A2 aq bX));clear hI hS b aq bX
  gi_wp2
  clear x9;obtain⟨y1,b1,B⟩:=AP X;have s1:Ac (λj=>w.heap.size<=j/\c j=0) X y1:=Ac.az B;have R:=zh (y.o.bl.u B Δ);have K7:=zh (y.o.b7.u B Δ);have K8:=zh (y.o.b8.u B Δ);have K9:=zh (y.o.b9.u B Δ);have aP:=zh (y.o.hB.u B Δ)
  have dj:O.wrap 1=1:=by rw[IntKind.wrap_i64];rfl
  refine wpIn_wide.2 ?_;refine AS (λW=>W.cell? ⟨a.heap.size,0,V⟩=A3 (Z O 0)) (.am [3,4] [0,1,2,5,6] 7 BB (.am [] [8,9] 10 A4 (.nil))) Φ Φ ?_;rw[b1];refine Dz (aP.o.m 0) ?_
  iterate 2 ((apply AC rfl Θ;(· intro wS H;(try have H:=H rfl);(try dsimp only at H);(try(have dk:=H));go_simp;(try with_reducible rfl)));refine Al ?_)
  refine Aj ?_
  iterate 5 refine Av ?_
  refine Aj ?_;have cW:=R.o.v 11;have cX:=R.o.m 11;refine Am ?_;intro K b
  have b4:a.heap.size≠l:=λe=>by have g:=aP.o;have t:=R.o;unfold Aa at g t;rw[e,t]at g;simp at g
  have b5:z.heap.size≠l:=λe=>by have g:=K7.o;have t:=R.o;unfold Aa at g t;rw[e,t]at g;simp at g
  have b6:x.heap.size≠l:=λe=>by have g:=K8.o;have t:=R.o;unfold Aa at g t;rw[e,t]at g;simp at g
  have b7:wc.heap.size≠l:=λe=>by have g:=K9.o;have t:=R.o;unfold Aa at g t;rw[e,t]at g;simp at g
  have t2:Ac (λj=>j=l) y1 (y1.setCell ⟨l,11,V⟩ (Z O 1)):=Ac.of (Ao _ _ _) (λj e=>by cases e;rfl);have b2:=R.o.setCell 11 (Z O 1);generalize y1.setCell ⟨l,11,V⟩ (Z O 1)=y2 at*;clear cW cX;refine b _ _ ⟨_,λ_ h=>h,λ_=>((t2.y aP.o b4).m 0),?_⟩;clear b K;refine Al ?_;refine Ap ?_;have cY:=b2.v 12;have cZ:=b2.m 12
  iterate 2 refine Av ?_
  refine Aj ?_;refine Am ?_;intro K b;have t3:Ac (λj=>j=l) y2 (y2.setCell ⟨l,12,V⟩ (Z O 1)):=Ac.of (Ao _ _ _) (λj e=>by cases e;rfl);have b3:Aa (y2.setCell ⟨l,12,V⟩ (Z O 1)) l 188 (IT d f n I J p M N P pr 1 1 (AA V 0 0) 0):=b2.setCell 12 (Z O 1);generalize y2.setCell ⟨l,12,V⟩ (Z O 1)=y3 at*;clear cY cZ;refine Aq b ?_;clear b K;refine AG (A5 ?_);have T3:=t2.trans t3;have L7:=zh (T3.y K7.o b5);have L8:=zh (T3.y K8.o b6);have L9:=zh (T3.y K9.o b7);have c0:=zh b3;have S3:Hd (Ac (λj=>w.heap.size<=j/\c j=0) X y3):=zh (s1.trans (T3.mono (λj e=>by rw[e];exact⟨y.o.ge,z1⟩)));clear t2 t3 b2 b3 T3 s1 B b1 b4 K7 K8 K9 aP R
  gi_wp2
  obtain⟨y4,ce,v4⟩:=AP y3;have M7:=L7.o.u v4 Δ;have M8:=L8.o.u v4 Δ;have M9:=L9.o.u v4 Δ;have c2:=zh (c0.o.u v4 Δ);have S4:Hd (Ac (λj=>w.heap.size<=j/\c j=0) X y4):=zh (S3.o.trans (Ac.az v4));have v:=HZ.o;refine wpIn_wide.2 ?_;refine AS (λW=>W.cell? ⟨x.heap.size,0,V⟩=A3 (Z O 0)) (.am [2] [0,1,3] 4 BB (.am [] [] 5 A4 (.am [] [] 6 A4 (.nil)))) Φ Φ ?_;rw[ce];refine Dz (M8.m 0) ?_
  iterate 1 ((apply AC rfl Θ;(· intro wS H;(try have H:=H rfl);(try dsimp only at H);(try(have x8:=H));go_simp;(try with_reducible rfl)));refine Al ?_)
  refine Aj ?_;have x7:=M7.m 0
  iterate 3 refine Av ?_
  refine Aj ?_;clear x7;have f7:=M7.v 0;have x7:=M7.m 0;refine Am ?_;intro K b;have t5:Ac (λj=>j=z.heap.size) y4 (y4.setCell ⟨z.heap.size,0,V⟩ (AA V 0 0)):=Ac.of (Ao _ _ _) (λj e=>by cases e;rfl);have N7:=M7.setCell 0 (AA V 0 0);simp only[jY]at N7;generalize y4.setCell ⟨z.heap.size,0,V⟩ (AA V 0 0)=y5 at*;have N8:=t5.y M8 Ω;have N9:=t5.y M9 Ω;clear f7 x7;refine b _ _ ⟨_,λ_ h=>h,λ_=>(N8.m 0),?_⟩;clear b K;refine Al ?_;refine Ap ?_;refine Aj ?_;have f8:=N8.v 0;have x8:=N8.m 0;refine Am ?_;intro K b;have r:Ac (λj=>j=x.heap.size) y5 (y5.setCell ⟨x.heap.size,0,V⟩ (Z O 0)):=Ac.of (Ao _ _ _) (λj e=>by cases e;rfl);have O8:=N8.setCell 0 (Z O 0);simp only[jY]at O8;generalize y5.setCell ⟨x.heap.size,0,V⟩ (Z O 0)=y6 at*;have O7:=r.y N7 Ω;have O9:=r.y N9 Ω;clear f8 x8;refine Aq b ?_;clear b K;refine Ap ?_;refine Aj ?_;have f9:=O9.v 0;have x9:=O9.m 0;refine Am ?_;intro K b;have t7:Ac (λj=>j=wc.heap.size) y6 (y6.setCell ⟨wc.heap.size,0,V⟩ (Z O 0)):=Ac.of (Ao _ _ _) (λj e=>by cases e;rfl);have Q9:=O9.setCell 0 (Z O 0);simp only[jY]at Q9;generalize y6.setCell ⟨wc.heap.size,0,V⟩ (Z O 0)=y7 at*;have Q7:=t7.y O7 Ω;have Q8:=t7.y O8 Ω;clear f9 x9;refine Aq b ?_;clear b K;refine AG (A5 ?_);have TT:Ac (λj=>j=z.heap.size\/j=x.heap.size\/j=wc.heap.size) y4 y7:=((t5.mono (λj e=>CK e)).trans (r.mono (λj e=>BZ (CK e)))).trans (t7.mono (λj e=>BZ (BZ e)));have c6:=zh (TT.y c2.o Ω)
  have S7:Hd (Ac (λj=>w.heap.size<=j/\c j=0) X y7):=zh (S4.o.trans (TT.mono (λj e=>by
   rcases e with rfl|rfl|rfl
   ·exact⟨Ω,z2⟩
   ·exact⟨Ω,z3⟩
   ·exact⟨Ω,z4⟩)))
  have c7:Hd (y7.heap[D]?=A3 (.deferred (A3 []))):=zh ((S7.o.bV D aN.o.2.2 (by rw[aN.o.2.1];omega)).trans aN.o.1);have HQ:=zh (A2 Q7 (A2 Q8 Q9));have aq:=aN.o.2.1;clear M7 M8 M9 N7 N8 N9 O7 O8 O9 Q7 Q8 Q9 t5 r t7 TT ce v4 b5 b6 b7 v L7 L8 L9
  gi_wp2
  refine⟨Δ,CK ⟨_,_,rfl,run_takeDeferred c7.o,?_⟩⟩;have t8:=Hg y7 D (.deferred V)
  have nD:∀j,c j=0->¬j=D:=λj h e=>by rw[e,aq]at h;cases h
  have q7:=(t8.y HQ.o.1 (nD _ z2)).m 0;have q8:=(t8.y HQ.o.2.1 (nD _ z3)).m 0;have q9:=(t8.y HQ.o.2.2 (nD _ z4)).m 0;have db:=t8.y c6.o (nD _ z1);have s8:Ad (Sc Gx 200) w u (y7.putObj D (.deferred V)) c:=y.o.st.ig ((S7.o.mono (λj e=>CK e.1)).trans (t8.mono (λj e=>BZ e)):Ac (λj=>w.heap.size<=j\/j=D) X _) (λj e=>e.imp id (λe=>BZ (by rw[e,aq];exact⟨Ω,Ω⟩)));generalize y7.putObj D (.deferred V)=y8 at*;exact⟨BA #[Ax (A3 ⟨l,0,V⟩),AA V 0 0,Z O 0,Z O 0],by simp[results,Tryz.f41,go_sem,q7,q8,q9],l,rfl,c,s8,y.o.ge,z1,db⟩
theorem aE(m:AF h J E b.ss b.n g f)(n:AD h J)(a:b.aY)(o:∀i:Nat,i<b.lg->f ((2+i:Nat):Int)=AO b.n):
  BD A6 41 #[Ax (A3 ⟨E,0,V⟩),b.val,Z O 1] h λe k=>∃l,e=Bd (BA #[Ax (A3 ⟨l,0,V⟩),AA V 0 0,Z O 0,Z O 0])/\∃c,Ad (Sc (λj=>j=5) 200) h J k c/\IU k c l E b 1 1 0:=by
 have u:=a.eh;have v:b.aP=2+b.lg+b.rg*b.rs:=rfl;have w:=a.fM;refine(Yv E b.ss b.n b.rg b.rs b.lg b.dp b.a7 b.aK (DC b.n) g f h J m n (λW p=>Vw E b.ss b.n b.rg b.rs b.lg b.dp b.a7 b.aK b.region b.aP b.a4 b.bv b.bg b.bz b.aA g f W J p (λW=>I9 b a W) a.n0 a.n1) o Ω a.dE Ω).mono ?_;rintro e k ⟨l,rfl,c,s,q,y,d⟩
 have r:0<DC b.n:=by have:=a.n0;unfold DC;omega
 exact⟨l,rfl,_,(s.mono (Sc.mono (λj e=>e.elim) (jF _))).bQ q d.lt (CK rfl),AA V 0 0,[],⟨d,World.ownsRow_nil _ _ _ _,ke _,(λx t=>by cases t),A0 _ _ _,λz d=>by simp[Value.ownBlock]at d⟩,r⟩
end
section
open Go.RowKit
attribute [local go_sem ↓] Go.wp_at_zero Go.wp_at_succ
theorem Zj(e t:Nat)(w:A7):BD A6 70 #[Z O e,Z O t] w λx c=>x=Bd (B8 (Bk (e≠0/\e<=t)))/\w=c:=by
 by_cases a:e=0
 ·subst a
  go_enter BX,BR
  go_wp2_with fail;go_ret;exact⟨Δ,rfl⟩
 ·have f:((e:Int)!=0)=BB:=by simp;omega
  by_cases b:e<=t
  ·have d:Bk ((e:Int)<=(t:Int))=BB:=jG Ω;rw[show Bk (e≠0/\e<=t)=BB by simp[a,b]]
   go_enter BX,BR
   go_wp2_with fail;go_ret;exact⟨rfl,rfl⟩
  ·have d:Bk ((e:Int)<=(t:Int))=A4:=jH Ω;rw[show Bk (e≠0/\e<=t)=A4 by simp[b]]
   go_enter BX,BR
   go_wp2_with fail;go_ret;exact⟨rfl,rfl⟩
structure QR(a W:A7)(B:Nat)(v:Bs)(b:List Nat)(R:Nat)(T:CR)(c:List Bs):Prop where
 rr:RR W B v b A4
 aZ:Aa W R T c
 br:B≠R
 vr:v.ownBlock≠A3 R
 g:a.grownBy W V
 b0:a.heap.size<=B
theorem QR.bT{R:Nat}(c:QR j n E p s R e a)(i:RR h E Y d A4)(l:∀b,Y.ownBlock=A3 b->p.ownBlock=A3 b)(g:n.grownBy h (A3 E)):QR j h E Y d R e a:=
 ⟨i,c.aZ.u g (λf=>c.br (by cases f;rfl)),c.br,λf=>c.vr (l _ f),Ac.u c.g (Ac.of g (λk f=>f)) (λm f=>by cases f;exact c.b0),c.b0⟩
theorem QR.put{R:Nat}{i:List Bs}(b:QR h n E Y d R e i)(l:Aa j R e a)(g:Ac (λk=>k=R) n j)(m:h.heap.size<=R:=by exact Nat.le_refl _):QR h j E Y d R e a:=
 ⟨b.rr.au g (λk c f=>by
  subst f
  rcases c with c|c
  ·exact b.br c.symm
  ·exact b.vr c),l,b.br,b.vr,Ac.u b.g g (λo f=>by rw[f];exact m),b.b0⟩
theorem QR.cs{R:Nat}(l:QR n h E p s R e a)(f:h.ownsRow g 5 1 Y i (Ar d))(m:h.grownBy j (A3 E)):j.ownsRow g 5 1 Y i (Ar d):=
 (Ac.of (S:=λk=>k=E) m (λk c=>by cases c;rfl)).aT f (λb o c=>by subst c;exact Bv l.rr.y f Ξ o)
theorem Wl(d f:List Nat)(e:Nat)(a:Option Addr)(c:Nat)(w:A7)(aN:1<=d.length)(aO:d.length<=64)(hv:f.length<=4096)(he:e<=281474976710656)(ag:∀x∈d,x<256)(ah:∀x∈f,x<256)
  (L:Ag w 1 (AA a (DB d f e).length c) (DB d f e).length (Ar (DB d f e))):
  BD A6 120 #[AA a (DB d f e).length c] w λx M=>∃n o p q,x=Bd (BA #[CA #[AA n d.length o,AA p f.length q,Z O (e:Nat)],Z O (13+d.length+f.length:Nat),Z O 0])/\
   M.ownsRow w.heap.size 5 1 (AA n d.length o) d.length (Ar d)/\M.ownsRow w.heap.size 5 1 (AA p f.length q) f.length (Ar f)/\w.grownBy M V:=by
 have aR:=JT d f e;have ai:=Ru (e:=e) ag ah;have wk:O.wrap (d.length:Int)=d.length:=BE _ Ω;have wv:O.wrap (f.length:Int)=f.length:=BE _ Ω;have we:O.wrap (e:Int)=e:=BE _ Ω;have d1:Bk ((281474976710656:Int)<(e:Int))=A4:=jH Ω;have d2:Bk (281474976710656<e)=A4:=jH Ω
 have aj:DB d f e=At 165 1++(At d.length 1++(At f.length 2++(At e 8++(d++(f++At 90 1))))):=by simp[DB]
 have aS:=zh aj;have HR:=zh L;obtain⟨w0,aV,N,b0⟩:=An w 136 [AA V 0 0,AA V 0 0,Z O 0];have al:=Mc (DB d f e) a c w0 Ω ai (L.u N Δ);have am:=zh al;have B0:=zh b0;have G0:=zh N;obtain⟨LN,P⟩:=Af ((DB d f e).length);rw[P]at am HR;rw[P];have s:=zh (A2 aN (A2 aO (A2 hv he)));clear aR ai aj L al b0 N P ag ah
 go_enter Tryz.func120,Tryz.ntmps120
 go_wp2_with fail;refine am.o.mono ?_;rintro x w1 ⟨B,v,rfl,y,hB,ao,Q⟩;have aZ:=B0.o.lt
 have hq:QR w w1 B v (At 165 1++(At d.length 1++(At f.length 2++(At e 8++(d++(f++At 90 1)))))) w.heap.size 136 [AA V 0 0,AA V 0 0,Z O 0]:=
  ⟨by rw[<-aS.o];exact y,B0.o.u Q Δ,Ω,λe=>Ψ (ao _ e),Ab G0.o Q,Ω⟩
 have R:=zh hq;clear y hB ao Q aZ hq aV;go_wp2_with fail;refine(Gl R.o.rr Ξ Δ).mono ?_;rintro x w2 ⟨v2,rfl,i,k,g⟩;have S:=zh (R.o.bT i k g);clear i k g R;go_wp2_with fail;refine(Gl S.o.rr Ξ (by have:=s.o;simp;omega)).mono ?_;rintro x w3 ⟨v3,rfl,i,k,g⟩;have T:=zh (S.o.bT i k g);clear i k g S;go_wp2_with fail;refine(Gl T.o.rr Ξ (by have:=s.o;simp;omega)).mono ?_;rintro x w4 ⟨v4,rfl,i,k,g⟩;have U:=zh (T.o.bT i k g);clear i k g T;go_wp2_with fail;refine(Gl U.o.rr Ξ (by have:=s.o;simp;omega)).mono ?_;rintro x w5 ⟨v5,rfl,i,k,g⟩;have I:=zh (U.o.bT i k g);clear i k g U;go_wp2_with fail;refine(NY I.o.rr).mono ?_;rintro x w6 ⟨n,o,v6,rfl,o6,i,k,g⟩;have E:=zh (I.o.bT i k g);have O6:=zh (Cf o6 I.o.g.size);clear i k g I o6;go_wp2_with fail;refine(NY E.o.rr).mono ?_;rintro x w7 ⟨p,q,v7,rfl,o7,i,k,g⟩;have l:=zh (E.o.bT i k g);have X:=zh (Cf o7 E.o.g.size);have Y:=zh (E.o.cs O6.o g);clear i k g E O6 o7;have f0:=l.o.aZ.v 0;have f1:=l.o.aZ.v 1;have f2:=l.o.aZ.v 2;have z:=l.o.aZ.m 0;have A:=l.o.aZ.m 1;have C:=l.o.aZ.m 2;go_wp2_with fail;clear f0 f1 f2 z A C;obtain⟨w8,av,b8,J⟩:=Bq l.o.aZ (AA n d.length o) (AA p f.length q) (Z O e);rw[av];have F:=zh (l.o.put b8 J);have O8:=zh (J.aT X.o (λb t e=>by subst e;exact Bv l.o.aZ X.o Ξ t));have P8:=zh (J.aT Y.o (λb t e=>by subst e;exact Bv l.o.aZ Y.o Ξ t));clear av b8 J l X Y;have ad:=F.o.rr;rw[<-lw (At 90 1)]at ad;refine(Gl ad Ξ Δ).mono ?_;rintro x w9 ⟨v9,rfl,i,k,g⟩;have u:=zh (F.o.bT i k g);have O9:=zh (F.o.cs O8.o g);have P9:=zh (F.o.cs P8.o g);clear i k g F O8 P8 ad;go_wp2_with fail;refine(OT _ _ _ _ _ u.o.rr).mono ?_;rintro x aB ⟨rfl,rfl⟩;have z:=u.o.aZ.m 0;have A:=u.o.aZ.m 1;have C:=u.o.aZ.m 2;go_wp2_with fail;have hk:=s.o
 have hz:CG d.length f.length (e:Int)=0:=by
  unfold CG;rw[jN Ω,jN Ω,jN Ω]
 have y:=Og d.length f.length n p o q (e:Int) w9 (by unfold CL;omega) (by unfold CL;omega);rw[hz]at y;refine y.mono ?_;clear y hz hk z A C;rintro x aB ⟨rfl,G⟩;have aD:=zh (u.o.aZ.u G Δ);have aE:=zh (AV O9.o G);have aF:=zh (AV P9.o G);have aG:=zh (Ab u.o.g G);clear G u O9 P9;go_wp2_with fail;obtain⟨a2,aH,H⟩:=AP aB;have m:=zh (aD.o.u H Δ);have aI:=zh (AV aE.o H);have aJ:=zh (AV aF.o H);have a3:=zh (Ab aG.o H);clear H aD aE aF aG;refine AS (λW=>Aa W w.heap.size 136 [AA n d.length o,AA p f.length q,Z O (e:Nat)]) (.am [0] [1,2] 3 BB (.am [] [] 4 A4 (.am [] [5] 6 A4 (.nil)))) Φ Φ ?_;rw[aH];clear aH;refine Dz m.o ?_
 iterate 1 ((apply AC rfl Θ;(· intro wS D;(try have D:=D rfl);(try dsimp only at D);(try(have z:=D.m 0;have A:=D.m 1;have C:=D.m 2));go_simp;(try with_reducible rfl)));refine Al ?_)
 refine Aj ?_
 iterate 2 refine Av ?_
 refine Aj ?_;refine Am ?_;intro K r;refine(Ow d.length f.length s.o.1 s.o.2.1 s.o.2.2.1 a2).mono ?_;rintro x a4 ⟨rfl,rfl⟩;dsimp only;refine r _ _ ⟨_,λ_ h=>h,λ_=>m.o,?_⟩;clear r K;refine Al ?_;refine Ap ?_;refine Aj ?_;have f0:=m.o.v 0;have f1:=m.o.v 1;have f2:=m.o.v 2;have z:=m.o.m 0;have A:=m.o.m 1;have C:=m.o.m 2;refine Am ?_;intro K r;obtain⟨a4,aK,aL,aM⟩:=Bq m.o (AA n d.length o) (AA p f.length q) (Z O e);rw[aK];have ae:=zh aL;have af:=zh aM;clear f0 f1 f2 z A C aK aL aM;refine Aq r ?_;clear r K;refine Ap ?_;refine Av ?_;refine Aj ?_;refine Am ?_;intro K r;refine Aq r ?_;clear r K;refine AG (A5 ?_);go_wp2_with fail;have z0:=ae.o.m 0;have z1:=ae.o.m 1;have z2:=ae.o.m 2;refine BC (v:=BA #[CA #[AA n d.length o,AA p f.length q,Z O e],Z O (13+d.length+f.length:Nat),Z O 0]) (by simp[results,Tryz.f120,go_sem,z0,z1,z2]) rfl ?_;exact⟨n,o,p,q,rfl,af.o.aT aJ.o (λb t e=>by subst e;exact Bv m.o aJ.o Ξ t),af.o.aT aI.o (λb t e=>by subst e;exact Bv m.o aI.o Ξ t),Ac.u a3.o af.o (λj e=>by rw[e];exact jF _)⟩
end
