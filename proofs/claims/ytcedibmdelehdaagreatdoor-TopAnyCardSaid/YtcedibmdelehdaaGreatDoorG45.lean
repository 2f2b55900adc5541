/- Lemmas. -/
import Derived.Test.YtcedibmdelehdaaGreatDoorG44
namespace Go.Proofs.YtcedibmdelehdaaGreatDoor
set_option maxRecDepth 100000
set_option maxHeartbeats 32000000
open Go.Value renaming int->J,slice->V,string->Bk,bool->BC,func->BR,agg->CV
open Go.IntKind renaming i64->O,u64->Bx
open Bool renaming false->Y,true->Bd
open Decidable renaming decide->Z
open Option renaming none->Ax,some->A6
open And renaming intro->AA
open Go renaming World->A2,maxLen->Bn,Calls->Bs,Value->BA,bodyPost_ret->BL,results_cell_row->B5,Addr->B6,TypeId->CX
open Go.IntWalk renaming wrap64_in->A3
open Go.Proofs.Tryz renaming prog->A4,underlying37->BX,ntmps55->BZ,ntmps17->B0,ntmps13->B3,func55->B7,func17->CB,func13->CE,ntmps22->CK,ntmps6->CL,func22->CR,func6->C0
open Go.Ending renaming returned->A5
open Go.NoPanic renaming normal->A7
open Or renaming inr->BB,inl->BE
open Go.RowKit renaming wrap64->BD
variable{f c g j q t:Nat}{E p r:A2}{a s:Ae}{b:Pl}{d w:BitVec 64}{e:ByteArray}{i:CX}{k:List BA}{l x z A B C D:BA}{n:Az}{o:Type}
section
open Go Go.RowKit
attribute [local go_sem ↓] Go.wp_at_zero Go.wp_at_succ
theorem jk{b c F G H I J K L M d e g j m n o p:BA}(h:Aa E f i [l,x,z,A,B,C,D,b,c,F,G,H,I,J,K,L,M,d,e,g,j,m,n,o,p])(q r s t u v w y:BA):∃a,((((((((E.setCell ⟨f,9,Ax⟩ q).setCell ⟨f,10,Ax⟩ r).setCell ⟨f,11,Ax⟩ s).setCell ⟨f,12,Ax⟩ t).setCell ⟨f,13,Ax⟩ u).setCell ⟨f,14,Ax⟩ v).setCell ⟨f,15,Ax⟩ w).setCell ⟨f,16,Ax⟩ y)=a/\Aa a f i [l,x,z,A,B,C,D,b,c,q,r,s,t,u,v,w,y,d,e,g,j,m,n,o,p]/\Ac (λk=>k=f) E a:=
 ⟨_,rfl,((((((((h.setCell 9 _).setCell 10 _).setCell 11 _).setCell 12 _).setCell 13 _).setCell 14 _).setCell 15 _).setCell 16 _),((((((((Ay _ _ _ _).trans (Ay _ _ _ _)).trans (Ay _ _ _ _)).trans (Ay _ _ _ _)).trans (Ay _ _ _ _)).trans (Ay _ _ _ _)).trans (Ay _ _ _ _)).trans (Ay _ _ _ _))⟩
theorem aV{b:Int->List Nat}(h:AF E a f c g j b):a f=1:=let⟨_,_,_,_,_,_,_,_,h,_⟩:=h;h.cd
theorem Zn(n:Nat)(i:Int):CJ (λ_=>AO n) i (AO n)=λ_=>AO n:=by
 funext k
 unfold CJ
 split<;>rfl
def Ui(w:A2)(d:Ae)(P:Pl)(e:Ending)(a:A2):Prop:=
 ∃c A N b,e=A5 (.tuple #[Ak c,J O 0])/\Ad Eh w d a b/\Ca a b c A P 50000 0 0 N/\(∀h,N.F h=Ax)/\N.aw=0/\(∃z,N.aR 0=AO P.aA++z)
structure Hc(w:A2)(f:Ae)(d s:Nat)(P:Pl)(b c e:Nat)(q:Nat)(a:Ae)(W:A2):Prop where
 st:Ad Eh w f W a
 sd:SD W a s d P q 1 (λ_=>Ax) (λ_=>AO P.n)
 h2:Aa W b 35 [Ak d]
 h3:Aa W c 37 P.cells
 h6:Aa W e 80 [Ak s]
 k2:a b=0
 k3:a c=0
 k6:a e=0
theorem Hc.ag{l:Nat}{e:Ae}{C:Nat->Prop}(h:Hc p s f c b g j q l e r)(k:Ad C r e E a)(d:¬C 0)(m:∀i,C i->Eh i)(n:SD E a c f b t 1 (λ_=>Ax) (λ_=>AO b.n)):Hc p s f c b g j q t a E:=
 ⟨h.st.trans (k.mono m),n,k.y h.h2 (by rw[h.k2];exact d),k.y h.h3 (by rw[h.k3];exact d),k.y h.h6 (by rw[h.k6];exact d),by rw[k.ak _ h.h2.lt];exact h.k2,by rw[k.ak _ h.h3.lt];exact h.k3,by rw[k.ak _ h.h6.lt];exact h.k6⟩
theorem Hc.u(h:Hc E a f c b g j q t s p)(d:p.grownBy r Ax):Hc E a f c b g j q t s r:=
 h.ag (C:=λ_=>False) (Ad.u h.sd.cl d) (λh=>h) (λ_ h=>h.elim) (h.sd.u d)
def LV(w:A2)(g:Ae)(d s:Nat)(P:Pl)(h i j:Nat)(q:Nat)(f c b a:Nat)(k:List BA)(e:Ae)(W:A2):Prop:=
 Hc w g d s P h i j q e W/\EO W e b a/\Aa W c 90 k/\e c=8/\Aa W f 31 [Ak c]/\e f=0
theorem Hc.cB{i l:Nat}{m:Ae}{n o:Nat}(h:Hc p s g j b q t i l m r)(u:Ad (λd=>d=8\/d=9) r m E a)(v:EO E a n o)(w:Aa E f 90 k)(x:a f=8)(y:Aa E c 31 [Ak f])(z:a c=0):LV p s g j b q t i l c f n o k a E:=
 ⟨h.ag u Ω (λd e=>BE Ω) (h.sd.ag u Ω Ω Ω Ω),v,w,x,y,z⟩
theorem QB{P:Pl}(hD:AF E a f P.ss P.n 0 (λ_=>AO P.n))(hC:AD E a)(hf:P.aY)(hT:ET E)(hG:0<E.heap.size)(bM:a 0=0):
  Bs A4 7 #[Ak f,P.val] E (Ui E a P):=by
 obtain⟨w1,bN,g1,b1⟩:=An E 35 [Ak f];obtain⟨w2,cF,g2,b2⟩:=An w1 37 [J O P.ss,J O P.n,J O P.rg,J O P.rs,J O P.lg,J O P.dp,J O P.a7,J Bx (U P.aK)];have ak:=Ab g1 g2
 have bR:Bs A4 30 #[Ak f,CV #[J O P.ss,J O P.n,J O P.rg,J O P.rs,J O P.lg,J O P.dp,J O P.a7,J Bx (U P.aK)]] w2 λe w'=>∃s,e=A5 (.tuple #[.pointer (A6 ⟨s,0,Ax⟩),J O 0])/\∃bS,Ad (SS 200) w2 a w' bS/\SD w' bS s f P 0 1 (λ_=>Ax) (λ_=>AO P.n):=
  V9 (hD.u ak) (hC.u ak) hf (hT.bb (ak.block _ hG Δ)) (jJ hG ak.size) bM
 have bT:=zh bR;have a4:=zh (b1.u g2 Δ);have bg:=zh b2;have HZ:Hd (w1.heap.size=E.heap.size+1):=zh (by rw[<-bN];simp);have HC:=zh hC;have HF:=zh hf;have cG:=zh ak;have k0:=a4.o.m 0;have p0:=b2.m 0;have p1:=b2.m 1;have p2:=b2.m 2;have p3:=b2.m 3;have p4:=b2.m 4;have p5:=b2.m 5;have p6:=b2.m 6;have p7:=b2.m 7;unfold Pl.val;clear hD hC hf hT hG bM g1 g2 b1 b2 ak bR
 go_enter Tryz.func7,Tryz.ntmps7
 go_wp2_with fail;refine bT.o.mono ?_;rintro e w3 ⟨s,rfl,c3,s3,a6⟩;clear bT bN cF k0 p0 p1 p2 p3 p4 p5 p6 p7;obtain⟨w4,cH,g4,b4⟩:=An w3 80 [Be];obtain⟨w5,bq⟩:=Af (w4.setCell ⟨w3.heap.size,0,Ax⟩ (Ak s));have b5:=b4.setCell 0 (Ak s);rw[bq]at b5;have f0:=b4.v 0;have v0:=b4.m 0;have g5:=Ac.u g4 (show Ac (λj=>j=w3.heap.size) w4 w5 by rw[<-bq];exact Ay _ _ _ _) (λj e=>by rw[e];exact jF _)
 have n0:¬SS 200 0:=by rintro(h|h)<;>omega
 have T5:Hd (Hc E a f s P E.heap.size w1.heap.size w3.heap.size 0 c3 w5):=zh ⟨((Ad.u HC.o cG.o).trans (s3.mono (Sc.mono (λj e=>Ω) Ω))).trans (Ad.u a6.cl g5),a6.u g5,(s3.y a4.o (by rw[HC.o _ (jF _)];exact n0)).u g5 Δ,(s3.y bg.o (by rw[HC.o _ (by rw[HZ.o];omega)];exact n0)).u g5 Δ,b5,by rw[s3.ak _ a4.o.lt];exact HC.o _ (jF _),by rw[s3.ak _ bg.o.lt];exact HC.o _ (by rw[HZ.o];omega),a6.cl _ (jF _)⟩;clear s3 a6 g4 b4 b5 g5 n0 a4 bg HZ
 go_upto_region 4 with fail
 clear cH bq f0 v0;generalize w3.heap.size=x6 at*;generalize w1.heap.size=x3 at*;obtain⟨x2,bt⟩:=Af E.heap.size;rw[bt]at T5;rw[bt];clear bt
 go_cut [8] (λr wx=>∃S c b an cx,r=.pointer (A6 ⟨S,0,Ax⟩)/\LV E a f s P x2 x3 x6 0 S c b an [Ak f,J O P.ss,J O P.n,J O P.rg,J O P.rs,J O P.lg,J O P.dp,J O P.a7,J Bx (U P.aK),J O 0,J O 0,J O 0,J O 0,J O 0,J O 0,J O 0,J O 0,Ak s,Be,Be,Be,Ak b,J O 0,J O 0,BC Y] cx wx)
 case first=>
  refine AS (λW=>w5.grownBy W Ax) (.bN [0,1,2] 3 Bd (.bN [4] 5 Y (.am [] [] 6 Bd (.am [] [] 7 Y (.nil))) 6 Bd (.am [] [] 5 Y (.am [] [] 7 Y (.nil)))) 6 Bd (.am [] [] 3 Bd (.am [] [4] 5 Y (.am [] [] 7 Y (.nil))))) Φ Φ ?_;obtain⟨u,aR,g6⟩:=AP w5;rw[aR];have G6:=zh g6;clear aR g6;refine DK G6.o ?_
  iterate 3 ((apply AC rfl Θ;(· intro wS n;(try have n:=n rfl);(try dsimp only at n);(try(have T:=T5.o.u n;have k0:=T.h2.m 0;have k1:=T.h6.m 0;have p0:=T.h3.m 0;have p1:=T.h3.m 1;have p2:=T.h3.m 2;have p3:=T.h3.m 3;have p4:=T.h3.m 4;have p5:=T.h3.m 5;have p6:=T.h3.m 6;have p7:=T.h3.m 7));go_simp;(try with_reducible rfl)));refine Al ?_)
  refine Aj ⟨?_,?_⟩
  ·refine Am ?_;intro K d;refine(Sn (T5.o.u G6.o).sd.cl).mono ?_;rintro e o ⟨b,an,rfl,g7,w,s7,bX⟩;have t:=zh (Ab G6.o g7);have aD:=zh ((Ad.u (C:=λj=>j=9) T5.o.sd.cl G6.o).trans s7);have aE:=zh bX;clear g7 s7 bX;dsimp only;refine d _ _ ⟨_,λ_ h=>h,λ_=>t.o,?_⟩;clear d K;refine Al ?_;refine DK t.o ?_
   iterate 1 ((apply AC rfl Θ;(· intro wS n;(try have n:=n rfl);(try dsimp only at n);go_simp;(try with_reducible rfl)));refine Al ?_)
   refine Aj ⟨?_,?_⟩
   ·refine Am ?_;intro K d;obtain⟨g,aw,g8,b8⟩:=An o 90 [Ak f,J O P.ss,J O P.n,J O P.rg,J O P.rs,J O P.lg,J O P.dp,J O P.a7,J Bx (U P.aK),J O 0,J O 0,J O 0,J O 0,J O 0,J O 0,J O 0,J O 0,Ak s,Be,Be,Be,Ak b,J O 0,J O 0,BC Y];rw[aw];have y:Ad (λj=>j=8) o w g (AN w o.heap.size 8):=Cl aD.o.new g8 (jF _) b8.lt rfl;obtain⟨c8,bv⟩:=Af (AN w o.heap.size 8);rw[bv]at y;have G8:=zh (Ab t.o g8);have B8:=zh (show Aa g o.heap.size 90 [Ak f,J O P.ss,J O P.n,J O P.rg,J O P.rs,J O P.lg,J O P.dp,J O P.a7,J Bx (U P.aK),J O 0,J O 0,J O 0,J O 0,J O 0,J O 0,J O 0,J O 0,Ak s,Be,Be,Be,Ak b,J O 0,J O 0,BC Y]/\c8 o.heap.size=8 from⟨b8,by rw[<-bv];exact A0 _ _ _⟩);have a9:=zh (aE.o.ag y Ω);have bw:=zh ((aD.o.mono (λj e=>BB e)).trans (y.mono (λj e=>show j=8\/j=9 from BE e)));clear aw g8 b8 y bv;generalize o.heap.size=c at*;refine Aq d ?_;clear d K;refine Ap ?_;refine Aj ?_;refine Am ?_;intro K d;obtain⟨l,M,m,D⟩:=An g 31 [Be];rw[M];have G9:=zh (Ab G8.o m);refine d _ _ ⟨_,λ_ h=>h,λ_=>G9.o,?_⟩;clear d K;refine Al ?_;refine Ap ?_;refine Aj ?_;have f0:=D.v 0;have v0:=D.m 0;obtain⟨ab,G⟩:=Af (l.setCell ⟨g.heap.size,0,Ax⟩ (Ak c));have F:=D.setCell 0 (Ak c);rw[G]at F
    have ai:Ac (λj=>j=g.heap.size) l ab:=by rw[<-G];exact Ay _ _ _ _
    have ax:=Ac.u m ai (λj e=>by rw[e];exact jF _);have aq:=zh (T5.o.cB (bw.o.trans (Ad.u bw.o.new ax)) (a9.o.u ax) (B8.o.1.u ax Δ) B8.o.2 F (bw.o.new _ (jF _)));clear m D F ai ax M;refine Am ?_;intro K d;clear f0 v0 G;refine Aq d ?_;clear d K;refine AG (A7 ?_);go_wp2_with fail
    go_meet
    exact⟨_,_,_,_,_,rfl,aq.o⟩
   ·refine Am ?_;intro K d;obtain⟨g,aw,g8,b8⟩:=An o 31 [Be];rw[aw];have G8:=zh (Ab t.o g8);have X8:Hd (Aa g o.heap.size 31 [Be]/\w o.heap.size=0):=zh ⟨b8,aD.o.new _ (jF _)⟩;have aU:Hd (o.grownBy g Ax):=zh g8;clear aw g8 b8;refine d _ _ ⟨_,λ_ h=>h,λ_=>G8.o,?_⟩;clear d K;refine Al ?_;refine Ap ?_;refine Aj ?_;refine Am ?_;intro K d;obtain⟨l,M,m,D⟩:=An g 90 [Ak f,J O P.ss,J O P.n,J O P.rg,J O P.rs,J O P.lg,J O P.dp,J O P.a7,J Bx (U P.aK),J O 0,J O 0,J O 0,J O 0,J O 0,J O 0,J O 0,J O 0,Ak s,Be,Be,Be,Ak b,J O 0,J O 0,BC Y];rw[M];have r:Ad (λj=>j=9) w5 c3 g w:=aD.o.trans (Ad.u aD.o.new aU.o);have y:Ad (λj=>j=8) g w l (AN w g.heap.size 8):=Cl r.new m (jF _) D.lt rfl;obtain⟨Q,aG⟩:=Af (AN w g.heap.size 8);rw[aG]at y;have G9:=zh (Ab G8.o m);have B9:=zh (show Aa l g.heap.size 90 [Ak f,J O P.ss,J O P.n,J O P.rg,J O P.rs,J O P.lg,J O P.dp,J O P.a7,J Bx (U P.aK),J O 0,J O 0,J O 0,J O 0,J O 0,J O 0,J O 0,J O 0,Ak s,Be,Be,Be,Ak b,J O 0,J O 0,BC Y]/\Q g.heap.size=8 from⟨D,by rw[<-aG];exact A0 _ _ _⟩);have bx:=zh ((show EO g w b an from aE.o.u aU.o).ag y Ω);have aI:=zh ((r.mono (λj e=>BB e)).trans (y.mono (λj e=>show j=8\/j=9 from BE e)));have X9:=zh (show Aa l o.heap.size 31 [Be]/\Q o.heap.size=0 from⟨X8.o.1.u m Δ,by rw[y.ak _ X8.o.1.lt];exact X8.o.2⟩);have cK:=zh (Ab aU.o m);clear M m D y aG r;refine Aq d ?_;clear d K;refine Ap ?_;refine Aj ?_;have f0:=X9.o.1.v 0;have v0:=X9.o.1.m 0;obtain⟨ab,G⟩:=Af (l.setCell ⟨o.heap.size,0,Ax⟩ (Ak g.heap.size));have F:=X9.o.1.setCell 0 (Ak g.heap.size);rw[G]at F
    have ai:Ac (λj=>j=o.heap.size) l ab:=by rw[<-G];exact Ay _ _ _ _
    have R:Ad (λj=>j=0) l Q ab Q:=AL aI.o.new ai (λj e=>by rw[e];exact X9.o.2);have aW:w5.heap.size<=o.heap.size:=t.o.size;have aq:=zh (T5.o.cB (aI.o.bw ai (λj e=>by rw[e];exact aW)) (bx.o.ag R Ω) (R.y B9.o.1 (by rw[B9.o.2];omega)) B9.o.2 F X9.o.2);clear F ai R aW;refine Am ?_;intro K d;clear f0 v0 G;refine Aq d ?_;clear d K;refine AG (A7 ?_);go_wp2_with fail
    go_meet
    exact⟨_,_,_,_,_,rfl,aq.o⟩
  ·refine Am ?_;intro K d;obtain⟨o,bY,g7,q⟩:=An u 31 [Be];rw[bY];have t:=zh (Ab G6.o g7);have X7:Hd (Aa o u.heap.size 31 [Be]/\c3 u.heap.size=0):=zh ⟨q,(T5.o.u G6.o).sd.cl _ (jF _)⟩;have cL:Hd (u.grownBy o Ax):=zh g7;clear bY g7 q;refine d _ _ ⟨_,λ_ h=>h,λ_=>t.o,?_⟩;clear d K;refine Al ?_;refine Ap ?_;refine Aj ?_;refine Am ?_;intro K d;refine(Sn (T5.o.u t.o).sd.cl).mono ?_;rintro e g ⟨b,an,rfl,g8,w,r,bZ⟩;have G8:=zh (Ab t.o g8);have aD:=zh ((Ad.u (C:=λj=>j=9) T5.o.sd.cl t.o).trans r);have aE:=zh bZ;have X8:Hd (Aa g u.heap.size 31 [Be]/\w u.heap.size=0):=zh ⟨X7.o.1.u g8 Δ,by rw[r.ak _ X7.o.1.lt];exact X7.o.2⟩;have aU:Hd (u.grownBy g Ax):=zh (Ab cL.o g8);clear g8 r bZ;dsimp only;refine d _ _ ⟨_,λ_ h=>h,λ_=>G8.o,?_⟩;clear d K;refine Al ?_;refine Ap ?_;refine Av ?_;refine Aj ?_;refine Am ?_;intro K d;obtain⟨l,M,m,D⟩:=An g 90 [Ak f,J O P.ss,J O P.n,J O P.rg,J O P.rs,J O P.lg,J O P.dp,J O P.a7,J Bx (U P.aK),J O 0,J O 0,J O 0,J O 0,J O 0,J O 0,J O 0,J O 0,Ak s,Be,Be,Be,Ak b,J O 0,J O 0,BC Y];rw[M];have r:Ad (λj=>j=9) w5 c3 g w:=aD.o;have y:Ad (λj=>j=8) g w l (AN w g.heap.size 8):=Cl r.new m (jF _) D.lt rfl;obtain⟨Q,aG⟩:=Af (AN w g.heap.size 8);rw[aG]at y;have G9:=zh (Ab G8.o m);have B9:=zh (show Aa l g.heap.size 90 [Ak f,J O P.ss,J O P.n,J O P.rg,J O P.rs,J O P.lg,J O P.dp,J O P.a7,J Bx (U P.aK),J O 0,J O 0,J O 0,J O 0,J O 0,J O 0,J O 0,J O 0,Ak s,Be,Be,Be,Ak b,J O 0,J O 0,BC Y]/\Q g.heap.size=8 from⟨D,by rw[<-aG];exact A0 _ _ _⟩);have bx:=zh ((show EO g w b an from aE.o).ag y Ω);have aI:=zh ((r.mono (λj e=>BB e)).trans (y.mono (λj e=>show j=8\/j=9 from BE e)));have X9:=zh (show Aa l u.heap.size 31 [Be]/\Q u.heap.size=0 from⟨X8.o.1.u m Δ,by rw[y.ak _ X8.o.1.lt];exact X8.o.2⟩);have cK:=zh (Ab aU.o m);clear M m D y aG r;refine Aq d ?_;clear d K;refine Ap ?_;refine Aj ?_;have f0:=X9.o.1.v 0;have v0:=X9.o.1.m 0;obtain⟨ab,G⟩:=Af (l.setCell ⟨u.heap.size,0,Ax⟩ (Ak g.heap.size));have F:=X9.o.1.setCell 0 (Ak g.heap.size);rw[G]at F
   have ai:Ac (λj=>j=u.heap.size) l ab:=by rw[<-G];exact Ay _ _ _ _
   have R:Ad (λj=>j=0) l Q ab Q:=AL aI.o.new ai (λj e=>by rw[e];exact X9.o.2);have aW:w5.heap.size<=u.heap.size:=G6.o.size;have aq:=zh (T5.o.cB (aI.o.bw ai (λj e=>by rw[e];exact aW)) (bx.o.ag R Ω) (R.y B9.o.1 (by rw[B9.o.2];omega)) B9.o.2 F X9.o.2);clear F ai R aW;refine Am ?_;intro K d;clear f0 v0 G;refine Aq d ?_;clear d K;refine AG (A7 ?_);go_wp2_with fail
   go_meet
   exact⟨_,_,_,_,_,rfl,aq.o⟩
 case rest=>
  obtain⟨S,c,b,an,cx,rfl,hM⟩:=hcut;obtain⟨mT,b3,mB,mC,m8,ca⟩:=hM;have T:=zh mT;have TL:=zh b3;have B:=zh (AA mB mC);have X:=zh (AA m8 ca);clear mT b3 mB mC m8 ca T5;go_wp2_with fail;refine Dc (λW=>wc.grownBy W Ax) [([0,1],2,Bd),([3,4,5,6,7],8,Y)] Φ Φ ?_;obtain⟨u,aR,g6⟩:=AP wc;rw[aR];have G6:=zh g6;clear aR g6;refine Cc G6.o ?_
  repeat(apply AC rfl Θ;(· intro wS n;(try have n:=n rfl);(try dsimp only at n);(try have k0:=(X.o.1.u n Δ).m 0);(try have p:=T.o.h3.u n Δ);(try have p0:=p.m 0);(try have p1:=p.m 1);(try have p2:=p.m 2);(try have p3:=p.m 3);(try have p4:=p.m 4);(try have p5:=p.m 5);(try have p6:=p.m 6);(try have p7:=p.m 7);go_simp;(try with_reducible rfl));refine Al ?_)
  refine Aj ?_
  have cc:Bs A4 32 #[CV #[J O P.ss,J O P.n,J O P.rg,J O P.rs,J O P.lg,J O P.dp,J O P.a7,J Bx (U P.aK)]] u λe w'=>e=A5 (.tuple #[CV #[J O 2,J O P.region,J O P.aP,J O P.a4,J O P.bv,J O P.bg,J O P.bz,J O P.aA],J O 0])/\u.grownBy w' Ax:=I9 P HF.o u
  refine AE rfl (λK' d=>?_);go_simp;refine cc.mono ?_;rintro e o ⟨rfl,g7⟩;dsimp only;have t:=zh (Ab G6.o g7);refine d _ _ ⟨λ_=>t.o,?_⟩;clear d K' g7 cc;refine Cc t.o ?_
  repeat(apply AC rfl Θ;(· intro wS n;go_simp;(try with_reducible rfl));refine Al ?_)
  refine Aj ?_;have q:=B.o.1.u t.o Δ;have T7:=zh (T.o.u t.o);have aE:=zh (TL.o.u t.o);have X7:=zh (AA (X.o.1.u t.o Δ) X.o.2);have C7:Hd (cx c=8):=zh B.o.2;have f9:=q.v 9;have v9:=q.m 9;have cP:=q.v 10;have cQ:=q.m 10;have cR:=q.v 11;have cS:=q.m 11;have cT:=q.v 12;have cU:=q.m 12;have cV:=q.v 13;have cW:=q.m 13;have cX:=q.v 14;have cY:=q.m 14;have cZ:=q.v 15;have c0:=q.m 15;have c1:=q.v 16;have c2:=q.m 16;obtain⟨g,aw,b8,t8⟩:=jk q (J O 2) (J O P.region) (J O P.aP) (J O P.a4) (J O P.bv) (J O P.bg) (J O P.bz) (J O P.aA);have r:Ad (λj=>j=8) o cx g cx:=AL T7.o.sd.cl t8 (λj e=>by rw[e];exact C7.o);have T8:=zh (T7.o.ag r Ω (λj e=>BE Ω) (T7.o.sd.ag r Ω Ω Ω Ω));have a9:=zh (aE.o.ag r Ω);have X8:=zh (AA (r.y X7.o.1 (by rw[X7.o.2];omega)) X7.o.2);have B8:Hd (CH g c f s b P Be Be Be/\cx c=8):=zh ⟨b8,C7.o⟩;refine AE rfl (λK' d=>?_);go_simp;clear q b8 t8 r f9 v9 cP cQ cR cS cT cU cV cW cX cY cZ c0 c1 c2 T7 aE X7 C7 T TL B X
  first|rw[aw]|skip
  clear aw;refine d _ _ ⟨λhf=>(by cases hf),?_⟩;refine De (A7 ?_);clear d K';go_wp2_with fail;have L8:=zh (show LV E a f s P x2 x3 x6 0 S c b an (LO P (Ak f) (Ak s) Be Be Be (Ak b) 0 0) cx g from⟨T8.o,a9.o,B8.o.1,B8.o.2,X8.o.1,X8.o.2⟩);clear T8 a9 B8 X8 G6 t
  go_loopg [35] 2 (λk i wr=>i=J O (2 - k:Nat)/\k<=2/\∃cw,LV E a f s P x2 x3 x6 (2 - k) S c b an (LO P (Ak f) (Ak s) Be Be Be (Ak b) 0 0) cw wr)
  case atStart=>exact⟨rfl,jF _,cx,L8.o⟩
  case round=>
   obtain⟨rfl,hk,cw,hL⟩:=hrel;have L:=zh hL;clear hL L8
   by_cases h0:gk=0
   ·subst h0;rw[lW]at L⊢;clear hk;have k0:=L.o.1.h2.m 0;obtain⟨l,M,m,D⟩:=An wr 95 [BR (.func 35) #[Ak f] #[],BR (.func 36) #[] #[Ak x6,Ak S],BR (.func 38) #[] #[Ak x2,Ak x3,Ak S],BR (.func 40) #[] #[Ak x2,Ak x3,Ak S]];have aX:Ag l 1 (V (A6 ⟨wr.heap.size,0,Ax⟩) 4 4) 4 ((Qc f x2 x3 x6 S).map DP.val):=Ag.bq D rfl (by unfold Bn;omega);have H:=L.o.1.u m;have Q:=L.o.2.2.1.u m Δ;have y9:=L.o.2.2.2.2.1.u m Δ;have ci:=gO H.sd Ω (L.o.2.1.u m) Q L.o.2.2.2.1 x2 x3 x6 S H.h2 H.h3 H.h6 y9 H.k2 H.k3 H.k6 L.o.2.2.2.2.2 (A6 ⟨wr.heap.size,0,Ax⟩) 4 aX (λk hk=>by cases hk;exact L.o.1.sd.cl _ (jF _));have cj:=zh ci;have aI:=zh H.st;have C9:=zh (AA Q.lt (AA y9 (AA L.o.2.2.2.1 L.o.2.2.2.2.2)));clear m D aX H Q y9 ci;go_wp2_with fail;refine cj.o.mono ?_;rintro e ab ⟨rfl,ck,R,c4,A,N,cl,bC,cm⟩;clear cj k0 M;have c5:¬Kt 0:=Jw;have bD:=R.y C9.o.2.1 (by rw[C9.o.2.2.2];exact Jw)
    have cn:ck S=0:=by rw[R.ak _ C9.o.2.1.lt];exact C9.o.2.2.2
    have co:ck c=8:=by rw[R.ak _ C9.o.1];exact C9.o.2.2.1
    have c6:=zh (aI.o.trans (R.mono (Sc.mono (λj e=>Ω) Ω)));have c7:=zh cl;have aY:=zh (AA bC co);have bE:=zh (AA bD cn);have FR:=zh cm;have k0:=bD.m 0;have k1:=Aa.ap (j:=20) bC rfl;clear R c4 cl bC cm c5 bD cn co;go_wp2_with fail;refine(Ra c7.o).mono ?_;rintro e cp ⟨⟨v,rfl⟩,dq,I,cq,cr,_⟩;have cs:=aY.o.1.ag I (by rw[aY.o.2];exact Ns);have bG:=I.y bE.o.1 (by rw[bE.o.2];exact DR);have c9:=zh (c6.o.trans (I.mono IN));have da:=zh cq;have bH:=zh cs;have db:=zh bG;have GG:=zh cr;clear k0 k1 I cq cr cs;have k0:=bG.m 0;clear bG;go_wp2_with fail;refine(Mn da.o Ω c 0 0 Ω bH.o (by rw[aY.o.2];exact Ns)).mono ?_;rintro e ct ⟨rfl,cu,dd,aZ,cv,ak,_⟩;have cy:=bH.o.ag aZ (by rw[aY.o.2];exact Ns);have cz:=aZ.y db.o (by rw[bE.o.2];exact DR)
    have cA:cu c=8:=by rw[aZ.ak _ (Aa.lt bH.o)];exact aY.o.2
    have gg:=GG.o.trans ak
    have aq:=zh (show∃A N c',Ad Eh E a ct c'/\Ca ct c' c A P 50000 0 0 N/\(∀h,N.F h=Ax)/\N.aw=0/\(∃z,N.aR 0=AO P.aA++z)from
     ⟨A,dd,cu,c9.o.trans (aZ.mono IN),⟨cv.mono Ω,cy,cA,Ω⟩,λh=>by rw[gg.f];exact FR.o.f h,by rw[gg.la];exact FR.o.la,by
      obtain⟨z,hz⟩:=gg.bo 0
      exact⟨z,by rw[hz,FR.o.bo];rfl⟩⟩)
    clear k0 aZ cv ak cy cA gg;have k0:=cz.m 0;clear cz;go_wp2_with fail;obtain⟨A,N,c',h1,h2,h3,h4,h5⟩:=aq.o;exact BL (results_tmp2 rfl _ _ _) rfl ⟨c,A,N,c',rfl,h1,h2,h3,h4,h5⟩
   ·obtain⟨i,hi⟩:=Af (2 - gk);rw[hi]at L⊢;have di:i<2:=Ω;have t1:Z ((i:Int)<2)=Bd:=jG Ω;have t2:Z (i<2)=Bd:=jG di;have a0:Hd (i+1=2 - (gk - 1)/\gk - 1<=2/\gk - 1<gk/\i<2):=zh Ω;have dt:Hd (BD ((i:Int)+1)=((i+1:Nat):Int)):=zh (Dm rfl Ω);clear hk h0 hi;go_wp2_with fail;refine Dc (λW=>W.cell? ⟨x2,0,Ax⟩=A6 (Ak f)/\W.cell? ⟨x3,1,Ax⟩=A6 (J O P.n)) [([0,1,2,3],4,Bd),([],5,Y),([],6,Y)] Φ Φ ?_;obtain⟨l,M,m⟩:=AP wr;rw[M];have H:=zh (L.o.1.u m);have G9:=zh m;clear M m;refine Cc ⟨H.o.h2.m 0,H.o.h3.m 1⟩ ?_
    repeat(apply AC rfl Θ;(· intro wS n;(try have n:=n rfl);(try dsimp only at n);(try have k0:=n.1);(try have k1:=n.2);go_simp;(try with_reducible rfl));refine Al ?_)
    refine Aj ?_;have dj:=Ox l P.n (Ψ HF.o.n1);refine AE rfl (λK' d=>?_);go_simp;obtain⟨ab,G,ax,F⟩:=An l 5 (Ar (AO P.n));rw[G];have az:=zh (H.o.u ax);have a1:=zh (Ab G9.o ax);have dk:l.heap.size<ab.heap.size:=F.lt;have aX:Ag ab 1 (V (A6 ⟨l.heap.size,0,Ax⟩) P.n P.n) P.n (Ar (AO P.n)):=Ag.bq F (by simp[Ar,AO]) (by have:=HF.o.n1;unfold Bn;omega);have dl:=HF.o.eh;have dm:P.aP=2+P.lg+P.rg*P.rs:=rfl;have dn:=HF.o.fM;have cD:=zh (Rc f P.ss P.n i (λ_=>AO P.n) i (AO P.n) (A6 ⟨l.heap.size,0,Ax⟩) P.n ab cw az.o.sd.bH az.o.sd.cl (Ψ a0.o) Ω Ω (Ep _) (λx hx=>by have:=ls hx;omega) aX (λk hk e=>by cases hk;have h1:=H.o.sd.cl _ (jF l.heap.size);rw[show l.heap.size=f from e]at h1;have h2:=aV az.o.sd.bH;omega));refine d _ _ ⟨λ_=>⟨az.o.h2.m 0,az.o.h3.m 1⟩,?_⟩;clear d K' dj G ax F dk aX dl dm dn;refine Bt ?_;refine AE rfl (λK' d=>?_);go_simp;refine cD.o.mono ?_;rintro e cp ⟨rfl,cE,I,bJ⟩;rw[Zn]at bJ;dsimp only
    have aq:=zh (show LV E a f s P x2 x3 x6 (i+1) S c b an (LO P (Ak f) (Ak s) Be Be Be (Ak b) 0 0) cE cp from
     ⟨az.o.ag I Ω (λj e=>BE Ω) ⟨(az.o.sd.bM.ag I Ω Ω Ω).mono (j9 _),bJ,I.new,az.o.sd.a2⟩,(L.o.2.1.u a1.o).ag I Ω,I.y (L.o.2.2.1.u a1.o Δ) (by rw[L.o.2.2.2.1];omega),by rw[I.ak _ (L.o.2.2.1.u a1.o Δ).lt];exact L.o.2.2.2.1,I.y (L.o.2.2.2.2.1.u a1.o Δ) (by rw[L.o.2.2.2.2.2];omega),by rw[I.ak _ (L.o.2.2.2.2.1.u a1.o Δ).lt];exact L.o.2.2.2.2.2⟩)
    refine d _ _ ⟨λhf=>(by cases hf),?_⟩;clear d K' cD I bJ;refine Bt ?_;refine AE rfl (λK' d=>?_);go_simp;refine d _ _ ⟨λhf=>(by cases hf),?_⟩;refine De (A7 ?_);clear d K';go_wp2_with fail
    go_roundg (gk - 1)
    case measure=>exact a0.o.2.2.1
    exact⟨by rw[<-a0.o.1,Int.natCast_add];rfl,a0.o.2.1,cE,by rw[<-a0.o.1];exact aq.o⟩
theorem MI(a:List Nat)(b:a.length<=1000000)(w:A2):
  Bs A4 13 #[Bk (Di a)] w λe k=>e=A5 (J O (if 1<=a.length/\a.length<=64 then 0 else 10))/\w=k:=by
 have f:=I0 a;obtain⟨n,c⟩:=Af a.length;obtain⟨s,d⟩:=Af (Di a);rw[c]at f b⊢;rw[d]at f⊢
 rcases(show n<1\/(¬n<1/\64<n)\/(¬n<1/\¬64<n) by omega)with g|⟨g,l⟩|⟨g,l⟩
 ·have h:Z ((s.size:Int)<1)=Bd:=jG Ω;have i:s.size<1:=Ω;have j:s.size=0:=Ω;rw[jN Ω];clear c d b
  go_enter CE,B3
  go_wp2_with fail;go_ret;exact⟨rfl,rfl⟩
 ·have h:Z ((s.size:Int)<1)=Y:=jH Ω;have i:¬s.size<1:=Ω;have j:¬s.size=0:=Ω;have m:Z ((s.size:Int)>64)=Bd:=jG Ω;have o:64<s.size:=Ω;rw[jN Ω];clear c d b
  go_enter CE,B3
  go_wp2_with fail;go_ret;exact⟨rfl,rfl⟩
 ·have h:Z ((s.size:Int)<1)=Y:=jH Ω;have i:¬s.size<1:=Ω;have j:¬s.size=0:=Ω;have m:Z ((s.size:Int)>64)=Y:=jH Ω;have o:¬64<s.size:=Ω;rw[jP Ω];clear c d b
  go_enter CE,B3
  go_wp2_with fail;go_ret;exact⟨rfl,rfl⟩
theorem IB{o:BA}(h:Aa E f i [l,x,z,A,B,C,D,o])(b c d e g j m n:BA):∃a,((((((((E.setCell ⟨f,0,Ax⟩ b).setCell ⟨f,1,Ax⟩ c).setCell ⟨f,2,Ax⟩ d).setCell ⟨f,3,Ax⟩ e).setCell ⟨f,4,Ax⟩ g).setCell ⟨f,5,Ax⟩ j).setCell ⟨f,6,Ax⟩ m).setCell ⟨f,7,Ax⟩ n)=a/\Aa a f i [b,c,d,e,g,j,m,n]/\Ac (λk=>k=f) E a:=
 ⟨_,rfl,((((((((h.setCell 0 _).setCell 1 _).setCell 2 _).setCell 3 _).setCell 4 _).setCell 5 _).setCell 6 _).setCell 7 _),((((((((Ay _ _ _ _).trans (Ay _ _ _ _)).trans (Ay _ _ _ _)).trans (Ay _ _ _ _)).trans (Ay _ _ _ _)).trans (Ay _ _ _ _)).trans (Ay _ _ _ _)).trans (Ay _ _ _ _))⟩
theorem Yb(w:A2):
  Bs A4 20 #[] w λe g=>e=A5 (CV #[J O 140,J O 96,J O 5,J O 4,J O 5,J O 3,J O 8,J Bx 7])/\w.grownBy g Ax:=by
 obtain⟨h,i,b,a⟩:=An w 37 [J O 0,J O 0,J O 0,J O 0,J O 0,J O 0,J O 0,J Bx 0];have k:=a.v 0;have l:=a.m 0;have m:=a.v 1;have n:=a.m 1;have o:=a.v 2;have q:=a.m 2;have r:=a.v 3;have s:=a.m 3;have t:=a.v 4;have u:=a.m 4;have v:=a.v 5;have x:=a.m 5;have y:=a.v 6;have z:=a.m 6;have A:=a.v 7;have B:=a.m 7;obtain⟨C,D,c,d⟩:=IB a (J O 140) (J O 96) (J O 5) (J O 4) (J O 5) (J O 3) (J O 8) (J Bx 7);have f:=zh (AA c (Ac.u b d (λj e=>by rw[e];exact jF _)));clear c d a b
 go_enter Tryz.func20,Tryz.ntmps20
 go_wp2_with fail;exact BL (B5 (p:=0) (ty:=37) rfl _ _ w.heap.size _ _ _ _ rfl f.o.1 BX rfl Φ) rfl ⟨rfl,f.o.2⟩
theorem Zd(c d f g h i k l:Int)(w:A2):
  Bs A4 9 #[CV #[J O c,J O d,J O f,J O g,J O h,J O i,J O k,J Bx l]] w λe u=>e=A5 (CV #[J O c,J O d,J O f,J O g,J O h,J O i,J O k,J Bx l])/\w.grownBy u Ax:=by
 obtain⟨n,v,o,q⟩:=An w 24 [J O c,J O d,J O f,J O g,J O h,J O i,J O k,J Bx l];obtain⟨x,y,m,a⟩:=An n 37 [J O 0,J O 0,J O 0,J O 0,J O 0,J O 0,J O 0,J Bx 0];have b:=q.u m Δ;have z:=b.m 0;have A:=b.m 1;have B:=b.m 2;have C:=b.m 3;have D:=b.m 4;have E:=b.m 5;have F:=b.m 6;have G:=b.m 7;have H:=a.v 0;have I:=a.m 0;have K:=a.v 1;have L:=a.m 1;have M:=a.v 2;have N:=a.m 2;have P:=a.v 3;have Q:=a.m 3;have R:=a.v 4;have S:=a.m 4;have T:=a.v 5;have U:=a.m 5;have V:=a.v 6;have W:=a.m 6;have X:=a.v 7;have Y:=a.m 7;obtain⟨Z,aa,r,s⟩:=IB a (J O c) (J O d) (J O f) (J O g) (J O h) (J O i) (J O k) (J Bx l);have t:=zh (AA r (Ab o (Ac.u m s (λj e=>by rw[e];exact jF _))));clear r s a m q o b
 go_enter Tryz.func9,Tryz.ntmps9
 go_wp2_with fail;exact BL (B5 (p:=2) (ty:=37) rfl _ _ n.heap.size _ _ _ _ rfl t.o.1 BX rfl Φ) rfl ⟨rfl,t.o.2⟩
end
section
open Go Go.RowKit
attribute [local go_sem ↓] Go.wp_at_zero Go.wp_at_succ
def CD(k:Int):Nat:=(k%10).toNat
theorem aY(k:Int):(k.tmod 10+10).tmod 10=(CD k:Int):=by
 unfold CD;have a:0<=k%10:=Int.emod_nonneg _ Ω;have c:k%10<10:=Int.emod_lt_of_pos _ Ω;rw[Int.toNat_of_nonneg a]
 rcases Int.lt_or_le k 0 with h|h
 ·have b:k.tmod 10= -((-k)%10):=by
   rw[show k= -(-k) by omega,Int.neg_tmod,kP Ω];rw[Int.neg_neg]
  rw[b,kP Ω];omega
 ·rw[kP h,kP Ω];omega
theorem Er(k n:Int)(a b:ByteArray)(_h: -9223372036854775808<=k/\k<=9223372036854775807)(w:A2):
  Bs A4 12 #[CV #[J O k,J O n,Bk a,Bk b]] w λe i=>e=A5 (J O (CD k:Nat))/\w.grownBy i Ax:=by
 obtain⟨p,q,c,d⟩:=An w 48 [J O k,J O n,Bk a,Bk b];have r:=d.m 0;have f:=aY k
 have j: -10<k.tmod 10/\k.tmod 10<10:=by
  have s:=Int.tmod_lt_of_pos k (show(0:Int)<10 by omega);have t:=Int.lt_tmod_of_pos k (show(0:Int)<10 by omega);omega
 have g:BD (k.tmod 10+10)=k.tmod 10+10:=A3 _ Ω;have l:=zh c;have m:=zh f;have o:=zh g;clear c d _h j f g
 go_enter Tryz.func12,Tryz.ntmps12
 go_wp2_with fail;rw[o.o,m.o];go_ret;exact⟨rfl,l.o⟩
abbrev GZ(t a b:Nat)(c:BitVec 64)(d:BA)(e:Nat):BA:=CV #[J O t,J O a,J O b,J Bx (U c),d,J O e]
abbrev PK(t a b:Nat)(c:BitVec 64)(d:BA)(e:Nat):List BA:=[J O t,J O a,J O b,J Bx (U c),d,J O e]
theorem Sa(t g h:Nat)(i:BitVec 64)(j:Option B6)(k l m:Nat)(c:t<=281474976710656)(n:Int)(w:A2):
  Bs A4 17 #[GZ t g h i (V j k l) m,J O n] w λe r=>e=A5 (J O (if n<0\/281474976710656<(t:Int)+n then 2 else 0))/\w.grownBy r Ax:=by
 obtain⟨v,x,o,p⟩:=An w 41 (PK t g h i (V j k l) m);have y:=p.m 0;have d:=zh o;clear o p
 have s:BD (281474976710656 - (t:Int))=((281474976710656 - t:Nat):Int):=by rw[A3 _ Ω];omega
 obtain⟨M,b⟩:=Af (281474976710656 - t);rw[b]at s
 rcases(show n<0\/(¬n<0/\(M:Int)<n)\/(¬n<0/\¬(M:Int)<n) by omega)with a|⟨a,f⟩|⟨a,f⟩
 ·have q:Z (n<0)=Bd:=jG a;rw[jP (BE a)];clear b c
  go_enter CB,B0
  go_wp2_with fail;go_ret;exact⟨rfl,d.o⟩
 ·have q:Z (n<0)=Y:=jH a;have u:Z (n>(M:Int))=Bd:=jG f;rw[jP (BB Ω)];clear b c
  go_enter CB,B0
  go_wp2_with fail;go_ret;exact⟨rfl,d.o⟩
 ·have q:Z (n<0)=Y:=jH a;have u:Z (n>(M:Int))=Y:=jH f;rw[jN Ω];clear b c
  go_enter CB,B0
  go_wp2_with fail;go_ret;exact⟨rfl,d.o⟩
end
section
open Go Go.RowKit
attribute [local go_sem ↓] Go.wp_at_zero Go.wp_at_succ
structure Dk where
 k:Int
 n:Int
 aO:ByteArray
 val:ByteArray
def Dk.af:Dk:=⟨0,0,⟨#[]⟩,⟨#[]⟩⟩
instance:Inhabited Dk:=⟨Dk.af⟩
def Dk.cells(x:Dk):List BA:=[J O x.k,J O x.n,Bk x.aO,Bk x.val]
def Jq(l:List Dk):List BA:=l.flatMap Dk.cells
theorem QD(a:List Dk)(i:Nat)(x:Dk)(b:a[i]?=A6 x):(Jq a)[i*4]?=A6 (J O x.k)/\(Jq a)[i*4+1]?=A6 (J O x.n)/\(Jq a)[i*4+2]?=A6 (Bk x.aO)/\(Jq a)[i*4+3]?=A6 (Bk x.val):=
 ⟨Dd Dk.cells 4 (λ_=>rfl) a i 0 _ b Ω,Dd Dk.cells 4 (λ_=>rfl) a i 1 _ b Ω,Dd Dk.cells 4 (λ_=>rfl) a i 2 _ b Ω,Dd Dk.cells 4 (λ_=>rfl) a i 3 _ b Ω⟩
def Ev(x:Dk):Bool:=Z (x.aO.size<=100)&&Z (x.val.size<=400)
def Hp(l:List Dk)(a:Nat):Bool:=Z (l.length<=a)&&l.all Ev
theorem Ri(l:List Dk)(d:Nat)(A:d<=1000000)(n:Nat)(t:l.length=n)(a:Option B6)(c:Nat)(w:A2)(h:Ag w 4 (V a n c) n (Jq l)):
  Bs A4 6 #[V a n c,J O d] w λe Q=>e=A5 (BC (Hp l d))/\w=Q:=by
 by_cases u:d<n
 ·have s:Z ((n:Int)>(d:Int))=Bd:=jG Ω;have B:Z (d<n)=Bd:=jG u;rw[show Hp l d=Y by unfold Hp;rw[jH Ω,Bool.false_and]];clear h t A
  go_enter C0,CL
  go_wp2_with fail;go_ret;exact⟨rfl,rfl⟩
 ·have s:Z ((n:Int)>(d:Int))=Y:=jH Ω;have B:Z (d<n)=Y:=jH u
  have C:Hp l d=l.all Ev:=by unfold Hp;rw[jG Ω,nk]
  rw[C];have R:=zh h;have D:=zh t;have S:=zh (show n<=1000000 by omega);clear h t A C u
  go_enter C0,CL
  go_wp2_with fail;clear s B
  go_loopg [5] n (λk i wr=>i=J O (n - k:Nat)/\k<=n/\wr=w/\l.all Ev=(l.drop (n - k)).all Ev)
  case atStart=>exact⟨Δ,jF _,rfl,by rw[lJ];rfl⟩
  case round=>
   obtain⟨rfl,E,rfl,j⟩:=hrel
   by_cases F:gk=0
   ·subst F;rw[lW]at j⊢;have s:Z ((n:Int)<(n:Int))=Y:=Δ;have T:=zh (show l.all Ev=Bd by rw[j,lR (by rw[D.o];exact jF _)];rfl);clear E j;go_wp2_with fail;go_ret;exact⟨by rw[T.o];exact rfl,rfl⟩
   ·obtain⟨i,G⟩:=Af (n - gk);rw[G]at j⊢;have U:i<n:=Ω;have s:Z ((i:Int)<(n:Int))=Bd:=jG Ω;obtain⟨x,v⟩:∃x,l[i]?=A6 x:=⟨_,jK (by rw[D.o];exact U)⟩;obtain⟨b,o,rfl,y⟩:=R.o.bA Ω;obtain⟨W,X,H,I⟩:=QD l i x v;have K:=y _ _ H;have L:=y _ _ I;simp only[<-kO]at K L
    have M:l.drop i=x::l.drop (i+1):=by
     obtain⟨aa,rfl⟩:=jL.1 v;exact mY aa
    have z:=zh (show l.all Ev=(Ev x&&(l.drop (i+1)).all Ev) by rw[j,M];rfl);have p:Hd (i+1=n - (gk - 1)/\gk - 1<=n/\gk - 1<gk/\i<1000000):=zh (Ψ S.o);have ab:Hd (BD ((i:Int)+1)=((i+1:Nat):Int)):=zh (by rw[A3 _ (Ψ p.o.2.2.2)];omega);obtain⟨xk,xn,f,m⟩:=x;dsimp only at K L;clear y W X H I M v G E F j
    rcases(show¬f.size<=100\/(f.size<=100/\¬m.size<=400)\/(f.size<=100/\m.size<=400) by omega)with g|⟨g,q⟩|⟨g,q⟩
    ·have N:Z ((f.size:Int)>100)=Bd:=jG Ω;have P:100<f.size:=Ω;have r:=zh (show l.all Ev=Y by rw[z.o];unfold Ev;dsimp only;rw[jH g];rfl);clear g;go_wp2_with fail;go_ret;exact⟨by rw[r.o];exact rfl,rfl⟩
    ·have N:Z ((f.size:Int)>100)=Y:=jH Ω;have P:¬100<f.size:=Ω;have t3:Z ((m.size:Int)>400)=Bd:=jG Ω;have t4:400<m.size:=Ω;have r:=zh (show l.all Ev=Y by rw[z.o];unfold Ev;dsimp only;rw[jH q,pD];rfl);clear g q;go_wp2_with fail;go_ret;exact⟨by rw[r.o];exact rfl,rfl⟩
    ·have N:Z ((f.size:Int)>100)=Y:=jH Ω;have P:¬100<f.size:=Ω;have t3:Z ((m.size:Int)>400)=Y:=jH Ω;have t4:¬400<m.size:=Ω;have r:=zh (show l.all Ev=(l.drop (i+1)).all Ev by rw[z.o];unfold Ev;dsimp only;rw[jG g,jG q];rfl);clear g q;go_wp2_with fail
     go_roundg (gk - 1)
     case measure=>exact p.o.2.2.1
     exact⟨by rw[<-p.o.1,ab.o],p.o.2.1,rfl,by rw[<-p.o.1];exact r.o⟩
structure AQ where
 aO:ByteArray
 val:ByteArray
 cq:Bool
 en:Nat
 wh:Nat
 lo:Nat
def AQ.cells(x:AQ):List BA:=[Bk x.aO,Bk x.val,BC x.cq,J O x.en,J O x.wh,J O x.lo,BC Y]
def Cw(l:List AQ):List BA:=l.flatMap AQ.cells
theorem JJ(a:List AQ)(i:Nat)(x:AQ)(b:a[i]?=A6 x):(Cw a)[i*7]?=A6 (Bk x.aO)/\(Cw a)[i*7+1]?=A6 (Bk x.val)/\(Cw a)[i*7+2]?=A6 (BC x.cq)/\(Cw a)[i*7+3]?=A6 (J O x.en)/\(Cw a)[i*7+4]?=A6 (J O x.wh)/\(Cw a)[i*7+5]?=A6 (J O x.lo)/\(Cw a)[i*7+6]?=A6 (BC Y):=
 ⟨Dd AQ.cells 7 (λ_=>rfl) a i 0 _ b Ω,Dd AQ.cells 7 (λ_=>rfl) a i 1 _ b Ω,Dd AQ.cells 7 (λ_=>rfl) a i 2 _ b Ω,Dd AQ.cells 7 (λ_=>rfl) a i 3 _ b Ω,Dd AQ.cells 7 (λ_=>rfl) a i 4 _ b Ω,Dd AQ.cells 7 (λ_=>rfl) a i 5 _ b Ω,Dd AQ.cells 7 (λ_=>rfl) a i 6 _ b Ω⟩
def Hf(a b:ByteArray):Bool:=a.toList==b.toList
def Dq(l:List AQ)(a:ByteArray):Nat->Option Nat
 |0=>Ax
 |k+1=>match l[k]? with
  |some x=>if Hf x.aO a then A6 k else Dq l a k
  |none=>Dq l a k
def Jr:Option Nat->Int
 |some i=>i
 |none=> -1
theorem Sx(t v y:Nat)(z:BitVec 64)(l:List AQ)(n:Nat)(A:l.length=n)(B:n<=1000000)(g:Option B6)(j C:Nat)(a:ByteArray)(w:A2)(h:Ag w 7 (V g n j) n (Cw l)):
  Bs A4 54 #[GZ t v y z (V g n j) C,Bk a] w λe M=>e=A5 (J O (Jr (Dq l a n)))/\w.grownBy M Ax:=by
 obtain⟨N,P,m,p⟩:=An w 41 (PK t v y z (V g n j) C);have Q:=p.m 4;have D:=zh m;have R:=zh (h.u m Δ);have E:=zh (AA A B);have F:BD ((n:Int) - 1)=(n:Int) - 1:=A3 _ Ω;have S:=zh p;have T:=zh F;clear h A B m p F
 go_enter Tryz.func54,Tryz.ntmps54
 go_wp2_with fail;clear P
 go_loopg [5] n (λk i wr=>i=J O ((k:Int) - 1)/\k<=n/\wr=N/\Dq l a n=Dq l a k)
 case atStart=>exact⟨by rw[T.o],jF _,rfl,rfl⟩
 case round=>
  obtain⟨rfl,G,rfl,d⟩:=hrel
  by_cases H:gk=0
  ·subst H;have f:=zh (show Jr (Dq l a n)= -1 by rw[d];rfl);have U:Z ((((0:Nat):Int) - 1)≥0)=Y:=Ξ;have d2:Z ((-1:Int)≥0)=Y:=Ξ;clear G d;go_wp2_with fail;go_ret;exact⟨by rw[f.o];exact rfl,D.o⟩
  ·obtain⟨i,W⟩:=Af (gk - 1);have I:(gk:Int) - 1=(i:Int):=Ω;have K:gk=i+1:=Ω;rw[I];have X:i<n:=Ω;obtain⟨x,q⟩:∃x,l[i]?=A6 x:=⟨_,jK (by rw[E.o.1];exact X)⟩;obtain⟨b,o,rfl,L⟩:=R.o.bA Ω;have e0:=L _ _ (JJ l i x q).1;have U:Z ((i:Int)≥0)=Bd:=jG Ω;have r:Hd (i<=n/\i<gk/\i<1000000):=zh (Ψ E.o.2);have f:=zh (show Dq l a n=if Hf x.aO a then A6 i else Dq l a i by rw[d,K];show(match l[i]? with|some x=>_|none=>_)=_;rw[q]);have Q:=S.o.m 4;have ab:Hd (BD ((i:Int) - 1)=(i:Int) - 1):=zh (A3 _ (Ψ r.o.2.2));obtain⟨s,xv,xg,xe,xw,xl⟩:=x;dsimp only at e0;clear L q W I K G H d
   cases c:Hf s a
   ·have t1:(s.toList==a.toList)=Y:=c;have u:=zh (show Dq l a n=Dq l a i by rw[f.o];dsimp only;rw[c];rfl);clear c;go_wp2_with fail
    go_roundg i
    case measure=>exact r.o.2.1
    exact⟨by rw[ab.o],r.o.1,rfl,u.o⟩
   ·have t1:(s.toList==a.toList)=Bd:=c;have u:=zh (show Jr (Dq l a n)=(i:Int) by rw[f.o];dsimp only;rw[c];rfl);clear c;go_wp2_with fail;go_ret;exact⟨by rw[u.o];exact rfl,D.o⟩
def F8(t:Nat)(x:AQ):Bool:=Z (x.en≠0/\x.en<=t)
theorem QW(t q r:Nat)(s:BitVec 64)(l:List AQ)(n:Nat)(u:l.length=n)(v:n<=1000000)(d:Option B6)(f y i:Nat)(x:AQ)(g:l[i]?=A6 x)(w:A2)(h:Ag w 7 (V d n f) n (Cw l)):
  Bs A4 55 #[GZ t q r s (V d n f) y,J O i] w λe C=>e=A5 (BC (F8 t x))/\w.grownBy C Ax:=by
 have D:i<n:=by rw[<-u];exact(jL.1 g).1
 obtain⟨H,I,j,k⟩:=An w 41 (PK t q r s (V d n f) y);obtain⟨b,o,rfl,z⟩:=(h.u j Δ).bA Ω;have A:=z _ _ (JJ l i x g).2.2.2.1;simp only[<-kO]at A;have K:=k.m 0;have L:=k.m 4;have m:=zh j;have M:=zh (AA D v);have N:Z ((i:Int)<(n:Int))=Bd:=jG Ω;obtain⟨P,Q,R,a,S,T⟩:=x;dsimp only at A;unfold F8;dsimp only;clear h z g j k u v
 by_cases p:a=0
 ·subst p;rw[jH (show¬(0≠0/\0<=t) by omega)]
  go_enter B7,BZ
  go_wp2_with fail
  go_quiet (fail)
  go_wp2_with fail;go_ret;exact⟨rfl,Ab m.o (AZ _ nq Ax)⟩
 ·have E:(((a:Nat):Int)==0)=Y:=by simp;omega
  have U:¬a=0:=p
  have B:(((a:Nat):Int)!=0)=Bd:=by rw[bne,E];rfl
  by_cases c:a<=t
  ·have F:Z ((a:Int)<=(t:Int))=Bd:=jG Ω;have G:Z (a<=t)=Bd:=jG c;rw[jG (show a≠0/\a<=t from⟨p,c⟩)]
   go_enter B7,BZ
   go_wp2_with fail
   go_quiet (fail)
   go_wp2_with fail
   try rw[B]
   go_ret;exact⟨rfl,Ab m.o (AZ _ nq Ax)⟩
  ·have F:Z ((a:Int)<=(t:Int))=Y:=jH Ω;have G:Z (a<=t)=Y:=jH c;rw[jH (show¬(a≠0/\a<=t)from λh=>c h.2)]
   go_enter B7,BZ
   go_wp2_with fail
   go_quiet (fail)
   go_wp2_with fail
   try rw[B]
   go_ret;exact⟨rfl,Ab m.o (AZ _ nq Ax)⟩
abbrev PM(c a b:Nat):List DP:=[⟨61,#[Ak c],#[]⟩,⟨62,#[],#[Ak a,Ak b]⟩,⟨64,#[],#[Ak a,Ak b]⟩]
structure UM(N a:Az)(h:BitVec 64):Prop where
 la:a.aw=N.aw
 bo:a.aR=N.aR
 f:∀x,a.F x=if x=h then Ax else N.F x
def Qb(N c:Az)(h:BitVec 64):Prop:=∃a b,Bj N a/\UM a b h/\Bj b c
def LW(w:A2)(d:Ae)(A:AI)(P:Pl)(q:Nat)(N:Az)(h:BitVec 64)(j:Nat)(W:A2):Prop:=
 match j with
 |0=>W=w
 |1=>∃a b,Ad Bi w d W a/\AM W a A P (q+43000) b/\Bj N b/\0<Cy P b.fr b.nx
 |2=>∃a e c,Ad Bi w d W a/\AM W a A P (q+43000+1300) c/\Bj N e/\UM e c h/\0<Cy P c.fr c.nx
 |_=>∃a b,Ad Bi w d W a/\AM W a A P (q+43000+1300+1) b/\Qb N b h
theorem LW.ag{A:AI}{N:Az}(g:AD E a)(s:LW E a A b f N d c p):∃e,Ad Bi E a p e:=by
 unfold LW at s
 split at s
 ·subst s;exact⟨a,Ad.refl g⟩
 ·obtain⟨e,_,s,_⟩:=s;exact⟨e,s⟩
 ·obtain⟨e,_,_,s,_⟩:=s;exact⟨e,s⟩
 ·obtain⟨e,_,s,_⟩:=s;exact⟨e,s⟩
theorem iv{A:AI}{N:Az}(h:AM E a A b f N)(hq:f<=1073400000)(c t q:Nat)(F:t<=281474976710656)(y:Ce E c A b t q)(z:¬Bi (a c))(m:BitVec 64)
  (i l:Nat)(G:Aa E i 31 [Ak c])(H:Aa E l 22 [J Bx (U m)])(I:¬Bi (a i))(K:¬Bi (a l))
  (r:Option B6)(u:Nat)(M:Ag E 1 (V r 3 u) 3 ((PM c i l).map DP.val))(P:∀k,(V r 3 u).ownBlock=A6 k->¬Bi (a k)):
  Bs A4 34 #[V r 3 u] E λe n=>e=A5 (J O 0)/\LW E a A b f N m 3 n:=by
 refine(K5 r u (PM c i l) (LW E a A b f N m) E (show 3<=10 by omega) ?_ ?_ ?_ rfl).mono ?_
 ·rintro j W d;obtain⟨v,s⟩:=d.ag h.cl;exact s.aN M P
 ·intro x L ah W;simp only[kZ,lY,oD]at L
  rcases L with rfl|rfl|rfl<;>rfl
 ·rintro j x w W d;have ai:j<3:=(jL.1 w).1
  rcases j with _|_|_|j
  ·obtain rfl:=jV w;obtain rfl:W=E:=d;refine(Si h Ω c t q F y z).mono ?_;rintro e n ⟨rfl,v,B,s,p,g,o⟩;exact⟨rfl,v,B,s,p,g,o⟩
  ·obtain rfl:=jV w;obtain⟨v,B,s,p,g,o⟩:=d;refine(Zy p Ω c t q (y.ag s z) m i l (s.y G I) (s.y H K)).mono ?_;rintro e n ⟨rfl,C,D,Q,R,S,T,X,Y,Z⟩;exact⟨rfl,C,B,D,s.trans Q,R,g,⟨S,T,Z⟩,by rw[X,Y];exact o⟩
  ·obtain rfl:=jV w;obtain⟨v,N1,D,s,p,g,dg,o⟩:=d;refine(YY p Ω o c t q F (y.ag s z) m i l (s.y G I) (s.y H K)).mono ?_;rintro e n ⟨rfl,C,N3,s3,p3,g3⟩;exact⟨rfl,C,N3,s.trans s3,p3,N1,D,g,dg,g3⟩
  ·omega
 ·rintro e n ⟨rfl,d⟩;exact⟨rfl,d⟩
theorem XI{A:AI}(h:Ce E f A b c g)(a:Nat)(i:Option B6)(j:Nat)(k:a<1\/64<a)(l:a<=Bn):
  Bs A4 22 #[Ak f,V i a j] E λe n=>e=A5 (J O 10)/\E.grownBy n Ax:=by
 obtain⟨o,t,d,m⟩:=An E 31 [Ak f];have p:=zh (Fg (h.u d));have q:=zh (Sr a i j k l o);have u:=m.m 0;have r:=zh d;clear h k l d m
 go_enter CR,CK
 go_wp2_with fail;refine p.o.mono ?_;rintro e s ⟨rfl,rfl⟩;go_wp2_with fail;refine q.o.mono ?_;rintro e s ⟨rfl,rfl⟩;go_wp2_with fail;go_ret;exact⟨rfl,r.o⟩
def TF(w:A2)(e:Ae)(c:Nat)(A:AI)(P:Pl)(q t f:Nat)(N:Az)(h:BitVec 64)(a:A2):Prop:=
 ∃b d,Ad Eh w e a b/\Ca a b c A P (q+50000) t f d/\Qb N d h
theorem VC{A:AI}{N:Az}(h:Ca E a f A b j c g N)(Z:j<=1073400000)(p:List Nat)(l:Nat)(C:p.length=l)(t:Option B6)(u:Nat)(aa:1<=l)(ab:l<=64)(ac:∀x∈p,x<256)(ad:Ag E 1 (V t l u) l (Ar p))(m:BitVec 64)(ae:Co b.aK p=m):
  Bs A4 22 #[Ak f,V t l u] E λe w'=>e=A5 (J O 0)/\TF E a f A b j c g N m w':=by
 obtain⟨w1,aC,q,D⟩:=An E 31 [Ak f];have HR:=zh (Fg (h.u q).b);have HN:=zh (Rp l t u aa ab w1);have F:=Mr (h.u q).b p t u ac (by rw[C];exact ad.u q Δ);rw[C,ae]at F;have HH:=zh F;have k0:=D.m 0;have G1:=zh q;have B1:=zh D;have H:=zh h;have HQ:=zh Z;clear C aa ab ac ad ae F q D h Z
 go_enter CR,CK
 go_wp2_with fail;refine HR.o.mono ?_;rintro e w0 ⟨rfl,rfl⟩;go_wp2_with fail;refine HN.o.mono ?_;rintro e w0 ⟨rfl,rfl⟩;go_wp2_with fail;refine HH.o.mono ?_;rintro e i ⟨rfl,v⟩;clear HH HN HR aC k0;obtain⟨w3,aH,g3,w⟩:=An i 22 [J Bx 0];obtain⟨y,G⟩:=Af (w3.setCell ⟨i.heap.size,0,Ax⟩ (J Bx (U m)));have I:=w.setCell 0 (J Bx (U m));rw[G]at I;have f0:=w.v 0;have v0:=w.m 0;have K:=Ac.u g3 (show Ac (λal=>al=i.heap.size) w3 y by rw[<-G];exact Ay _ _ _ _) (λal e=>by rw[e];exact jF _);have L:=zh (Ab G1.o (Ab v K));have M:=zh (B1.o.u (Ab v K) Δ);have Y4:=zh (show Aa y i.heap.size 22 [J Bx (U m)]from I);have Z4:Hd (E.heap.size<=i.heap.size):=zh (Ab G1.o v).size;clear v g3 w I K;go_wp2_with fail;clear aH G f0 v0;refine Dc (λW=>W.cell? ⟨E.heap.size,0,Ax⟩=A6 (Ak f)) [([0,1,2,3,4],5,Bd),([],6,Bd),([],7,Y),([],8,Y)] Φ Φ ?_;obtain⟨P,am,g5⟩:=AP y;rw[am];have Q:=zh g5;clear am g5;have X0:=zh (λ(W:A2) (aM:y.grownBy W Ax)=>(M.o.u aM Δ).m 0);refine Cc (X0.o _ Q.o) ?_
 repeat(apply AC rfl Θ;(· intro wS R;(try have R:=R rfl);(try dsimp only at R);go_simp;(try with_reducible rfl));refine Al ?_)
 refine Aj ?_;refine AE rfl (λn d=>?_);go_simp;obtain⟨w6,ap,g6,b6⟩:=An P 95 [BR (.func 61) #[Ak f] #[],BR (.func 62) #[] #[Ak E.heap.size,Ak i.heap.size],BR (.func 64) #[] #[Ak E.heap.size,Ak i.heap.size]];rw[ap];have o:=zh (Ab Q.o g6);have au:Ag w6 1 (V (A6 ⟨P.heap.size,0,Ax⟩) 3 3) 3 ((PM f E.heap.size i.heap.size).map DP.val):=Ag.bq b6 rfl (by unfold Bn;omega);have r:=zh (H.o.u (Ab L.o o.o));have av:E.heap.size<=P.heap.size:=(Ab L.o Q.o).size;have z:=H.o.p.cl;have aw:=zh (iv r.o.p HQ.o f c g r.o.t r.o.b r.o.hc m E.heap.size i.heap.size (M.o.u o.o Δ) (Y4.o.u o.o Δ) (by rw[z _ (jF _)];exact DR) (by rw[z _ Z4.o];exact DR) _ 3 au (λk hk=>by cases hk;rw[z _ av];exact DR));refine d _ _ ⟨λ_=>X0.o _ o.o,?_⟩;clear d n ap g6 b6 au av z;refine Bt ?_;refine AE rfl (λn d=>?_);go_simp;refine aw.o.mono ?_;rintro e w7 ⟨rfl,c7,N7,B,p7,dg⟩;dsimp only;have S:=zh (r.o.next B p7);have aR:=zh ((Ad.u H.o.p.cl (Ab L.o o.o)).trans B);have DG:=zh dg;have aT:=(B.y (M.o.u o.o Δ) (by rw[H.o.p.cl _ (jF _)];exact DR)).m 0;clear aw B p7 dg;refine d _ _ ⟨λ_=>aT,?_⟩;clear d n;refine Bt ?_;refine AE rfl (λn d=>?_);go_simp;refine(Io S.o.p f c g S.o.b 3 Ω).mono ?_;rintro e w8 ⟨rfl,T,p8⟩;dsimp only;have s:=S.o.next T p8;have aV:=zh (show TF E a f A b j c g N m w8 from⟨c7,N7,(aR.o.trans T).mono IN,⟨s.p.mono Ω,s.b,s.c,s.t⟩,DG.o⟩);clear T p8 s;refine d _ _ ⟨λX=>(by cases X),?_⟩;clear d n;refine Bt ?_;refine AE rfl (λn d=>?_);go_simp;refine d _ _ ⟨λX=>(by cases X),?_⟩;refine De (A7 ?_);clear d n;go_wp2_with fail;go_ret;exact⟨rfl,aV.o⟩
def Eu(P:Pl)(t k v:Nat)(n:Int):Int:=if CG k v 0≠0 then CG k v 0 else if n<0\/281474976710656<(t:Int)+n then 2 else if P.aA<13+k+v then 9 else 0
theorem cV{a:Option B6}(h:E.ownsRow g i j (V a f c) q k):f<=c:=by
 rcases h.2 with⟨i,_⟩|⟨e,l,m,i,_,_,n,_⟩
 ·injection i with _ b d;omega
 ·injection i with _ b d;omega
theorem ei{A:AI}{N:Az}(h:Ca E a f A b c g j N)(z B:List Nat)(l o:Option B6)(m p d i:Nat)(_W:z.length=d)(_X:B.length=i)(C:d<=Bn)(D:i<=Bn)(_Z:Ag E 1 (V l d m) d (Ar z))(_aa:Ag E 1 (V o i p) i (Ar B))(ab:Int)
  (q:CG d i 0≠0):
  Bs A4 27 #[Ak f,V l d m,V o i p,J O ab] E λe w'=>e=A5 (J O (CG d i 0))/\E.grownBy w' Ax:=by
 obtain⟨w1,ae,F,u⟩:=An E 31 [Ak f];obtain⟨G,af,r,v⟩:=An w1 64 [V l d m];obtain⟨w3,ag,I,k⟩:=An G 136 [V Ax 0 0,V Ax 0 0,J O 0];obtain⟨w4,ai,n,K⟩:=Bq k (V l d m) (V o i p) (J O 0);have s:=Ab F r;have t:=Ac.u I K (λw e=>by rw[e];exact jF _);have G4:=zh (Ab s t);have HZ:Hd (E.heap.size<=G.heap.size):=zh s.size;have B1:=zh ((u.u r Δ).u t Δ);have B2:=zh (v.u t Δ);have B4:=zh n;have HR:=zh (Fg (h.u s).b);have H:=zh h;have k0:=(u.u r Δ).m 0;have k1:=v.m 0;have L:=k.v 0;have f1:=k.v 1;have f2:=k.v 2;have M:=k.m 0;have v1:=k.m 1;have v2:=k.m 2;have x0:=n.m 0;have x1:=n.m 1;have x2:=n.m 2;have P:=zh (dV d i l o m p 0 w4 C D q);obtain⟨aw,Q⟩:=Af (CG d i 0);rw[Q]at P q⊢
 have d1:(aw==0)=Y:=by simpa using q
 clear h F r I u v k n K s t _W _X C D _Z _aa q Q
 go_enter pT,pt
 go_wp2_with fail;refine HR.o.mono ?_;rintro e w0 ⟨rfl,rfl⟩;go_wp2_with fail;refine P.o.mono ?_;rintro e x ⟨rfl,R⟩;clear ae af ag ai k0 k1 L f1 f2 M v1 v2 x0 x1 x2;obtain⟨S,aH,T,y⟩:=An x 64 [V Ax 0 0];obtain⟨w7,ay⟩:=Af (S.setCell ⟨x.heap.size,0,Ax⟩ (V Ax 0 0));have L:=y.v 0;have M:=y.m 0;have U:=Ac.u T (show Ac (λw=>w=x.heap.size) S w7 by rw[<-ay];exact Ay _ _ _ _) (λw e=>by rw[e];exact jF _);have az:=zh (Ab (Ab G4.o R) U);clear R T y U;go_wp2_with fail;go_ret;exact⟨rfl,az.o⟩
theorem ZV{A:AI}{N:Az}(h:Ca E a f A b c g j N)(y z:List Nat)(l o:Option B6)(m p d i:Nat)(B:y.length=d)(C:z.length=i)(_ak:d<=Bn)(_al:i<=Bn)(L:Ag E 1 (V l d m) d (Ar y))(M:Ag E 1 (V o i p) i (Ar z))(D:Int)
  (am:1<=d)(an:d<=64)(ao:i<=4096)(P:D<0):
  Bs A4 27 #[Ak f,V l d m,V o i p,J O D] E λe w'=>e=A5 (J O 2)/\E.grownBy w' Ax:=by
 obtain⟨w1,ar,Q,F⟩:=An E 31 [Ak f];obtain⟨R,au,q,G⟩:=An w1 64 [V l d m];obtain⟨w3,av,S,k⟩:=An R 136 [V Ax 0 0,V Ax 0 0,J O 0];obtain⟨w4,ax,n,T⟩:=Bq k (V l d m) (V o i p) (J O 0);have r:=Ab Q q;have s:=Ac.u S T (λI e=>by rw[e];exact jF _);have t:=zh (Ab r s);have HZ:Hd (E.heap.size<=R.heap.size):=zh r.size;have B1:=zh ((F.u q Δ).u s Δ);have B2:=zh (G.u s Δ);have B4:=zh n;have HR:=zh (Fg (h.u r).b);have H:=zh h;have U:=(F.u q Δ).m 0;have k1:=G.m 0;have W:=k.v 0;have f1:=k.v 1;have f2:=k.v 2;have X:=k.m 0;have v1:=k.m 1;have v2:=k.m 2;have x0:=n.m 0;have x1:=n.m 1;have x2:=n.m 2;have u:=KO y z 0 l o m p w4 Ω Ω Ω Ω (by rw[B];exact L.u t.o Δ) (by rw[C];exact M.u t.o Δ);rw[B,C]at u;obtain⟨Y,aa⟩:=Af (13+d+i);rw[aa]at u;have ab:=zh u;have d1:Z (D<0)=Bd:=jG P;clear h Q q S F G k n T r s B C _ak _al L M am an ao P u aa
 go_enter pT,pt
 go_wp2_with fail;refine HR.o.mono ?_;rintro e w0 ⟨rfl,rfl⟩;go_wp2_with fail;refine ab.o.mono ?_;rintro e v ⟨aP,cP,rfl,o5,w⟩;clear ab U k1 W f1 f2 X v1 v2 x0 x1 x2 ar au av ax;obtain⟨w6,aS,g6,x⟩:=An v 64 [V Ax 0 0];obtain⟨w7,ag⟩:=Af (w6.setCell ⟨v.heap.size,0,Ax⟩ (V aP Y cP));have W:=x.v 0;have X:=x.m 0;have b7:=x.setCell 0 (V aP Y cP);rw[ag]at b7;have K:=Ac.u g6 (show Ac (λI=>I=v.heap.size) w6 w7 by rw[<-ag];exact Ay _ _ _ _) (λI e=>by rw[e];exact jF _);have aK:=zh (Ab w K);have G7:=zh (Ab t.o (Ab w K));have aT:Hd (E.heap.size<=v.heap.size):=zh (Ab t.o w).size;have U:=(B1.o.u aK.o Δ).m 0;have aj:=(H.o.u G7.o).b;have kt:=Aa.ap (j:=22) aj rfl;clear w g6 x K b7 o5 aj;go_wp2_with fail;go_ret;exact⟨rfl,G7.o⟩
theorem YK{A:AI}{N:Az}(h:Ca E a c A b g f j N)(z B:List Nat)(l p:Option B6)(m q d i:Nat)(C:z.length=d)(D:B.length=i)(_an:d<=Bn)(_ao:i<=Bn)(L:Ag E 1 (V l d m) d (Ar z))(P:Ag E 1 (V p i q) i (Ar B))(n:Int)
  (ap:1<=d)(aq:d<=64)(ar:i<=4096)(Q:¬n<0)(au:281474976710656<(f:Int)+n):
  Bs A4 27 #[Ak c,V l d m,V p i q,J O n] E λe w'=>e=A5 (J O 2)/\E.grownBy w' Ax:=by
 obtain⟨w1,ax,R,F⟩:=An E 31 [Ak c];obtain⟨S,ay,r,G⟩:=An w1 64 [V l d m];obtain⟨w3,az,T,k⟩:=An S 136 [V Ax 0 0,V Ax 0 0,J O 0];obtain⟨w4,aB,o,U⟩:=Bq k (V l d m) (V p i q) (J O 0);have s:=Ab R r;have t:=Ac.u T U (λI e=>by rw[e];exact jF _);have u:=zh (Ab s t);have HZ:Hd (E.heap.size<=S.heap.size):=zh s.size;have B1:=zh ((F.u r Δ).u t Δ);have B2:=zh (G.u t Δ);have B4:=zh o;have HR:=zh (Fg (h.u s).b);have H:=zh h;have W:=(F.u r Δ).m 0;have k1:=G.m 0;have X:=k.v 0;have f1:=k.v 1;have f2:=k.v 2;have v0:=k.m 0;have v1:=k.m 1;have v2:=k.m 2;have x0:=o.m 0;have x1:=o.m 1;have x2:=o.m 2;have v:=KO z B 0 l p m q w4 Ω Ω Ω Ω (by rw[C];exact L.u u.o Δ) (by rw[D];exact P.u u.o Δ);rw[C,D]at v;obtain⟨bn,ac⟩:=Af (13+d+i);rw[ac]at v;have ad:=zh v;have ht:=h.t;have d1:Z (n<0)=Y:=jH Q
 have aN:BD (281474976710656 - (f:Int))=((281474976710656 - f:Nat):Int):=by rw[A3 _ Ω];omega
 obtain⟨M,hM⟩:=Af (281474976710656 - f);rw[hM]at aN;have d2:Z (n>(M:Int))=Bd:=jG Ω;clear h R r T F G k o U s t C D _an _ao L P ap aq ar Q au v ac ht hM
 go_enter pT,pt
 go_wp2_with fail;refine HR.o.mono ?_;rintro e w0 ⟨rfl,rfl⟩;go_wp2_with fail;refine ad.o.mono ?_;rintro e w ⟨aP,cP,rfl,o5,x⟩;clear ad W k1 X f1 f2 v0 v1 v2 x0 x1 x2 ax ay az aB;obtain⟨w6,aZ,g6,y⟩:=An w 64 [V Ax 0 0];obtain⟨w7,aj⟩:=Af (w6.setCell ⟨w.heap.size,0,Ax⟩ (V aP bn cP));have X:=y.v 0;have v0:=y.m 0;have b7:=y.setCell 0 (V aP bn cP);rw[aj]at b7;have K:=Ac.u g6 (show Ac (λI=>I=w.heap.size) w6 w7 by rw[<-aj];exact Ay _ _ _ _) (λI e=>by rw[e];exact jF _);have aR:=zh (Ab x K);have G7:=zh (Ab u.o (Ab x K));have a0:Hd (E.heap.size<=w.heap.size):=zh (Ab u.o x).size;have W:=(B1.o.u aR.o Δ).m 0;have am:=(H.o.u G7.o).b;have kt:=Aa.ap (j:=22) am rfl;clear x g6 y K b7 o5 am;go_wp2_with fail;go_ret;exact⟨rfl,G7.o⟩
theorem dj{A:AI}{N:Az}(h:Ca E a c A b g f j N)(C D:List Nat)(l p:Option B6)(m q d i:Nat)(F:C.length=d)(G:D.length=i)(_aC:d<=Bn)(_aD:i<=Bn)(X:Ag E 1 (V l d m) d (Ar C))(aa:Ag E 1 (V p i q) i (Ar D))(ab:Int)
  (n:Nat)(aE:ab=n)(aF:1<=d)(aG:d<=64)(aH:i<=4096)(aI:f+n<=281474976710656)(aJ:b.aA<13+d+i):
  Bs A4 27 #[Ak c,V l d m,V p i q,J O ab] E λe w'=>e=A5 (J O 9)/\E.grownBy w' Ax:=by
 obtain⟨w1,aM,g1,I⟩:=An E 31 [Ak c];obtain⟨w2,aN,r,L⟩:=An w1 64 [V l d m];obtain⟨w3,aO,g3,k⟩:=An w2 136 [V Ax 0 0,V Ax 0 0,J O 0];obtain⟨w4,aR,o,t4⟩:=Bq k (V l d m) (V p i q) (J O 0);have s:=Ab g1 r;have t:=Ac.u g3 t4 (λP e=>by rw[e];exact jF _);have u:=zh (Ab s t);have HZ:Hd (E.heap.size<=w2.heap.size):=zh s.size;have B1:=zh ((I.u r Δ).u t Δ);have B2:=zh (L.u t Δ);have B4:=zh o;have HR:=zh (Fg (h.u s).b);have H:=zh h;have v:=(I.u r Δ).m 0;have k1:=L.m 0;have Q:=k.v 0;have f1:=k.v 1;have f2:=k.v 2;have R:=k.m 0;have v1:=k.m 1;have v2:=k.m 2;have x0:=o.m 0;have x1:=o.m 1;have x2:=o.m 2;subst aE;have w:=KO C D 0 l p m q w4 Ω Ω Ω Ω (by rw[F];exact X.u u.o Δ) (by rw[G];exact aa.u u.o Δ);rw[F,G]at w;obtain⟨x,ai⟩:=Af (13+d+i);rw[ai]at w;have aj:=zh w;have ht:=h.t;have a1:b.aA<=32*493:=ln h.p.a2.cQ (Ψ h.p.a2.n1);have d1:Z (((n:Nat):Int)<0)=Y:=jH Ω
 have a2:BD (281474976710656 - (f:Int))=((281474976710656 - f:Nat):Int):=by rw[A3 _ Ω];omega
 obtain⟨M,hM⟩:=Af (281474976710656 - f);rw[hM]at a2;have d2:Z (((n:Nat):Int)>(M:Int))=Y:=jH Ω;have d3:Z (M<n)=Y:=jH Ω;obtain⟨RR,am⟩:=Af b.aA;have d4:Z ((x:Int)>(RR:Int))=Bd:=jG Ω;have d5:Z (RR<x)=Bd:=jG Ω;have a3:=zh am;clear h g1 r g3 I L k o t4 s t F G _aC _aD X aa aF aG aH aI aJ w ai ht hM a1 am
 go_enter pT,pt
 go_wp2_with fail;refine HR.o.mono ?_;rintro e w0 ⟨rfl,rfl⟩;go_wp2_with fail;refine aj.o.mono ?_;rintro e y ⟨aP,cP,rfl,o5,z⟩;clear aj v k1 Q f1 f2 R v1 v2 x0 x1 x2 aM aN aO aR;obtain⟨w6,a5,g6,B⟩:=An y 64 [V Ax 0 0];obtain⟨w7,S⟩:=Af (w6.setCell ⟨y.heap.size,0,Ax⟩ (V aP x cP));have Q:=B.v 0;have R:=B.m 0;have T:=B.setCell 0 (V aP x cP);rw[S]at T;have U:=Ac.u g6 (show Ac (λP=>P=y.heap.size) w6 w7 by rw[<-S];exact Ay _ _ _ _) (λP e=>by rw[e];exact jF _);have au:=zh (Ab z U);have G7:=zh (Ab u.o (Ab z U));have bj:Hd (E.heap.size<=y.heap.size):=zh (Ab u.o z).size;have v:=(B1.o.u au.o Δ).m 0;have aw:=(H.o.u G7.o).b;have kt:=Aa.ap (j:=22) aw rfl
 go_upto_region 10 with fail
 refine AS (λ_=>True) (.am [] [0,1,2,3,4,5,6,7] 8 Y (.nil)) Φ Φ ?_;obtain⟨w8,ax,W⟩:=AP w7;rw[ax];clear a5 S Q R v kt;have G8:=zh (Ab G7.o W);have a7:=zh (Ab au.o W);have B8:=zh (T.u W Δ);have v:=(B1.o.u a7.o Δ).m 0;have k1:=B8.o.m 0;have az:=(H.o.u G8.o).b;have k2:=Aa.ap (j:=16) az rfl;rw[a3.o]at k2;clear ax az aw;refine Ap ?_
 iterate 8 refine Av ?_
 refine Aj ?_;refine Am ?_;intro K hK;refine Aq hK ?_;clear hK K;refine AG (A7 ?_);clear k2;clear z g6 B U T o5;go_wp2_with fail;go_ret;exact⟨rfl,G8.o⟩
theorem Sg(h:E.ownsRow f i g l j k)(b:c<=f):E.ownsRow c i g l j k:=by
 refine⟨h.1,?_⟩
 rcases h.2 with a|⟨d,e,m,a,n,o⟩
 ·exact BE a
 ·exact BB ⟨d,e,m,a,jM b n,o⟩
def FD(t a:Nat):Nat:=if a=0 then 0 else t+a
def Nv(w:A2)(c:Nat)(f:Option B6)(g h:Nat)(i j k a:Nat)(b:List Nat)(W:A2):Prop:=
 w.grownBy W Ax/\Aa W i 31 [Ak c]/\Aa W j 64 [V f h g]/\∃d e,Aa W k 64 [V d a e]/\W.ownsRow w.heap.size 5 1 (V d a e) a (Ar b)
def SN(w:A2)(g:Ae)(c:Nat)(A:AI)(P:Pl)(q t i:Nat)(N:Az)(h:BitVec 64)(b:List Nat)(a:A2):Prop:=
 ∃d e f,Ad Eh w g a d/\Ca a d c A P (q+120000) t f e/\Ly P N e h b i f
theorem Zl{A:AI}{N:Az}(h:Ca E a f A b g c j N)(u y:List Nat)(r va:Option B6)(s vc l z:Nat)(ai:u.length=l)(aj:y.length=z)(_cA:l<=Bn)(_cB:z<=Bn)(aU:Ag E 1 (V r l s) l (Ar u))(aV:Ag E 1 (V va z vc) z (Ar y))(n:Nat)
  (bz:1<=l)(bA:l<=64)(bB:z<=4096)(bC:c+n<=281474976710656)(cC:13+l+z<=b.aA)(hq:g<=1073400000)(bE:j<=1000000000)(aW:∀x∈u,x<256)(aX:∀x∈y,x<256)(bF:∀k,(V r l s).ownBlock=A6 k->a k=0/\k<E.heap.size)
  (v:List Nat)(hb:DB u y (FD c n)=v)(hh:BitVec 64)(bG:Co b.aK u=hh):
  Bs A4 27 #[Ak f,V r l s,V va z vc,J O n] E λe w'=>e=A5 (J O 0)/\SN E a f A b g c j N hh v w':=by
 obtain⟨q,az,g1,b1⟩:=An E 31 [Ak f];obtain⟨L,cE,g2,b2⟩:=An q 64 [V r l s];obtain⟨w3,cF,g3,B⟩:=An L 136 [V Ax 0 0,V Ax 0 0,J O 0];obtain⟨w4,cH,b4,t4⟩:=Bq B (V r l s) (V va z vc) (J O 0);have D:=Ab g1 g2;have g4:=Ac.u g3 t4 (λm e=>by rw[e];exact jF _);have X:=zh (Ab D g4);have HZ:Hd (E.heap.size<=L.heap.size):=zh D.size;have B1:=zh ((b1.u g2 Δ).u g4 Δ);have B2:=zh (b2.u g4 Δ);have B4:=zh b4;have HR:=zh (Fg (h.u D).b);have H:=zh h;have k0:=(b1.u g2 Δ).m 0;have k1:=b2.m 0;have f0:=B.v 0;have f1:=B.v 1;have f2:=B.v 2;have v0:=B.m 0;have v1:=B.m 1;have v2:=B.m 2;have x0:=b4.m 0;have x1:=b4.m 1;have x2:=b4.m 2;have cO:Hd (q.heap.size=E.heap.size+1):=zh (by rw[<-az];simp);have F:=KO u y 0 r va s vc w4 Ω Ω Ω Ω (by rw[ai];exact aU.u X.o Δ) (by rw[aj];exact aV.u X.o Δ);rw[ai,aj]at F;obtain⟨o,aE⟩:=Af (13+l+z);rw[aE]at F;have al:=zh F;have ht:=h.t;have cR:b.aA<=32*493:=ln h.p.a2.cQ (Ψ h.p.a2.n1);have d1:Z (((n:Nat):Int)<0)=Y:=jH Ω
 have cS:BD (281474976710656 - (c:Int))=((281474976710656 - c:Nat):Int):=by rw[A3 _ Ω];omega
 obtain⟨M,hM⟩:=Af (281474976710656 - c);rw[hM]at cS;have d2:Z (((n:Nat):Int)>(M:Int))=Y:=jH Ω;have d3:Z (M<n)=Y:=jH Ω;obtain⟨RR,bM⟩:=Af b.aA;have d4:Z ((o:Int)>(RR:Int))=Y:=jH Ω;have d5:Z (RR<o)=Y:=jH Ω;have cT:=zh bM;have HQ:=zh (AA hq bE);have aF:=zh (AA aW (AA aU bF));have cU:=zh (AA aX aV);have HB:=zh hb;have cW:=zh (show v.length=o by rw[<-hb,JT,ai,aj];exact aE);have cX:=zh (show∀x∈v,x<256 by rw[<-hb];exact Ru aW aX);have cY:=zh bG;have a7:=zh (AA bz (AA bA bB));have G:=zh (AA ai aj);have bP:=zh bC;have bQ:=zh (show o<=b.aA/\0<o by omega);have cZ:=zh aE;clear h g1 g2 g3 b1 b2 B b4 t4 D g4 ai aj _cA _cB aU aV bz bA bB bC cC F aE ht hM cR bM hq bE aW aX bF hb bG
 go_enter pT,pt
 go_wp2_with fail;refine HR.o.mono ?_;rintro e w0 ⟨rfl,rfl⟩;go_wp2_with fail;refine al.o.mono ?_;rintro e i ⟨a8,cP,rfl,o5,g5⟩;clear al k0 k1 f0 f1 f2 v0 v1 v2 x0 x1 x2 az cE cF cH;obtain⟨w6,c0,g6,b6⟩:=An i 64 [V Ax 0 0];obtain⟨w7,aH⟩:=Af (w6.setCell ⟨i.heap.size,0,Ax⟩ (V a8 o cP));have f0:=b6.v 0;have v0:=b6.m 0;have b7:=b6.setCell 0 (V a8 o cP);rw[aH]at b7;have g7:=Ac.u g6 (show Ac (λm=>m=i.heap.size) w6 w7 by rw[<-aH];exact Ay _ _ _ _) (λm e=>by rw[e];exact jF _);have bS:=zh aH;have bT:Hd (E.heap.size<=q.heap.size/\E.heap.size<=i.heap.size):=zh ⟨by rw[cO.o];omega,(Ab X.o g5).size⟩;have c1:Hd (q.heap.size≠i.heap.size):=zh (by have:=B2.o.lt;have:=g5.size;omega);have bU:=zh (Ab g5 g7);have G7:=zh (Ab X.o (Ab g5 g7));have c2:Hd (E.heap.size<=i.heap.size):=zh (Ab X.o g5).size;have k0:=(B1.o.u bU.o Δ).m 0;have bW:=(H.o.u G7.o).b;have kt:=Aa.ap (j:=22) bW rfl
 go_upto_region 10 with fail
 refine AS (λ_=>True) (.am [] [0,1,2,3,4,5,6,7] 8 Y (.nil)) Φ Φ ?_;obtain⟨w8,bX,g8⟩:=AP w7;rw[bX];clear c0 aH f0 v0 k0 kt;have bY:=zh g8;have G8:=zh (Ab G7.o g8);have ao:=zh (Ab bU.o g8);have B8:=zh (b7.u g8 Δ);have k0:=(B1.o.u ao.o Δ).m 0;have k1:=B8.o.m 0;have bZ:=(H.o.u G8.o).b;have k2:=Aa.ap (j:=16) bZ rfl;rw[cT.o]at k2;clear bX bZ bW;refine Ap ?_
 iterate 8 refine Av ?_
 refine Aj ?_;refine Am ?_;intro K p;refine Aq p ?_;clear p K;refine AG (A7 ?_);clear k2 k1;have O8:=zh (Sg (AV o5 (Ab (Ac.u g6 (show Ac (λm=>m=i.heap.size) w6 w7 by rw[<-bS.o];exact Ay _ _ _ _) (λm e=>by rw[e];exact jF _)) bY.o)) X.o.size);clear g5 g6 b6 g7 b7 o5;have I:=zh (show Nv E f r s l E.heap.size q.heap.size i.heap.size o (DB u y 0) w8 from⟨G8.o,B1.o.u ao.o Δ,B2.o.u ao.o Δ,a8,cP,B8.o,O8.o⟩);have P:=zh (B4.o.u ao.o Δ);clear bS bY
 go_upto_if 53 with fail
 go_cut [8] (λs8 wx=>s8=J O 0/\Nv E f r s l E.heap.size q.heap.size i.heap.size o v wx)
 case first=>
  by_cases aL:n=0
  ·have t1:Z (((n:Nat):Int)>0)=Y:=jH Ω;have t2:Z (0<n)=Y:=jH Ω;have t3:¬0<n:=Ω
   have ap:v=DB u y 0:=by rw[<-HB.o];unfold FD;rw[jP aL]
   have aq:=zh (show Nv E f r s l E.heap.size q.heap.size i.heap.size o v w8 by rw[ap];exact I.o);clear aL ap;go_wp2_with fail
   go_meet
   exact⟨rfl,aq.o⟩
  ·have t1:Z (((n:Nat):Int)>0)=Bd:=jG Ω;have t2:Z (0<n)=Bd:=jG Ω;have t3:0<n:=Ω;obtain⟨te,bg⟩:=Af (c+n)
   have az:BD ((c:Int)+(n:Int))=(te:Int):=by rw[A3 _ (Ψ bP.o), <-bg];omega
   have ap:v=DB u y te:=by rw[<-HB.o, <-bg];unfold FD;rw[jN aL]
   have c8:=zh (show te<=281474976710656 by have:=bP.o;omega);have k0:=I.o.2.1.m 0;have kt:=Aa.ap (j:=22) (H.o.u G8.o).b rfl;have r2:=P.o.m 2;have f2:=P.o.v 2;obtain⟨w9,bh⟩:=Af (w8.setCell ⟨L.heap.size,2,Ax⟩ (J O te));have b9:=P.o.setCell 2 (J O te);rw[bh]at b9;simp only[jY,kE]at b9
   have t9:Ac (λm=>m=L.heap.size) w8 w9:=by rw[<-bh];exact Ay _ _ _ _
   have x0:=b9.m 0;have x1:=b9.m 1;have x2:=b9.m 2;have G9:=zh (Ac.u G8.o t9 (λm e=>by rw[e];exact HZ.o))
   have b8:E.heap.size≠L.heap.size:=λe=>by have t:=I.o.2.1;have d:=P.o;rw[e]at t;unfold Aa at t d;rw[t]at d;injection d with d;injection d with _ d;exact absurd d Ξ
   have ca:q.heap.size≠L.heap.size:=λe=>by have t:=I.o.2.2.1;have d:=P.o;rw[e]at t;unfold Aa at t d;rw[t]at d;injection d with d;injection d with _ d;exact absurd d Ξ
   have cb:i.heap.size≠L.heap.size:=λe=>by obtain⟨_,_,t,_⟩:=I.o.2.2.2;have d:=P.o;rw[e]at t;unfold Aa at t d;rw[t]at d;injection d with d;injection d with _ d;exact absurd d Ξ
   have X9:=zh (AA (t9.y I.o.2.1 b8) (AA (t9.y I.o.2.2.1 ca) (t9.y B8.o cb)));have F:=KO u y te r va s vc w9 (by rw[G.o.1];exact a7.o.1) (by rw[G.o.1];exact a7.o.2.1) (by rw[G.o.2];exact a7.o.2.2) c8.o (by rw[G.o.1];exact aF.o.2.1.u G9.o Δ) (by rw[G.o.2];exact cU.o.2.u G9.o Δ);rw[G.o.1,G.o.2,cZ.o, <-ap]at F;have al:=zh F;clear bg b9 t9 b8 ca cb F ap aL;go_wp2_with fail;refine al.o.mono ?_;rintro e cc ⟨aO,aP,rfl,bi,au⟩;clear al k0 kt r2 f2 x0 x1 x2 az bh;have Q:=X9.o.2.2.u au Δ;have v0:=Q.m 0;have f0:=Q.v 0;obtain⟨cd,ce⟩:=Af (cc.setCell ⟨i.heap.size,0,Ax⟩ (V aO o aP));have bj:=Q.setCell 0 (V aO o aP);rw[ce]at bj
   have av:Ac (λm=>m=i.heap.size) cc cd:=by rw[<-ce];exact Ay _ _ _ _
   have y0:=X9.o.1.u au Δ;have y1:=X9.o.2.1.u au Δ
   have n0:E.heap.size≠i.heap.size:=λe=>by rw[e]at y0;unfold Aa at y0 Q;rw[y0]at Q;injection Q with d;injection d with _ d;exact absurd d Ξ
   have R:q.heap.size≠i.heap.size:=c1.o
   have no:∀k,(V aO o aP).ownBlock=A6 k->¬k=i.heap.size:=λk w e=>by
    have t:=(bi.lt k w).1;have d:=X9.o.2.2.lt;omega
   have aq:=zh (show Nv E f r s l E.heap.size q.heap.size i.heap.size o v cd from⟨Ac.u (Ab G9.o au) av (λm e=>by rw[e];exact c2.o),av.y y0 n0,av.y y1 R,aO,aP,bj,Sg (av.aT bi no) G9.o.size⟩);clear bi au Q bj av y0 y1 n0 R no;go_wp2_with fail
   go_meet
   exact⟨rfl,aq.o⟩
 case rest=>
  obtain⟨rfl,hM⟩:=hcut;have M:=zh hM;clear hM I P G8 ao B8 O8;obtain⟨ba,bc,m2,mo⟩:=M.o.2.2.2;have M2:=zh m2;have MO:=zh mo;obtain⟨aQ,dc,D,bl⟩:=An wc 130 [BC Y,J Bx 0,J O 0,J O 0,J O 0];obtain⟨bm,aR⟩:=Af (AN a wc.heap.size 220);have bn:=H.o.u M.o.1
  have bo:Ad (λm=>m=220) wc a aQ bm:=by rw[<-aR];exact Cl bn.p.cl D (jF _) bl.lt rfl
  have cl:∀k,k<wc.heap.size->bm k=a k:=λk w=>by rw[<-aR];exact Bz _ _ Ω
  have ae:=zh cl;have CA:=zh (bn.ag bo (λm e=>Ω));have ST:=zh ((Ad.u (C:=Eh) H.o.p.cl M.o.1).trans (bo.mono (λm e=>BB Ω)));have bq:=zh D;have de:=zh bl;have df:Hd (bm wc.heap.size=220):=zh (by rw[<-aR];exact A0 _ _ _);clear aR bn bo cl D bl m2 mo;go_wp2_with fail;clear dc;refine Dc (λW=>W.cell? ⟨E.heap.size,0,Ax⟩=A6 (Ak f)) [([0,1,2,3,4],5,Bd),([],6,Bd),([],7,Y),([],8,Y)] Φ Φ ?_;obtain⟨aS,cm,cn⟩:=AP aQ;rw[cm];have br:=zh cn;clear cm cn;have X0:=zh (λ(W:A2) (dg:aQ.grownBy W Ax)=>((M.o.2.1.u bq.o Δ).u dg Δ).m 0);refine Cc (X0.o _ br.o) ?_
  repeat(apply AC rfl Θ;(· intro wS bs;(try have bs:=bs rfl);(try dsimp only at bs);go_simp;(try with_reducible rfl));refine Al ?_)
  refine Aj ?_;refine AE rfl (λS p=>?_);go_simp;obtain⟨cp,cq,cr,cs⟩:=An aS 95 [BR (.func 61) #[Ak f] #[],BR (.func 72) #[] #[Ak E.heap.size,Ak q.heap.size,Ak i.heap.size,Ak wc.heap.size],BR (.func 74) #[] #[Ak E.heap.size,Ak wc.heap.size]];rw[cq];have af:=zh (Ab br.o cr);have ct:Ag cp 1 (V (A6 ⟨aS.heap.size,0,Ax⟩) 3 3) 3 ((PO f E.heap.size q.heap.size i.heap.size wc.heap.size).map DP.val):=Ag.bq cs rfl (by unfold Bn;omega);have T:=Ab bq.o af.o;have dh:wc.heap.size<=cp.heap.size:=T.size;have di:E.heap.size<=wc.heap.size:=M.o.1.size;have cu:aQ.heap.size<=aS.heap.size:=br.o.size;have R:=G.o.1;have U:=cW.o
  have bt:=ia (CA.o.u af.o) HQ.o.1 HQ.o.2 u r s aF.o.1 (by rw[R];exact(aF.o.2.1.u M.o.1 Δ).u T Δ)
   (λk w=>by rw[R]at w;have h3:=aF.o.2.2 k w;exact⟨by rw[ae.o k Ω];exact h3.1,Ω⟩)
   v ba bc (by rw[U];exact bQ.o.2) (by rw[U];exact bQ.o.1) cX.o (by rw[U];exact cV MO.o) (by rw[U];exact(Ag.ai MO.o).u T Δ)
   (λk w=>by rw[U]at w;have h3:=MO.o.lt k w;exact⟨by rw[ae.o k h3.2];exact H.o.p.cl k h3.1,Ω⟩)
   E.heap.size q.heap.size i.heap.size wc.heap.size (M.o.2.1.u T Δ) (by rw[R];exact M.o.2.2.1.u T Δ) (by rw[U];exact M2.o.u T Δ) (de.o.u af.o Δ)
   (by rw[ae.o _ M.o.2.1.lt];exact H.o.p.cl _ (jF _)) (by rw[ae.o _ M.o.2.2.1.lt];exact H.o.p.cl _ bT.o.1) (by rw[ae.o _ M2.o.lt];exact H.o.p.cl _ bT.o.2) df.o
   (A6 ⟨aS.heap.size,0,Ax⟩) 3 ct (λk w=>by cases w;exact CA.o.p.cl _ cu)
  rw[cY.o]at bt;have cv:=zh bt;refine p _ _ ⟨λ_=>X0.o _ af.o,?_⟩;clear p S cq cr cs ct T dh di cu R U bt;refine Bt ?_;refine AE rfl (λS p=>?_);go_simp;refine cv.o.mono ?_;rintro e dy ⟨rfl,dj,dk,cw,bu,cx,sg⟩;dsimp only;have bv:=zh cx;have dl:=zh (ST.o.trans ((Ad.u CA.o.p.cl af.o).trans (bu.mono (LI Ω))));have SG:=zh sg;have dn:=(bu.y ((M.o.2.1.u bq.o Δ).u af.o Δ) (by rw[ae.o _ M.o.2.1.lt,H.o.p.cl _ (jF _)];rintro(h|h)<;>omega)).m 0;clear cv bu cx sg;refine p _ _ ⟨λ_=>dn,?_⟩;clear p S;refine Bt ?_;refine AE rfl (λS p=>?_);go_simp;refine(Io bv.o.p f c cw bv.o.b 2 Ω).mono ?_;rintro e dp ⟨rfl,bw,cz⟩;dsimp only;have ax:=bv.o.next bw cz;have aq:=zh (show SN E a f A b g c j N hh v dp from⟨dj,dk,cw,dl.o.trans (bw.mono IN),⟨ax.p.mono Ω,ax.b,ax.c,ax.t⟩,SG.o⟩);clear bw cz ax;refine p _ _ ⟨λhf=>(by cases hf),?_⟩;clear p S;refine Bt ?_;refine AE rfl (λS p=>?_);go_simp;refine p _ _ ⟨λhf=>(by cases hf),?_⟩;refine De (A7 ?_);clear p S;go_wp2_with fail;go_ret;exact⟨rfl,aq.o⟩
end
section
open Go Go.RowKit
def bl(s:ByteArray):List Nat:=s.data.toList.map λb=>b.toNat
theorem GW(s:ByteArray):∀x∈bl s,x<256:=by
 intro x a;obtain⟨b,_,rfl⟩:=lB.1 a;exact b.toNat_lt
theorem CP(s:ByteArray):(bl s).length=s.size:=by
 unfold bl;rw[mx,mO];rfl
theorem F7(s:ByteArray):Di (bl s)=s:=by
 obtain⟨d⟩:=s;unfold bl Di strOfNums;simp[nH]
theorem UD{b:ByteArray}(h:bl e=bl b):e=b:=by rw[<-F7 e,h,F7]
theorem JX{b:ByteArray}:Hf e b=Bd↔e=b:=by
 constructor
 ·intro h
  have c:e.toList=b.toList:=by simpa[Hf]using h
  rw[<-F7 e, <-F7 b,KM,KM]at c;apply UD;have a:=kM (List.map λx:UInt8=>x.toNat) c;rw[List.map_map,List.map_map]at a
  have d:∀l:List Nat,(∀x∈l,x<256)->l.map ((λx:UInt8=>x.toNat)∘λx=>UInt8.ofNat x)=l:=by
   intro l f
   conv=>rhs;rw[<-List.map_id l]
   refine List.map_congr_left λx g=>?_
   have:=f x g;simp;omega
  rw[d _ (GW e),d _ (GW b)]at a;exact a
 ·rintro rfl;simp[Hf]
def AQ.h(s:BitVec 64)(x:AQ):BitVec 64:=Co s (bl x.aO)
theorem KB{l:List AQ}:∀{n i:Nat},n<=l.length->Dq l e n=A6 i->i<n/\(∃x,l[i]?=A6 x/\x.aO=e)/\∀j y,i<j->j<n->l[j]?=A6 y->y.aO≠e
 |0,i,_,h=>by simp[Dq]at h
 |n+1,i,o,h=>by
  have a:l[n]?=A6 l[n]:=jK Ω;unfold Dq at h;rw[a]at h;dsimp only at h
  split at h
  ·rename_i b
   obtain rfl:n=i:=jV h;exact⟨nT _,⟨_,a,JX.1 b⟩,λj y g f=>Ω⟩
  ·rename_i b
   obtain⟨g,f,k⟩:=KB Ω h;refine⟨Ω,f,λj y m p c=>?_⟩
   by_cases d:j=n
   ·subst d;rw[a]at c;obtain rfl:=jV c
    exact λd=>b (JX.2 d)
   ·exact k j y m Ω c
theorem QC{l:List AQ}:∀{n:Nat},n<=l.length->Dq l e n=Ax->∀j y,j<n->l[j]?=A6 y->y.aO≠e
 |0,_,_=>λj y f=>Ω
 |n+1,g,h=>by
  have c:l[n]?=A6 l[n]:=jK Ω;unfold Dq at h;rw[c]at h;dsimp only at h
  split at h
  ·cases h
  ·rename_i d
   intro j y i a
   by_cases b:j=n
   ·subst b;rw[c]at a;obtain rfl:=jV a
    exact λb=>d (JX.2 b)
   ·exact QC Ω h j y Ω a
def EW(s:BitVec 64)(a:List AQ)(i:Nat)(h:BitVec 64):Prop:=∀j y,i<j->a[j]?=A6 y->y.h s≠h
structure Cj(P:Pl)(N:Az)(lo:Nat)(b:List AQ):Prop where
 gH:∀h e,N.F h=A6 e->∃r a s:Nat,e=⟨h,r,a,s⟩/\1<=r/\r<=N.aw/\(CM P N.aw<=r->∃i x,b[i]?=A6 x/\x.cq=Y/\x.h P.aK=h/\EW P.aK b i h/\J9 P N r a (bl x.aO) (bl x.val) x.en/\s=13+(bl x.aO).length+(bl x.val).length)
 cP:∀i x,b[i]?=A6 x->x.cq=Y->EW P.aK b i (x.h P.aK)->x.lo=lo->∃r:Nat,x.wh<=(r+1)*P.aA/\1<=r/\(CM P N.aw<=r->∃e,N.F (x.h P.aK)=A6 e/\e.r=r)
 lo:∀x∈b,x.lo<=lo
 wh:∀x∈b,x.wh<=1000000000000000
 d4:1<=N.aw\/P.aA<=(N.aR 0).length
theorem Cj.dQ{P:Pl}{N:Az}(hF:∀h,N.F h=Ax)(a:∃z,N.aR 0=AO P.aA++z):Cj P N 0 []:=by
 refine⟨λh e k=>(by rw[hF]at k;cases k),λi x k=>(by simp at k),λx k=>(by simp at k),λx k=>(by simp at k),BB ?_⟩;obtain⟨z,b⟩:=a;rw[b,jI,Ep];omega
theorem Cj.cT{N:Az}{l:List AQ}(h:Cj b N f l)(g:Bj N n):Cj b n f l:=by
 refine⟨λx e k=>?_,λi x o p q t=>?_,h.lo,h.wh,?_⟩
 ·rw[g.f]at k;obtain⟨r,a,s,c,d,j,u⟩:=h.gH x e k;refine⟨r,a,s,c,d,by rw[g.la];exact j,λm=>?_⟩;rw[g.la]at m;obtain⟨i,y,v,w,A,B,C,D⟩:=u m;exact⟨i,y,v,w,A,B,C.dD (by rw[g.la];exact jF _) (g.bo r),D⟩
 ·obtain⟨r,c,d,j⟩:=h.cP i x o p q t;exact⟨r,c,d,by rw[g.la,g.f];exact j⟩
 ·rw[g.la]
  rcases h.d4 with c|c
  ·exact BE c
  ·obtain⟨z,E⟩:=g.bo 0;exact BB (by rw[E,jI];omega)
theorem OM{l:List o}{x y:o}(h:(l++[x])[f]?=A6 y):l[f]?=A6 y/\f<l.length\/f=l.length/\y=x:=by
 by_cases a:f<l.length
 ·rw[kL a]at h;exact BE ⟨h,a⟩
 ·rw[kQ Ω]at h
  have:f - l.length<1:=by
   have:=(jL.1 h).1;simpa using this
  obtain e:f=l.length:=Ω;subst e;rw[lJ]at h;exact BB ⟨rfl,(jV h).symm⟩
theorem Oi{l:List o}{x y:o}(h:l[f]?=A6 y):(l++[x])[f]?=A6 y:=by
 rw[kL (jL.1 h).1];exact h
theorem EW.hu{a:List AQ}{i:Nat}(k:EW d a i w){x:AQ}(b:x.h d≠w):EW d (a++[x]) i w:=by
 intro j y c e
 rcases OM e with⟨f,_⟩|⟨_,rfl⟩
 ·exact k j y c f
 ·exact b
theorem EW.hf{a:List AQ}{i:Nat}{x:AQ}(k:EW d (a++[x]) i w)(b:i<a.length):EW d a i w/\x.h d≠w:=
 ⟨λj y c e=>k j y c (Oi e),k a.length x b (by rw[kQ (jF _),lJ];rfl)⟩
theorem EW.aw(s:BitVec 64)(a:List AQ)(x:AQ)(h:BitVec 64):EW s (a++[x]) a.length h:=by
 intro j y c b;have:=(jL.1 b).1;rw[jI,lr]at this;omega
theorem Cj.iK{N:Az}{o:List AQ}(h:Cj b N f o)(x:AQ)(q:x.cq=Bd)(t:x.lo<=f)(u:x.wh<=1000000000000000)(d:Qb N n (x.h b.aK)):Cj b n f (o++[x]):=by
 obtain⟨Q,R,v,d,w⟩:=d;refine Cj.cT ?_ w;have h:=h.cT v;refine⟨λy e k=>?_,λi y A g B C=>?_,λy c=>?_,λy c=>?_,by rw[d.la,d.bo];exact h.d4⟩
 ·rw[d.f]at k
  split at k
  ·cases k
  rename_i D
  obtain⟨r,a,s,j,l,m,E⟩:=h.gH y e k;refine⟨r,a,s,j,l,by rw[d.la];exact m,λp=>?_⟩;rw[d.la]at p;obtain⟨i,z,F,G,H,I,J,K⟩:=E p;exact⟨i,z,Oi F,G,H,I.hu λe=>D e.symm,J.dD (by rw[d.la];exact jF _) ⟨[],by rw[d.bo,lw]⟩,K⟩
 ·rcases OM A with⟨L,M⟩|⟨_,rfl⟩
  ·obtain⟨O,P⟩:=B.hf M;obtain⟨r,j,l,m⟩:=h.cP i y L g O C;refine⟨r,j,l,?_⟩;rw[d.la,d.f,jN λe=>P e.symm];exact m
  ·rw[q]at g
   cases g
 ·rcases kI.1 c with c|c
  ·exact h.lo y c
  ·rw[j8.1 c];exact t
 ·rcases kI.1 c with c|c
  ·exact h.wh y c
  ·rw[j8.1 c];exact u
theorem Ss(P:Pl)(h:f<=c):CM P f<=CM P c:=by
 unfold CM;omega
theorem XJ(P:Pl)(b:Nat)(a:BO)(n k:Nat):∃z,Ef P b a n k=a k++z:=by
 unfold Ef
 split
 ·exact⟨[],(lw _).symm⟩
 ·exact NZ P b a k
theorem WS(a:BO)(r:Nat)(b:List Nat)(k:Nat):∃z,Cv a r b k=a k++z:=by
 unfold Cv
 split
 ·exact⟨_,rfl⟩
 ·exact⟨[],(lw _).symm⟩
theorem Cj.aV{N:Az}{o:List AQ}(h:Cj b N c o)(x:AQ)(R:x.cq=Y)(ao:x.lo=f)(I:x.wh<=(N.aw+1)*b.aA)(S:x.wh<=1000000000000000)
  (T:1<=(bl x.aO).length)(U:(bl x.aO).length<=64)(V:(bl x.val).length<=4096)(W:x.en<=281474976710656)(d:Ly b N n (x.h b.aK) (DB (bl x.aO) (bl x.val) x.en) c f):Cj b n f (o++[x]):=by
 obtain⟨ap,g,t,C,d,J⟩:=d;refine Cj.cT ?_ J;rw[<-C.la]at I;have h:=h.cT C;clear C J;obtain⟨K,L,u,M⟩:=d.go;have v:=JT (bl x.aO) (bl x.val) x.en;obtain⟨l,D⟩:=Af (DB (bl x.aO) (bl x.val) x.en);rw[D]at v u M;have m:=d.la;have w:=d.bo;rw[D]at m w;have X:=Nb b g.aw g.aR l.length
 have E:g.aw<=t.aw:=by rw[m];exact X.1
 have Z:∀k,∃z,t.aR k=g.aR k++z:=by
  intro k;obtain⟨z,hz⟩:=XJ b g.aw g.aR l.length k;obtain⟨y,j⟩:=WS (Ef b g.aw g.aR l.length) (BW b g.aw g.aR l.length) l k;exact⟨z++y,by rw[w,j,hz,kK]⟩
 have F:1<=t.aw:=by
  rcases h.d4 with p|p
  ·omega
  ·by_cases h0:1<=g.aw
   ·omega
   ·have ab:g.aw=0:=by omega
    rw[m];unfold BW;rw[ab,jN Ω];exact jF _
 have O:∀y∈o++[x],y∈o\/y=x:=λy j=>by
  rcases kI.1 j with j|j
  ·exact BE j
  ·exact BB (j8.1 j)
 refine⟨λy e k=>?_,λi y q k2 k3 k4=>?_,λy j=>?_,λy j=>?_,BE F⟩
 ·by_cases j:y=x.h b.aK
  ·subst j;have hF:=u.1;rw[show(IM b g (x.h b.aK) l.length).h=x.h b.aK from rfl]at hF;rw[hF]at k;obtain rfl:=jV k;refine⟨BW b g.aw g.aR l.length,(Ef b g.aw g.aR l.length (BW b g.aw g.aR l.length)).length,l.length,rfl,by rw[<-m];exact F,by rw[m];exact jF _,λ_=>?_⟩;refine⟨o.length,x,by rw[kQ (jF _),lJ];rfl,R,rfl,EW.aw _ _ _ _,⟨by rw[m];exact jF _,?_,?_,T,U,V,W,GW _,GW _⟩,v⟩
   ·rw[w,Dp,jI,v];omega
   ·rw[w,Dp,D, <-v];unfold DN;rw[List.drop_left,lS]
  ·rcases u.2 y j with q|q
   ·rw[q]at k;obtain⟨r,a,s,p,G,P,h4⟩:=h.gH y e k;refine⟨r,a,s,p,G,Ω,λH=>?_⟩;obtain⟨i,z,A,B,j3,j4,j5,j6⟩:=h4 (jM (Ss b E) H);exact⟨i,z,Oi A,B,j3,j4.hu λe=>j e.symm,j5.dD E (Z r),j6⟩
   ·rw[q]at k
    cases k
 ·rcases OM q with⟨Q,k6⟩|⟨_,rfl⟩
  ·obtain⟨k7,k8⟩:=k3.hf k6;have au:=h.lo y (kp Q)
   have am:K=Y:=by
    cases K
    ·rfl
    ·simp only[qt]at L;omega
   subst am;obtain⟨r,p,G,P⟩:=h.cP i y Q k2 k7 (by simp at L;omega);refine⟨r,p,G,λH=>?_⟩;obtain⟨e,A,B⟩:=P (jM (Ss b E) H)
   rcases(M rfl).2 (y.h b.aK) (λe=>k8 e.symm)with k|⟨_,e',k,k'⟩
   ·exact⟨e,by rw[k];exact A,B⟩
   ·rw[A]at k;obtain rfl:=jV k;rw[B]at k';omega
  ·refine⟨t.aw,?_,F,λ_=>⟨_,u.1,by rw[m];rfl⟩⟩;refine jM I (lC _ ?_);omega
 ·rcases O y j with j|rfl
  ·have:=h.lo y j;omega
  ·omega
 ·rcases O y j with j|rfl
  ·exact h.wh y j
  ·exact S
def IK(t:Nat)(a:List AQ)(b c:ByteArray):Bool:=
 match Dq a b a.length with
 |none=>Y
 |some i=>match a[i]? with
  |none=>Y
  |some x=>! x.cq&&Hf x.val c&&! F8 t x
def Iv(s:BitVec 64)(a:List AQ)(i:Nat)(h:BitVec 64):Bool:=(a.drop (i+1)).any λy=>Z (y.h s=h)
theorem On{a:List AQ}{i:Nat}:Iv d a i w=Y↔EW d a i w:=by
 unfold Iv EW;rw[pP]
 constructor
 ·intro k j y h c e;refine k y ?_ (jG e);refine kp (i:=j - (i+1)) ?_;rw[lL, <-c]
  congr 1
  omega
 ·intro k y f g;obtain⟨j,b⟩:=mm f;rw[lL]at b;exact k (i+1+j) y Ω b (j7 g)
def FF(P:Pl)(t c d:Nat)(a:List AQ)(b:ByteArray):Option ByteArray:=
 match Dq a b a.length with
 |none=>Ax
 |some i=>match a[i]? with
  |none=>Ax
  |some x=>if x.cq=Bd\/F8 t x=Bd\/x.lo≠c\/(P.rg - 1)*P.aA+x.wh<=d\/Iv P.aK a i (Co P.aK (bl b))=Bd then Ax else A6 x.val
theorem Cj.fN{N:Az}{j:List AQ}(h:Cj b N f j)(am:3<=b.rg)(t:Nat)(g:ByteArray)(w:Nat)(an:N.aw*b.aA<=w):
  ∃(I:Bool) (o:BitVec 64) (J K L:Int) (z:Bool) (A:Option (List Nat×Nat)),(N.F (Co b.aK (bl g))).isSome=I/\(N.F (Co b.aK (bl g))).getD Ah.af=⟨o,J,K,L⟩/\UJ b N (bl g) I J K L z A/\(z=Bd->A.isSome=Bd)/\
   (∀v,Gq z A t=A6 v->IK t j g (Di v)=Bd/\v.length<=4096)/\(∀v,FF b t f w j g=A6 v->Gq z A t=A6 (bl v)):=by
 have E:∀v,FF b t f w j g=A6 v->∃i x,j[i]?=A6 x/\x.aO=g/\x.cq=Y/\F8 t x=Y/\EW b.aK j i (Co b.aK (bl g))/\v=x.val/\∃r:Nat,CM b N.aw<=r/\∃e,N.F (Co b.aK (bl g))=A6 e/\e.r=r:=by
  intro v d;unfold FF at d
  split at d
  ·cases d
  rename_i i F
  obtain⟨ao,⟨x,o,M⟩,ap⟩:=KB (jF _) F;rw[o]at d;dsimp only at d
  split at d
  ·cases d
  rename_i p
  have O:EW b.aK j i (Co b.aK (bl g)):=On.1 (by cases q:Iv b.aK j i (Co b.aK (bl g));rfl;exact absurd (BB (BB (BB (BB q)))) p)
  have P:x.cq=Y:=by cases q:x.cq;rfl;exact absurd (BE q) p
  have V:F8 t x=Y:=by cases q:F8 t x;rfl;exact absurd (BB (BE q)) p
  have B:x.lo=f:=lH λe=>p (BB (BB (BE e)))
  have W:¬(b.rg - 1)*b.aA+x.wh<=w:=λe=>p (BB (BB (BB (BE e))))
  have Q:x.h b.aK=Co b.aK (bl g):=by unfold AQ.h;rw[M]
  obtain⟨r,G,X,C⟩:=h.cP i x o P (by rw[Q];exact O) B;rw[Q]at C
  refine⟨i,x,o,M,P,V,O,(jV d).symm,r,?_,C ?_⟩<;>
  ·refine lH λm=>W ?_
   have hr:r+b.rg<=N.aw:=by
    unfold CM at m;omega
   have hm:=lC b.aA hr
   have e1:(r+b.rg)*b.aA=(r+1)*b.aA+(b.rg - 1)*b.aA:=by rw[<-lT];congr 1;omega
   omega
 rcases hF:N.F (Co b.aK (bl g))with _|e
 ·refine⟨Y,0,0,0,0,Y,Ax,rfl,rfl,BE ⟨rfl,rfl,rfl⟩,λe=>(by cases e),λv d=>(by cases d),λv d=>?_⟩;obtain⟨_,_,_,_,_,_,_,_,_,_,e,G,_⟩:=E v d;rw[hF]at G
  cases G
 ·obtain⟨r,a,s,rfl,X,C,h4⟩:=h.gH _ e hF
  by_cases m:CM b N.aw<=r
  ·obtain⟨i,x,k,j2,j3,R,S,j6⟩:=h4 m;subst j6;refine⟨Bd,_,_,_,_,Z (bl x.aO=bl g),A6 (bl x.val,x.en),rfl,rfl,BB (BB ⟨rfl,r,a,bl x.aO,bl x.val,x.en,rfl,rfl,rfl,m,S,rfl,rfl⟩),λ_=>rfl,λv d=>?_,λv d=>?_⟩
   ·unfold Gq at d
    split at d
    ·rename_i hd
     have T:x.aO=g:=UD (j7 hd);dsimp only at d
     split at d
     ·cases d
     rename_i ag
     obtain rfl:=jV d;rw[F7]
     have ah:Dq j g j.length=A6 i:=by
      rcases B:Dq j g j.length with _|n
      ·exact absurd T (QC (jF _) B i x (jL.1 k).1 k)
      ·obtain⟨u,⟨y,l,D⟩,H⟩:=KB (jF _) B;have F:i<j.length:=(jL.1 k).1
       rcases pR i n with c|c|c
       ·exact absurd (show y.h b.aK=_ by unfold AQ.h;rw[D]) (R n y c l)
       ·rw[c]
       ·exact absurd T (H i x c F k)
     refine⟨?_,S.v1⟩;unfold IK;rw[ah];dsimp only;rw[k];dsimp only;rw[j2,JX.2 rfl,show F8 t x=Y from jH ag];rfl
    ·cases d
   ·obtain⟨n,U,u,l,D,H,k5,k6,_⟩:=E v d
    have ak:i=n:=by
     rcases pR i n with c|c|c
     ·exact absurd (show U.h b.aK=_ by unfold AQ.h;rw[l]) (R n U c u)
     ·exact c
     ·exact absurd j3 (k5 i x c k)
    subst ak;rw[k]at u;obtain rfl:=jV u;subst k6;unfold Gq;rw[jP (by rw[l];exact jG rfl)];dsimp only;rw[jN (oo H)]
  ·refine⟨Bd,_,_,_,_,Y,Ax,rfl,rfl,BB (BE ⟨rfl,rfl,rfl,r,a,s,rfl,rfl,rfl,m,C⟩),λe=>(by cases e),λv d=>(by cases d),λv d=>?_⟩;obtain⟨_,_,_,_,_,_,_,_,r',u,e,l,D⟩:=E v d;rw[hF]at l;obtain rfl:=jV l;exact absurd (show CM b N.aw<=r by have:(r:Int)=(r':Int):=D;omega) m
end
