/- Lemmas. -/
import Derived.Test.YtcedibmdelehdaaGreatDoorH37
namespace Go.Proofs.YtcedibmdelehdaaGreatDoor
set_option maxRecDepth 100000
set_option maxHeartbeats 32000000
open Go.IntKind renaming i64->O
open Option renaming none->V,some->A3
open Go.Value renaming int->Z,pointer->Ax,slice->AA,tuple->BD,agg->CE,bool->CV
open And renaming intro->A2
open Go.NoPanic renaming normal->A4
open Bool renaming false->Bd,true->BR
open Go.Proofs.Tryz renaming prog->Bk,ntmps70->B8,func70->CA,func146->CL
open Go.Ending renaming returned->Bn
open Go renaming World->Bs,Value->BB,callsIn_wide->BC,bodyPost_ret->BE,Calls->B7,maxLen->CX,TypeId->C0
open Decidable renaming decide->Bx
open Go.IntWalk renaming wrap64_in->BA,i64_in->BX
open Or renaming inr->CB,inl->CR
variable{h q:Int->List Nat}{E i l:Bs}{J f j k n p:Nat}{Y r:Ad}{a:List BB}{b o:BB}{c:Pl}{d s:List Nat}{e:C0}{g:List Bt}
section
open Go.RowKit
attribute [local go_sem ↓] Go.wp_at_zero Go.wp_at_succ
theorem fC:(Bk.info? 130).map (λi=>(i.zero,i.size,i.bytes))=A3 (A3 (CE #[CV Bd,Z .u64 0,Z O 0,Z O 0,Z O 0]),5,40):=Φ
def IF(w:Bs)(b:Ad)(l d:Nat)(P:Pl)(c e t:Nat):Prop:=∃f a,Cb w b l d P c e f a t/\a.length<Do P.n
def Gf(P:Pl)(a b:Int->List Nat):Prop:=∀i:Int,(i<2\/(P.region:Int)<=i)->b i=a i
theorem Gf.refl(P:Pl)(a:Int->List Nat):Gf P a a:=λ_ _=>rfl
theorem Gf.dn(d:c.aU)(a:Int->List Nat)(b:Nat)(e:List Nat):Gf c a (Cu a ((2+b%c.lg:Nat):Int) e):=by
 intro i f;have g:b%c.lg<c.lg:=lT _ (Ψ d.fR);have h:c.region=2+c.lg:=rfl;unfold Cu;rw[j7 Ω]
theorem Gf.ed(a:Gf c h q):KT c h q:=λk _=>a _ (CB (by push_cast;omega))
theorem Gf.eN(a:Gf c h q):JT c h q:=λk _=>a _ (CB (by have:=c.eI;push_cast;omega))
def Ue(w:Bs)(h:Ad)(l d:Nat)(P:Pl)(i f q:Nat)(j:Int->List Nat)(e:Ending)(a:Bs):Prop:=
 e=Bn (Z O 0)/\∃b c g k,Ab Ho w h a b/\f<=c/\c<=f+1/\IF a b l d P i c k/\AD a b d P.ss P.n (q+1) g/\Gf P j g
theorem Cb.cG{d:Bs}(h:Cb E Y J f c j k o g n)(C:Aw E Y)(v:E.grownBy d o.ownBlock)(x:Bt)(D:x.ok)(I:g.length<Do c.n)(s:d.ownsRow 0 130 5 b (g.length+1) (Hm (g++[x])))(F:b.ownBlock=o.ownBlock\/b.ownBlock=A3 E.heap.size):
  Aa d J 188 (Ax (A3 ⟨f,0,V⟩)::(c.cells++[Z O 2,Z O (Do c.n:Nat),Z O j,Z O k,o,Z O n]))/\
  ∃a,Ab (λl=>l=5) E Y (d.setCell ⟨J,13,V⟩ b) a/\Cb (d.setCell ⟨J,13,V⟩ b) a J f c j k b (g++[x]) n:=by
 have t:=h.u.grown v (λe=>Bh h.u h.aM Ξ e.symm);have w:Ab (λl=>l=5) E Y d Y:=Ab.of C v (λr e=>h.cp r e);have G:(g++[x]).length=g.length+1:=Δ
 have z:∀a,Ab (λl=>l=5) E Y d a->(∀m,b.ownBlock=A3 m->a m=5)->∃a,Ab (λl=>l=5) E Y (d.setCell ⟨J,13,V⟩ b) a/\Cb (d.setCell ⟨J,13,V⟩ b) a J f c j k b (g++[x]) n:=λa u H=>by
  have A:a J=5:=by rw[u.ah _ h.u.lt];exact h.c0
  refine⟨a,u.trans (Ab.of u.new (An _ _ _) (λr e=>by cases e;exact A)),t.setCell 13 _,?_,Ω,λy p=>?_,A,H⟩
  ·rw[G];exact(Ac.of (S:=λr=>r=J) (An _ _ _) (λr e=>by cases e;rfl)).aL s (λm q e=>by subst e;exact Bh t s Ξ q)
  ·rcases kY.1 p with p|p
   ·exact h.hO y p
   ·rw[kH]at p;subst p;exact D
 refine⟨t,?_⟩
 rcases F with e|e
 ·exact z Y w (λm q=>h.cp m (by rw[<-e];exact q))
 ·exact z _ (w.bC (B:=E.heap.size) (i:=5) (jS _) (s.lt _ e).2 rfl) (λm q=>by rw[e]at q;cases q;exact AY _ _ _)
theorem dz{P:Pl}{Q:Nat}(l:Cb E Y j k P f J b g Q)(q:g.length<Do P.n)(hD:AD E Y k P.ss P.n p h)(hC:Aw E Y)(D:P.aU)(hq:p<=1073741824)(aA:f<=J)(R:J<=2000000000)(a4:0<DO P f J)(x:Bt)(S:x.ok)(t:Nat)(T:t<=281474976710656):
  B7 Bk 65 #[Ax (A3 ⟨j,0,V⟩),x.val,Z O t] E (Ue E Y j k P f J p h):=by
 obtain⟨X,pc,rfl⟩:=(Ai.aj l.aM).slice;have HR:=zh (λW=>Xg x S W);have HW:=zh (λW=>LU t 281474976710656 T W);have HL:=zh (λ(W:Bs) (hW:Cb W Y j k P f J (AA X g.length pc) g Q)=>NY hW D aA R)
 have aC:Do P.n<=24:=by unfold Do;have:=D.n1;omega
 have bz:(((DO P f J:Nat):Int)==0)=Bd:=Γ;obtain⟨LF,aE⟩:=Ag (DO P f J);rw[aE]at HL bz;have H:=zh l;have HD:=zh hD;have HC:=zh hC;have a9:=zh S;have HF:=zh D;have m:=zh (A2 q (A2 aC (A2 hq (A2 R T))));obtain⟨F,G,r,a,s⟩:=x;obtain⟨w1,bb,g1,o⟩:=Aq E 130 [CV F,Z .u64 (U G),Z O r,Z O a,Z O s];have B1:=zh o;have G1:=zh g1;have y0:=o.m 0;have y1:=o.m 1;have y2:=o.m 2;have y3:=o.m 3;have y4:=o.m 4;clear l hD hC S D q aC hq R T aA a4 aE g1 o
 go_enter Tryz.func65,Tryz.ntmps65
 go_wp2_with fail;clear bb y0 y1 y2 y3 y4;refine(HR.o w1).mono ?_;rintro e w2 ⟨rfl,g2⟩;have G2:=zh (Ae G1.o g2);have B2:=zh (B1.o.grown g2 Δ);clear g2 G1 B1;go_wp2_with fail;refine(HW.o w2).mono ?_;rintro e w' ⟨rfl,rfl⟩;go_wp2_with fail;refine(HL.o w2 (H.o.grown G2.o)).mono ?_;rintro e w3 ⟨rfl,g3⟩;have G3:=zh (Ae G2.o g3);have B3:=zh (B2.o.grown g3 Δ);clear g3 G2 B2;go_wp2_with fail;obtain⟨w4,aN,I⟩:=AZ w3;have H4:=zh (H.o.grown (Ae G3.o I));have G4:=zh (Ae G3.o I);have w:=zh (B3.o.grown I Δ);clear I G3 B3 bz;refine A7 (λW=>W.cell? ⟨j,13,V⟩=A3 (AA X g.length pc)) (.an [1,2,3,4] [0,5] 6 BR (.an [] [] 7 BR (.an [] [8,9] 10 Bd (.nil)))) Φ Φ ?_;rw[aN];clear aN;refine DK H4.o.cells.2.2.2.2.2.2.2.1 ?_
 iterate 4 ((apply AB rfl Θ;(· intro wS L;(try have L:=L rfl);(try dsimp only at L);(try(have M:=L));go_simp;(try with_reducible rfl)));refine Ak ?_)
 refine Aj ?_;have y0:=w.o.m 0;have y1:=w.o.m 1;have y2:=w.o.m 2;have y3:=w.o.m 3;have y4:=w.o.m 4
 iterate 2 refine Az ?_
 refine Aj ?_;clear y0 y1 y2 y3 y4;refine Al ?_;intro K d;obtain⟨w5,aP,g5,b5⟩:=Aq w4 130 [CV F,Z .u64 (U G),Z O r,Z O a,Z O s];rw[aP];have H5:=zh (H4.o.grown g5);have G5:=zh (Ae G4.o g5);have B5:=zh b5;clear g5 b5 aP H4 G4 w;refine d _ _ ⟨_,λ_ l=>l,λ_=>H5.o.cells.2.2.2.2.2.2.2.1,?_⟩;clear d K;refine Ak ?_;refine Ar ?_;refine Aj ?_;obtain⟨i0,aR,aS,aT,aU⟩:=info_parts fC;refine AH rfl (λK d=>?_);refine Kh Θ _ _ 100 Θ 0 130 i0 _ 5 40 Tryz.underlying100 aR aS aT aU rfl Ξ (v:=AA X g.length pc) Θ H5.o.aM Θ (Ai.bn (sz:=5) (n:=1) (c:=1) B5.o rfl (by unfold CX;omega)) (λu hu=>by simp at hu;rcases hu with rfl|rfl|rfl|rfl|rfl<;>rfl) (by have:=m.o;unfold CX;omega) (Ψ m.o) (kN _) ?_;intro bB w6 o6 g6 l6;obtain⟨la,lc,rfl⟩:=(Ai.aj o6).slice;have aY:Aw w5 Y:=HC.o.grown G5.o;obtain⟨b6,bk,s7,h7⟩:=H5.o.cG aY g6 ⟨F,G,r,a,s⟩ a9.o m.o.1 (by rw[eK];exact o6) l6;have N:=zh ((HD.o.grown G5.o).ae s7 Ω);have y:=zh ((Ab.grown (C:=Ho) HC.o G5.o).trans (s7.mono (λbC e=>CB e)));have z:=zh h7;have B6:=zh b6;clear aY o6 g6 l6 s7 h7 b6 aR aS aT aU;refine d _ _ ⟨_,λ_ l=>l,λ_=>(B6.o.m 13),?_⟩;clear d K;refine Ak ?_;refine Ar ?_;have M:=B6.o.m 13;have bl:=B6.o.v 13
 iterate 2 refine Az ?_
 refine Aj ?_;refine Al ?_;intro K d;clear M bl;obtain⟨w7,au⟩:=Ag (w6.setCell ⟨j,13,V⟩ (AA la (g.length+1) lc));rw[au]at N y z;rw[au];clear au;refine As d ?_;clear d K;refine AK (A4 ?_);have a1:Hd ((g++[Bt.mk F G r a s]).length=g.length+1):=zh Δ;obtain⟨A,av⟩:=Ag (g.length+1);rw[av]at z a1;have bD:=zh av;clear av;obtain⟨B,aw⟩:=Ag (Do P.n);have bm:=zh aw;obtain⟨_,_,_,_,a2,_,_,M,_⟩:=z.o.cells;rw[aw]at a2;clear aw
 by_cases q:A<B
 ·have d1:Bx ((A:Int)<(B:Int))=BR:=jT Ω;have d2:Bx (A<B)=BR:=jT q;go_wp2_with fail
  go_quiet (fail)
  go_wp2_with fail;go_ret;have i:=AS w7 nq V;refine⟨rfl,bk,J,h,Q,y.o.trans (Ab.grown y.o.new i),jS _,lC _,⟨_,_,z.o.grown i,?_⟩,(N.o.grown i).mono (lC _),Gf.refl _ _⟩;rw[a1.o,bm.o];exact q
 ·have d1:Bx ((A:Int)<(B:Int))=Bd:=jV Ω;have d2:Bx (A<B)=Bd:=jV q;go_wp2_with fail
  go_quiet (fail)
  have i:=AS w7 nq V;have H8:=zh (z.o.grown i);have S8:=zh (y.o.trans (Ab.grown y.o.new i));have D8:=zh (N.o.grown i);generalize w7.drewN nq=w8 at*;clear i a2 M z y N;go_wp2_with fail;refine(Wl H8.o D8.o S8.o.new HF.o m.o.2.2.1 m.o.2.2.2.1 t m.o.2.2.2.2).mono ?_;rintro e w9 ⟨rfl,br,ys,s9,h9,d9⟩;go_wp2_with fail;go_ret;exact⟨rfl,br,J+1,_,t,S8.o.trans s9,lC _,jS _,⟨_,_,h9,by have:=m.o.1;simp;omega⟩,d9,Gf.dn HF.o h J ys⟩
end
section
open Go.RowKit Go.Shelf
attribute [local go_sem ↓] Go.wp_at_zero Go.wp_at_succ
theorem fY(n:Nat)(c:96<=n)(d:n<=512)(w:Bs):B7 Bk 145 #[Z O n] w λe a=>e=Bn (Z O (Do n:Nat))/\w=a:=by
 have f:=zh (IU n c d w);unfold Do;have h:max ((n:Int) - 19 - 9) 0=((n - 28:Nat):Int):=Ω;have i:wrap64 ((n:Int) - 19 - 9)=(n:Int) - 19 - 9:=BA _ Ω;have b:((n - 28:Nat):Int)/21=(((n - 28)/21:Nat):Int):=Ω;have g:=zh b;clear b
 go_enter Tryz.func145,Tryz.ntmps145
 go_wp2_with fail;refine f.o.mono ?_;rintro e a ⟨rfl,rfl⟩;go_wp2_with fail;go_ret;refine⟨?_,rfl⟩;show Bn (Z O (((n - 28:Nat):Int)/21))=_;rw[g.o]
abbrev IE(d a n b c e f g:Nat)(h:BitVec 64)(i:Nat)(j k:Int)(l:BB)(t:Int):List BB:=Ax (A3 ⟨d,0,V⟩)::(CH a n b c e f g h++[Z O 2,Z O i,Z O j,Z O k,l,Z O t])
theorem Vo(d c n g i j k m:Nat)(o:BitVec 64)(r y z A B C D:Nat)(q:Nat)(ct:Int->List Nat)(w:Bs)(au:Ad)(Q:AD w au d c n q ct)
  (R:∀W,B7 Bk 32 #[CE (CH c n g i j k m o).toArray] W λe s=>e=Bn (BD #[CE (EN r y z A B C D).toArray,Z O 0])/\W.grownBy s V)(S:96<=n)(T:n<=512):
  B7 Bk 87 #[Ax (A3 ⟨d,0,V⟩),CE (CH c n g i j k m o).toArray] w λe s=>∃l,e=Bn (BD #[Ax (A3 ⟨l,0,V⟩),Z O 0])/\w.heap.size<=l/\w.grownBy s V/\
   Aa s l 188 (IE d c n g i j k m o (Do n) 1 1 (AA V 0 0) 0):=by
 have U:=zh Q;have HF:=zh R;have aa:=zh (λW=>fY n S T W);obtain⟨M,E⟩:=Ag (Do n);rw[E]at aa;rw[E];have b1:((c:Int)!=(c:Int))=Bd:=Δ;have b2:((n:Int)!=(n:Int))=Bd:=Δ;clear Q R S T E;obtain⟨w1,ax,g1,b⟩:=Aq w 37 (CH c n g i j k m o);have P1:=zh b;have G1:=zh g1;have t:=b.m 0;have p:=b.m 1;have x2:=b.m 2;have x3:=b.m 3;have x4:=b.m 4;have x5:=b.m 5;have x6:=b.m 6;have x7:=b.m 7;clear g1 b
 go_enter Tryz.func87,Tryz.ntmps87
 go_wp2_with fail;clear ax t p x2 x3 x4 x5 x6 x7;refine(HF.o w1).mono ?_;rintro e w2 ⟨rfl,F⟩;obtain⟨w3,aA,G,l3⟩:=Aq w2 85 (EN r y z A B C D);have H:=zh (Ae (Ae G1.o F) G);have I:=zh ((P1.o.grown F Δ).grown G Δ);have L3:=zh l3;have f0:=I.o.m 0;have f1:=I.o.m 1;have t:=AV f0;have p:=AV f1;clear F G l3;go_wp2_with fail;clear aA f0 f1;refine CU Φ Φ ?_
 repeat(go_big_quiet_step (fail))
 go_big_quiet_step ((go_at_call 129;exact GW (λW J=>LP (U.o.grown (Ae H.o J))) _))
 repeat(go_big_quiet_step (fail))
 go_big_quiet_step ((go_at_call 130;exact GW (λW J=>Kr (U.o.grown (Ae H.o J))) _))
 repeat(go_big_quiet_step (fail))
 refine wpQuiet_nil ?_;rintro _ ⟨L,rfl⟩;have u:=CY L;generalize gw L=w4 at*;have G4:=zh (Ae H.o u);have P4:=zh (I.o.grown u Δ);have L4:=zh (L3.o.grown u Δ);clear t p L;generalize w2.heap.size=X at*;go_wp2_with fail;obtain⟨v,aG,x⟩:=AZ w4;have G5:=zh (Ae G4.o x);have N:=zh (P4.o.grown x Δ);have L5:=zh (L4.o.grown x Δ);clear x u;refine A7 (λW=>Aa W w.heap.size 37 (CH c n g i j k m o)/\Aa W X 85 (EN r y z A B C D)) (.an [1,2,3] [0,4,5] 6 BR (.an [] [7] 8 Bd (.an [] [9] 10 Bd (.nil)))) Φ Φ ?_;rw[aG];refine DK ⟨N.o,L5.o⟩ ?_
 iterate 3 ((apply AB rfl Θ;(· intro wS a;(try have a:=a rfl);(try dsimp only at a);(try(have t:=a.1.m 0;have p:=a.1.m 1;have x2:=a.1.m 2;have x3:=a.1.m 3;have x4:=a.1.m 4;have x5:=a.1.m 5;have x6:=a.1.m 6;have x7:=a.1.m 7;have y0:=a.2.m 0));go_simp;(try with_reducible rfl)));refine Ak ?_)
 refine Aj ?_;have p:=N.o.m 1
 iterate 3 refine Az ?_
 refine Aj ?_;clear p;refine Al ?_;intro K f;refine(aa.o v).mono ?_;rintro e s ⟨rfl,rfl⟩;dsimp only;refine f _ _ ⟨_,λ_ h=>h,λ_=>⟨N.o,L5.o⟩,?_⟩;clear f K;refine Ak ?_;refine Ar ?_;refine Az ?_;refine Aj ?_;refine Al ?_;intro K f;obtain⟨w6,ao,g6,b6⟩:=Aq v 188 (IE d c n g i j k m o M 1 1 (AA V 0 0) 0);have P:=ao;simp only[IE,kO,kv]at P;rw[P];have B6:=zh b6;have G6:=zh (Ae G5.o g6);have aJ:w.heap.size<=v.heap.size:=G5.o.size;generalize v.heap.size=Y at*;clear ao P b6 g6;refine As f ?_;clear f K;refine Ar ?_;refine Az ?_;refine Aj ?_;refine Al ?_;intro K f;refine As f ?_;clear f K;refine AK (A4 ?_);go_wp2_with fail;exact BE (results_tmp2 rfl _ _ _) rfl ⟨Y,rfl,aJ,G6.o,B6.o⟩
theorem Vm{l lg:Nat}(P:AD E Y f J j k h)(Q:Aw E Y)(R:E.cell? ⟨l,0,V⟩=A3 (Ax (A3 ⟨f,0,V⟩)))(h5:E.cell? ⟨l,5,V⟩=A3 (Z O lg))(S:E.cell? ⟨l,9,V⟩=A3 (Z O 2))
  (c:∀i:Nat,i<lg->h ((2+i:Nat):Int)=AJ j)(hr:2+lg<=J)(ai:J<=16384):
  B7 Bk 88 #[Ax (A3 ⟨l,0,V⟩)] E λe w'=>e=Bn (BD #[Z O 0,Z O 0])/\E.grownBy w' V:=by
 have u:=zh (λ(W:Bs) (g:E.grownBy W V)=>A2 (g.cell R Δ) (g.cell S Δ));have ak:=zh (λ(i:Nat) (m:i<lg) (W:Bs) (g:E.grownBy W V)=>Ou f J j k h ((2+i:Nat):Int) 4 (i:Int) W Y (P.grown g) (Q.grown g) Ω (by exact_mod_cast (show 2+i<J by omega)) (c i m));have al:Hd (lg<=16384):=zh Ω;clear P Q R S c hr ai
 go_enter Tryz.func88,Tryz.ntmps88
 go_wp2_with fail;clear h5
 go_loopg [13,4] lg (λT v o wr=>v=Z O (lg - T:Nat)/\o=Z O 0/\T<=lg/\E.grownBy wr V)
 case atStart=>exact⟨Δ,rfl,jS _,Bf _ _⟩
 case round=>
  obtain⟨rfl,rfl,U,w⟩:=hrel;obtain⟨i,m⟩:=Ag (lg - gk);rw[m]
  by_cases X:gk=0
  ·subst X;have am:i=lg:=Ω;subst am;have x:Bx ((i:Int)<(i:Int))=Bd:=jV Ω;clear m U;go_wp2_with fail;exact BE (results_tmp2 rfl _ _ _) rfl ⟨rfl,w⟩
  ·have x:Bx ((i:Int)<(lg:Int))=BR:=jT Ω;have aa:Bx (i<lg)=BR:=jT Ω;have HG:=zh (ak.o i Ω);have y:Hd (i+1=lg - (gk - 1)/\gk - 1<=lg/\gk - 1<gk):=zh Ω;have HI:Hd (i<=16384):=zh (Ψ al.o);have GR:=zh w;clear m U X w
   go_upto_region 5 with fail
   go_cut [7] (λs7 wx=>s7=Z O 5/\E.grownBy wx V)
   case first=>
    have HA:=zh (show O.wrap (2+(i:Int))=((2+i:Nat):Int) by have:=HI.o;exact Cn (by rw[BA _ Ω];omega));have ha:=HA.o;clear x aa;refine A7 (λW=>W.cell? ⟨l,0,V⟩=A3 (Ax (A3 ⟨f,0,V⟩))/\W.cell? ⟨l,9,V⟩=A3 (Z O 2)) (.bP [0,1,2,3,4,5,6,7,8,9,10] 11 Bd (.an [] [12,13,14] 15 BR (.an [] [] 16 Bd (.an [] [] 17 Bd (.nil)))) 15 BR (.an [] [] 11 Bd (.an [] [12,13,14] 16 Bd (.an [] [] 17 Bd (.nil))))) Φ Φ ?_;obtain⟨u1,ad,v1⟩:=AZ wr;rw[ad];have d:=zh (Ae GR.o v1);clear v1 ad;have S1:=zh (u.o u1 d.o);refine Ej S1.o ?_
    iterate 11 ((apply AB rfl Θ;(· intro wS n;(try have n:=n rfl);(try dsimp only at n);(try(have c0:=n.1;have c9:=n.2));go_simp;(try with_reducible rfl)));refine Ak ?_)
    refine Aj ⟨?_,?_⟩
    ·refine Al ?_;intro K a;refine(HG.o u1 d.o).mono ?_;rintro e u2 ⟨rfl,r⟩;dsimp only;refine As a ?_;clear a K;refine Ar ?_
     iterate 3 refine Az ?_
     refine Aj ?_;refine Al ?_;intro K a;obtain⟨u3,au,s,b⟩:=Aq u2 174 [Z O 0,Z O 0,Z O 0,AA V 0 0];rw[au];have c:E.heap.size<=u2.heap.size:=(Ae d.o r).size;have t:=zh (Ae (Ae d.o r) s);refine a _ _ ⟨_,λ_ z=>z,λ_=>(u.o u3 t.o),?_⟩;clear a K;refine Ak ?_;refine Ar ?_;refine Aj ?_;have A:=b.v 0;have B:=b.v 1;have C:=b.v 2;have D:=b.v 3;have F:=b.m 0;have G:=b.m 1;have H:=b.m 2;have I:=b.m 3;refine Al ?_;intro K a;obtain⟨u4,p,L,q⟩:=EZ b (Z O 0) (Z O 0) (Z O 0) (AA V 0 0);rw[p];have M:=Ac.grown t.o q (λav e=>by rw[e];exact c);clear A B C D F G H I p L q b;refine As a ?_;clear a K;refine Ar ?_;refine Aj ?_;refine Al ?_;intro K a;refine As a ?_;clear a K;refine AK (A4 ?_);go_wp2_with fail
     go_meet
     exact⟨rfl,M⟩
    ·refine Al ?_;intro K a;obtain⟨u2,aw,r,b2⟩:=Aq u1 174 [Z O 0,Z O 0,Z O 0,AA V 0 0];rw[aw];have c:E.heap.size<=u1.heap.size:=d.o.size;have N:=zh (Ae d.o r);refine a _ _ ⟨_,λ_ z=>z,λ_=>(u.o u2 N.o),?_⟩;clear a K;refine Ak ?_;refine Ar ?_;refine Aj ?_;refine Al ?_;intro K a;refine(HG.o u2 N.o).mono ?_;rintro e u3 ⟨rfl,s⟩;have b:=b2.grown s Δ;have t:=zh (Ae N.o s);dsimp only;refine As a ?_;clear a K;refine Ar ?_
     iterate 3 refine Az ?_
     refine Aj ?_;have A:=b.v 0;have B:=b.v 1;have C:=b.v 2;have D:=b.v 3;have F:=b.m 0;have G:=b.m 1;have H:=b.m 2;have I:=b.m 3;refine Al ?_;intro K a;obtain⟨u4,p,L,q⟩:=EZ b (Z O 0) (Z O 0) (Z O 0) (AA V 0 0);rw[p];have M:=Ac.grown t.o q (λav e=>by rw[e];exact c);clear A B C D F G H I p L q b;refine As a ?_;clear a K;refine Ar ?_;refine Aj ?_;refine Al ?_;intro K a;refine As a ?_;clear a K;refine AK (A4 ?_);go_wp2_with fail
     go_meet
     exact⟨rfl,M⟩
   case rest=>
   obtain⟨rfl,g6⟩:=hcut;have G6:=zh g6;have az:Hd (wrap64 ((i:Int)+1)=((i+1:Nat):Int)):=zh (De rfl (Ψ HI.o));clear g6 x aa;go_wp2_with fail
   go_roundg (gk - 1)
   case measure=>exact y.o.2.2
   exact⟨by rw[<-y.o.1,az.o],rfl,y.o.2.1,G6.o⟩
theorem ZC(T:AD E Y k j n p h)(U:Aw E Y)(X:E.cell? ⟨f,0,V⟩=A3 (Ax (A3 ⟨k,0,V⟩)))(h5:E.cell? ⟨f,5,V⟩=A3 (Z O J))(h9:E.cell? ⟨f,9,V⟩=A3 (Z O 2))
  (g:∀i:Nat,i<J->h ((2+i:Nat):Int)=AJ n)(hr:2+J<=j)(am:j<=16384)(ac:0<J)(u:Nat)(ev:BB):
  B7 Bk 147 #[Ax (A3 ⟨f,0,V⟩),Z O u,ev] E λe w'=>e=Bn (BD #[CE #[Z O 0,AA V 0 0],CV Bd])/\E.grownBy w' V:=by
 obtain⟨i,w⟩:=Ag (u%J)
 have ad:i<J:=by rw[<-w];exact lT _ ac
 obtain⟨c,ap,d,b1⟩:=Aq E 186 [Z O 0,AA V 0 0];have F:=zh (λ(W:Bs) (q:c.grownBy W V)=>A2 ((Ae d q).cell X Δ) ((Ae d q).cell h9 Δ));have HG:=zh (λ(W:Bs) (q:c.grownBy W V)=>Ou k j n p h ((2+i:Nat):Int) 4 (i:Int) W Y (T.grown (Ae d q)) (U.grown (Ae d q)) Ω (by exact_mod_cast (show 2+i<j by omega)) (g i ad));have HI:Hd (i<=16384):=zh Ω;have ar:((J:Int)==0)=Bd:=Γ;have au:¬J=0:=Ω
 have av:((u:Int)).tmod (J:Int)=(i:Int):=by rw[ln Ω, <-w];rfl
 have aw:(u:Int)%(J:Int)=(i:Int):=by rw[<-w];rfl
 have x5:=d.cell h5 Δ;have G1:=zh d;have B1:=zh b1;clear T U X h9 g hr am h5 w ad ac d b1
 go_enter Tryz.func147,Tryz.ntmps147
 go_wp2_with fail;clear ar au av aw x5 ap
 go_upto_region 2 with fail
 go_cut [10] (λaA wx=>aA=Z O 5/\c.grownBy wx V)
 case first=>
  have HA:=zh (show O.wrap (2+(i:Int))=((2+i:Nat):Int) by have:=HI.o;exact Cn (by rw[BA _ Ω];omega));have ha:=HA.o;refine A7 (λW=>W.cell? ⟨f,0,V⟩=A3 (Ax (A3 ⟨k,0,V⟩))/\W.cell? ⟨f,9,V⟩=A3 (Z O 2)) (.bP [0,1,2,3,4,5,6,7,8,9,10] 11 Bd (.an [] [12,13,14] 15 BR (.an [] [] 16 Bd (.an [] [] 17 Bd (.nil)))) 15 BR (.an [] [] 11 Bd (.an [] [12,13,14] 16 Bd (.an [] [] 17 Bd (.nil))))) Φ Φ ?_;obtain⟨u1,ag,v1⟩:=AZ c;rw[ag];have l:=zh (Ae (Bf c V) v1);clear v1 ag;have S1:=zh (F.o u1 l.o);refine Ej S1.o ?_
  iterate 11 ((apply AB rfl Θ;(· intro wS r;(try have r:=r rfl);(try dsimp only at r);(try(have c0:=r.1;have c9:=r.2));go_simp;(try with_reducible rfl)));refine Ak ?_)
  refine Aj ⟨?_,?_⟩
  ·refine Al ?_;intro K a;refine(HG.o u1 l.o).mono ?_;rintro e u2 ⟨rfl,x⟩;dsimp only;refine As a ?_;clear a K;refine Ar ?_
   iterate 3 refine Az ?_
   refine Aj ?_;refine Al ?_;intro K a;obtain⟨u3,aE,y,b⟩:=Aq u2 174 [Z O 0,Z O 0,Z O 0,AA V 0 0];rw[aE];have g:c.heap.size<=u2.heap.size:=(Ae l.o x).size;have z:=zh (Ae (Ae l.o x) y);refine a _ _ ⟨_,λ_ G=>G,λ_=>(F.o u3 z.o),?_⟩;clear a K;refine Ak ?_;refine Ar ?_;refine Aj ?_;have A:=b.v 0;have B:=b.v 1;have H:=b.v 2;have I:=b.v 3;have C:=b.m 0;have D:=b.m 1;have L:=b.m 2;have M:=b.m 3;refine Al ?_;intro K a;obtain⟨u4,s,N,t⟩:=EZ b (Z O 0) (Z O 0) (Z O 0) (AA V 0 0);rw[s];have P:=Ac.grown z.o t (λm e=>by rw[e];exact g);clear A B H I C D L M s N t b;refine As a ?_;clear a K;refine Ar ?_;refine Aj ?_;refine Al ?_;intro K a;refine As a ?_;clear a K;refine AK (A4 ?_);go_wp2_with fail
   go_meet
   exact⟨rfl,P⟩
  ·refine Al ?_;intro K a;obtain⟨u2,aF,x,b2⟩:=Aq u1 174 [Z O 0,Z O 0,Z O 0,AA V 0 0];rw[aF];have g:c.heap.size<=u1.heap.size:=l.o.size;have Q:=zh (Ae l.o x);refine a _ _ ⟨_,λ_ G=>G,λ_=>(F.o u2 Q.o),?_⟩;clear a K;refine Ak ?_;refine Ar ?_;refine Aj ?_;refine Al ?_;intro K a;refine(HG.o u2 Q.o).mono ?_;rintro e u3 ⟨rfl,y⟩;have b:=b2.grown y Δ;have z:=zh (Ae Q.o y);dsimp only;refine As a ?_;clear a K;refine Ar ?_
   iterate 3 refine Az ?_
   refine Aj ?_;have A:=b.v 0;have B:=b.v 1;have H:=b.v 2;have I:=b.v 3;have C:=b.m 0;have D:=b.m 1;have L:=b.m 2;have M:=b.m 3;refine Al ?_;intro K a;obtain⟨u4,s,N,t⟩:=EZ b (Z O 0) (Z O 0) (Z O 0) (AA V 0 0);rw[s];have P:=Ac.grown z.o t (λm e=>by rw[e];exact g);clear A B H I C D L M s N t b;refine As a ?_;clear a K;refine Ar ?_;refine Aj ?_;refine Al ?_;intro K a;refine As a ?_;clear a K;refine AK (A4 ?_);go_wp2_with fail
   go_meet
   exact⟨rfl,P⟩
 case rest=>
 obtain⟨rfl,R⟩:=hcut;have o:=B1.o.grown R Δ;have g6:=Ae G1.o R;have A:=o.v 0;have B:=o.v 1;have C:=o.m 0;have D:=o.m 1;have b7:=(o.setCell 0 (Z O 0)).setCell 1 (AA V 0 0);have t7:Ac (λm=>m=E.heap.size) wc ((wc.setCell ⟨E.heap.size,0,V⟩ (Z O 0)).setCell ⟨E.heap.size,1,V⟩ (AA V 0 0)):=(Ac.of (An _ _ _) (λm e=>by cases e;rfl)).trans (Ac.of (An _ _ _) (λm e=>by cases e;rfl));have S:=zh (A2 b7 (Ac.grown g6 t7 (λm e=>by rw[e];exact jS _)));clear g6 o b7 t7 R;go_wp2_with fail;have z0:=S.o.1.m 0;have z1:=S.o.1.m 1;exact BE (v:=BD #[CE #[Z O 0,AA V 0 0],CV Bd]) (by simp[results,Tryz.f147,go_sem,z0,z1]) rfl ⟨rfl,S.o.2⟩
theorem U7(l c:Nat)(d:BB)(o:∃p,d=Ax p)(w:Bs):
  B7 Bk 89 #[Ax (A3 ⟨l,0,V⟩),Z O c,d] w λe a=>e=Bn (.func (.func 146) #[] #[Ax (A3 ⟨w.heap.size+1,0,V⟩),Ax (A3 ⟨w.heap.size,0,V⟩),Ax (A3 ⟨w.heap.size+2,0,V⟩)])/\
   w.grownBy a V/\Aa a w.heap.size 88 [Ax (A3 ⟨l,0,V⟩)]/\Aa a (w.heap.size+1) 3 [Z O c]/\Aa a (w.heap.size+2) 184 [d]:=by
 obtain⟨p,rfl⟩:=o;obtain⟨i,q,j,k⟩:=Aq w 88 [Ax (A3 ⟨l,0,V⟩)]
 have m:i.heap.size=w.heap.size+1:=by rw[<-q];simp
 obtain⟨n,r,f,g⟩:=Aq i 3 [Z O c]
 have s:n.heap.size=w.heap.size+2:=by rw[<-r];simp[m]
 obtain⟨u,v,b,h⟩:=Aq n 184 [Ax p];rw[m]at g;rw[s]at h;have t:=zh (A2 (Ae (Ae j f) b) (A2 ((k.grown f Δ).grown b Δ) (A2 (g.grown b Δ) h)));clear j k f g b h
 go_enter Tryz.func89,Tryz.ntmps89
 go_wp2;go_ret;exact⟨rfl,t.o⟩
def jF(a b e l d f n g q h:Nat)(i:Int->List Nat)(j:BB)(c:Ad)(X:Bs):Prop:=
 X.cell? ⟨a,0,V⟩=A3 (Z O h)/\X.cell? ⟨b,0,V⟩=A3 (Ax (A3 ⟨l,0,V⟩))/\X.cell? ⟨e,0,V⟩=A3 j/\X.cell? ⟨l,0,V⟩=A3 (Ax (A3 ⟨d,0,V⟩))/\X.cell? ⟨l,5,V⟩=A3 (Z O g)/\X.cell? ⟨l,9,V⟩=A3 (Z O 2)/\AD X c d f n q i
theorem Ve(Y z A B l d u n b q a:Nat)(D:Int->List Nat)(p:Option Addr)(E:∀i:Nat,i<b->D ((2+i:Nat):Int)=AJ n)(F:2+b<=u)(G:u<=16384)(H:0<b)(aa:a<=1000000)(C:Nat->Prop):
  Iu Fence.wide Y Bk 146 #[Ax (A3 ⟨z,0,V⟩),Ax (A3 ⟨A,0,V⟩),Ax (A3 ⟨B,0,V⟩)] (λ_:Unit=>#[undef,undef]) C (λ(_:Unit)=>jF z A B l d u n b q a D (Ax p)) (λ_ _ _ _ _=>False) (λxs=>xs=[]) 1:=by
 intro ly J Jx W m0 ad I _ ae K hY w _;obtain⟨⟨x,m,f,L,s,M,N⟩,P⟩:=K _ _ _ _ w;have HG:=zh (λ(X:Bs) (c:W.grownBy X V)=>ZC (N.grown c) (P.grown c) (c.cell L Δ) (c.cell s Δ) (c.cell M Δ) E F G H a (Ax p));have HJ:=zh (λ(X:Bs) (c:W.grownBy X V)=>I _ _ _ _ _ w c);have g:=zh (A2 x (A2 m (A2 f s)));have d1:Bx ((a:Int)<((a+b:Nat):Int))=BR:=jT Ω;have d2:Bx (a<a+b)=BR:=jT Ω;have d3:Bx ((a:Int)<(a:Int)+(b:Int))=BR:=jT Ω
 have Q:wrap64 ((a:Int)+(b:Int))=((a+b:Nat):Int):=by rw[BA _ Ω];omega
 have al:=Cn Q;clear K I hY w N P E F G H aa ae f L M;refine BC.2 ?_
 go_enter CL,Tryz.ntmps146
 go_wp2_with fail;refine wp_scope_straight ?_;go_wp2_with fail;refine wp_label ?_;go_wp2_with fail
 go_loopg [5] 0 (λk v wr=>v=Z O a/\W.grownBy wr V)
 case atStart=>exact⟨rfl,Bf _ _⟩
 case round=>
  obtain⟨rfl,h⟩:=hrel;have GR:=zh h;have x:=h.cell g.o.1 Δ;have m:=h.cell g.o.2.1 Δ;have f:=h.cell g.o.2.2.1 Δ;have s:=h.cell g.o.2.2.2 Δ;clear h;go_wp2_with fail
  go_quiet (fail)
  have o:=zh (Ae GR.o (AS wr nq V));generalize wr.drewN nq=w2 at*;clear x m f s d1 d2 d3 Q al;have m:=o.o.cell g.o.2.1 Δ;have f:=o.o.cell g.o.2.2.1 Δ;go_wp2_with fail;refine(HG.o w2 o.o).mono ?_;rintro e t ⟨rfl,y⟩;obtain⟨R,ar,S,r⟩:=Aq t 186 [Z O 0,AA V 0 0];have f0:=r.v 0;have f1:=r.v 1;have y0:=r.m 0;have y1:=r.m 1;have T:Ac (λj=>j=t.heap.size) R ((R.setCell ⟨t.heap.size,0,V⟩ (Z O 0)).setCell ⟨t.heap.size,1,V⟩ (AA V 0 0)):=(Ac.of (An _ _ _) (λj e=>by cases e;rfl)).trans (Ac.of (An _ _ _) (λj e=>by cases e;rfl));have U:=(Ae o.o y).size;have G5:=zh (Ac.grown (Ae (Ae o.o y) S) T (λj e=>by rw[e];exact U));clear m f y S r T U;go_wp2_with fail;simp only[Exit.noGoto]
  go_end0
  exact⟨⟨_,rfl⟩,ad,CR ⟨m0,[],rfl,HJ.o _ G5.o⟩⟩
end
section
open Go.RowKit Go.Shelf
attribute [local go_sem] Oper.semAt_some
structure Ln(w:Bs)(g:Ad)(d h n q:Nat)(i:Int->List Nat)(l:Nat)(j:List BB)(b e a f F L E:Nat)(c:Ad)(W:Bs):Prop where
 st:Ab (Sc Gp 200) w g W c
 bI:AD W c d h n q i
 bl:Aa W l 188 j
 b7:Aa W b 100 [AA V 0 0]
 b8:Aa W e 3 [Z O 0]
 b9:Aa W a 32 [Z O 0]
 hP:Aa W f 3 [Z O 0]
 bF:Aa W F 3 [Z O 1]
 bL:Aa W L 88 [Ax (A3 ⟨l,0,V⟩)]
 bE:Aa W E 184 [Ax (A3 ⟨a,0,V⟩)]
 z:c l=0/\c b=0/\c e=0/\c a=0/\c f=0/\c F=0/\c L=0/\c E=0
 ge:w.heap.size<=l
theorem Ln.am{d e g F L m:Nat}{o:Ad}{C:Nat->Prop}(b:Ln E Y J f j k h n a p d e g F L m r i)(s:Ab C i r l o)(c:¬C 0)(B:¬C 1)(D:∀q,C q->Sc Gp 200 q):Ln E Y J f j k h n a p d e g F L m o l:=by
 obtain⟨t,u,v,w,x,y,z,A⟩:=b.z
 exact⟨b.st.trans (s.mono D),b.bI.ae s B,s.u b.bl (by rw[t];exact c),s.u b.b7 (by rw[u];exact c),s.u b.b8 (by rw[v];exact c),s.u b.b9 (by rw[w];exact c),s.u b.hP (by rw[x];exact c),s.u b.bF (by rw[y];exact c),s.u b.bL (by rw[z];exact c),s.u b.bE (by rw[A];exact c),
  ⟨by rw[s.ah _ b.bl.lt];exact t,by rw[s.ah _ b.b7.lt];exact u,by rw[s.ah _ b.b8.lt];exact v,by rw[s.ah _ b.b9.lt];exact w,by rw[s.ah _ b.hP.lt];exact x,by rw[s.ah _ b.bF.lt];exact y,by rw[s.ah _ b.bL.lt];exact z,by rw[s.ah _ b.bE.lt];exact A⟩,b.ge⟩
theorem Ab.iy{C S:Nat->Prop}(h:Ab C E r i Y)(t:Ac S i l)(b:∀j,S j->E.heap.size<=j\/C (Y j)):Ab C E r l Y:=
 ⟨h.ak.ae t (λj c=>(b j c).elim CB (λa=>(mU j E.heap.size).elim (λd=>CR (by rw[h.ah j d]at a;exact a)) CB)),h.ah,h.dx,h.new.ak t⟩
theorem Yl(d f n I J p M N:Nat)(P:BitVec 64)(pr:Nat)(q:Nat)(U:Int->List Nat)(w:Bs)(u:Ad)(hD:AD w u d f n q U)(hC:Aw w u)
  (hf:∀W,AD W u d f n q U->B7 Bk 87 #[Ax (A3 ⟨d,0,V⟩),CE (CH f n I J p M N P).toArray] W λe w'=>∃l,e=Bn (BD #[Ax (A3 ⟨l,0,V⟩),Z O 0])/\W.heap.size<=l/\W.grownBy w' V/\
   Aa w' l 188 (IE d f n I J p M N P pr 1 1 (AA V 0 0) 0))
  (v:∀i:Nat,i<p->U ((2+i:Nat):Int)=AJ n)(hr:2+p<=f)(aX:f<=16384)(bA:0<p):
  B7 Bk 41 #[Ax (A3 ⟨d,0,V⟩),CE (CH f n I J p M N P).toArray,Z O 1] w λe w'=>∃l,e=Bn (BD #[Ax (A3 ⟨l,0,V⟩),AA V 0 0,Z O 0,Z O 0])/\
   ∃c,Ab (Sc Gp 200) w u w' c/\w.heap.size<=l/\c l=0/\Aa w' l 188 (IE d f n I J p M N P pr 1 1 (AA V 0 0) 0):=by
 obtain⟨z,cm,ga,ba⟩:=Aq w 37 (CH f n I J p M N P);obtain⟨x,cn,gb,bb⟩:=Aq z 100 [AA V 0 0];obtain⟨wc,co,gc,bc⟩:=Aq x 3 [Z O 0];obtain⟨wd,cp,gd,bd⟩:=Aq wc 32 [Z O 0];have cq:=ba.lt;have bD:=bb.lt;have bE:=bc.lt;have bF:=bd.lt;have A:=((ba.grown gb Δ).grown gc Δ).grown gd Δ;have x0:=A.m 0;have x1:=A.m 1;have x2:=A.m 2;have x3:=A.m 3;have x4:=A.m 4;have x5:=A.m 5;have x6:=A.m 6;have x7:=A.m 7;have HB:=zh (A2 ((bb.grown gc Δ).grown gd Δ) (A2 (bc.grown gd Δ) bd));have GD:=zh (Ae (Ae (Ae ga gb) gc) gd);have HZ:=zh (show w.heap.size<=z.heap.size/\z.heap.size<x.heap.size/\x.heap.size<wc.heap.size/\wc.heap.size<wd.heap.size from⟨Ω,bD,bE,bF⟩);have HD:=zh hD;have HC:=zh hC;have HF:=zh hf;have cz:=zh (λ(l:Nat) (W:Bs) (hW:AD W u d f n q U) (cB:Aw W u) (k0) (k5) (k9)=>Vm (l:=l) (lg:=p) hW cB k0 k5 k9 v hr aX);have cF:=zh (λ(F L E l k:Nat) (C:Nat->Prop)=>Ve 19 F L E l d f n p q 1 U (A3 ⟨k,0,V⟩) v hr aX bA Ω C);clear hD hC hf v hr aX bA ga gb gc gd ba bb bc bd A cq bD bE bF;have bH:Fence.wide.round=V:=rfl;refine(BC (n:=20)).1 ?_;refine callsIn_of_wp_marks Tryz.func41 rfl kI ?_ bH;simp only[Tryz.ntmps41,kR,kj,kP,Nat.reduceAdd,Nat.reduceSub,kF,kG,kU,kJ,kv,kO]
 gi_wp2_with (refine⟨kI,?_⟩;gi_at_call 87;refine(BC.2 (HF.o wd (HD.o.grown GD.o))).mono ?_;rintro e we ⟨l,rfl,cG,g5,bl⟩;have f9:=(HB.o.2.2.grown g5 Δ).v 0;have y9:=(HB.o.2.2.grown g5 Δ).m 0;have b9:=(HB.o.2.2.grown g5 Δ).setCell 0 (Z O 0);have r:Ac (λj=>j=wc.heap.size) we (we.setCell ⟨wc.heap.size,0,V⟩ (Z O 0)):=Ac.of (An _ _ _) (λj e=>by cases e;rfl);obtain⟨wf,bJ⟩:=Ag (we.setCell ⟨wc.heap.size,0,V⟩ (Z O 0));rw[bJ]at b9 r;have u9:=b9.m 0)
 have v:=HZ.o;have an:w.heap.size<=l:=Ω;have a7:l≠wc.heap.size:=Ω;have G6:=zh (Ac.grown (Ae GD.o g5) r (λj e=>Ω));have BL:=zh (r.u bl a7);have B9:=zh b9;have a8:=zh (A2 (r.u (HB.o.1.grown g5 Δ) Ω) (r.u (HB.o.2.1.grown g5 Δ) Ω));have a9:=zh (A2 an a7);have bK:=zh r.size;clear cm cn co cp x0 x1 x2 x3 x4 x5 x6 x7 f9 y9 u9 b9 r bJ bl g5 cG v an a7 HB;refine⟨kI,?_⟩;refine(BC.2 (cz.o l wf (HD.o.grown G6.o) (HC.o.grown G6.o) (BL.o.m 0) (BL.o.m 5) (BL.o.m 9))).mono ?_;rintro e a ⟨rfl,g7⟩;obtain⟨wh,cJ,g8,aD⟩:=Aq a 3 [Z O 0];have af:=Ae g7 g8;have b9:=B9.o.grown af Δ
 have aE:wc.heap.size≠a.heap.size:=by have:=bK.o;have:=B9.o.lt;have:=g7.size;omega
 have q0:=aD.v 0;have v0:=aD.m 0;have be:=aD.setCell 0 (Z O 0);obtain⟨wi,aG⟩:=Ag (wh.setCell ⟨a.heap.size,0,V⟩ (Z O 0))
 have t1:Ac (λj=>j=a.heap.size\/j=wc.heap.size) wh wi:=by rw[<-aG];exact Ac.of (An _ _ _) (λj e=>by cases e;exact CR rfl)
 rw[aG]at be
 have aH:Aa wi wc.heap.size 32 [Z O 0]:=by rw[<-aG];exact(Ac.of (S:=λj=>j=a.heap.size) (An _ _ _) (λj e=>by cases e;rfl)).u b9 aE
 have q1:=aH.v 0;have B:=aH.m 0;have bf:=aH.setCell 0 (Z O 0);obtain⟨wj,aJ⟩:=Ag (wi.setCell ⟨wc.heap.size,0,V⟩ (Z O 0))
 have t2:Ac (λj=>j=a.heap.size\/j=wc.heap.size) wi wj:=by rw[<-aJ];exact Ac.of (An _ _ _) (λj e=>by cases e;exact CB rfl)
 rw[aJ]at bf
 have aK:Aa wj a.heap.size 3 [Z O 0]:=by rw[<-aJ];exact(Ac.of (S:=λj=>j=wc.heap.size) (An _ _ _) (λj e=>by cases e;rfl)).u be aE.symm
 have q2:=aK.v 0;have v2:=aK.m 0;have bg:=aK.setCell 0 (Z O 0);obtain⟨o,aL⟩:=Ag (wj.setCell ⟨a.heap.size,0,V⟩ (Z O 0))
 have t3:Ac (λj=>j=a.heap.size\/j=wc.heap.size) wj o:=by rw[<-aL];exact Ac.of (An _ _ _) (λj e=>by cases e;exact CR rfl)
 rw[aL]at bg
 have bO:Aa o wc.heap.size 32 [Z O 0]:=by rw[<-aL];exact(Ac.of (S:=λj=>j=a.heap.size) (An _ _ _) (λj e=>by cases e;rfl)).u bf aE
 have T:=(t1.trans t2).trans t3;have v:=HZ.o;have an:=a9.o;have cP:=bK.o;have bh:=g7.size;have cQ:=B9.o.lt
 have nl:∀j,j<a.heap.size->j≠wc.heap.size->¬(j=a.heap.size\/j=wc.heap.size):=λj g t h=>Ω
 have bP:=zh (T.u (BL.o.grown af Δ) (nl _ (Ψ BL.o.lt) an.2));have bQ:=zh (T.u (a8.o.1.grown af Δ) (nl _ Ω Ω));have bR:=zh (T.u (a8.o.2.grown af Δ) (nl _ Ω Ω));have bS:=zh bO;have bT:=zh bg;have Gk:=zh (Ac.grown (Ae G6.o af) T (λj e=>Ω));have cR:=zh (show wc.heap.size<a.heap.size/\w.heap.size<=a.heap.size by omega);clear T t1 t2 t3 af g7 g8 b9 aD be aH bf aK bg bO v an cP bh cQ nl aE BL B9 a8 G6
 gi_wp2_with (refine⟨kI,?_⟩;gi_at_call 89;refine(BC.2 (U7 l 1 _ ⟨_,rfl⟩ o)).mono ?_;rintro e wm ⟨rfl,Q,bL,bV,bW⟩)
 have v:=HZ.o;have bh:=cR.o;have G:∀j,w.heap.size<=j->u j=0:=HC.o
 have hI:Ln w u d f n q U l (IE d f n I J p M N P pr 1 1 (AA V 0 0) 0) z.heap.size x.heap.size wc.heap.size a.heap.size (o.heap.size+1) o.heap.size (o.heap.size+2) u wm:=
  ⟨Ab.grown HC.o (Ae Gk.o Q),HD.o.grown (Ae Gk.o Q),bP.o.grown Q Δ,bQ.o.grown Q Δ,bR.o.grown Q Δ,bS.o.grown Q Δ,bT.o.grown Q Δ,bV,bL,bW,
   ⟨G _ a9.o.1,G _ Ω,G _ Ω,G _ Ω,G _ Ω,G _ (j8 Gk.o.size (lC _)),G _ Gk.o.size,G _ (j8 Gk.o.size Ω)⟩,a9.o.1⟩
 have y:=zh hI;clear hI Q bL bV bW v bh G cJ q0 v0 aG q1 B aJ q2 v2 aL bP bQ bR bS bT
 refine IJ y.o.st.new bH Ω (gf:=146) (lb:=#[Ax (A3 ⟨o.heap.size+1,0,V⟩),Ax (A3 ⟨o.heap.size,0,V⟩),Ax (A3 ⟨o.heap.size+2,0,V⟩)]) rfl kI (enters_of CL Φ rfl)
  (C:=λj=>j=199) rfl (cF.o (o.heap.size+1) o.heap.size (o.heap.size+2) l wc.heap.size _) (λ_ _ _ _=>kI) (λ_=>rfl)
  (λ_ c _ W=>Ln w u d f n q U l (IE d f n I J p M N P pr 1 1 (AA V 0 0) 0) z.heap.size x.heap.size wc.heap.size a.heap.size (o.heap.size+1) o.heap.size (o.heap.size+2) c W) (λ_ _ _=>False) (λ_ _ _ _ _=>False)
  ()
  (λm c c' cT X Y h s=>h.am s Ω Ω (λj e=>CB (by rcases e with rfl|rfl<;>exact⟨Ω,Ω⟩)))
  (λ_ _ _ _ _ h _=>h)
  (λm c cT X h=>⟨⟨h.bF.m 0,h.bL.m 0,h.bE.m 0,h.bl.m 0,h.bl.m 5,h.bl.m 9,h.bI⟩,h.st.new⟩)
  (λ_ _ _ _ _ _ _ h _=>h)
  (λ_ _ _ _ _ _ h _=>h)
  y.o (λ_=>False) (λ_ h=>h.elim) (λh=>h) (λh=>h)
  (λ_ _ _ _ _ _ _ _ _ hR=>hR.elim) (λ_ _ _ _ _ _ _ _ _ hR=>hR.elim) ?done (λ_ _ _ _ h=>h.elim)
 case done=>
  intro D m c xs X hS hI b aq;have y:=zh hI;have bX:D<X.heap.size:=(kf.1 b).1;obtain⟨z1,z2,z3,z4,z5,z6,z7,z8⟩:=hI.z;have x9:=hI.b9.m 0;have aN:=zh (A2 b (A2 aq bX));clear hI hS b aq bX
  gi_wp2
  clear x9;obtain⟨y1,b1,B⟩:=AZ X;have s1:Ac (λj=>w.heap.size<=j/\c j=0) X y1:=Ac.au B;have R:=zh (y.o.bl.grown B Δ);have K7:=zh (y.o.b7.grown B Δ);have K8:=zh (y.o.b8.grown B Δ);have K9:=zh (y.o.b9.grown B Δ);have aP:=zh (y.o.hP.grown B Δ)
  have dj:O.wrap 1=1:=by rw[IntKind.wrap_i64];rfl
  refine wpIn_wide.2 ?_;refine A7 (λW=>W.cell? ⟨a.heap.size,0,V⟩=A3 (Z O 0)) (.an [3,4] [0,1,2,5,6] 7 BR (.an [] [8,9] 10 Bd (.nil))) Φ Φ ?_;rw[b1];refine DK (aP.o.m 0) ?_
  iterate 2 ((apply AB rfl Θ;(· intro wS H;(try have H:=H rfl);(try dsimp only at H);(try(have dk:=H));go_simp;(try with_reducible rfl)));refine Ak ?_)
  refine Aj ?_
  iterate 5 refine Az ?_
  refine Aj ?_;have cW:=R.o.v 11;have cX:=R.o.m 11;refine Al ?_;intro K b
  have b4:a.heap.size≠l:=λe=>by have g:=aP.o;have t:=R.o;unfold Aa at g t;rw[e,t]at g;simp at g
  have b5:z.heap.size≠l:=λe=>by have g:=K7.o;have t:=R.o;unfold Aa at g t;rw[e,t]at g;simp at g
  have b6:x.heap.size≠l:=λe=>by have g:=K8.o;have t:=R.o;unfold Aa at g t;rw[e,t]at g;simp at g
  have b7:wc.heap.size≠l:=λe=>by have g:=K9.o;have t:=R.o;unfold Aa at g t;rw[e,t]at g;simp at g
  have t2:Ac (λj=>j=l) y1 (y1.setCell ⟨l,11,V⟩ (Z O 1)):=Ac.of (An _ _ _) (λj e=>by cases e;rfl);have b2:=R.o.setCell 11 (Z O 1);generalize y1.setCell ⟨l,11,V⟩ (Z O 1)=y2 at*;clear cW cX;refine b _ _ ⟨_,λ_ h=>h,λ_=>((t2.u aP.o b4).m 0),?_⟩;clear b K;refine Ak ?_;refine Ar ?_;have cY:=b2.v 12;have cZ:=b2.m 12
  iterate 2 refine Az ?_
  refine Aj ?_;refine Al ?_;intro K b;have t3:Ac (λj=>j=l) y2 (y2.setCell ⟨l,12,V⟩ (Z O 1)):=Ac.of (An _ _ _) (λj e=>by cases e;rfl);have b3:Aa (y2.setCell ⟨l,12,V⟩ (Z O 1)) l 188 (IE d f n I J p M N P pr 1 1 (AA V 0 0) 0):=b2.setCell 12 (Z O 1);generalize y2.setCell ⟨l,12,V⟩ (Z O 1)=y3 at*;clear cY cZ;refine As b ?_;clear b K;refine AK (A4 ?_);have T3:=t2.trans t3;have L7:=zh (T3.u K7.o b5);have L8:=zh (T3.u K8.o b6);have L9:=zh (T3.u K9.o b7);have c0:=zh b3;have S3:Hd (Ac (λj=>w.heap.size<=j/\c j=0) X y3):=zh (s1.trans (T3.mono (λj e=>by rw[e];exact⟨y.o.ge,z1⟩)));clear t2 t3 b2 b3 T3 s1 B b1 b4 K7 K8 K9 aP R
  gi_wp2
  obtain⟨y4,ce,v4⟩:=AZ y3;have M7:=L7.o.grown v4 Δ;have M8:=L8.o.grown v4 Δ;have M9:=L9.o.grown v4 Δ;have c2:=zh (c0.o.grown v4 Δ);have S4:Hd (Ac (λj=>w.heap.size<=j/\c j=0) X y4):=zh (S3.o.trans (Ac.au v4));have v:=HZ.o;refine wpIn_wide.2 ?_;refine A7 (λW=>W.cell? ⟨x.heap.size,0,V⟩=A3 (Z O 0)) (.an [2] [0,1,3] 4 BR (.an [] [] 5 Bd (.an [] [] 6 Bd (.nil)))) Φ Φ ?_;rw[ce];refine DK (M8.m 0) ?_
  iterate 1 ((apply AB rfl Θ;(· intro wS H;(try have H:=H rfl);(try dsimp only at H);(try(have x8:=H));go_simp;(try with_reducible rfl)));refine Ak ?_)
  refine Aj ?_;have x7:=M7.m 0
  iterate 3 refine Az ?_
  refine Aj ?_;clear x7;have f7:=M7.v 0;have x7:=M7.m 0;refine Al ?_;intro K b;have t5:Ac (λj=>j=z.heap.size) y4 (y4.setCell ⟨z.heap.size,0,V⟩ (AA V 0 0)):=Ac.of (An _ _ _) (λj e=>by cases e;rfl);have N7:=M7.setCell 0 (AA V 0 0);simp only[ku]at N7;generalize y4.setCell ⟨z.heap.size,0,V⟩ (AA V 0 0)=y5 at*;have N8:=t5.u M8 Ω;have N9:=t5.u M9 Ω;clear f7 x7;refine b _ _ ⟨_,λ_ h=>h,λ_=>(N8.m 0),?_⟩;clear b K;refine Ak ?_;refine Ar ?_;refine Aj ?_;have f8:=N8.v 0;have x8:=N8.m 0;refine Al ?_;intro K b;have r:Ac (λj=>j=x.heap.size) y5 (y5.setCell ⟨x.heap.size,0,V⟩ (Z O 0)):=Ac.of (An _ _ _) (λj e=>by cases e;rfl);have O8:=N8.setCell 0 (Z O 0);simp only[ku]at O8;generalize y5.setCell ⟨x.heap.size,0,V⟩ (Z O 0)=y6 at*;have O7:=r.u N7 Ω;have O9:=r.u N9 Ω;clear f8 x8;refine As b ?_;clear b K;refine Ar ?_;refine Aj ?_;have f9:=O9.v 0;have x9:=O9.m 0;refine Al ?_;intro K b;have t7:Ac (λj=>j=wc.heap.size) y6 (y6.setCell ⟨wc.heap.size,0,V⟩ (Z O 0)):=Ac.of (An _ _ _) (λj e=>by cases e;rfl);have Q9:=O9.setCell 0 (Z O 0);simp only[ku]at Q9;generalize y6.setCell ⟨wc.heap.size,0,V⟩ (Z O 0)=y7 at*;have Q7:=t7.u O7 Ω;have Q8:=t7.u O8 Ω;clear f9 x9;refine As b ?_;clear b K;refine AK (A4 ?_);have TT:Ac (λj=>j=z.heap.size\/j=x.heap.size\/j=wc.heap.size) y4 y7:=((t5.mono (λj e=>CR e)).trans (r.mono (λj e=>CB (CR e)))).trans (t7.mono (λj e=>CB (CB e)));have c6:=zh (TT.u c2.o Ω)
  have S7:Hd (Ac (λj=>w.heap.size<=j/\c j=0) X y7):=zh (S4.o.trans (TT.mono (λj e=>by
   rcases e with rfl|rfl|rfl
   ·exact⟨Ω,z2⟩
   ·exact⟨Ω,z3⟩
   ·exact⟨Ω,z4⟩)))
  have c7:Hd (y7.heap[D]?=A3 (.deferred (A3 []))):=zh ((S7.o.bK D aN.o.2.2 (by rw[aN.o.2.1];omega)).trans aN.o.1);have HQ:=zh (A2 Q7 (A2 Q8 Q9));have aq:=aN.o.2.1;clear M7 M8 M9 N7 N8 N9 O7 O8 O9 Q7 Q8 Q9 t5 r t7 TT ce v4 b5 b6 b7 v L7 L8 L9
  gi_wp2
  refine⟨Δ,CR ⟨_,_,rfl,run_takeDeferred c7.o,?_⟩⟩;have t8:=F5 y7 D (.deferred V)
  have nD:∀j,c j=0->¬j=D:=λj h e=>by rw[e,aq]at h;cases h
  have q7:=(t8.u HQ.o.1 (nD _ z2)).m 0;have q8:=(t8.u HQ.o.2.1 (nD _ z3)).m 0;have q9:=(t8.u HQ.o.2.2 (nD _ z4)).m 0;have db:=t8.u c6.o (nD _ z1);have s8:Ab (Sc Gp 200) w u (y7.putObj D (.deferred V)) c:=y.o.st.iy ((S7.o.mono (λj e=>CR e.1)).trans (t8.mono (λj e=>CB e)):Ac (λj=>w.heap.size<=j\/j=D) X _) (λj e=>e.imp id (λe=>CB (by rw[e,aq];exact⟨Ω,Ω⟩)));generalize y7.putObj D (.deferred V)=y8 at*;exact⟨BD #[Ax (A3 ⟨l,0,V⟩),AA V 0 0,Z O 0,Z O 0],by simp[results,Tryz.f41,go_sem,q7,q8,q9],l,rfl,c,s8,y.o.ge,z1,db⟩
theorem ai(m:AD E Y J c.ss c.n f h)(n:Aw E Y)(a:c.aU)(o:∀i:Nat,i<c.lg->h ((2+i:Nat):Int)=AJ c.n):
  B7 Bk 41 #[Ax (A3 ⟨J,0,V⟩),c.val,Z O 1] E λe g=>∃l,e=Bn (BD #[Ax (A3 ⟨l,0,V⟩),AA V 0 0,Z O 0,Z O 0])/\∃k,Ab (Sc (λj=>j=5) 200) E Y g k/\IF g k l J c 1 1 0:=by
 have u:=a.ec;have v:c.aK=2+c.lg+c.rg*c.rs:=rfl;have w:=a.fR;refine(Yl J c.ss c.n c.rg c.rs c.lg c.dp c.a7 c.aQ (Do c.n) f h E Y m n (λW p=>Vo J c.ss c.n c.rg c.rs c.lg c.dp c.a7 c.aQ c.region c.aK c.a2 c.bi c.ba c.bv c.aI f h W Y p (λW=>IS c a W) a.n0 a.n1) o Ω a.d4 Ω).mono ?_;rintro e g ⟨l,rfl,k,s,q,y,d⟩
 have r:0<Do c.n:=by have:=a.n0;unfold Do;omega
 exact⟨l,rfl,_,(s.mono (Sc.mono (λj e=>e.elim) (jS _))).bC q d.lt (CR rfl),AA V 0 0,[],⟨d,World.ownsRow_nil _ _ _ _,kN _,(λx t=>by cases t),AY _ _ _,λb d=>by simp[Value.ownBlock]at d⟩,r⟩
end
section
open Go.RowKit
attribute [local go_sem ↓] Go.wp_at_zero Go.wp_at_succ
theorem Y3(e t:Nat)(w:Bs):B7 Bk 70 #[Z O e,Z O t] w λx c=>x=Bn (CV (Bx (e≠0/\e<=t)))/\w=c:=by
 by_cases a:e=0
 ·subst a
  go_enter CA,B8
  go_wp2_with fail;go_ret;exact⟨Δ,rfl⟩
 ·have f:((e:Int)!=0)=BR:=by simp;omega
  by_cases b:e<=t
  ·have d:Bx ((e:Int)<=(t:Int))=BR:=jT Ω;rw[show Bx (e≠0/\e<=t)=BR by simp[a,b]]
   go_enter CA,B8
   go_wp2_with fail;go_ret;exact⟨rfl,rfl⟩
  ·have d:Bx ((e:Int)<=(t:Int))=Bd:=jV Ω;rw[show Bx (e≠0/\e<=t)=Bd by simp[b]]
   go_enter CA,B8
   go_wp2_with fail;go_ret;exact⟨rfl,rfl⟩
structure QR(a W:Bs)(B:Nat)(v:BB)(b:List Nat)(R:Nat)(T:C0)(c:List BB):Prop where
 rr:RR W B v b Bd
 aS:Aa W R T c
 br:B≠R
 vr:v.ownBlock≠A3 R
 g:a.grownBy W V
 b0:a.heap.size<=B
theorem QR.bO{R:Nat}(h:QR i l J o s R e a)(m:RR E J b d Bd)(n:∀f,b.ownBlock=A3 f->o.ownBlock=A3 f)(g:l.grownBy E (A3 J)):QR i E J b d R e a:=
 ⟨m,h.aS.grown g (λc=>h.br (by cases c;rfl)),h.br,λc=>h.vr (n _ c),Ac.grown h.g (Ac.of g (λk c=>c)) (λj c=>by cases c;exact h.b0),h.b0⟩
theorem QR.put{R:Nat}{m:List BB}(h:QR E l J b d R e m)(n:Aa i R e a)(g:Ac (λk=>k=R) l i)(o:E.heap.size<=R:=by exact Nat.le_refl _):QR E i J b d R e a:=
 ⟨h.rr.ak g (λk c f=>by
  subst f
  rcases c with c|c
  ·exact h.br c.symm
  ·exact h.vr c),n,h.br,h.vr,Ac.grown h.g g (λj f=>by rw[f];exact o),h.b0⟩
theorem QR.cq{R:Nat}(h:QR l E J o s R e a)(g:E.ownsRow f 5 1 b j (Ao d))(m:E.grownBy i (A3 J)):i.ownsRow f 5 1 b j (Ao d):=
 (Ac.of (S:=λk=>k=J) m (λk c=>by cases c;rfl)).aL g (λp n c=>by subst c;exact Bh h.rr.u g Ξ n)
theorem We(d f:List Nat)(e:Nat)(a:Option Addr)(c:Nat)(w:Bs)(aN:1<=d.length)(aO:d.length<=64)(hv:f.length<=4096)(he:e<=281474976710656)(ag:∀x∈d,x<256)(ah:∀x∈f,x<256)
  (L:Ai w 1 (AA a (Dk d f e).length c) (Dk d f e).length (Ao (Dk d f e))):
  B7 Bk 120 #[AA a (Dk d f e).length c] w λx M=>∃n o p q,x=Bn (BD #[CE #[AA n d.length o,AA p f.length q,Z O (e:Nat)],Z O (13+d.length+f.length:Nat),Z O 0])/\
   M.ownsRow w.heap.size 5 1 (AA n d.length o) d.length (Ao d)/\M.ownsRow w.heap.size 5 1 (AA p f.length q) f.length (Ao f)/\w.grownBy M V:=by
 have aR:=JG d f e;have ai:=Rl (e:=e) ag ah;have wk:O.wrap (d.length:Int)=d.length:=BX _ Ω;have wv:O.wrap (f.length:Int)=f.length:=BX _ Ω;have we:O.wrap (e:Int)=e:=BX _ Ω;have d1:Bx ((281474976710656:Int)<(e:Int))=Bd:=jV Ω;have d2:Bx (281474976710656<e)=Bd:=jV Ω
 have aj:Dk d f e=At 165 1++(At d.length 1++(At f.length 2++(At e 8++(d++(f++At 90 1))))):=by simp[Dk]
 have aS:=zh aj;have HR:=zh L;obtain⟨w0,aV,N,b0⟩:=Aq w 136 [AA V 0 0,AA V 0 0,Z O 0];have al:=LH (Dk d f e) a c w0 Ω ai (L.grown N Δ);have am:=zh al;have B0:=zh b0;have G0:=zh N;obtain⟨LN,P⟩:=Ag ((Dk d f e).length);rw[P]at am HR;rw[P];have s:=zh (A2 aN (A2 aO (A2 hv he)));clear aR ai aj L al b0 N P ag ah
 go_enter Tryz.func120,Tryz.ntmps120
 go_wp2_with fail;refine am.o.mono ?_;rintro x w1 ⟨B,v,rfl,y,hB,ao,Q⟩;have aZ:=B0.o.lt
 have hq:QR w w1 B v (At 165 1++(At d.length 1++(At f.length 2++(At e 8++(d++(f++At 90 1)))))) w.heap.size 136 [AA V 0 0,AA V 0 0,Z O 0]:=
  ⟨by rw[<-aS.o];exact y,B0.o.grown Q Δ,Ω,λe=>Ψ (ao _ e),Ae G0.o Q,Ω⟩
 have R:=zh hq;clear y hB ao Q aZ hq aV;go_wp2_with fail;refine(F8 R.o.rr Ξ Δ).mono ?_;rintro x w2 ⟨v2,rfl,i,k,g⟩;have S:=zh (R.o.bO i k g);clear i k g R;go_wp2_with fail;refine(F8 S.o.rr Ξ (by have:=s.o;simp;omega)).mono ?_;rintro x w3 ⟨v3,rfl,i,k,g⟩;have T:=zh (S.o.bO i k g);clear i k g S;go_wp2_with fail;refine(F8 T.o.rr Ξ (by have:=s.o;simp;omega)).mono ?_;rintro x w4 ⟨v4,rfl,i,k,g⟩;have U:=zh (T.o.bO i k g);clear i k g T;go_wp2_with fail;refine(F8 U.o.rr Ξ (by have:=s.o;simp;omega)).mono ?_;rintro x w5 ⟨v5,rfl,i,k,g⟩;have I:=zh (U.o.bO i k g);clear i k g U;go_wp2_with fail;refine(NP I.o.rr).mono ?_;rintro x w6 ⟨n,o,v6,rfl,o6,i,k,g⟩;have E:=zh (I.o.bO i k g);have O6:=zh (BQ o6 I.o.g.size);clear i k g I o6;go_wp2_with fail;refine(NP E.o.rr).mono ?_;rintro x w7 ⟨p,q,v7,rfl,o7,i,k,g⟩;have l:=zh (E.o.bO i k g);have X:=zh (BQ o7 E.o.g.size);have Y:=zh (E.o.cq O6.o g);clear i k g E O6 o7;have f0:=l.o.aS.v 0;have f1:=l.o.aS.v 1;have f2:=l.o.aS.v 2;have z:=l.o.aS.m 0;have A:=l.o.aS.m 1;have C:=l.o.aS.m 2;go_wp2_with fail;clear f0 f1 f2 z A C;obtain⟨w8,av,b8,J⟩:=Br l.o.aS (AA n d.length o) (AA p f.length q) (Z O e);rw[av];have F:=zh (l.o.put b8 J);have O8:=zh (J.aL X.o (λb t e=>by subst e;exact Bh l.o.aS X.o Ξ t));have P8:=zh (J.aL Y.o (λb t e=>by subst e;exact Bh l.o.aS Y.o Ξ t));clear av b8 J l X Y;have ad:=F.o.rr;rw[<-lX (At 90 1)]at ad;refine(F8 ad Ξ Δ).mono ?_;rintro x w9 ⟨v9,rfl,i,k,g⟩;have u:=zh (F.o.bO i k g);have O9:=zh (F.o.cq O8.o g);have P9:=zh (F.o.cq P8.o g);clear i k g F O8 P8 ad;go_wp2_with fail;refine(ON _ _ _ _ _ u.o.rr).mono ?_;rintro x aB ⟨rfl,rfl⟩;have z:=u.o.aS.m 0;have A:=u.o.aS.m 1;have C:=u.o.aS.m 2;go_wp2_with fail;have hk:=s.o
 have hz:Dw d.length f.length (e:Int)=0:=by
  unfold Dw;rw[j7 Ω,j7 Ω,j7 Ω]
 have y:=Rp d.length f.length n p o q (e:Int) w9 (by unfold CX;omega) (by unfold CX;omega);rw[hz]at y;refine y.mono ?_;clear y hz hk z A C;rintro x aB ⟨rfl,G⟩;have aD:=zh (u.o.aS.grown G Δ);have aE:=zh (AP O9.o G);have aF:=zh (AP P9.o G);have aG:=zh (Ae u.o.g G);clear G u O9 P9;go_wp2_with fail;obtain⟨a2,aH,H⟩:=AZ aB;have m:=zh (aD.o.grown H Δ);have aI:=zh (AP aE.o H);have aJ:=zh (AP aF.o H);have a3:=zh (Ae aG.o H);clear H aD aE aF aG;refine A7 (λW=>Aa W w.heap.size 136 [AA n d.length o,AA p f.length q,Z O (e:Nat)]) (.an [0] [1,2] 3 BR (.an [] [] 4 Bd (.an [] [5] 6 Bd (.nil)))) Φ Φ ?_;rw[aH];clear aH;refine DK m.o ?_
 iterate 1 ((apply AB rfl Θ;(· intro wS D;(try have D:=D rfl);(try dsimp only at D);(try(have z:=D.m 0;have A:=D.m 1;have C:=D.m 2));go_simp;(try with_reducible rfl)));refine Ak ?_)
 refine Aj ?_
 iterate 2 refine Az ?_
 refine Aj ?_;refine Al ?_;intro K r;refine(Oh d.length f.length s.o.1 s.o.2.1 s.o.2.2.1 a2).mono ?_;rintro x a4 ⟨rfl,rfl⟩;dsimp only;refine r _ _ ⟨_,λ_ h=>h,λ_=>m.o,?_⟩;clear r K;refine Ak ?_;refine Ar ?_;refine Aj ?_;have f0:=m.o.v 0;have f1:=m.o.v 1;have f2:=m.o.v 2;have z:=m.o.m 0;have A:=m.o.m 1;have C:=m.o.m 2;refine Al ?_;intro K r;obtain⟨a4,aK,aL,aM⟩:=Br m.o (AA n d.length o) (AA p f.length q) (Z O e);rw[aK];have ae:=zh aL;have af:=zh aM;clear f0 f1 f2 z A C aK aL aM;refine As r ?_;clear r K;refine Ar ?_;refine Az ?_;refine Aj ?_;refine Al ?_;intro K r;refine As r ?_;clear r K;refine AK (A4 ?_);go_wp2_with fail;have z0:=ae.o.m 0;have z1:=ae.o.m 1;have z2:=ae.o.m 2;refine BE (v:=BD #[CE #[AA n d.length o,AA p f.length q,Z O e],Z O (13+d.length+f.length:Nat),Z O 0]) (by simp[results,Tryz.f120,go_sem,z0,z1,z2]) rfl ?_;exact⟨n,o,p,q,rfl,af.o.aL aJ.o (λb t e=>by subst e;exact Bh m.o aJ.o Ξ t),af.o.aL aI.o (λb t e=>by subst e;exact Bh m.o aI.o Ξ t),Ac.grown a3.o af.o (λj e=>by rw[e];exact jS _)⟩
end
