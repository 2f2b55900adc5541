/- Lemmas. -/
import Derived.Test.YtcedibmdelehdaaGreatDoorH33
namespace Go.Proofs.YtcedibmdelehdaaGreatDoor
set_option maxRecDepth 100000
set_option maxHeartbeats 32000000
open Go.Value renaming int->J,pointer->AA,map->BB,slice->BD,bool->CB,tuple->C5,ownBlock->C6
open Go.World renaming grownBy_alloc->O,size_alloc->BC,ownsRow_nil->C9
open Go.IntKind renaming i64->V,u64->D7
open Option renaming none->Ax,some->A2
open Go.Proofs.Tryz renaming prog->A3,ntmps23->D1,func23->D8
open Go renaming World->A4,Value->BE,TypeId->BX,Program->B3,undef->CA,Calls->CX,results_tmp2->C2,callsIn_wide->C3,bodyPost_ret->C4,maxLen->DA
open Bool renaming false->Bd,true->BA
open Go.Ending renaming returned->Bk
open Or renaming inr->Bn,inl->BL
open Go.Obj renaming map->BR,cells->B0,deferred->DX
open Go.IntWalk renaming wrap64_in->B1
open Decidable renaming decide->B2
open List renaming replicate->CE,range->C8
open Go.RowKit renaming intOf->CL,run_makeMap->DV,wrap64->D9
open Go.Maps renaming keyOf_int_inv->CV,int_keyed->D0
open Go.Lit renaming int->C1,sameKey->C7
variable{h f i j q x:Nat}{E r:A4}{Y:Int->Option BE}{Z:Int->List Nat}{a y:Ad}{b:Int->Option Nat}{c:B3}{d w:BX}{e:Nat->Int->Bool}{g:List Nat}{k:Pl}{l:List (Option Nat)}{n:Ap}{o:Nat->Bool}{p z:Option Nat}{s:BE}{t:Int}
section
open Go.RowKit Go.Shelf
attribute [local go_sem] Oper.semAt_some
theorem YL(b:h<k.a2)(v:List Nat):AN k Z (Cu Z ((k.aK+h:Nat):Int) v):=λi a=>j7 (λe=>by
 subst e
 rcases a with a|a
 ·have:k.aK+h<k.aK:=by exact_mod_cast a
  exact absurd this (Nat.not_lt.2 (nW _ _))
 ·have:k.aK+k.a2<=k.aK+h:=by exact_mod_cast a
  exact absurd (qk this) (Nat.not_le.2 b))
structure Kb(w:A4)(o:Ad)(s d:Nat)(P:Pl)(q b B g p r t u v:Nat)(e f h i:Nat->Bool)(x:Ap)(y:Int->List Nat)(j k l:Nat)(m:Int->Option Pg)(c:Ad)(n:List Kc)(X:A4):Prop where
 ex:∃a,Bu X c s d P (q+2*n.length) b B g p r t u v e f h i m/\BZ P b e f h i m a x/\AD X c d P.ss P.n (q+2*n.length) a/\AN P y a
 st:Ab (SS 200) w o X c
 b1:Aa X j 80 [AA (A2 ⟨s,0,Ax⟩)]
 b2:Aa X k 32 [J V 0]
 b3:Aa X l 80 [AA (A2 ⟨s,0,Ax⟩)]
 c1:c j=0
 c2:c k=198
 c3:c l=0
theorem Kb.am{e g l m p:Nat}{s t u:Nat->Bool}{v w z:Nat}{A:Int->Option Pg}{B:Ad}{D:List Kc}{Y:A4}{C:Nat->Prop}
  (b:Kb E a h f k i j q x e g l m p o s t u n Z v w z A y D r)(c:Ab C r y Y B)(d:¬C 0)(G:¬C 1)(H:¬C 2)(I:¬C 3)(J:¬C 198)(K:∀F,C F->SS 200 F):Kb E a h f k i j q x e g l m p o s t u n Z v w z A B D Y:=by
 obtain⟨L,M,N,O,P⟩:=b.ex;exact⟨⟨L,M.ae c I H d,N,O.ae c G,P⟩,b.st.trans (c.mono K),c.u b.b1 (by rw[b.c1];exact d),c.u b.b2 (by rw[b.c2];exact J),c.u b.b3 (by rw[b.c3];exact d),by rw[c.ah _ b.b1.lt];exact b.c1,by rw[c.ah _ b.b2.lt];exact b.c2,by rw[c.ah _ b.b3.lt];exact b.c3⟩
theorem XG{d:Nat}{pg:Ap}(p:SD E a h d k f j pg Z)(hq:f<=1073700000):
  CX A3 91 #[AA (A2 ⟨h,0,Ax⟩)] E λe w'=>e=Bk (J V 0)/\∃a6 ab,Ab (SS 200) E a w' a6/\SD w' a6 h d k (f+8200) j pg ab/\AN k Z ab:=by
 obtain⟨⟨B,g,aq,bf,au,bd,I,tk,fr,dy,dd,a7,hi,hl⟩,a8,aC,aL⟩:=p;obtain⟨w1,y⟩:=Ag ((E.alloc (B0 #[AA (A2 ⟨h,0,Ax⟩)] 80)).alloc (B0 #[J V 0] 32));obtain⟨u,M⟩:=Ag (w1.alloc (B0 #[AA (A2 ⟨h,0,Ax⟩)] 80))
 have a9:w1.heap.size=E.heap.size+2:=by rw[<-y];simp
 have cn:u.heap.size=E.heap.size+3:=by rw[<-M];simp[a9]
 have g2:E.grownBy u Ax:=by rw[<-M, <-y];exact Ae (Ae (O _ _ Ax) (O _ _ Ax)) (O _ _ Ax)
 have b1:Aa u E.heap.size 80 [AA (A2 ⟨h,0,Ax⟩)]:=by rw[<-M, <-y];exact((Aa.new E _ _).alloc _).alloc _
 have b2:Aa u (E.heap.size+1) 32 [J V 0]:=by
  have P:=Aa.new (E.alloc (B0 #[AA (A2 ⟨h,0,Ax⟩)] 80)) 32 [J V 0];rw[BC]at P;rw[<-M, <-y];exact P.alloc _
 have b3:Aa u (E.heap.size+2) 80 [AA (A2 ⟨h,0,Ax⟩)]:=by
  have P:=Aa.new w1 80 [AA (A2 ⟨h,0,Ax⟩)];rw[a9]at P;rw[<-M];exact P
 obtain⟨aM,Q⟩:=Ag (AL a (E.heap.size+1) 198)
 have ai:Ab (SS 200) E a u aM:=by rw[<-Q];exact Cc aC g2 Ω Ω (Bn ⟨Ω,Ω⟩)
 have hF:Kb E a h d k f j B g aq bf au bd I tk fr dy dd pg Z E.heap.size (E.heap.size+1) (E.heap.size+2) a7 aM [] u:=by
  have t2:Ac (λ_=>False) E u:=Ac.au g2;exact⟨⟨Z,hi.am t2 (λ_ _ p=>p) ai.ah,hl,a8.am t2 (λ_ _ p=>p) ai.ah,AN.refl _ _⟩,ai,b1,b2,b3,by rw[<-Q,Bg _ _ Ω];exact aC _ (jS _),by rw[<-Q];exact AY _ _ _,by rw[<-Q,Bg _ _ Ω];exact aC _ Ω⟩
 have HF:=zh hF;have bJ:=zh M;have bK:=zh y;have c2:Hd (Aw u aM):=zh ai.new
 have x1:w1.cell? ⟨E.heap.size,0,Ax⟩=A2 (AA (A2 ⟨h,0,Ax⟩)):=by
  rw[<-y];exact((Aa.new E 80 [AA (A2 ⟨h,0,Ax⟩)]).alloc _).m 0
 rw[<-y]at x1;clear hi hl a8 aC b1 b2 b3 Q ai hF y M;have aN:Fence.wide.round=Ax:=rfl;refine(C3 (n:=20)).1 ?_;refine callsIn_of_wp_marks Tryz.func91 rfl kI ?_ aN;simp only[Tryz.ntmps91,kR,kj,kP,Nat.reduceAdd,Nat.reduceSub,kF,kG,kU,kJ,kv,kO]
 gi_wp2_with (refine⟨kI,?_⟩;gi_at_call 149;refine(C3.2 (VQ _ _)).mono ?_;rintro e w' ⟨rfl,rfl⟩)
 rw[bK.o,bJ.o];clear x1
 refine IJ c2.o aN Ω (gf:=209) (lb:=#[AA (A2 ⟨E.heap.size+2,0,Ax⟩)]) rfl kI (enters_of Tryz.func209 Φ rfl)
  (encs:=PG) (C:=SS 200) (A:=UI (E.heap.size+2) h I k.a7) (R:=λ_=>UG) (S:=λxs=>xs.length<=4096) (N:=4096) (Bn ⟨Ω,Ω⟩) (WZ 19 (E.heap.size+2) h I k.a7 Ω (SS 200) (Sc.az Ω Ω)) (λ_ _ _ _=>kI) (λ_=>rfl)
  (Kb E a h d k f j B g aq bf au bd I tk fr dy dd pg Z E.heap.size (E.heap.size+1) (E.heap.size+2))
  (λ_ _ _=>False)
  (λ_ x a' X c=>∃L,a'={tmps:=#[AA (A2 ⟨h,0,Ax⟩),AA (A2 ⟨E.heap.size,0,Ax⟩),AA (A2 ⟨E.heap.size+1,0,Ax⟩),J V (x.k:Nat),AA (A2 ⟨L,0,Ax⟩),CA,AA (A2 ⟨h,0,Ax⟩),CB Bd,AA (A2 ⟨h,0,Ax⟩),.func (.func 209) #[] #[AA (A2 ⟨E.heap.size+1+1,0,Ax⟩)],
    J V x.k,.agg #[J V x.st,BD x.a x.ld.length x.c,CB BA],CA,CA,CA,CA,CA,CA,CA,CA,CA,CA,CA,CA,CA,CA,CA],defers:=[]}/\Aa X L 198 [J V x.st,BD x.a x.ld.length x.c,CB BA]/\c L=113)
  a7
  (λm c c' T X Y p q=>p.am q Ω Ω Ω Ω Ω (λb e=>Bn (by rcases e with rfl|rfl<;>exact⟨Ω,Ω⟩)))
  (λ_ _ _ _ _ p _=>p)
  (λm c T X p=>by
   obtain⟨ab,hs,hl,hd,ho⟩:=p.ex
   exact⟨⟨p.b3.m 0,hs.cells.2.2.2.2.2.2.2.2.2,⟨_,hs.cs⟩,λi s t di hi=>let⟨q,hk,_⟩:=hl.bU i s t di hi;⟨q,hk⟩⟩,p.st.new⟩)
  (λm c c' _ x X Y p q=>⟨p.1,p.2.ae q Ω⟩)
  (λc c' x a' X Y p q=>by
   obtain⟨L,ha,hb,hc⟩:=p
   exact⟨L,ha,q.u hb (by rw[hc];omega),by rw[q.ah _ hb.lt];exact hc⟩)
  HF.o (SS 198) (EG Ω) (Sc.az Ω Ω) (Sc.az Ω Ω)
  ?assign ?body ?done ?stop
 case stop=>exact λ_ _ _ _ p=>p.elim
 case assign=>
  intro l m c T x X K r bP hR U;obtain⟨q,s,z,F,t⟩:=x
  gi_wp2
  obtain⟨w3,aQ⟩:=Ag (X.alloc (B0 #[J V s,BD z t.length F,CB BA] 198))
  have g3:X.grownBy w3 Ax:=by rw[<-aQ];exact O _ _ Ax
  have b3:Aa w3 X.heap.size 198 [J V s,BD z t.length F,CB BA]:=by rw[<-aQ];exact Aa.new _ _ _
  rw[aQ];have aR:Ab (λb=>b=113) X c w3 (AL c X.heap.size 113):=Cc r.st.new g3 (jS _) b3.lt rfl;exact U _ _ _ (aR.mono (λb e=>Bn ⟨Ω,Ω⟩)) (r.am aR Ω Ω Ω Ω Ω (λb e=>Bn ⟨Ω,Ω⟩)) ⟨hR.1,hR.2.ae aR Ω⟩ ⟨X.heap.size,rfl,b3,AY _ _ _⟩
 case body=>
  intro l m c T x a' X r bP hR bR;obtain⟨q,s,z,F,t⟩:=x;obtain⟨L,rfl,hb,bi⟩:=bR;obtain⟨ab,al,ac,am,an⟩:=r.ex;obtain⟨aS,bj⟩:=hR;obtain⟨k',bk,aG⟩:=ac.bU _ _ _ _ aS
  have bT:q=k':=by exact_mod_cast bk
  subst bT;dsimp only at*
  have bU:(q:Int)<=65535:=by have:=(aL.dD aG.lt).2.1;have:=aG.lt;omega
  have bl:(T++[Kc.mk q s z F t]).length=T.length+1:=Δ;have bm:=zh bl;have o:=zh r;have HS:=zh al;have aT:=zh ac;have aU:=zh am;have aV:=zh an;have aW:=zh aS;have bn:=zh bj;have bo:=zh aG;have HB:=zh hb;have bp:=zh bi;clear r al ac am an aS bj aG hb bi bk bl;have x0:=o.o.b1.m 0;have y0:=HB.o.m 0;have y1:=HB.o.m 1;have y2:=HB.o.m 2
  gi_wp2_with (refine⟨kI,?_⟩;gi_at_call 150;refine(CallsIn.inRound l (C3.2 (OQ HS.o aU.o o.o.st.new Ω Ω aL q s z F t BA bo.o bn.o))).mono ?_;rintro e w4 ⟨rfl,ap,w,bu⟩;have B4:=w.u HB.o (by rw[bp.o];omega);have u2:=B4.m 2;have f2:=B4.v 2)
  clear u2 f2 x0 y0 y1 y2
  have aX:ap L=113:=by rw[w.ah _ HB.o.lt];exact bp.o
  have F4:Ab (SS 198) X c w4 ap:=w.mono (λb e=>BL (BL e));have t5:Ac (λb=>b=L) w4 (w4.setCell ⟨L,2,Ax⟩ (CB Bd)):=Ac.of (An _ _ _) (λb e=>by cases e;rfl);have b5:=B4.setCell 2 (CB Bd);simp only[ku,kM]at b5;have s5:Ab (λb=>b=113) w4 ap (w4.setCell ⟨L,2,Ax⟩ (CB Bd)) ap:=AG w.new t5 (λb e=>by rw[e];exact aX);generalize w4.setCell ⟨L,2,Ax⟩ (CB Bd)=w5 at*;have bx:=zh (F4.trans (s5.mono (λb e=>Bn ⟨Ω,Ω⟩)));have H5:=zh ((HS.o.ae w Ω Ω Ω).ae s5 Ω Ω Ω);have D5:=zh (bu.ae s5 Ω);have P5:=zh ((bn.o.ae w Ω).ae s5 Ω);have a0:=o.o.c1
  have bz:ap E.heap.size=0:=by rw[w.ah _ o.o.b1.lt];exact a0
  have bZ:=zh (s5.u (w.u o.o.b1 (by rw[a0];omega)) (by rw[bz];omega));have B5:=zh b5;have L5:=zh aX;clear w bu B4 aX F4 t5 b5 s5 a0 bz;refine IH (λW=>W.cell? ⟨E.heap.size,0,Ax⟩=A2 (AA (A2 ⟨h,0,Ax⟩))/\W.cell? ⟨h,17,Ax⟩=A2 (AA (A2 ⟨I,0,Ax⟩))/\Aa W L 198 [J V (s:Nat),BD z t.length F,CB Bd]) [([0,1,2,3,4,5],6,Bd)] aN Φ Φ ?_;obtain⟨w6,a1⟩:=Ag w5.drew
  have g6:w5.grownBy w6 Ax:=by rw[<-a1];exact Be w5
  rw[a1];have bA:=zh (bx.o.trans (Ab.grown bx.o.new g6));have H6:=zh (H5.o.grown g6);have D6:=zh (D5.o.grown g6);have P6:=zh (P5.o.grown g6);have b8:=zh (bZ.o.grown g6 Δ);have B6:=zh (B5.o.grown g6 Δ);clear a1 g6;refine Fe ⟨b8.o.m 0,H6.o.cells.2.2.2.2.2.2.2.2.2,B6.o⟩ ?_
  repeat((apply Fa rfl (λ_=>rfl) Θ;(· intro wS G;(try have G:=G rfl);(try dsimp only at G);(try have k0:=G.1);(try have k1:=G.2.1);(try have y0:=G.2.2.m 0);(try have y1:=G.2.2.m 1);(try have y2:=G.2.2.m 2);go_simp;(try with_reducible rfl)));(refine Ak ?_))
  refine Fc ?_;refine BW rfl (λK U=>?_);go_simp;refine⟨kI,?_⟩
  have ca:f+2*T.length<DA:=by unfold DA;omega
  refine(C3.2 (Pn H6.o.cs bA.o.new ca q Ω bU s z F t Bd P6.o)).mono ?_;rintro e w7 ⟨a3,a4,a5,cb,cc,cd⟩
  obtain⟨v7,rfl,ce⟩:∃v,e=Bk v/\∀b:Int,b≠q->a4 b=m b:=by
   rcases cd with⟨rfl,P⟩|⟨_,_,_,_,_,_,_,_,_,_,_,_,h8⟩
   ·exact⟨_,rfl,P⟩
   ·rw[aW.o]at h8;cases h8
  dsimp only;refine U _ _ ⟨λhf=>(by cases hf),?_⟩;clear U K;refine Ak ?_;refine Fu (NoPanic.normal ?_);have cg:=(aT.o.iF aW.o).ip aW.o (ke rfl) cc ce;have H:Ab (SS 198) X c w7 a3:=bA.o.trans (a5.mono (Sc.mono (λb e=>Bn (BL e)) Ω))
  have ch:Kb E a h d k f j B g aq bf au bd I tk fr dy dd pg Z E.heap.size (E.heap.size+1) (E.heap.size+2) a4 a3 (T++[Kc.mk q s z F t]) w7:=by
   refine⟨⟨_,?_,cg,?_,aV.o.trans (YL bo.o.lt _)⟩,o.o.st.trans (H.mono (EG Ω)),H.u o.o.b1 (by rw[o.o.c1];exact Sc.az Ω Ω),?_,H.u o.o.b3 (by rw[o.o.c3];exact Sc.az Ω Ω),by rw[H.ah _ o.o.b1.lt];exact o.o.c1,by rw[H.ah _ o.o.b2.lt];exact o.o.c2,by rw[H.ah _ o.o.b3.lt];exact o.o.c3⟩
   ·rw[bm.o];exact(H6.o.eY a5 (Sc.az Ω Ω) (Sc.az Ω Ω) (lC _) cb).mono Ω
   ·rw[bm.o];exact(D6.o.ae a5 (Sc.az Ω Ω)).mono Ω
   ·exact H.u o.o.b2 (by rw[o.o.c2];exact Sc.az Ω Ω)
  gi_wp2
  exact⟨a3,a4,H,ch⟩
 case done=>
  intro D m c xs X hS r U bD;obtain⟨ab,al,ac,am,an⟩:=r.ex;have x0:=r.b2.m 0;have f0:=r.b2.v 0;have o:=zh r;have HS:=zh al;have aT:=zh ac;have aU:=zh am;have aV:=zh an;clear r al ac am an
  have bE:D≠E.heap.size+1:=λe=>by have:=o.o.c2;rw[<-e,bD]at this;cases this
  have ci:D<X.heap.size:=(kf.1 U).1;have t1:Ac (λb=>b=E.heap.size+1) X (X.setCell ⟨E.heap.size+1,0,Ax⟩ (J V 0)):=Ac.of (An _ _ _) (λb e=>by cases e;rfl);have b1:=o.o.b2.setCell 0 (J V 0);simp only[ku]at b1;have cj:(X.setCell ⟨E.heap.size+1,0,Ax⟩ (J V 0)).heap[D]?=A2 (DX (A2 [])):=(t1.bK D ci bE).trans U
  gi_wp2
  refine⟨Δ,BL ⟨_,_,rfl,run_takeDeferred cj,?_⟩⟩;generalize X.setCell ⟨E.heap.size+1,0,Ax⟩ (J V 0)=X1 at*;have t2:=F5 X1 D (DX Ax);have b2:=t2.u b1 (λe=>bE e.symm);generalize X1.putObj D (DX Ax)=X2 at*;have TT:Ac (λb=>b=E.heap.size+1\/b=D) X X2:=(t1.mono (λ_ e=>BL e)).trans (t2.mono (λ_ e=>Bn e));have Q:=o.o.c2
  have s2:Ab (λb=>b=198\/b=199) X c X2 c:=AG o.o.st.new TT (λb e=>by
   rcases e with e|e
   ·rw[e];exact BL Q
   ·rw[e];exact Bn bD)
  have z0:=b2.m 0;exact⟨J V 0,by simp[results,Tryz.f91,go_sem,z0],rfl,c,ab,o.o.st.trans (s2.mono (λb e=>Bn Ω)),⟨⟨B,g,aq,bf,au,bd,I,tk,fr,dy,dd,m,(HS.o.ae s2 Ω Ω Ω).mono Ω,aT.o⟩,(aU.o.ae s2 Ω).mono Ω,s2.new,aL⟩,aV.o⟩
end
section
open Go.RowKit Go.Maps
attribute [local go_sem ↓] Go.wp_at_zero Go.wp_at_succ
def MR(w:A4)(P:B3)(k:BX)(b r q:Nat)(f:Int->Option BE)(left:Int->Bool)(a:Nat):Prop:=
 ∃n D L,n<=q/\w.ranges P k Gh b r n D L a/\UA D f/\∀i:Int,L (C1 V i)=left i
theorem MR.ak{S:Nat->Prop}{left:Int->Bool}(g:MR E c d h f i Y left j)(a:Ac S E r)(k:¬S h)(l:¬S f):MR r c d h f i Y left j:=by
 obtain⟨n,D,L,m,⟨o,p,q,s,t,b,u,v,w,e,x⟩,y,z⟩:=g;exact⟨n,D,L,m,⟨o,p,q,s,t,(a.bK h (kf.1 b).1 k).trans b,u,v,w,(a.bK f (kf.1 e).1 l).trans e,x⟩,y,z⟩
theorem MR.lt{left:Int->Bool}(b:MR E c d h f i Y left j):f<E.heap.size/\h<E.heap.size:=by
 obtain⟨n,D,L,e,a,_,_⟩:=b;exact⟨a.lt,a.owns.lt⟩
theorem MF.gu{e:BX}(g:MF E c d h f Y)(j:c.underlying d=A2 (.int V))(k:c.underlying w=A2 (.map d e)):
  ∃a l,(Instr.range w (BB (A2 h))).run c E=.ok (AA (A2 ⟨E.heap.size,0,Ax⟩)) a/\MR a c d h E.heap.size f Y (λi=>(Y i).isSome) l/\E.grownBy a Ax/\a.heap.size=E.heap.size+1:=by
 obtain⟨n,D,m,o,b⟩:=g;obtain⟨a,p,q,r,s⟩:=o.range (D0 j) k;exact⟨a,_,p,⟨n,D,_,m,q,b,λi=>(b i).1⟩,r,s⟩
theorem MR.gw{q:Nat}{left:Int->Bool}(A:MR E c d f h q Y left j)(s:c.underlying d=A2 (.int V))(m:BX):
  ((∀i,left i=Bd)/\(Instr.next (AA (A2 ⟨h,0,Ax⟩)) Bd m).run c E=.ok (C5 #[CB Bd]) E)\/
  ∃(i:Int) (v:BE) (a:A4) (l:Nat),left i=BA/\(C1 V i).wf=BA/\Y i=A2 v/\(Instr.next (AA (A2 ⟨h,0,Ax⟩)) Bd m).run c E=.ok (C5 #[CB BA,J V i,v]) a/\
   MR a c d f h q Y (λg=>left g&&! B2 (g=i)) l/\l<j/\E.grownBy a (A2 h)/\(Instr.entry (AA (A2 ⟨h,0,Ax⟩))).run c a=.ok (C5 #[J V i,v]) a:=by
 obtain⟨n,D,L,B,C,t,o⟩:=A
 rcases C.next (D0 s) m with⟨_,p,r⟩|⟨Q,v,R,y,a,l,F,p,r,w,G,H,I,K,S,M⟩
 ·exact BL ⟨λi=>by rw[<-o];exact p _,r⟩
 ·obtain⟨x,rfl,rfl,N⟩:=CV s F;have O:=Oa r
  have P:Y x=A2 v:=by
   have b:=w (.held CA);have k:=w (.held (CB BA));rw[(t x).2,O]at b k
   cases z:Y x with
   |some u=>
    rw[z]at b;simp at b;rw[b]
   |none=>
    rw[z]at b k;simp at b k;rw[<-b]at k
    cases k
  refine Bn ⟨x,v,a,l,by rw[<-o];exact p,N,P,G,⟨n,D,_,B,H,t,λg=>?_⟩,I,K,M⟩;show(L (C1 V g)&&!(C1 V g).sameKey (C1 V x))=_;rw[o]
  congr 2
  by_cases e:g=x
  ·subst e;simp[C7]
  ·simp[C7,e]
theorem RS{i:Int}(h:Da o i=A2 s):∃k:Nat,i=k/\o k=BA:=by
 unfold Da at h
 split at h
 ·rename_i a
  exact⟨i.toNat,Ω,a.2⟩
 ·cases h
theorem Qu(f:Nat->Bool)(k:Nat):(Da f (k:Int)).isSome=f k:=by
 rw[Tb]
 cases f k<;>rfl
structure PV(w:A4)(h:Ad)(s d:Nat)(P:Pl)(q k B g l m e n:Nat)(o p t a:Nat->Bool)(u:Int->Option Pg)(v:Int->List Nat)(r:Nat)(c:Ad)(left:Int->Bool)(x:Nat)(f:Nat->Bool)(y:Nat)(b:Int->Option Pg)(X:A4):Prop where
 mr:MR X A3 3 e r q (Da a) left x
 cr:c r=199
 bJ:Bu X c s d P q k B g y l m e n f p t a b
 bI:AD X c d P.ss P.n q v
 st:Ab (SS 200) w h X c
 dm:∀j:Nat,f j=(o j&&!(a j&&! left (j:Int)))
 cF:∀j:Nat,a j=BA->left (j:Int)=Bd->b (j:Int)=Ax
 cA:∀i:Int,(∀j:Nat,i=j->a j=BA->left (j:Int)=BA)->b i=u i
 gP:∀i:Int,left i=BA->∃j:Nat,i=j/\a j=BA
theorem VN{m:Nat}(w:SD E a h j k f m n Z)(hq:f<=1073741800)(aA:Ce n k.bv):
  CX A3 95 #[AA (A2 ⟨h,0,Ax⟩)] E λe w'=>(∃v,e=Bk v)/\∃aC,Ab (SS 200) E a w' aC/\SD w' aC h j k (f+1) (m+1) n Z:=by
 obtain⟨⟨B,g,a8,W,z,X,M,N,fr,P,D,ab,x,hl⟩,aE,aF,aG⟩:=w;obtain⟨w1,ak,a9,aH,g1,bD⟩:=x.md.gu kr nB;obtain⟨_,_,_,_,_,_,_,_,ba,_⟩:=x.cells;obtain⟨ac,ad⟩:=Ag (AL a E.heap.size 199)
 have aI:ac E.heap.size=199:=by rw[<-ad];exact AY _ _ _
 have am:∀b,b<E.heap.size->ac b=a b:=λb l=>by rw[<-ad];exact Bg _ _ Ω
 have aJ:Ab (SS 200) E a w1 ac:=by rw[<-ad];exact Cc aF g1 (jS _) Ω (Bn ⟨Ω,Ω⟩)
 have t1:Ac (λ_=>False) E w1:=Ac.au g1
 have hF:PV E a h j k f m B g W z X M N fr P D ab Z E.heap.size ac (λi=>(Da D i).isSome) ak N a8 ab w1:=by
  refine⟨aH,aI,x.am t1 (λ_ _ w=>w) am,aE.am t1 (λ_ _ w=>w) am,aJ,λb=>?_,λb y h2=>?_,λ_ _=>rfl,λi x=>?_⟩
  ·rw[Qu]
   cases N b<;>cases D b<;>rfl
  ·rw[Qu,y]at h2
   cases h2
  ·obtain⟨v,hv⟩:=qC.1 x;exact RS hv
 have HF:=zh hF;have HL:=zh hl;have bd:=zh aA;have HI:=zh x;generalize E.heap.size=r at*;clear x hl aE aF ad aI am aJ t1 hF aA aH g1
 go_enter Tryz.func95,Tryz.ntmps95
 go_wp2_with fail;clear ba a9
 go_loopg [] (ak+1) (λd wr=>∃c left cn F Q R,cn<d/\PV E a h j k f m B g W z X M N fr P D ab Z r c left cn F Q R wr)
 case atStart=>exact⟨_,_,ak,_,_,_,nY _,HF.o⟩
 case round=>
  obtain⟨c,left,cn,F,Q,R,aL,o⟩:=hrel
  rcases o.mr.gw kr 0 with⟨aM,be⟩|⟨i,v,w2,aq,bf,bF,aN,be,aO,aP,H,bG⟩
  ·have q:=zh o;have HN:=zh aM;clear o aM;have bH:=@DV A3;obtain⟨_,_,_,_,_,_,_,bI,_,_⟩:=q.o.bJ.cells;have s:=(q.o.bJ.u.alloc (BR #[] 0)).alloc (BR #[] 0);have bJ:=s.m 12;have bK:=s.m 14;have bL:=s.m 15;have bM:=s.m 16;have bN:=s.v 12;have bO:=s.v 14;have bP:=s.v 15;have bQ:=s.v 16;have bg:=zh s;have bR:=q.o.bJ.q1;have bS:D9 ((m:Int)+1)=(m:Int)+1:=B1 _ Ω;clear s;go_wp2_with fail;obtain⟨p,T⟩:=Ag ((wr.alloc (BR #[] 0)).alloc (BR #[] 0))
   have H:wr.grownBy p Ax:=by rw[<-T];exact Ae (O _ _ Ax) (O _ _ Ax)
   have bT:p.heap.size=wr.heap.size+2:=by rw[<-T];simp
   have bh:MF p A3 3 wr.heap.size 0 (λ_=>Ax):=by
    rw[<-T];exact(MF.bR wr A3 3).grown (O _ _ Ax) Δ
   have bi:MF p A3 3 (wr.heap.size+1) 0 (λ_=>Ax):=by
    have:=MF.bR (wr.alloc (BR #[] 0)) A3 3;rw[BC]at this;rw[<-T];exact this
   have hb:=(((bg.o.setCell 16 (BB (A2 z))).setCell 15 (BB (A2 wr.heap.size))).setCell 14 (BB (A2 (wr.heap.size+1)))).setCell 12 (J V ((m:Int)+1));rw[T]at hb⊢
   have A:Ac (λb=>b=h) p ((((p.setCell ⟨h,16,Ax⟩ (BB (A2 z))).setCell ⟨h,15,Ax⟩ (BB (A2 wr.heap.size))).setCell ⟨h,14,Ax⟩ (BB (A2 (wr.heap.size+1)))).setCell ⟨h,12,Ax⟩ (J V ((m:Int)+1))):=
    (((Ac.of (An _ _ _) (λd e=>by cases e;rfl)).trans (Ac.of (An _ _ _) (λd e=>by cases e;rfl))).trans (Ac.of (An _ _ _) (λd e=>by cases e;rfl))).trans (Ac.of (An _ _ _) (λd e=>by cases e;rfl))
   generalize(((p.setCell ⟨h,16,Ax⟩ (BB (A2 z))).setCell ⟨h,15,Ax⟩ (BB (A2 wr.heap.size))).setCell ⟨h,14,Ax⟩ (BB (A2 (wr.heap.size+1)))).setCell ⟨h,12,Ax⟩ (J V ((m:Int)+1))=Y at*;obtain⟨c2,aT⟩:=Ag (AL (AL c wr.heap.size 3) (wr.heap.size+1) 3)
   have ar:∀b,c2 b=if b=wr.heap.size+1 then 3 else if b=wr.heap.size then 3 else c b:=λb=>by rw[<-aT];rfl
   have aU:∀b,b<wr.heap.size->c2 b=c b:=λb l=>by rw[ar,j7 Ω,j7 Ω]
   have I:=q.o.bJ;have bU:=I.u.lt;have bV:=I.aR.eh;have bW:=I.my.lt;obtain⟨bj,bk,_,_,_,_,_,_,_,b2,b3⟩:=I.dM;have bY:c h=3:=I.c0;have t:Bu p c2 h j k f m B g Q W z X M F fr P D R:=I.am (Ac.au (S:=λ_=>False) H) (λ_ _ w=>w) aU
   have af:∀b,b=h->c2 b=3:=λb e=>by rw[e];exact t.c0
   have aV:Da (λ_=>Bd)=λ_=>Ax:=by
    funext b
    unfold Da;rw[j7 (λe=>by cases e.2)]
   have au:Ab (SS 200) wr c p c2:=by
    rw[<-aT];exact((Ab.grown (C:=SS 200) q.o.st.new H).bC (jS wr.heap.size) (show wr.heap.size<p.heap.size by omega) (BL (Bn (Bn rfl)))).bC (show wr.heap.size<=wr.heap.size+1 by omega) (show wr.heap.size+1<p.heap.size by omega) (BL (Bn (Bn rfl)))
   have SY:Bu Y c2 h j k (f+1) (m+1) B g Q (wr.heap.size+1) wr.heap.size z M F (λ_=>Bd) (λ_=>Bd) P R:={
    u:=hb
    aR:=t.aR.ak A (λe=>bj e.symm) (λe=>bk e.symm) (λe=>absurd ((af _ e).symm.trans t.dX) Ξ)
    mf:=by rw[aV];exact(bi.ak A Ω).mono (kN _)
    my:=by rw[aV];exact(bh.ak A Ω).mono (kN _)
    md:=(t.my.ak A b2).mono (lC f)
    cs:=(t.cs.am A (λb l e=>by rw[af b e]at l;omega) (λ_ _=>rfl)).mono (lC f)
    fy:=Ω
    fd:=Ω
    yd:=Ω
    c0:=t.c0
    c1:=t.c1
    c2:=t.c2
    c3:=by rw[ar,ke rfl]
    c4:=by rw[ar,j7 Ω,ke rfl]
    c5:=t.c4
    dX:=t.dX
    q1:=by omega}
   have bn:=HL.o.iA (tk':=F) (mem':=R) bd.o (λb=>by rw[q.o.dm,HN.o];cases D b<;>simp) (λb l=>q.o.cF b l (HN.o _)) (λi x=>q.o.cA i (λb e l=>by rw[x b e]at l;cases l));refine bodyPost_end (v:=C5 #[]) (by simp[results,Tryz.results95,go_sem]) rfl ?_;exact⟨⟨_,rfl⟩,c2,(q.o.st.trans au).trans (AG au.new A (λb e=>by rw[af b e];exact BL (Bn (Bn rfl)))),⟨_,_,_,_,_,_,_,_,_,_,_,_,SY,bn⟩,(q.o.bI.am (Ac.au (S:=λ_=>False) H) (λ_ _ w=>w) aU |>.am A (λb l e=>by rw[af b e]at l;omega) (λ_ _=>rfl)).mono (lC f),au.new.ak A,aG⟩
  ·obtain⟨d,rfl,av⟩:=RS aN;have t2:Ac (λb=>b=r) wr w2:=Ac.of H (λb e=>by cases e;rfl);have s2:Ab (λb=>b=199) wr c w2 c:=AG o.st.new t2 (λb e=>by rw[e];exact o.cr);have G:=zh (o.bJ.ae s2 Ω Ω Ω);have D2:=zh (o.bI.ae s2 Ω);have aX:=zh (o.st.trans (s2.mono (λb e=>by rw[show b=199 from e];exact Bn ⟨Ω,Ω⟩)));have ah:=zh o;have M2:=zh aO;have bq:Hd (aq+1<gk):=zh (mm aP aL);have aY:=zh av;have aZ:=HL.o.fv d av
   have br:(d:Int)<=65535:=by have:=(aG.dD aZ).2.1;omega
   have CR:Hd (c r=199):=zh o.cr;clear o aN H t2 s2 aO aP av aL bf;obtain⟨_,_,_,_,_,bs,_,_,_,ax⟩:=G.o.cells;go_wp2_with fail;refine(RI B g k.a2 _ F d w2 G.o.aR).mono ?_;rintro e w3 ⟨rfl,a0,U⟩;have bt:=G.o.c1;have bu:=G.o.c2;have a1:=G.o.c5
   have ai:∀b,Hn B g b->c b=3:=λb e=>by rcases e with e|e<;>rw[e]<;>assumption
   have H3:=zh (G.o.gy a0 U);have D3:=zh (D2.o.am (col':=c) U (λb l e=>by rw[ai b e]at l;omega) (λ_ _=>rfl));have a2:=zh (aX.o.trans (AG aX.o.new U (λb e=>by rw[ai b e];exact BL (Bn (Bn rfl)))))
   have M3:=zh (M2.o.ak U (λe=>by
    obtain⟨_,_,_,_,_,_,bw,bx,_⟩:=G.o.dM
    exact e.elim bw bx) (λe=>by have:=ai _ e;rw[CR.o]at this;omega))
   clear a0 U bt bu ai bs ax;obtain⟨_,_,_,_,_,_,_,_,_,ax⟩:=H3.o.cells;go_wp2_with fail;refine(TA H3.o.cs a2.o.new d Ω br).mono ?_;rintro e w4 ⟨v4,a4,bA,rfl,K,a5,a6,az⟩
   have a7:a4 r=199:=by rw[K.ah _ M3.o.lt.1];exact CR.o
   have bB:PV E a h j k f m B g W z X M N fr P D ab Z r a4 (λb=>left b&&! B2 (b=(d:Int))) aq (I0 k.a2 F d) Q bA w4:=by
    refine⟨M3.o.ak K.ak (by rw[a1];exact Sc.az Ω Ω) (by rw[CR.o];exact Sc.az Ω Ω),a7,H3.o.eY K (Sc.az Ω Ω) (Sc.az Ω Ω) (jS f) a5,D3.o.ae K (Sc.az Ω Ω),a2.o.trans (K.mono (Sc.mono (λb e=>Bn (BL e)) Ω)),λb=>?_,λb y h2=>?_,λi y=>?_,λi y=>?_⟩
    ·unfold I0 Df;rw[show B2 (0<=(d:Int)/\(d:Int)<(k.a2:Int))=BA from jT ⟨Ω,by exact_mod_cast aZ⟩,ah.o.dm];simp only[km,nS]
     by_cases e:b=d
     ·subst e;simp[aY.o]
     ·have L:¬((b:Int)=(d:Int)):=λc=>e (by exact_mod_cast c)
      simp[e,L]
    ·by_cases e:b=d
     ·rw[e];exact a6
     ·have L:¬((b:Int)=(d:Int)):=λc=>e (by exact_mod_cast c)
      rw[az _ L];refine ah.o.cF b y ?_;simpa[L]using h2
    ·have L:i≠(d:Int):=λe=>by have:=y d e aY.o;simp at this
     rw[az i L];exact ah.o.cA i (λb e l=>by have:=y b e l;simp at this;exact this.1)
    ·simp at y;exact ah.o.gP i y.1
   clear K a5 a6 az a7 ax a1;go_wp2_with fail
   go_roundg (aq+1)
   case measure=>exact bq.o
   exact⟨_,_,_,_,_,_,nY _,bB⟩
end
section
open Go.RowKit
attribute [local go_sem ↓] Go.wp_at_zero Go.wp_at_succ
theorem Td(c:DF E a h i k j f n Z):
  CX A3 45 #[AA (A2 ⟨h,0,Ax⟩)] E λe d=>e=Bk (J V f)/\E=d:=by
 obtain⟨B,g,l,m,o,p,q,r,s,t,u,v,b,_⟩:=c;obtain⟨_,_,_,_,w,_⟩:=b.cells;clear b
 go_enter Tryz.func45,Tryz.ntmps45
 go_wp2;go_ret;exact⟨rfl,rfl⟩
theorem ZL(l:DF E a h f k i j n Z):
  CX A3 50 #[AA (A2 ⟨h,0,Ax⟩)] E λe c=>(∃d:Nat,e=Bk (J V (d:Nat)))/\E=c:=by
 obtain⟨B,g,o,p,q,r,s,t,u,v,w,x,b,_⟩:=l;obtain⟨_,_,_,_,_,_,_,_,_,y⟩:=b.cells;have m:=zh b.cs;clear b
 go_enter Tryz.func50,Tryz.ntmps50
 go_wp2_with fail;refine(gT m.o).mono ?_;rintro e c ⟨⟨d,rfl⟩,rfl⟩;go_wp2_with fail;go_ret;exact⟨⟨_,rfl⟩,rfl⟩
def KV(f a g c:Nat)(h:A4):Prop:=∃b d,(f<=c/\f<=b/\f<=d)/\(c<a/\b<a/\d<a/\a<=h.heap.size)/\
  ∀e:Ad,e c=2->e b=2->e d=2->AU h e c g 0 b d (CE g Pc.ad) 0 (λ_=>Ax)
theorem KV.ak{S:Nat->Prop}(n:KV h i f j r)(c:Ac S r E)(o:∀a,S a->a<h):KV h i f j E:=by
 obtain⟨q,s,⟨g,k,l⟩,⟨t,v,w,z⟩,A⟩:=n;refine⟨q,s,⟨g,k,l⟩,⟨t,v,w,j8 z c.size⟩,λm B C D=>?_⟩;have H:=A m B C D
 have d:∀a,h<=a->¬S a:=λa K e=>by have:=o a e;omega
 have F:∀p∈CE f Pc.ad,Ai E 1 p.lv p.ld.length (Ao p.ld)/\(∀b,p.lv.ownBlock=A2 b->m b=0/\b<E.heap.size)/\(∀x∈p.ld,x<256):=by
  intro p G;have:=lN G;subst this;exact⟨Ai.nil _ 1,λb I=>by simp[Pc.ad,Pc.lv,C6]at I,λy J=>by cases J⟩
 exact{H with u:=c.u H.u (d _ g),aB:=c.u H.aB (d _ k),map:=H.map.ak c (d _ l),cR:=F}
def eL(w:A4)(d l n m o p q h:Nat)(r:BitVec 64)(t i:Nat)(s:Nat)(a:A4):Prop:=
 ∃B g b e f j,w.grownBy a Ax/\(w.heap.size<=s/\w.heap.size<=B/\w.heap.size<=g/\w.heap.size<=b/\b<e/\e<f)/\
  Aa a s 196 [AA (A2 ⟨d,0,Ax⟩),J V l,J V n,J V m,J V o,J V p,J V q,J V h,J D7 (U r),J V t,J V i,J V ((n:Int) - 19),J V 1,AA (A2 ⟨B,0,Ax⟩),BB (A2 b),BB (A2 e),BB (A2 f),AA (A2 ⟨j,0,Ax⟩)]/\
  SF a B g i 0 (λ_=>Bd)/\MF a A3 3 b 0 (λ_=>Ax)/\MF a A3 3 e 0 (λ_=>Ax)/\MF a A3 3 f 0 (λ_=>Ax)/\∃c k,KV c k h j a/\w.heap.size<=c/\s<c/\B<c/\g<c/\k<=b
theorem Xd(d i n m o p r g:Nat)(t:BitVec 64)(I x l L M N P:Nat)(q:Nat)(ct:Int->List Nat)(w:A4)(bn:Ad)(hD:AD w bn d i n q ct)
  (hf:∀W,CX A3 32 #[.agg #[J V i,J V n,J V m,J V o,J V p,J V r,J V g,J D7 (U t)]] W λe C=>e=Bk (C5 #[.agg #[J V 2,J V I,J V x,J V l,J V L,J V M,J V N,J V P],J V 0])/\W.grownBy C Ax)
  (n0:96<=n)(n1:n<=512)(p0:1<=l)(p1:l<=65536)(m0:1<=g)(m1:g<=4096)(hT:EO w)(hG:0<w.heap.size):
  CX A3 75 #[AA (A2 ⟨d,0,Ax⟩),.agg #[J V i,J V n,J V m,J V o,J V p,J V r,J V g,J D7 (U t)],J V 0] w λe C=>∃s,e=Bk (C5 #[AA (A2 ⟨s,0,Ax⟩),J V 0])/\eL w d i n m o p r g t x l s C:=by
 have HD:=zh hD;have HF:=zh hf;have Q:=zh (And.intro hT hG);clear hD hf hT hG
 go_enter Tryz.func75,Tryz.ntmps75
 go_wp2_with fail;obtain⟨R,E⟩:=Ag (w.alloc (B0 #[J V i,J V n,J V m,J V o,J V p,J V r,J V g,J D7 (U t)] 37))
 have g1:w.grownBy R Ax:=by rw[<-E];exact O _ _ Ax
 have aQ:Aa R w.heap.size 37 [J V i,J V n,J V m,J V o,J V p,J V r,J V g,J D7 (U t)]:=by rw[<-E];exact Aa.new _ _ _
 have bX:R.heap.size=w.heap.size+1:=by rw[<-E];simp
 rw[E];have G1:=zh g1;have P1:=zh aQ;clear E g1 aQ;refine(HF.o R).mono ?_;rintro e S ⟨rfl,g2⟩;have G2:=zh (Ae G1.o g2);have P2:=zh (P1.o.grown g2 Δ);clear g2;go_wp2_with fail;obtain⟨F,T⟩:=Ag (S.alloc (B0 #[J V 2,J V I,J V x,J V l,J V L,J V M,J V N,J V P] 85))
 have g3:S.grownBy F Ax:=by rw[<-T];exact O _ _ Ax
 have aR:Aa F S.heap.size 85 [J V 2,J V I,J V x,J V l,J V L,J V M,J V N,J V P]:=by rw[<-T];exact Aa.new _ _ _
 rw[T];obtain⟨X,ax⟩:=Ag F.drew
 have Z:F.grownBy X Ax:=by rw[<-ax];exact Be F
 have G4:=zh (Ae G2.o (Ae g3 Z));have G:=zh (P2.o.grown (Ae g3 Z) Δ);have L4:=zh (aR.grown Z Δ);have D4:=zh (HD.o.grown G4.o);have bC:=zh ax;clear T g3 aR Z ax;generalize S.heap.size=ly at*;refine A7 (λW=>Aa W w.heap.size 37 [J V i,J V n,J V m,J V o,J V p,J V r,J V g,J D7 (U t)]) (.an [0,1,2,3,4] [5] 6 BA (.an [7,8,9,10,11] [12] 13 BA (.an [] [14,15] 16 Bd (.nil)))) Φ Φ ?_;rw[bC.o];refine DK G.o ?_
 iterate 5 ((apply AB rfl Θ;(· intro wS a;(try have a:=a rfl);(try dsimp only at a);(try(have x0:=a.m 0;have x1:=a.m 1));go_simp;(try with_reducible rfl)));refine Ak ?_)
 refine Aj ?_;refine Az ?_;refine Aj ?_;refine Al ?_;intro K f;refine(LP D4.o).mono ?_;rintro e C ⟨rfl,rfl⟩;dsimp only;refine f _ _ ⟨_,λ_ h=>h,λ_=>G.o,?_⟩;clear f K;refine Ak ?_;refine DK G.o ?_
 iterate 5 ((apply AB rfl Θ;(· intro wS a;(try have a:=a rfl);(try dsimp only at a);(try(have x0:=a.m 0;have x1:=a.m 1));go_simp;(try with_reducible rfl)));refine Ak ?_)
 refine Aj ?_;refine Az ?_;refine Aj ?_;refine Al ?_;intro K f;refine(Kr D4.o).mono ?_;rintro e C ⟨rfl,rfl⟩;dsimp only;refine f _ _ ⟨_,λ_ h=>h,λ_=>G.o,?_⟩;clear f K;refine Ak ?_;refine Ar ?_
 iterate 2 refine Az ?_
 refine Aj ?_;refine Al ?_;intro K f;refine As f ?_;clear f K;refine AK (NoPanic.normal ?_);go_wp2_with fail;obtain⟨y,ay⟩:=Ag X.drew
 have g5:X.grownBy y Ax:=by rw[<-ay];exact Be X
 have G5:=zh (Ae G4.o g5);have P5:=zh (G.o.grown g5 Δ);have L5:=zh (L4.o.grown g5 Δ);have bE:=zh ay;clear ay g5;refine A7 (λW=>Aa W w.heap.size 37 [J V i,J V n,J V m,J V o,J V p,J V r,J V g,J D7 (U t)]/\Aa W ly 85 [J V 2,J V I,J V x,J V l,J V L,J V M,J V N,J V P]) (.an [1,2,3,4,5,9,10] [0,6,7] 8 BA (.an [] [11] 12 Bd (.an [] [] 13 Bd (.nil)))) Φ Φ ?_;rw[bE.o];refine DK ⟨P5.o,L5.o⟩ ?_
 iterate 7 ((apply AB rfl Θ;(· intro wS a;(try have a:=a rfl);(try dsimp only at a);(try(have x0:=a.1.m 0;have x1:=a.1.m 1;have x2:=a.1.m 2;have x3:=a.1.m 3;have x4:=a.1.m 4;have x5:=a.1.m 5;have x6:=a.1.m 6;have x7:=a.1.m 7;have y2:=a.2.m 2;have y3:=a.2.m 3));go_simp;(try with_reducible rfl)));refine Ak ?_)
 refine Aj ?_;have x1:=P5.o.m 1
 iterate 3 refine Az ?_
 refine Aj ?_;clear x1;refine Al ?_;intro K f;refine(IU n n0 n1 y).mono ?_;rintro e C ⟨rfl,rfl⟩;dsimp only;refine f _ _ ⟨_,λ_ h=>h,λ_=>⟨P5.o,L5.o⟩,?_⟩;clear f K;refine Ak ?_;refine Ar ?_;refine Az ?_;refine Aj ?_;rw[show V.wrap 1=1 from rfl];refine Al ?_;intro K f;obtain⟨w6,ad⟩:=Ag (y.alloc (B0 #[AA (A2 ⟨d,0,Ax⟩),J V i,J V n,J V m,J V o,J V p,J V r,J V g,J D7 (U t),J V x,J V l,J V ((n:Int) - 19),J V 1,AA Ax,BB Ax,BB Ax,BB Ax,AA Ax] 196))
 have g6:y.grownBy w6 Ax:=by rw[<-ad];exact O _ _ Ax
 have b6:Aa w6 y.heap.size 196 [AA (A2 ⟨d,0,Ax⟩),J V i,J V n,J V m,J V o,J V p,J V r,J V g,J D7 (U t),J V x,J V l,J V ((n:Int) - 19),J V 1,AA Ax,BB Ax,BB Ax,BB Ax,AA Ax]:=by rw[<-ad];exact Aa.new _ _ _
 rw[ad];have aC:w.heap.size<=y.heap.size:=G5.o.size;have G6:=zh (Ae G5.o g6);have P6:=zh (P5.o.grown g6 Δ);have L6:=zh (L5.o.grown g6 Δ);have B6:=zh b6;clear ad g6 b6;generalize y.heap.size=c at*;refine As f ?_;clear f K;refine Ar ?_;refine Aj ?_;refine Al ?_;intro K f;refine As f ?_;clear f K;refine AK (NoPanic.normal ?_);have y3:=L6.o.m 3;go_wp2_with fail;refine(eH l w6 p0 p1 (Q.o.1.bg (G6.o.block _ Q.o.2 Δ)) (jY Q.o.2 G6.o.size)).mono ?_;rintro e z ⟨D,gs,rfl,a0,b4,b5,g7⟩;have b7:=G6.o.size;have B7:=zh (B6.o.grown g7 Δ);have P7:=zh (P6.o.grown g7 Δ);have G7:=zh (Ae G6.o g7);have aF:=zh a0;clear a0 g7 y3;have bI:=B7.o.m 13;have bJ:=B7.o.v 13;have b9:=B6.o.lt;have t8:Ac (λj=>j=c) z (z.setCell ⟨c,13,Ax⟩ (AA (A2 ⟨D,0,Ax⟩))):=Ac.of (An _ _ _) (λj e=>by cases e;rfl);have b8:=B7.o.setCell 13 (AA (A2 ⟨D,0,Ax⟩))
 have bK:w.heap.size≠c:=λe=>by
  have:=Ov (e▸P6.o) B6.o;exact absurd this Ξ
 have P8:=t8.u P7.o bK;have x6:=P8.m 6;have P8:=zh P8;have B8:=zh b8;have T8:=zh t8;clear b8 t8;go_wp2_with fail;obtain⟨w8,a3⟩:=Ag (z.setCell ⟨c,13,Ax⟩ (AA (A2 ⟨D,0,Ax⟩)));rw[a3]at B8 T8 P8 x6⊢;clear a3 bI bJ x6;refine(dG w8 g m0 m1).mono ?_;rintro e b ⟨H,rfl,bp,bm,g9,k1,k2,k3,k4,k5,k6,ba⟩;have ca:z.heap.size<=w8.heap.size:=T8.o.size;have bN:Hd (KV w8.heap.size b.heap.size g H b):=zh ⟨bp,bm,⟨k1,k2,k3⟩,⟨k4,k5,k6,jS _⟩,ba⟩;have B9:=zh (B8.o.grown g9 Δ);have bb:Hd (w.grownBy b Ax):=zh (Ae (Ac.grown G7.o T8.o (λj e=>by rw[e];exact aC)) g9);have cb:D<z.heap.size/\gs<z.heap.size:=⟨aF.o.eh.1,aF.o.eh.2.1⟩;have cc:c<z.heap.size:=B7.o.lt;have an:c≠D/\c≠gs:=⟨λe=>Ω,λe=>Ω⟩
 have bc:c≠0:=λe=>by have:=Q.o.2;omega
 have bO:=zh ((aF.o.ak T8.o (λe=>an.1 e.symm) (λe=>an.2 e.symm) (λe=>bc e.symm)).grown g9);clear g9 k1 k2 k3 k4 k5 k6 ba;have bP:=B9.o.m 17;have bQ:=B9.o.v 17;have aH:Ac (λj=>j=c) b (b.setCell ⟨c,17,Ax⟩ (AA (A2 ⟨H,0,Ax⟩))):=Ac.of (An _ _ _) (λj e=>by cases e;rfl);have aI:=B9.o.setCell 17 (AA (A2 ⟨H,0,Ax⟩));obtain⟨u,ao⟩:=Ag (b.setCell ⟨c,17,Ax⟩ (AA (A2 ⟨H,0,Ax⟩)));rw[ao]at aH aI;have cd:=@DV A3;obtain⟨A,B⟩:=Ag (((u.alloc (BR #[] 0)).alloc (BR #[] 0)).alloc (BR #[] 0))
 have aJ:u.grownBy A Ax:=by rw[<-B];exact Ae (Ae (O _ _ Ax) (O _ _ Ax)) (O _ _ Ax)
 have v:=aI.grown aJ Δ;have bd:=v.m 14;have be:=v.m 15;have bf:=v.m 16;have bg:=v.v 14;have bh:=v.v 15;have bi:=v.v 16
 have ap:MF A A3 3 u.heap.size 0 (λ_=>Ax):=by
  rw[<-B];exact((MF.bR u A3 3).grown (O _ _ Ax) Δ).grown (O _ _ Ax) Δ
 have aq:MF A A3 3 (u.heap.size+1) 0 (λ_=>Ax):=by
  have:=MF.bR (u.alloc (BR #[] 0)) A3 3;rw[BC]at this;rw[<-B];exact this.grown (O _ _ Ax) Δ
 have ar:MF A A3 3 (u.heap.size+2) 0 (λ_=>Ax):=by
  have:=MF.bR ((u.alloc (BR #[] 0)).alloc (BR #[] 0)) A3 3;rw[BC,BC]at this;rw[<-B];exact this
 rw[<-B, <-ao]at bd be bf bg bh bi;have HM:=zh (And.intro ap (And.intro aq ar));have bR:=zh v;have bk:=zh aJ;have bS:=zh aH;have bl:=zh ao;have bT:=zh B;clear ap aq ar v aJ aH ao B aI;go_wp2_with fail;rw[bl.o,bT.o];clear bd be bf bg bh bi bP bQ;have bU:=((bR.o.setCell 14 (BB (A2 b.heap.size))).setCell 15 (BB (A2 (b.heap.size+1)))).setCell 16 (BB (A2 (b.heap.size+1+1)))
 have au:Ac (λj=>j=c) A (((A.setCell ⟨c,14,Ax⟩ (BB (A2 b.heap.size))).setCell ⟨c,15,Ax⟩ (BB (A2 (b.heap.size+1)))).setCell ⟨c,16,Ax⟩ (BB (A2 (b.heap.size+1+1)))):=
  ((Ac.of (An _ _ _) (λk e=>by cases e;rfl)).trans (Ac.of (An _ _ _) (λk e=>by cases e;rfl))).trans (Ac.of (An _ _ _) (λk e=>by cases e;rfl))
 have bV:u.heap.size=b.heap.size:=by rw[<-bl.o];simp
 have ce:=bk.o.size;rw[bV]at HM;generalize((A.setCell ⟨c,14,Ax⟩ (BB (A2 b.heap.size))).setCell ⟨c,15,Ax⟩ (BB (A2 (b.heap.size+1)))).setCell ⟨c,16,Ax⟩ (BB (A2 (b.heap.size+1+1)))=Y at*;have TT:Ac (λj=>j=c) b Y:=(bS.o.trans (Ac.au bk.o)).trans au;have bW:=bb.o.size;have cf:c<b.heap.size:=B9.o.lt;obtain⟨ap,aq,ar⟩:=HM.o;refine C4 (C2 rfl _ _ _) rfl ⟨c,rfl,D,gs,b.heap.size,b.heap.size+1,b.heap.size+2,H,Ac.grown bb.o TT (λj e=>by rw[e];exact aC),⟨aC,Ω,Ω,bW,Ω,Ω⟩,bU,bO.o.ak TT (λe=>an.1 e.symm) (λe=>an.2 e.symm) (λe=>bc e.symm),ap.ak au Ω,aq.ak au Ω,ar.ak au Ω,w8.heap.size,b.heap.size,bN.o.ak TT (λj e=>by rw[e];omega),Ω,Ω,Ω,Ω,jS _⟩
theorem YO(F:AD E a h k.ss k.n f Z)(_:Aw E a)(d:k.aU)(O:EO E)(G:0<E.heap.size)(P:a 0=0):
  CX A3 75 #[AA (A2 ⟨h,0,Ax⟩),k.val,J V 0] E λe z=>∃s,e=Bk (C5 #[AA (A2 ⟨s,0,Ax⟩),J V 0])/\∃c,Ab (SS 200) E a z c/\SD z c s h k f 1 (λ_=>Ax) Z:=by
 have n:=d.dD (k:=0) (by have n:=d.d2;have o:k.a2=k.ss - k.aK:=rfl;rw[o];exact jY (by omega:0<3*k.bv+4) (pL (by rw[qK];exact n)))
 have Q:1<=k.a2:=by have n:=d.d2;have o:k.a2=k.ss - k.aK:=rfl;rw[o];exact j8 (by omega:1<=3*k.bv+4) (pL (by rw[qK];exact n))
 refine(Xd h k.ss k.n k.rg k.rs k.lg k.dp k.a7 k.aQ k.region k.aK k.a2 k.bi k.ba k.bv k.aI f Z E a F (λW=>IS k d W) d.n0 d.n1 Q (j8 n.2.1 Ω) (Ψ d.iP) (Ψ d.hF) O G).mono ?_;rintro e z ⟨s,rfl,B,g,p,q,r,t,H,⟨o,R,T,U,h6,h7⟩,A,I,K,L,M,X,Y,⟨v,w,⟨k1,k2,k3⟩,⟨k4,k5,k6,k7⟩,ag⟩,au,hs,hB,ax,ay⟩;obtain⟨c,ai⟩:∃c:Ad,(λj=>if j<E.heap.size then a j else if j=s\/j=B\/j=g\/j=p\/j=q\/j=r then 3 else if j=t\/j=v\/j=w then 2 else 0)=c:=⟨_,rfl⟩
 have x:∀j,c j=if j<E.heap.size then a j else if j=s\/j=B\/j=g\/j=p\/j=q\/j=r then 3 else if j=t\/j=v\/j=w then 2 else 0:=λj=>by rw[<-ai]
 have hold:∀j,j<E.heap.size->c j=a j:=λj y=>by rw[x,ke y]
 have m:∀j,E.heap.size<=j->(j=s\/j=B\/j=g\/j=p\/j=q\/j=r)->c j=3:=λj y e=>by rw[x,j7 Ω,ke e]
 have C:∀j,X<=j->j<Y->(j=t\/j=v\/j=w)->c j=2:=λj y az e=>by rw[x,j7 Ω,j7 Ω,ke e]
 have aA:=A.lt;have aB:=I.eh;have aC:=K.lt;have aD:=L.lt;have aE:=M.lt
 have N:Ab (SS 200) E a z c:=by
  refine⟨Ac.au H,hold,λj y=>?_,λj y=>?_⟩
  ·rw[x,j7 Ω]
   split
   ·exact Bn (BL (Bn (Bn rfl)))
   ·split
    ·exact Bn (BL (Bn (BL rfl)))
    ·exact BL rfl
  ·rw[x,j7 Ω,j7 Ω,j7 Ω]
 have D:Da (λ_=>Bd)=λ_=>Ax:=by
  funext j
  unfold Da;rw[j7 (λe=>by cases e.2)]
 have aj:((k.n:Int) - 19)=((k.n - 19:Nat):Int):=by have:=d.n0;omega
 rw[aj]at A;refine⟨s,rfl,c,N,⟨B,g,0,p,q,r,t,λ_=>Bd,λ_=>Bd,λ_=>Bd,λ_=>Bd,λ_=>Ax,?_,?_⟩,F.am (Ac.au (S:=λ_=>False) H) (λ_ _ ak=>ak) hold,N.new,d⟩
 ·exact{
   u:=A
   aR:=I
   mf:=by rw[D];exact K.mono (kN _)
   my:=by rw[D];exact L.mono (kN _)
   md:=by rw[D];exact M.mono (kN _)
   cs:=⟨v,w,_,0,_,(ag c (C t k1 k4 (BL rfl)) (C v k2 k5 (Bn (BL rfl))) (C w k3 k6 (Bn (Bn rfl)))).mono (kN _),λ_=>rfl⟩
   fy:=Ω
   fd:=Ω
   yd:=Ω
   c0:=m s o (BL rfl)
   c1:=m B R (Bn (BL rfl))
   c2:=m g T (Bn (Bn (BL rfl)))
   c3:=m p U (Bn (Bn (Bn (BL rfl))))
   c4:=m q Ω (Bn (Bn (Bn (Bn (BL rfl)))))
   c5:=m r Ω (Bn (Bn (Bn (Bn (Bn rfl)))))
   dX:=(hold _ G).trans P
   q1:=by omega}
 ·exact{dm:=λl b=>by cases b
        dk:=λl b=>by rcases b with b|b|b;exact absurd rfl b;cases b;cases b
        cN:=λl b=>by cases b
        dC:=λl b=>by cases b
        dO:=λl b=>by cases b
        eQ:=λl b=>by cases b
        eP:=λl b=>by cases b
        fv:=λl b=>by cases b
        bs:=λl st ld b=>by cases b
        bU:=λi st ld di hi=>by cases hi
        ah:=⟨[],kN _,λl _ b=>by rcases b with b|b;exact absurd rfl b;cases b⟩
        fx:=⟨[],kN _,λl b=>by cases b⟩}
theorem VZ(l:AD E a h k.ss k.n f Z)(i:Aw E a)(u:k.aU)(m:EO E)(o:0<E.heap.size)(v:a 0=0):
  CX A3 30 #[AA (A2 ⟨h,0,Ax⟩),k.val] E λe p=>∃s,e=Bk (C5 #[AA (A2 ⟨s,0,Ax⟩),J V 0])/\∃d,Ab (SS 200) E a p d/\SD p d s h k f 1 (λ_=>Ax) Z:=by
 obtain⟨j,g⟩:=Ag (E.alloc (B0 k.cells.toArray 37))
 have c:E.grownBy j Ax:=by rw[<-g];exact O _ _ Ax
 have q:Aa j E.heap.size 37 k.cells:=by rw[<-g];exact Aa.new _ _ _
 have r:=zh (YO (l.grown c) (i.grown c) u (m.bg (c.block _ o Δ)) (jY o c.size) v);have w:=zh c;have b:=zh q;have t:=zh g;have x:=zh i;clear l i m c q g;unfold Pl.val at r⊢;unfold Pl.cells at b t;obtain⟨y,n,z,A,B,C,D,F⟩:=k;dsimp only at*
 go_enter Tryz.func30,Tryz.ntmps30
 have I:=b.o.m 0;have K:=b.o.m 1;have L:=b.o.m 2;have M:=b.o.m 3;have N:=b.o.m 4;have P:=b.o.m 5;have Q:=b.o.m 6;have R:=b.o.m 7;go_wp2_with fail;rw[show E.alloc (B0 #[J V y,J V n,J V z,J V A,J V B,J V C,J V D,J D7 (U F)] 37)=j from t.o];refine r.o.mono ?_;rintro e S ⟨s,rfl,d,G,H⟩;go_wp2_with fail;refine C4 (C2 rfl _ _ _) rfl ⟨s,rfl,d,(Ab.grown x.o w.o).trans G,H⟩
end
section
open Go Go.RowKit Go.Maps Go.ChangeMaps Go.MapKept
open Go.WideElems (Fit rd rg rd_key rg_of)
theorem MF.g8{t:BX}(r:MF E c d h f Y)(s:c.underlying d=A2 (.int V))(u:c.underlying t=A2 (.map d w))(k:BX):
  ∃n:Nat,(Builtin.len_ #[t] k #[BB (A2 h)]).run c E=.ok (J V (n:Nat)) E/\n<=f/\(n=0↔ ∀i,Y i=Ax):=by
 obtain⟨n,D,z,a,l⟩:=r;refine⟨Maps.size D,a.len u k,j8 a.size_le z,?_⟩
 constructor
 ·intro b i;have e:=(l i).1;obtain⟨m,rfl⟩:=a.isMap;rw[size_eq]at b;rw[has_eq,qG.1 b]at e
  cases g:Y i with
  |none=>rfl
  |some v=>rw[g]at e;simp at e
 ·intro g;obtain⟨m,H,I,F,b,rfl⟩:=a;rw[size_eq,length_sorted,mH]
  refine lJ λA=>?_
  obtain⟨x,o⟩:=List.exists_mem_of_length_pos (Nat.pos_of_ne_zero A);obtain⟨y,q⟩:=F.reads x o;obtain⟨i,_,B,_⟩:=CV s (rd_key q);have j:=(l i).1;rw[g i,has_eq]at j;have C:(rg c d Gh x)∈(m.toList.map (rg c d Gh)).foldr DataW.insert []:=mem_sorted.2 (List.mem_map_of_mem o);have G:=nU (p:=λp:Lit×DataW BE=>p.1.sameKey (C1 V i)).2 ⟨_,C,show(rg c d Gh x).1.sameKey (C1 V i)=BA by rw[rg_of q,B];simp[C7]⟩;rw[G]at j
  cases j
theorem MF.ij{t:BX}(g:MF E c d h f Y)(j:c.underlying t=A2 (.map d w))(k:BX):
  ∃b,(Builtin.clear_ #[t] k #[BB (A2 h)]).run c E=.ok (C5 #[]) b/\MF b c d h 0 (λ_=>Ax)/\E.grownBy b (A2 h):=by
 obtain⟨n,D,o,⟨l,e,a,F,p,rfl⟩,q⟩:=g;refine⟨_,by simp[Builtin.clear_,run_underlying j,Go.MapKept.run_getObj_map a,Go.MapKept.run_setObj_map _ a,Result.andThen];rfl,⟨0,.map [],jS _,⟨#[],e,heap_setBlock_same a _,⟨Δ,?_,λx m=>by simp at m⟩,Δ,rfl⟩,λi=>⟨rfl,λz=>by simp[DataW.atKey]⟩⟩,World.mapTurned.grown ⟨l,e,#[],e,a,rfl⟩⟩;simp[Stamped]
end
section
open Go Go.RowKit
def EE(D:Int->Option Nat)(i:Int):Option BE:=(D i).map λa=>J V (a:Nat)
def DE(f:Int->Bool)(i:Int):Option BE:=if f i then A2 (CB BA)else Ax
def CQ(D:Int->Option Nat)(i:Int)(a:Nat)(j:Int):Option Nat:=if j=i then A2 a else D j
def BP(D:Int->Option Nat)(i:Int)(j:Int):Option Nat:=if j=i then Ax else D j
def JV(f:Int->Bool)(i:Int)(j:Int):Bool:=if j=i then BA else f j
def Np(f:Int->Bool)(i:Int)(j:Int):Bool:=if j=i then Bd else f j
theorem dW(D:Int->Option Nat)(i:Int)(a:Nat):Ec (EE D) i (J V a)=EE (CQ D i a):=by
 funext j
 unfold Ec EE CQ
 split<;>rfl
theorem ey(D:Int->Option Nat)(i:Int):FN (EE D) i=EE (BP D i):=by
 funext j
 unfold FN EE BP
 split<;>rfl
theorem Ua(f:Int->Bool)(i:Int):Ec (DE f) i (CB BA)=DE (JV f i):=by
 funext j
 unfold Ec DE JV
 by_cases e:j=i
 ·simp[e]
 ·simp[e]
theorem gy(f:Int->Bool)(i:Int):FN (DE f) i=DE (Np f i):=by
 funext j
 unfold FN DE Np
 by_cases e:j=i
 ·simp[e]
 ·simp[e]
theorem SQ:DE (λ_=>Bd)=λ_=>Ax:=by
 funext j
 simp[DE]
def MY(a:List (Option Nat)):List BE:=a.map λp=>BB p
def Ez(T:Nat)(a:Option Nat)(b:List (Option Nat))(c:Option Nat):List BE:=J V T::BB a::(MY b++[BB c])
theorem QL{b:Option Nat}{i:Nat}(a:l[i]?=A2 p):(Ez h z l b)[2+i]?=A2 (BB p):=by
 have c:=(jX.1 a).1;unfold Ez MY;rw[show 2+i=i+1+1 by omega,mR,mR,lj (by simpa using c),lB,a];rfl
theorem VF(a:l.length=384):(Ez h z l p)[386]?=A2 (BB p):=by
 unfold Ez MY;rw[mR,mR,lf (by simp[a])];simp[a]
theorem Wk(T a:Nat)(b:Option Nat)(c:List (Option Nat))(d:Option Nat):(Ez T b c d).set 0 (J V a)=Ez a b c d:=rfl
theorem XB(T:Nat)(b:Option Nat)(a:List (Option Nat))(c p:Option Nat){i:Nat}(d:i<a.length):(Ez T b a c).set (2+i) (BB p)=Ez T b (a.set i p) c:=by
 unfold Ez MY;rw[show 2+i=i+1+1 by omega,kM,kM,nM _ _ (by simpa using d),qI]
def Dt(T a:Nat):Nat:=if a/64=T/64 then a%64 else 64+a/64
theorem Sd{T:Nat}(a:h<4096):Dt T h<128:=by
 unfold Dt
 split<;>omega
structure AX(w:A4)(a:Ad)(b T d e:Nat)(c:List Nat)(q:Nat)(D:Int->Option Nat)(Q:Nat->Int->Bool):Prop where
 u:Aa w b 121 (Ez T (A2 d) (c.map A2) (A2 e))
 aF:c.length=384
 c0:a b=600
 c1:a d=601
 c2:a e=602
 cp:∀i p,c[i]?=A2 p->a p=1000+i
 md:MF w A3 3 d q (EE D)
 ml:MF w A3 3 e q (λ_=>Ax)
 mp:∀i p,c[i]?=A2 p->MF w A3 3 p q (DE (Q i))
def Bb(j:Nat):Prop:=600<=j
structure Cm(T:Nat)(D:Int->Option Nat)(Q:Nat->Int->Bool):Prop where
 t:T<4096
 lt:∀n a,D n=A2 a->a<4096
 cT:∀i n,Q i n=BA->∃a,D n=A2 a/\T<=a/\i=Dt T a
 nn:∀n a,D n=A2 a->0<=n/\n<256
theorem AX.ae{C:Nat->Prop}{l:Nat}(c:AX E a h f l j g q b e)(s:Ab C E a r y)(k:∀m,Bb m->¬C m):AX r y h f l j g q b e:=
 have n:=k 600 (jS _);have o:=k 601 (by unfold Bb;omega);have t:=k 602 (by unfold Bb;omega)
 have u:∀i,¬C (1000+i):=λi=>k _ (by unfold Bb;omega)
 ⟨s.u c.u (by rw[c.c0];exact n),c.aF,by rw[s.ah _ c.u.lt];exact c.c0,by rw[s.ah _ c.md.lt];exact c.c1,by rw[s.ah _ c.ml.lt];exact c.c2,
  λi p d=>by rw[s.ah _ (c.mp i p d).lt];exact c.cp i p d,c.md.ak s.ak (by rw[c.c1];exact o),c.ml.ak s.ak (by rw[c.c2];exact t),λi p d=>(c.mp i p d).ak s.ak (by rw[c.cp i p d];exact u i)⟩
theorem AX.grown{k:Nat}(c:AX E a h f k j g q b e)(d:E.grownBy r Ax):AX r a h f k j g q b e:=
 ⟨c.u.grown d Δ,c.aF,c.c0,c.c1,c.c2,c.cp,c.md.grown d Δ,c.ml.grown d Δ,λi p l=>(c.mp i p l).grown d Δ⟩
theorem AX.mono{k:Nat}(c:AX E a h f k j g q b e)(d:q<=x):AX E a h f k j g x b e:=
 ⟨c.u,c.aF,c.c0,c.c1,c.c2,c.cp,c.md.mono d,c.ml.mono d,λi p l=>(c.mp i p l).mono d⟩
theorem AX.gL{k:Nat}(c:AX E a h f k j g q b e){i:Nat}(d:i<384):∃p,g[i]?=A2 p/\E.cell? ⟨h,2+i,Ax⟩=A2 (BB (A2 p)):=by
 refine⟨_,jW (by rw[c.aF];exact d),?_⟩;exact c.u.aq (QL (by rw[lB,jW (by rw[c.aF];exact d)];rfl))
theorem AX.cells(c:AX E a h f i j g q b e):
  E.cell? ⟨h,0,Ax⟩=A2 (J V f)/\E.cell? ⟨h,1,Ax⟩=A2 (BB (A2 i))/\E.cell? ⟨h,386,Ax⟩=A2 (BB (A2 j)):=
 ⟨c.u.aq rfl,c.u.aq rfl,c.u.aq (VF (by rw[mH,c.aF]))⟩
end
section
open Go.RowKit Go.Maps
attribute [local go_sem ↓] Go.wp_at_zero Go.wp_at_succ
section
variable {w:World} {col:Ad} {b T bd bl:Nat} {ps:List Nat} {q:Nat} {D:Int->Option Nat} {Q:Nat->Int->Bool}
theorem Kw(h:AX w col b T bd bl ps q D Q):CX A3 29 #[AA (A2 ⟨b,0,Ax⟩)] w λe a=>e=Bk (J V T)/\w.grownBy a Ax:=by
 obtain⟨c,_,_⟩:=h.cells;clear h
 go_enter Tryz.func29,Tryz.ntmps29
 go_wp2;go_ret;exact⟨rfl,Bf _ _⟩
theorem Ph(h:AX w col b T bd bl ps q D Q)(n:T<4096)(a:Nat)(k:a<4096):∃p,ps[Dt T a]?=A2 p/\
  CX A3 66 #[AA (A2 ⟨b,0,Ax⟩),J V a] w λe l=>e=Bk (BB (A2 p))/\w.grownBy l Ax:=by
 obtain⟨d,_,_⟩:=h.cells;obtain⟨p,f,c⟩:=h.gL (i:=Dt T a) (Ψ (Sd (T:=T) k));refine⟨p,f,?_⟩;clear h f;unfold Dt at c
 go_enter Tryz.func66,Tryz.ntmps66
 go_wp2_with fail
 go_loopw [7] (λv W=>w.grownBy W Ax/\(v=J V 0\/(v=J V 1/\¬a/64=T/64))) (λv _=>(6 - CL v).toNat)
 case atStart=>exact⟨Bf _ _,BL rfl⟩
 case round=>
  obtain⟨g,(rfl|⟨rfl,m⟩)⟩:=hrel
  ·have G:=zh g;have o:=zh d;have r:=zh c;have d:=g.cell d Δ;have c:=g.cell c Δ;clear g;go_wp2_with fail
   by_cases e:a/64=T/64
   ·have j:((a:Int)/64==(T:Int)/64)=BA:=by simp;omega
    rw[ke e]at c
    go_quiet (fail)
    go_wp2_with fail
    go_quiet (fail)
    go_wp2_with fail;go_ret;exact⟨rfl,Ae G.o (Ae (AS _ _ Ax) (AS _ _ Ax))⟩
   ·have j:((a:Int)/64==(T:Int)/64)=Bd:=by simp;omega
    go_quiet (fail)
    go_wp2_with fail;exact⟨⟨Ae G.o (AS _ _ Ax),Bn ⟨rfl,e⟩⟩,by simp[CL]⟩
  ·have G:=zh g;have d:=g.cell d Δ;have c:=g.cell c Δ;rw[j7 m,show 2+(64+a/64)=66+a/64%64 by omega]at c;have j:((a:Int)/4096==(T:Int)/4096)=BA:=Γ;clear g;go_wp2_with fail
   go_quiet (fail)
   go_wp2_with fail
   go_quiet (fail)
   go_wp2_with fail;go_ret;exact⟨rfl,Ae G.o (Ae (AS _ _ Ax) (AS _ _ Ax))⟩
end
end
section
open Go.RowKit Go.Maps
attribute [local go_sem ↓] Go.wp_at_zero Go.wp_at_succ
def PQ(Q:Nat->Int->Bool)(p:Nat)(n:Int)(i:Nat):Int->Bool:=if i=p then Np (Q p) n else Q i
def PH(Q:Nat->Int->Bool)(p:Nat)(n:Int)(i:Nat):Int->Bool:=if i=p then JV (Q p) n else Q i
section
variable {w:World} {col:Ad} {b T bd bl:Nat} {ps:List Nat} {q:Nat} {D:Int->Option Nat} {Q:Nat->Int->Bool}
theorem AX.ne(c:AX w col b T bd bl ps q D Q){i a:Nat}(d:ps[i]?=A2 f)(g:ps[h]?=A2 a)(e:i≠h):f≠a:=by
 intro j;have k:=c.cp i f d;have l:=c.cp h a g;subst j;omega
theorem AX.f0(a:AX w col b T bd bl ps q D Q)(d:q<=f){i:Nat}(k:ps[i]?=A2 h){l:Int->Bool}(m:MF E A3 3 h f (DE l))(g:w.grownBy E (A2 h)):
  AX E col b T bd bl ps f D (λj=>if j=i then l else Q j):=by
 have t:Ac (λj=>j=h) w E:=Ac.of g (λj e=>by cases e;rfl);have o:=a.cp i h k;refine⟨t.u a.u (by have:=a.c0;intro e;subst e;omega),a.aF,a.c0,a.c1,a.c2,a.cp,(a.md.mono d).ak t (by have:=a.c1;intro e;subst e;omega),(a.ml.mono d).ak t (by have:=a.c2;intro e;subst e;omega),λj n c=>?_⟩
 by_cases e:j=i
 ·subst e;rw[k]at c
  cases c
  rw[ke rfl];exact m
 ·rw[j7 e];exact((a.mp j n c).mono d).ak t (a.ne c k e)
theorem AX.ee(a:AX w col b T bd bl ps q D Q)(c:q<=h){d:Int->Option Nat}(k:MF E A3 3 bd h (EE d))(g:w.grownBy E (A2 bd)):
  AX E col b T bd bl ps h d Q:=by
 have t:Ac (λj=>j=bd) w E:=Ac.of g (λj e=>by cases e;rfl);have l:=a.c1;refine⟨t.u a.u (by have:=a.c0;intro e;subst e;omega),a.aF,a.c0,a.c1,a.c2,a.cp,k,(a.ml.mono c).ak t (by have:=a.c2;intro e;subst e;omega),λj f i=>((a.mp j f i).mono c).ak t (by have:=a.cp j f i;intro e;subst e;omega)⟩
theorem Me(D:Int->Option Nat)(n:Int):(EE D n).getD (J V 0)=J V (((D n).getD 0:Nat):Int)/\(EE D n).isSome=(D n).isSome:=by
 unfold EE
 cases D n<;>exact⟨rfl,rfl⟩
theorem Of(h:AX w col b T bd bl ps q D Q)(I:T<4096)(y:Aw w col)(n:Int)(g:(C1 V n).wf=BA)(i:∀a,D n=A2 a->a<4096):
  CX A3 23 #[AA (A2 ⟨b,0,Ax⟩),J V n] w λe A=>(∃v,e=Bk v)/\Ab Bb w col A col/\
   AX A col b T bd bl ps q (BP D n) (match D n with|none=>Q|some a=>PQ Q (Dt T a) n):=by
 have H:=zh h;have B:=zh y;have c:=h.md.gv (e:=3) (t:=115) kr lS (z:=J V 0) (w:=w) rfl n g;obtain⟨_,K,_⟩:=h.cells;rw[(Me D n).1,(Me D n).2]at c;clear h y
 cases d:D n with
 |none=>
  rw[d]at c;clear i
  go_enter D8,D1
  go_wp2_with fail;refine C4 (C2 rfl _ _ _) rfl ⟨⟨_,rfl⟩,Ab.refl B.o,?_⟩
  rw[show BP D n=D from funext λj=>by
   unfold BP
   split
   ·rename_i e
    rw[e,d]
   ·rfl]
  exact H.o
 |some a=>
  rw[d]at c;have L:=i a d;obtain⟨p,l,E⟩:=Ph H.o I a L;clear i
  go_enter D8,D1
  go_wp2_with fail;refine E.mono ?_;rintro e P ⟨rfl,m⟩;have o:=zh (H.o.grown m);obtain⟨R,S,r,s⟩:=(o.o.mp _ p l).fG kr mP n g 0;rw[gy]at r;have f:=zh (o.o.f0 (jS q) l r s);obtain⟨_,K,_⟩:=f.o.cells;obtain⟨U,W,u,x⟩:=f.o.md.fG kr lS n g 0;rw[ey]at u;have M:=zh (f.o.ee (jS q) u x);have F:=zh (Ab.grown (C:=Bb) B.o m);have G:=zh (Ab.of (C:=Bb) F.o.new s (λk e=>by cases e;rw[o.o.cp _ p l];unfold Bb;omega));have N:=zh (Ab.of (C:=Bb) G.o.new x (λk e=>by cases e;rw[f.o.c1];unfold Bb;omega));clear c E m r s u x;go_wp2_with fail;exact C4 (C2 rfl _ _ _) rfl ⟨⟨_,rfl⟩,(F.o.trans G.o).trans N.o,M.o⟩
end
end
section
open Go.RowKit Go.Maps
attribute [local go_sem ↓] Go.wp_at_zero Go.wp_at_succ
def Gl(T:Nat)(D:Int->Option Nat)(Q:Nat->Int->Bool)(n:Int):Nat->Int->Bool:=match D n with|none=>Q|some a=>PQ Q (Dt T a) n
section
variable {w:World} {col:Ad} {b T bd bl:Nat} {ps:List Nat} {q:Nat} {D:Int->Option Nat} {Q:Nat->Int->Bool}
theorem OI(D:Int->Option Nat)(n:Int)(a:Nat):CQ (BP D n) n a=CQ D n a:=by
 funext j
 unfold CQ BP
 by_cases e:j=n
 ·rw[ke e,ke e]
 ·rw[j7 e,j7 e,j7 e]
theorem dC(h:AX w col b T bd bl ps q D Q)(r:Aw w col)(U:q<=1073741000)(n:Int)(d:(C1 V n).wf=BA)(s:∀a,D n=A2 a->a<4096)(a:Nat)(u:T<a)(x:a<4096):
  CX A3 28 #[AA (A2 ⟨b,0,Ax⟩),J V n,J V (a:Nat)] w λe y=>e=Bk (J V 0)/\Ab Bb w col y col/\
   AX y col b T bd bl ps (q+2) (CQ D n a) (PH (Gl T D Q n) (Dt T a) n):=by
 have H:=zh h;have z:=Of h Ω r n d s;obtain⟨W,_,_⟩:=h.cells;have X:B2 ((a:Int)<=(T:Int))=Bd:=jV Ω;have Y:B2 (a<=T)=Bd:=jV Ω;have Z:B2 ((a:Int)>281474976710656)=Bd:=jV Ω;have aa:B2 ((281474976710656:Int)<(a:Int))=Bd:=jV Ω;have ab:B2 (281474976710656<a)=Bd:=jV Ω;have L:=zh u;have A:=zh x;clear h r s u x
 go_enter Tryz.func28,Tryz.ntmps28
 go_wp2_with fail;refine z.mono ?_;rintro e M ⟨⟨v,rfl⟩,B,c⟩;obtain⟨_,c1,_⟩:=c.cells;have N:Hd (AX M col b T bd bl ps q (BP D n) (Gl T D Q n)):=zh c;have E:=zh B;obtain⟨O,ad,f,g⟩:=c.md.eu (t:=115) (e:=3) kr lS (by unfold DA;omega) n d (J V a);rw[dW,OI]at f;have F:Hd (AX O col b T bd bl ps (q+1) (CQ D n a) (Gl T D Q n)):=zh (c.ee (lC q) f g);have G:=zh (Ab.of (C:=Bb) E.o.new g (λk e=>by cases e;rw[N.o.c1];unfold Bb;omega));obtain⟨p,i,I⟩:=Ph F.o (by have:=L.o;have:=A.o;omega) a A.o;have P:=zh I;clear z B c f g I;go_wp2_with fail;refine P.o.mono ?_;rintro e w3 ⟨rfl,j⟩;have l:=zh (F.o.grown j);obtain⟨w4,ag,m,o⟩:=(l.o.mp _ p i).eu (t:=117) (e:=4) kr mP (by unfold DA;omega) n d (CB BA);rw[Ua]at m;have R:=zh (l.o.f0 (lC _) i m o);have K:=zh (Ab.grown (C:=Bb) G.o.new j);have S:=zh (Ab.of (C:=Bb) K.o.new o (λk e=>by cases e;rw[l.o.cp _ p i];unfold Bb;omega));clear m o j;go_wp2_with fail;go_ret;exact⟨rfl,((E.o.trans G.o).trans K.o).trans S.o,R.o⟩
end
end
section
open Go Go.RowKit Go.Maps Go.ChangeMaps Go.MapKept
open Go.WideElems (Fit rd rg rd_key rg_of)
theorem Om:∀(n:Nat) (l:List Nat),l.Nodup->(∀x∈l,x<n)->l.length<=n
 |0,l,_,h=>by
  cases l with
  |nil=>exact jS _
  |cons x l=>exact absurd (h x mi) Ω
 |n+1,l,b,h=>by
  by_cases c:n∈l
  ·have d:=Om n (l.erase n) (b.erase n) (λx a=>by
    have f:=h x (List.mem_of_mem_erase a)
    have g:x≠n:=λe=>by
     subst e;exact(b.mem_erase_iff.1 a).1 rfl
    omega)
   rw[qA c]at d;omega
  ·have d:=Om n l b (λx a=>by
    have f:=h x a
    have g:x≠n:=λe=>c (e▸a)
    omega)
   omega
def jf:Lit->Nat
 |C1 _ i=>i.toNat
 |_=>0
theorem MF.e0{b:Nat}(u:MF E c d b f Y)(r:c.underlying d=A2 (.int V))(v:∀i,(Y i).isSome=BA->0<=i/\i<h):MF E c d b h Y:=by
 obtain⟨m,D,J,⟨g,w,z,F,K,rfl⟩,s⟩:=u;refine⟨g.size,_,?_,⟨g,w,z,F,jS _,rfl⟩,s⟩;have A:=Maps.fit_apart (D0 r) F
 have l:∀p∈g.toList.map (rg c d Gh),∃i:Int,p.1=C1 V i/\0<=i/\i<h:=by
  intro p a;obtain⟨x,n,rfl⟩:=lP.1 a;obtain⟨y,o⟩:=F.reads x n;obtain⟨i,_,k,_⟩:=CV r (rd_key o);have B:=nU (p:=λp:Lit×DataW BE=>p.1.sameKey (C1 V i)).2 ⟨_,mem_sorted.2 a,show(rg c d Gh x).1.sameKey (C1 V i)=BA by rw[rg_of o,k];simp[C7]⟩;have t:=(s i).1;rw[has_eq,B]at t;exact⟨i,by rw[rg_of o,k],v i t.symm⟩
 have C:=Om h ((g.toList.map (rg c d Gh)).map λp=>jf p.1) ?_ ?_
 ·simpa using C
 ·refine List.pairwise_map.2 (A.imp_of_mem λ{p f} a G H e=>H ?_);obtain⟨i,q,I,_⟩:=l p a;obtain⟨j,k,L,_⟩:=l f G;rw[q,k]at e⊢;have M:i.toNat=j.toNat:=e;rw[show i=j by omega]
 ·intro x n;obtain⟨p,a,rfl⟩:=lP.1 n;obtain⟨i,q,I,N⟩:=l p a;rw[q];show i.toNat<h;omega
theorem MR.hp{left:Int->Bool}(a:MR E c d i j h Y left f):f<=h:=by
 obtain⟨n,D,L,b,⟨k,l,m,o,p,q,r,e,s,t,u,g,_⟩,_⟩:=a;rw[<-g];unfold leftOf;refine j8 ?_ (j8 e b);simp[Array.size_filter_le]
section
variable {T:Nat} {D:Int->Option Nat} {Q:Nat->Int->Bool}
theorem aF(h:(EE D t).isSome=BA):∃a,D t=A2 a:=by
 unfold EE at h
 cases b:D t with
 |none=>rw[b]at h;cases h
 |some a=>exact⟨a,rfl⟩
theorem OC{f:Int->Bool}{n:Int}(h:(DE f n).isSome=BA):f n=BA:=by
 unfold DE at h
 split at h
 ·assumption
 ·cases h
theorem AX.e0{k:Nat}(b:AX E a h T f k g j D Q)(l:Cm T D Q):AX E a h T f k g 256 D Q:=
 ⟨b.u,b.aF,b.c0,b.c1,b.c2,b.cp,b.md.e0 kr (λi c=>by obtain⟨d,e⟩:=Proofs.YtcedibmdelehdaaGreatDoor.aF c;exact l.nn i d e),b.ml.e0 kr (λi c=>by cases c),
  λi p m=>(b.mp i p m).e0 kr (λn o=>by obtain⟨d,e,_⟩:=l.cT i n (OC o);exact l.nn n d e)⟩
theorem Cm.drop(l:Cm T D Q)(n:Int):Cm T (BP D n) (Gl T D Q n):=by
 have j:∀m a,BP D n m=A2 a->D m=A2 a/\m≠n:=by
  intro m a h;unfold BP at h
  split at h
  ·cases h
  ·exact⟨h,by assumption⟩
 refine⟨l.t,λm a h=>l.lt m a (j m a h).1,λi m h=>?_,λm a h=>l.nn m a (j m a h).1⟩
 have f:∀{a:Nat},m≠n->D m=A2 a->BP D n m=A2 a:=λe h=>by unfold BP;rw[j7 e];exact h
 cases d:D n with
 |none=>
  unfold Gl at h;rw[d]at h;obtain⟨a,b,c⟩:=l.cT i m h;exact⟨a,f (λe=>by rw[e,d]at b;cases b) b,c⟩
 |some k=>
  unfold Gl at h;rw[d]at h;dsimp only at h;unfold PQ at h
  split at h
  ·rename_i e
   unfold Np at h
   split at h
   ·cases h
   ·rename_i g
    obtain⟨a,b,c⟩:=l.cT _ m h;exact⟨a,f g b,by rw[e];exact c⟩
  ·rename_i e
   obtain⟨a,b,c⟩:=l.cT i m h;refine⟨a,f (λg=>?_) b,c⟩;rw[g,d]at b
   cases b
   exact e c.2
theorem Cm.put(l:Cm T D Q){n:Int}(g:0<=n)(j:n<256){a:Nat}(o:T<=a)(p:a<4096):Cm T (CQ D n a) (PH (Gl T D Q n) (Dt T a) n):=by
 have k:=l.drop n;rw[<-OI]
 have q:BP D n n=Ax:=by unfold BP;rw[ke rfl]
 generalize BP D n=E at*;generalize Gl T D Q n=R at*;refine⟨l.t,λm b h=>?_,λi m h=>?_,λm b h=>?_⟩
 ·unfold CQ at h
  split at h
  ·cases h
   exact p
  ·exact k.lt m b h
 ·have f:R i m=BA->∃c,CQ E n a m=A2 c/\T<=c/\i=Dt T c:=by
   intro h;obtain⟨b,d,r⟩:=k.cT i m h;refine⟨b,?_,r⟩;unfold CQ;rw[j7 (λe=>by rw[e,q]at d;cases d)];exact d
  unfold PH at h
  split at h
  ·rename_i e
   unfold JV at h
   split at h
   ·rename_i s
    exact⟨a,by unfold CQ;rw[ke s],o,e⟩
   ·exact f (by rw[e];exact h)
  ·exact f h
 ·unfold CQ at h
  split at h
  ·rename_i e
   rw[e];exact⟨g,j⟩
  ·exact k.nn m b h
theorem Cm.new:Cm 0 (λ_=>Ax) (λ_ _=>Bd):=⟨Ω,λn a h=>(by cases h),λi n h=>(by cases h),λn a h=>(by cases h)⟩
end
end
section
open Go.RowKit Go.Maps
attribute [local go_sem ↓] Go.wp_at_zero Go.wp_at_succ
section
variable {w:World} {col:Ad} {b T bd bl:Nat} {ps:List Nat} {D:Int->Option Nat} {Q:Nat->Int->Bool}
theorem MR.cP{w:A4}{k:BX}{b:Nat}{left:Int->Bool}{e:List BE}(l:MR w c k b h f Y left i)(n:w.ownsRow j d q s x e):s.ownBlock≠A2 h:=by
 intro d;obtain⟨m,D,L,_,⟨p,r,t,u,v,_,_,_,_,a,_⟩,_⟩:=l
 rcases n.2 with⟨rfl,_⟩|⟨g,y,z,rfl,_,o,_⟩
 ·simp[C6]at d
 ·simp[C6]at d;subst d;rw[o]at a
  cases a
theorem MR.mf{w:A4}{b:Nat}{left:Int->Bool}(a:MR w c d b f h Y left i):MF w c d b h Y:=by
 obtain⟨n,D,L,e,g,j,_⟩:=a;exact⟨n,D,e,g.owns,j⟩
theorem cF:(A3.info? 3).map (λi=>(i.zero,i.size,i.bytes))=A2 (A2 (J V 0),1,8):=Φ
structure UR(w:A4)(p R e:Nat)(f:Int->Bool)(v:BE)(d:Nat)(W:A4):Prop where
 ex:∃(a:Option Addr) (c:Nat) (b:List Int) (left:Int->Bool),v=BD a b.length c/\b.length+d<=e/\W.ownsRow w.heap.size 3 1 v b.length (b.map (J V))/\MR W A3 3 p R 256 (DE f) left d/\∀n∈b,f n=BA
 g:w.grownBy W Ax
 lt:w.heap.size<=R
structure jy(w:A4)(col:Ad)(b T bd g:Nat)(ps:List Nat)(D:Int->Option Nat)(e:Nat)(v:BE)(W:A4):Prop where
 ex:∃(a:Option Addr) (c:Nat) (d:List Int) (f:Nat->Int->Bool),v=BD a d.length c/\d.length<=256/\W.ownsRow w.heap.size 3 1 v d.length (d.map (J V))/\AX W col b T bd g ps 256 D f/\Cm e D f/\∀n∈d,∃a,D n=A2 a/\e<=a
 st:Ab Bb w col W col
theorem Cm.iJ(l:Cm T D Q)(m:T<=h)(f:h<4096)(g:∀i n a,Q i n=BA->D n=A2 a->h<=a)(e:¬T/64=h/64):Cm h D (λj=>if j=64+h/64 then λ_=>Bd else Q j):=by
 refine⟨f,l.lt,λi n b=>?_,l.nn⟩
 split at b
 ·cases b
 ·rename_i o
  obtain⟨a,d,p,c⟩:=l.cT i n b;have k:=g i n a b d;refine⟨a,d,k,?_⟩;unfold Dt at c⊢
  split at c
  ·omega
  ·rw[j7 Ω];exact c
theorem AX.iT(a:AX w col b T bd bl ps h D Q)(c:Nat):AX (w.setCell ⟨b,0,Ax⟩ (J V c)) col b c bd bl ps h D Q:=by
 have t:Ac (λj=>j=b) w (w.setCell ⟨b,0,Ax⟩ (J V c)):=Ac.of (An _ _ _) (λk e=>by cases e;rfl);have e:=a.c0;refine⟨?_,a.aF,a.c0,a.c1,a.c2,a.cp,a.md.ak t (by have:=a.c1;intro e;subst e;omega),a.ml.ak t (by have:=a.c2;intro e;subst e;omega),λi p d=>(a.mp i p d).ak t (by have:=a.cp i p d;intro e;subst e;omega)⟩;have f:=a.u.setCell 0 (J V c);rw[Wk]at f;exact f
theorem Cm.add(l:Cm T D Q)(b:D t=A2 h)(c:T<=h):Cm T D (λj=>if j=Dt T h then JV (Q (Dt T h)) t else Q j):=by
 refine⟨l.t,l.lt,λi m a=>?_,l.nn⟩
 split at a
 ·rename_i e
  unfold JV at a
  split at a
  ·rename_i d
   rw[d];exact⟨h,b,c,e⟩
  ·rw[e];exact l.cT _ m a
 ·exact l.cT i m a
theorem RL(h:AX w col b T bd bl ps 256 D Q)(l:Cm T D Q)(hc:Aw w col)(d:Nat)(h1:T<=d)(h2:d<4096)(aT:∀i n a,Q i n=BA->D n=A2 a->d<=a):
  CX A3 68 #[AA (A2 ⟨b,0,Ax⟩),J V d] w λe w'=>(∃v,e=Bk v)/\∃Q',Ab Bb w col w' col/\AX w' col b d bd bl ps 256 D Q'/\Cm d D Q':=by
 have H:=zh h;have L:=zh l;have HC:=zh hc;have az:=zh aT;obtain⟨c0,_,_⟩:=h.cells;clear h l hc aT
 go_enter Tryz.func68,Tryz.ntmps68
 go_wp2_with fail
 go_loopw [5,6] (λv5 v6 W=>(∃k:Nat,k<=5/\v6=J V (k:Nat)/\v5=BD Ax 0 0/\w.grownBy W Ax)\/(v6=J V (-1)/\jy w col b T bd bl ps D d v5 W)) (λ_ v6 _=>(CL v6+1).toNat)
 case atStart=>exact BL ⟨5,jS _,rfl,rfl,Bf _ _⟩
 case round=>
  rcases hrel with⟨k,hk,rfl,rfl,g⟩|⟨rfl,I⟩
  ·have G:=zh g;clear g c0
   by_cases bs:k=0
   ·subst bs
    by_cases e:T/64=d/64
    ·have b1:((T:Int)/64==(d:Int)/64)=BA:=by simp;omega
     go_wp2_with fail
     go_quiet (fail)
     go_wp2_with fail;have u:=Ae G.o (AS wr nq Ax);refine⟨Bn ⟨rfl,⟨Ax,0,[],Q,rfl,Δ,C9 _ _ _ _,H.o.grown u,?_,λn q=>by cases q⟩,Ab.grown HC.o u⟩,by simp[CL]⟩;refine⟨h2,L.o.lt,λi n hi=>?_,L.o.nn⟩;obtain⟨a,X,_,A⟩:=L.o.cT i n hi;refine⟨a,X,az.o i n a hi X,?_⟩;rw[A];unfold Dt;rw[e]
    ·have b1:((T:Int)/64==(d:Int)/64)=Bd:=by simp;omega
     go_wp2_with fail
     go_quiet (fail)
     obtain⟨wB,aB⟩:∃x,wr.drewN nq=x:=⟨_,rfl⟩;rw[aB]
     have gB:w.grownBy wB Ax:=by rw[<-aB];exact Ae G.o (AS _ _ Ax)
     obtain⟨_,_,bt⟩:=(H.o.grown gB).cells;obtain⟨p,A,aY⟩:=(H.o.grown gB).gL (i:=64+d/64) Ω;rw[show 2+(64+d/64)=66+d/64%64 by omega]at aY;have GB:=zh gB;clear aB gB;go_wp2_with fail
     go_quiet (fail)
     obtain⟨wC,aD⟩:∃x,wB.drewN nq=x:=⟨_,rfl⟩;rw[aD]
     have Y:w.grownBy wC Ax:=by rw[<-aD];exact Ae GB.o (AS _ _ Ax)
     have GC:=zh Y;obtain⟨wD,K,aZ,mr,gD,bw⟩:=((H.o.grown Y).mp _ p A).gu kr mP;have hF:UR w p wC.heap.size K (Q (64+d/64)) (BD Ax 0 0) K wD:=⟨⟨Ax,0,[],_,rfl,Δ,C9 _ _ _ _,mr,λn q=>by cases q⟩,Ae Y gD,Y.size⟩;have HF:=zh hF;have a2:=zh mr.hp;obtain⟨R,hR⟩:∃x,wC.heap.size=x:=⟨_,rfl⟩;rw[hR]at aZ HF;clear aD Y mr gD bw hF aY bt b1;go_wp2_with fail;clear aZ
     go_loopg [5] (K+1) (λk v5 W=>∃M,M<k/\UR w p R K (Q (64+d/64)) v5 M W)
     case atStart=>exact⟨K,nY _,HF.o⟩
     case round=>
      obtain⟨M,aF,⟨a,c,o,left,rfl,am,y,Z,an⟩,N,aG⟩:=hrel
      rcases Z.gw kr 0 with⟨bz,bA⟩|⟨i,v,P,a3,b4,aH,a4,bA,a6,aa,g2,b5⟩
      ·obtain⟨wE,b7,mE,gE⟩:=Z.mf.ij (t:=117) mP 0;rw[<-SQ]at mE;have hh:=H.o.grown N;have HE:=zh (hh.f0 (jS _) A (mE.mono (kN _)) gE);have SE:=zh ((Ab.grown (C:=Bb) HC.o N).trans (Ab.of (C:=Bb) (HC.o.grown N) gE (λk e=>by cases e;rw[hh.cp _ p A];unfold Bb;omega)));have OE:=zh ((Ac.of (S:=λj=>j=p) gE (λj e=>by cases e;rfl)).aL y (λs E e=>by have h3:=(y.lt s E).1;have h4:=(H.o.mp _ p A).lt;omega));have U:=zh an;have ab:=zh am;clear bz Z mE gE hh y an am N aF;go_wp2_with fail;have e1:=ab.o;have e2:=a2.o;exact⟨Bn ⟨rfl,⟨⟨a,c,o,_,rfl,Ω,OE.o,HE.o,L.o.iJ h1 h2 az.o e,λn q=>by obtain⟨a,X,_⟩:=L.o.cT _ n (U.o n q);exact⟨a,X,az.o _ n a (U.o n q) X⟩⟩,SE.o⟩⟩,by simp[CL]⟩
      ·obtain⟨i0,hi,bF,bG,bH⟩:=info_parts cF;have t2:Ac (λj=>j=R) wr P:=Ac.of g2 (λj e=>by cases e;rfl);have O2:=zh (t2.aL y (λs E e=>Z.cP y (by rw[E,e])));have u:=zh (Ac.grown N t2 (λj e=>by rw[e];exact aG));have M2:=zh a6;have bI:=zh (OC (f:=Q (64+d/64)) (n:=i) (by rw[a4];rfl));have U:=zh an;have ab:=zh (show a3+1<=M/\M<gk/\o.length+M<=K from⟨aa,aF,am⟩);have bJ:=zh aG
       have aL:o.length<=256:=by have:=a2.o;omega
       obtain⟨m,I⟩:=Ag o.length;have HM:=zh I;rw[I]at O2 aL⊢;have HV:Hd (o.map (J V)++[J V i]=(o++[i]).map (J V)):=zh Δ;have aM:Hd ((o++[i]).length=m+1):=zh (by rw[jU,I];rfl);clear t2 y Z a6 N aG a4 an am aa aF I g2;go_wp2_with (at_builtin;refine IG rfl _ _ 145 rfl w.heap.size 3 i0 (J V 0) 1 8 mO hi bF bG bH rfl Ξ (v:=BD a m c) (n:=m) (xs:=o.map (J V)) (sv:=BD (A2 ⟨P.heap.size,0,Ax⟩) 1 1) (m:=1) (news:=[J V i]) rfl (AP O2.o (O P (B0 #[J V i] 3) Ax)) rfl (Ai.bn (Aa.new P _ [J V i]) rfl (by unfold DA;omega)) (by simp[Value.oneCell']) (by unfold DA;omega) Ω (by have:=u.o.size;simp;omega) ?_;intro vp w5 k1 k2 _;rw[HV.o, <-aM.o]at k1;obtain⟨a5,c5,rfl⟩:=(Ai.aj k1).slice;have K1:=zh k1;have K2:=zh k2;clear k1 k2)
       go_roundg (gk - 1)
       case measure=>have:=ab.o;omega
       have tt:Ac (λj=>(BD a m c).ownBlock=A2 j) P w5:=(Ac.au (O P (B0 #[J V i] 3) Ax)).trans (Ac.of K2.o (λj e=>e));refine⟨a3,Ψ ab.o,⟨a5,c5,o++[i],_,by rw[aM.o,HM.o],by rw[aM.o];have:=ab.o;have:=HM.o;omega,by rw[show BD a5 (o.length+1) c5=BD a5 (o++[i]).length c5 by simp];exact K1.o,M2.o.ak tt (λe=>by have h3:=(O2.o.lt p e).1;have h4:=(H.o.mp _ p A).lt;omega) (M2.o.cP O2.o),λn q=>?_⟩,VP u.o O2.o (jS _) K2.o,bJ.o⟩
       rcases kY.1 q with q|q
       ·exact U.o n q
       ·rw[kH.1 q];exact bI.o
   ·have b1:((T:Int)/4096==(d:Int)/4096)=BA:=by simp;omega
    have b2:((T:Int)/262144==(d:Int)/262144)=BA:=Γ;have b3:((T:Int)/16777216==(d:Int)/16777216)=BA:=Γ;have cd:((T:Int)/1073741824==(d:Int)/1073741824)=BA:=Γ;have ce:((T:Int)/68719476736==(d:Int)/68719476736)=BA:=Γ
    rcases(show k=1\/k=2\/k=3\/k=4\/k=5 by omega)with rfl|rfl|rfl|rfl|rfl
    all_goals
     go_wp2_with fail
     go_quiet (fail)
     go_wp2_with fail;have u:=Ae G.o (AS wr nq Ax)
     first
      |exact⟨BL ⟨0,Ω,rfl,rfl,u⟩,by simp[CL]⟩
      |exact⟨BL ⟨1,Ω,rfl,rfl,u⟩,by simp[CL]⟩
      |exact⟨BL ⟨2,Ω,rfl,rfl,u⟩,by simp[CL]⟩
      |exact⟨BL ⟨3,Ω,rfl,rfl,u⟩,by simp[CL]⟩
      |exact⟨BL ⟨4,Ω,rfl,rfl,u⟩,by simp[CL]⟩
  ·obtain⟨⟨a,c,o,Q1,rfl,aL,y,r,B,hx⟩,F⟩:=I;obtain⟨bP,_,_⟩:=r.cells;have f0:=r.u.v 0;have HW:=zh (r.iT d);have HS:=zh (F.trans (AG (C:=Bb) F.new (Ac.of (S:=λj=>j=b) (An wr ⟨b,0,Ax⟩ (J V d)) (λk e=>by cases e;rfl)) (λk e=>by rw[e,r.c0];unfold Bb;omega)));have HR:=zh ((Ac.of (S:=λj=>j=b) (An wr ⟨b,0,Ax⟩ (J V d)) (λk e=>by cases e;rfl)).aP (Ai.aj y) (λs E e=>by have h3:=(y.lt s E).1;have h4:=H.o.u.lt;omega));have HB:Hd (∀s,(BD a o.length c).ownBlock=A2 s->col s=0):=zh (λs E=>HC.o s (y.lt s E).1);have HL:=zh B;have U:=zh hx;clear r F y B hx c0;have cf:o.length<=256:=aL;go_wp2_with fail;obtain⟨wS,bi⟩:∃x,(wr.setCell ⟨b,0,Ax⟩ (J V d))=x:=⟨_,rfl⟩;rw[bi]at HW HS HR⊢;clear bi bP f0
   go_loopw [66] (λv W=>∃k:Nat,k<=o.length/\v=J V (k:Nat)/\∃Qk,AX W col b d bd bl ps (256+k) D Qk/\Cm d D Qk/\Ai W 1 (BD a o.length c) o.length (o.map (J V))/\Ab Bb w col W col) (λv _=>o.length - (CL v).toNat)
   case atStart=>exact⟨0,kN _,rfl,Q1,HW.o,HL.o,HR.o,HS.o⟩
   case round=>
    obtain⟨k,hk,rfl,Qk,r,B,hr,F⟩:=hrel
    by_cases aa:k<o.length
    ·have d1:B2 ((k:Int)<(o.length:Int))=BA:=jT Ω;have ch:B2 (k<o.length)=BA:=jT aa
     have w1:D9 ((k:Int)+1)=((k+1:Nat):Int):=by rw[B1 _ Ω];rfl
     obtain⟨n,q⟩:∃n,o[k]?=A2 n:=⟨_,jW aa⟩;obtain⟨a',ae,bj⟩:=U.o n (kX q);obtain⟨n0,n1⟩:=B.nn n a' ae;have aH:(C1 V n).wf=BA:=WalkArith.wf_i64 Ω;have bk:=B.lt n a' ae;obtain⟨_,c1,_⟩:=r.cells;have bm:=r.md.fi (e:=3) (t:=115) kr lS (z:=J V 0) (w:=wr) rfl n aH;rw[(Me D n).1,ae]at bm;obtain⟨p,A,bn⟩:=Ph r h2 a' bk;obtain⟨rb,ro,bW,bo⟩:=hr.aZ (show 0<o.length by omega);have cm:=bo k (J V n) (by rw[lB,q];rfl);have aP:=zh r;have aQ:=zh B;have bX:=zh hr;have af:=zh F;have bY:=zh bn;have HP:=zh A;have HN:=zh (show D n=A2 a'/\d<=a' from⟨ae,bj⟩);subst bW;clear r B hr F bn bo q ae bj n0 n1 bk A;go_wp2_with fail;refine bY.o.mono ?_;rintro e w3 ⟨rfl,g3⟩;have H3:=zh (aP.o.grown g3);obtain⟨w4,cp,m4,g4⟩:=(H3.o.mp _ p HP.o).eu (t:=117) (e:=4) kr mP (by unfold DA;omega) n aH (CB BA);rw[Ua]at m4;have H4:=zh (H3.o.f0 (lC _) HP.o m4 g4);have S3:=zh (af.o.trans ((Ab.grown (C:=Bb) af.o.new g3).trans (Ab.of (C:=Bb) (af.o.new.grown g3) g4 (λk e=>by cases e;rw[H3.o.cp _ p HP.o];unfold Bb;omega))));have R4:=zh ((Ac.of (S:=λj=>j=p) g4 (λj e=>by cases e;rfl)).aP (bX.o.grown g3 Δ) (λs E e=>by have h3:=HB.o s E;rw[e,H3.o.cp _ p HP.o]at h3;omega));clear m4 g4 g3 bm;go_wp2_with fail
     go_roundw
     case rel=>exact⟨k+1,Ω,by push_cast;rfl,_,H4.o,aQ.o.add HN.o.1 HN.o.2,R4.o,S3.o⟩
     case measure=>simp[CL];omega
    ·obtain rfl:k=o.length:=by omega
     have d1:B2 ((o.length:Int)<(o.length:Int))=Bd:=jV Ω;have aP:=zh (r.e0 B);have aQ:=zh B;have af:=zh F;clear r B hr F;go_wp2_with fail
     go_end0
     exact⟨⟨_,rfl⟩,Qk,af.o,aP.o,aQ.o⟩
end
end
section
open Go.RowKit Go.Maps
attribute [local go_sem ↓] Go.wp_at_zero Go.wp_at_succ
def Fk(s m:Nat):List (Option Nat):=(C8 384).map λi=>if i<m then A2 (s+3+i)else Ax
theorem Sh(s m:Nat):(Fk s m).length=384:=by simp[Fk]
theorem Yz(s:Nat)(a:h<384):(Fk s h).set h (A2 (s+3+h))=Fk s (h+1):=by
 refine lR λi=>?_
 unfold Fk;rw[mW]
 by_cases e:h=i
 ·subst e;rw[ke rfl,ke (by simp[a]),lB,oR a];simp
 ·rw[j7 e,lB,lB]
  by_cases c:i<384
  ·rw[oR c];simp only[oe]
   by_cases b:i<h
   ·rw[ke b,ke Ω]
   ·rw[j7 b,j7 Ω]
  ·rw[lH Γ];rfl
theorem XK(s:Nat):Fk s 0=CE 384 Ax:=by
 refine lR λi=>?_
 unfold Fk;rw[lB,nV]
 by_cases a:i<384
 ·rw[oR a,ke a];simp
 ·rw[lH Γ,j7 a];rfl
theorem Ze(s:Nat):Fk s 384=((C8 384).map λi=>s+3+i).map A2:=by
 unfold Fk;rw[List.map_map]
 refine pP λi a=>?_
 rw[ke (lE.1 a)];rfl
theorem fN(a b:Nat):(Tryz.zeroCells121.setIfInBounds 1 (BB (A2 a))).setIfInBounds 386 (BB (A2 b))=(Ez 0 (A2 a) (CE 384 Ax) (A2 b)).toArray:=by
 kernel_rfl
structure Hr(w:A4)(m:Nat)(W:A4):Prop where
 u:Aa W (w.heap.size+2) 121 (Ez 0 (A2 w.heap.size) (Fk w.heap.size m) (A2 (w.heap.size+1)))
 sz:W.heap.size=w.heap.size+3+m
 g:w.grownBy W Ax
 md:MF W A3 3 w.heap.size 0 (λ_=>Ax)
 ml:MF W A3 3 (w.heap.size+1) 0 (λ_=>Ax)
 mp:∀i,i<m->MF W A3 3 (w.heap.size+3+i) 0 (λ_=>Ax)
theorem Hr.hq(w:A4):Hr w 0 (((w.alloc (BR #[] 0)).alloc (BR #[] 0)).alloc (B0 (Ez 0 (A2 w.heap.size) (Fk w.heap.size 0) (A2 (w.heap.size+1))).toArray 121)):=by
 have e:=O w (BR #[] 0) Ax;have b:=O (w.alloc (BR #[] 0)) (BR #[] 0) Ax;have a:=O ((w.alloc (BR #[] 0)).alloc (BR #[] 0)) (B0 (Ez 0 (A2 w.heap.size) (Fk w.heap.size 0) (A2 (w.heap.size+1))).toArray 121) Ax;have c:=Aa.new ((w.alloc (BR #[] 0)).alloc (BR #[] 0)) 121 (Ez 0 (A2 w.heap.size) (Fk w.heap.size 0) (A2 (w.heap.size+1)));have f:((w.alloc (BR #[] 0)).alloc (BR #[] 0)).heap.size=w.heap.size+2:=Δ;rw[f]at c;refine⟨c,Δ,Ae e (Ae b a),((MF.bR w _ _).grown b Δ).grown a Δ,?_,λi g=>Ω⟩;have d:=(MF.bR (w.alloc (BR #[] 0)) A3 3).grown a Δ;rw[BC]at d;exact d
theorem Hr.next(a:Hr r h E)(b:h<384):Hr r (h+1) ((E.alloc (BR #[] 0)).setCell ⟨r.heap.size+2,2+h,Ax⟩ (BB (A2 E.heap.size))):=by
 have g:=O E (BR #[] 0) Ax;have c:=(a.u.grown g Δ).setCell (2+h) (BB (A2 E.heap.size));rw[XB _ _ _ _ _ (by rw[Sh];exact b),a.sz,Yz _ b]at c
 have t:Ac (λj=>j=r.heap.size+2) E ((E.alloc (BR #[] 0)).setCell ⟨r.heap.size+2,2+h,Ax⟩ (BB (A2 E.heap.size))):=
  ((Ac.au g).trans (Ac.of (An (E.alloc (BR #[] 0)) ⟨r.heap.size+2,2+h,Ax⟩ (BB (A2 E.heap.size))) (λk e=>by cases e;rfl)))
 rw[a.sz]at t⊢;refine⟨c,by simp[a.sz];omega,Ac.grown a.g t (λj e=>by rw[e];omega),a.md.ak t Ω,a.ml.ak t Ω,λi f=>?_⟩
 by_cases e:i=h
 ·subst e;have d:=MF.bR E A3 3;rw[a.sz]at d;exact d.ak (Ac.of (S:=λj=>j=r.heap.size+2) (An _ _ _) (λk e=>by cases e;rfl)) Ω
 ·exact(a.mp i Ω).ak t Ω
theorem dZ(w:A4):CX A3 21 #[] w λe n=>e=Bk (AA (A2 ⟨w.heap.size+2,0,Ax⟩))/\Hr w 384 n:=by
 have u:=@DV A3;have j:=zh (Hr.hq w);have Z:=zh (fN w.heap.size (w.heap.size+1));have k:=zh (XK w.heap.size)
 go_enter Tryz.func21,Tryz.ntmps21
 go_wp2_with fail;rw[Z.o, <-k.o];obtain⟨y,d⟩:=Ag ((((w.alloc (BR #[] 0)).alloc (BR #[] 0)).alloc (B0 (Ez 0 (A2 w.heap.size) (Fk w.heap.size 0) (A2 (w.heap.size+1))).toArray 121)));rw[d];have l:=zh j.o;rw[d]at l;clear d j Z k;rw[show w.heap.size+1+1=w.heap.size+2 from rfl]
 go_loopw [8] (λv W=>∃r:Nat,r<=6/\v=J V (r:Nat)/\Hr w (64*r) W) (λv _=>(6 - CL v).toNat)
 case atStart=>exact⟨0,Ω,rfl,l.o⟩
 case round=>
  obtain⟨r,z,rfl,b⟩:=hrel
  by_cases o:r<6
  ·have A:B2 ((r:Int)<6)=BA:=jT Ω;have B:B2 (r<6)=BA:=jT o
   have f:D9 ((r:Int)+1)=((r+1:Nat):Int):=by rw[B1 _ Ω];rfl
   have c:=zh b;have p:=zh f;clear b f;go_wp2_with fail
   rename_i C
   obtain⟨D,m⟩:∃x,wr=x:=⟨_,rfl⟩;rw[m]at c⊢;clear m wr
   go_loopw [11] (λv W=>∃i:Nat,i<=64/\v=J V (i:Nat)/\Hr w (64*r+i) W) (λv _=>(64 - CL v).toNat)
   case atStart=>exact⟨0,Ω,rfl,c.o⟩
   case round=>
    obtain⟨i,E,rfl,a⟩:=hrel
    by_cases q:i<64
    ·have F:B2 ((i:Int)<64)=BA:=jT Ω;have G:B2 (i<64)=BA:=jT q
     have H:D9 ((i:Int)+1)=((i+1:Nat):Int):=by rw[B1 _ Ω];rfl
     have s:=(a.u.grown (O wr (BR #[] 0) Ax) Δ).aq (QL (i:=64*r+i) (jW (by rw[Sh];omega)));have t:=(a.u.grown (O wr (BR #[] 0) Ax) Δ).v (2+(64*r+i));have g:=a.next Ω;rw[show 2+(64*r+i)=2+r*64+i by omega]at s t g;have h:=zh g;clear a g;go_wp2_with fail
     go_roundw
     case rel=>exact⟨i+1,Ω,by push_cast;rfl,h.o⟩
     case measure=>simp[CL];omega
    ·obtain rfl:i=64:=by omega
     have h:=zh a;have f:=p.o;clear a;go_wp2_with fail
     go_roundw
     case rel=>exact⟨r+1,Ω,by push_cast;rfl,by have:=h.o;rw[show 64*r+64=64*(r+1) by omega]at this;exact this⟩
     case measure=>simp[CL];omega
  ·obtain rfl:r=6:=by omega
   have c:=zh b;clear b;go_wp2_with fail;go_ret;exact⟨rfl,c.o⟩
def Im(a:Ad)(s k:Nat):Nat:=if k<s then a k else if k=s then 601 else if k=s+1 then 602 else if k=s+2 then 600 else if k<s+387 then 1000+(k - (s+3))else 0
theorem eX(_:Aw E a):CX A3 21 #[] E λe f=>∃b m n o j,e=Bk (AA (A2 ⟨b,0,Ax⟩))/\Ab Bb E a f j/\AX f j b 0 m n o 0 (λ_=>Ax) (λ_ _=>Bd):=by
 refine(dZ E).mono ?_;rintro e f ⟨rfl,h⟩;have r:=h.sz
 have l:∀i p,((C8 384).map λi=>E.heap.size+3+i)[i]?=A2 p->i<384/\p=E.heap.size+3+i:=by
  intro i p c;rw[lB]at c
  by_cases d:i<384
  ·rw[oR d]at c;exact⟨d,(kE c).symm⟩
  ·rw[lH Γ]at c
   cases c
 refine⟨_,_,_,(C8 384).map λi=>E.heap.size+3+i,Im a E.heap.size,rfl,⟨Ac.au h.g,λk g=>?_,λk g=>?_,λk g=>?_⟩,⟨?_,Δ,?_,?_,?_,λi p c=>?_,h.md,h.ml,λi p c=>?_⟩⟩
 ·unfold Im;rw[ke g]
 ·unfold Im Bb;rw[j7 Ω]
  split
  ·exact Bn Ω
  split
  ·exact Bn Ω
  split
  ·exact Bn Ω
  split
  ·exact Bn Ω
  exact BL rfl
 ·unfold Im;rw[j7 Ω,j7 Ω,j7 Ω,j7 Ω,j7 Ω]
 ·have:=h.u;rw[Ze]at this;exact this
 ·unfold Im;rw[j7 Ω,j7 Ω,j7 Ω,ke rfl]
 ·unfold Im;rw[j7 Ω,ke rfl]
 ·unfold Im;rw[j7 Ω,j7 Ω,ke rfl]
 ·obtain⟨d,rfl⟩:=l i p c;unfold Im;rw[j7 Ω,j7 Ω,j7 Ω,j7 Ω,ke Ω];omega
 ·obtain⟨d,rfl⟩:=l i p c;rw[SQ];exact h.mp i d
end
