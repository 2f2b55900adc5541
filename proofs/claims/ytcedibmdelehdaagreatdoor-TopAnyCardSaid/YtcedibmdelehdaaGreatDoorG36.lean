/- Lemmas. -/
import Derived.Test.YtcedibmdelehdaaGreatDoorG35
namespace Go.Proofs.YtcedibmdelehdaaGreatDoor
set_option maxRecDepth 100000
set_option maxHeartbeats 32000000
open Go.IntKind renaming i64->E,u64->B2
open Go.Value renaming int->J,pointer->O,map->A7,bool->BB,tuple->BD,slice->B1
open Go.World renaming grownBy_alloc->V,size_alloc->A4
open Option renaming none->Z,some->AA
open Go.Proofs.Tryz renaming prog->Ax
open Or renaming inr->A2,inl->Bk
open Bool renaming false->A3,true->BC
open Go renaming World->A5,undef->Bd,callsIn_wide->Bn,Program->BE,TypeId->BL,Calls->BR,Value->BZ
open Go.Ending renaming returned->A6
open Go.Obj renaming cells->BA,map->BX,deferred->B0
variable{f:Int->List Nat}{h n:A5}{Y e j k:Nat}{a:Int->Option BZ}{b:Ae}{c:Pl}{d:BE}{g:BL}{i:As}{l:Nat->Bool}
section
open Go.RowKit Go.Shelf
attribute [local go_sem] Oper.semAt_some
theorem YX(b:Y<c.a4)(v:List Nat):AR c f (CJ f ((c.aP+Y:Nat):Int) v):=λi a=>jN (λe=>by
 subst e
 rcases a with a|a
 ·have:c.aP+Y<c.aP:=by exact_mod_cast a
  exact absurd this (Nat.not_lt.2 (nR _ _))
 ·have:c.aP+c.a4<=c.aP+Y:=by exact_mod_cast a
  exact absurd (pK this) (Nat.not_le.2 b))
structure Ko(w:A5)(o:Ae)(s d:Nat)(P:Pl)(q b B g p r t u v:Nat)(e f h i:Nat->Bool)(x:As)(y:Int->List Nat)(j k l:Nat)(m:Int->Option Pg)(c:Ae)(n:List Kp)(X:A5):Prop where
 ex:∃a,BI X c s d P (q+2*n.length) b B g p r t u v e f h i m/\Cn P b e f h i m a x/\AF X c d P.ss P.n (q+2*n.length) a/\AR P y a
 st:Ad (SS 200) w o X c
 b1:Aa X j 80 [O (AA ⟨s,0,Z⟩)]
 b2:Aa X k 32 [J E 0]
 b3:Aa X l 80 [O (AA ⟨s,0,Z⟩)]
 c1:c j=0
 c2:c k=198
 c3:c l=0
theorem Ko.ao{B g o p q r s:Nat}{t u v:Nat->Bool}{w x y:Nat}{z:Int->Option Pg}{A D:Ae}{E:List Kp}{F:A5}{C:Nat->Prop}
  (a:Ko h b Y e c j k B g o p q r s l t u v i f w x y z A E n)(d:Ad C n A F D)(m:¬C 0)(H:¬C 1)(I:¬C 2)(J:¬C 3)(K:¬C 198)(L:∀G,C G->SS 200 G):Ko h b Y e c j k B g o p q r s l t u v i f w x y z D E F:=by
 obtain⟨M,N,O,P,Q⟩:=a.ex;exact⟨⟨M,N.ag d J I m,O,P.ag d H,Q⟩,a.st.trans (d.mono L),d.y a.b1 (by rw[a.c1];exact m),d.y a.b2 (by rw[a.c2];exact K),d.y a.b3 (by rw[a.c3];exact m),by rw[d.ak _ a.b1.lt];exact a.c1,by rw[d.ak _ a.b2.lt];exact a.c2,by rw[d.ak _ a.b3.lt];exact a.c3⟩
theorem XP{pg:As}(q:SD h b Y j c e k pg f)(hq:e<=1073700000):
  BR Ax 91 #[O (AA ⟨Y,0,Z⟩)] h λd w'=>d=A6 (J E 0)/\∃a7 ac,Ad (SS 200) h b w' a7/\SD w' a7 Y j c (e+8200) k pg ac/\AR c f ac:=by
 obtain⟨⟨B,g,ar,bf,av,bd,M,tk,fr,dy,dd,a8,hi,hl⟩,a9,aD,aM⟩:=q;obtain⟨w1,F⟩:=Af ((h.alloc (BA #[O (AA ⟨Y,0,Z⟩)] 80)).alloc (BA #[J E 0] 32));obtain⟨y,P⟩:=Af (w1.alloc (BA #[O (AA ⟨Y,0,Z⟩)] 80))
 have ba:w1.heap.size=h.heap.size+2:=by rw[<-F];simp
 have cp:y.heap.size=h.heap.size+3:=by rw[<-P];simp[ba]
 have g2:h.grownBy y Z:=by rw[<-P, <-F];exact Ab (Ab (V _ _ Z) (V _ _ Z)) (V _ _ Z)
 have b1:Aa y h.heap.size 80 [O (AA ⟨Y,0,Z⟩)]:=by rw[<-P, <-F];exact((Aa.new h _ _).alloc _).alloc _
 have b2:Aa y (h.heap.size+1) 32 [J E 0]:=by
  have Q:=Aa.new (h.alloc (BA #[O (AA ⟨Y,0,Z⟩)] 80)) 32 [J E 0];rw[A4]at Q;rw[<-P, <-F];exact Q.alloc _
 have b3:Aa y (h.heap.size+2) 80 [O (AA ⟨Y,0,Z⟩)]:=by
  have Q:=Aa.new w1 80 [O (AA ⟨Y,0,Z⟩)];rw[ba]at Q;rw[<-P];exact Q
 obtain⟨aN,T⟩:=Af (AN b (h.heap.size+1) 198)
 have aj:Ad (SS 200) h b y aN:=by rw[<-T];exact Cl aD g2 Ω Ω (A2 ⟨Ω,Ω⟩)
 have hF:Ko h b Y j c e k B g ar bf av bd M tk fr dy dd pg f h.heap.size (h.heap.size+1) (h.heap.size+2) a8 aN [] y:=by
  have t2:Ac (λ_=>False) h y:=Ac.az g2;exact⟨⟨f,hi.ao t2 (λ_ _ q=>q) aj.ak,hl,a9.ao t2 (λ_ _ q=>q) aj.ak,AR.refl _ _⟩,aj,b1,b2,b3,by rw[<-T,Bz _ _ Ω];exact aD _ (jF _),by rw[<-T];exact A0 _ _ _,by rw[<-T,Bz _ _ Ω];exact aD _ Ω⟩
 have HF:=zh hF;have bL:=zh P;have bM:=zh F;have c2:Hd (AD y aN):=zh aj.new
 have x1:w1.cell? ⟨h.heap.size,0,Z⟩=AA (O (AA ⟨Y,0,Z⟩)):=by
  rw[<-F];exact((Aa.new h 80 [O (AA ⟨Y,0,Z⟩)]).alloc _).m 0
 rw[<-F]at x1;clear hi hl a9 aD b1 b2 b3 T aj hF F P;have aO:Fence.wide.round=Z:=rfl;refine(Bn (n:=20)).1 ?_;refine callsIn_of_wp_marks Tryz.func91 rfl ki ?_ aO;simp only[Tryz.ntmps91,kB,jT,kA,Nat.reduceAdd,Nat.reduceSub,kf,kh,kJ,kr,jX,ku]
 gi_wp2_with (refine⟨ki,?_⟩;gi_at_call 149;refine(Bn.2 (VW _ _)).mono ?_;rintro d w' ⟨rfl,rfl⟩)
 rw[bM.o,bL.o];clear x1
 refine Kz c2.o aO Ω (gf:=209) (lb:=#[O (AA ⟨h.heap.size+2,0,Z⟩)]) rfl ki (enters_of Tryz.func209 Φ rfl)
  (encs:=PU) (C:=SS 200) (A:=UZ (h.heap.size+2) Y M c.a7) (R:=λ_=>UW) (S:=λxs=>xs.length<=4096) (N:=4096) (A2 ⟨Ω,Ω⟩) (Xh 19 (h.heap.size+2) Y M c.a7 Ω (SS 200) (Sc.aG Ω Ω)) (λ_ _ _ _=>ki) (λ_=>rfl)
  (Ko h b Y j c e k B g ar bf av bd M tk fr dy dd pg f h.heap.size (h.heap.size+1) (h.heap.size+2))
  (λ_ _ _=>False)
  (λ_ x a' X s=>∃L,a'={tmps:=#[O (AA ⟨Y,0,Z⟩),O (AA ⟨h.heap.size,0,Z⟩),O (AA ⟨h.heap.size+1,0,Z⟩),J E (x.k:Nat),O (AA ⟨L,0,Z⟩),Bd,O (AA ⟨Y,0,Z⟩),BB A3,O (AA ⟨Y,0,Z⟩),.func (.func 209) #[] #[O (AA ⟨h.heap.size+1+1,0,Z⟩)],
    J E x.k,.agg #[J E x.st,B1 x.a x.ld.length x.c,BB BC],Bd,Bd,Bd,Bd,Bd,Bd,Bd,Bd,Bd,Bd,Bd,Bd,Bd,Bd,Bd],defers:=[]}/\Aa X L 198 [J E x.st,B1 x.a x.ld.length x.c,BB BC]/\s L=113)
  a8
  (λm s c' U X bh q r=>q.ao r Ω Ω Ω Ω Ω (λo d=>A2 (by rcases d with rfl|rfl<;>exact⟨Ω,Ω⟩)))
  (λ_ _ _ _ _ q _=>q)
  (λm s U X q=>by
   obtain⟨ac,hs,hl,hd,ho⟩:=q.ex
   exact⟨⟨q.b3.m 0,hs.cells.2.2.2.2.2.2.2.2.2,⟨_,hs.cu⟩,λi u w di hi=>let⟨r,hk,_⟩:=hl.bX i u w di hi;⟨r,hk⟩⟩,q.st.new⟩)
  (λm s c' _ x X bh q r=>⟨q.1,q.2.ag r Ω⟩)
  (λs c' x a' X bh q r=>by
   obtain⟨L,ha,hb,hc⟩:=q
   exact⟨L,ha,r.y hb (by rw[hc];omega),by rw[r.ak _ hb.lt];exact hc⟩)
  HF.o (SS 198) (EK Ω) (Sc.aG Ω Ω) (Sc.aG Ω Ω)
  ?assign ?body ?done ?stop
 case stop=>exact λ_ _ _ _ q=>q.elim
 case assign=>
  intro l m s U x X K t bR hR hK;obtain⟨r,u,a,G,w⟩:=x
  gi_wp2
  obtain⟨w3,aR⟩:=Af (X.alloc (BA #[J E u,B1 a w.length G,BB BC] 198))
  have g3:X.grownBy w3 Z:=by rw[<-aR];exact V _ _ Z
  have b3:Aa w3 X.heap.size 198 [J E u,B1 a w.length G,BB BC]:=by rw[<-aR];exact Aa.new _ _ _
  rw[aR];have aS:Ad (λo=>o=113) X s w3 (AN s X.heap.size 113):=Cl t.st.new g3 (jF _) b3.lt rfl;exact hK _ _ _ (aS.mono (λo d=>A2 ⟨Ω,Ω⟩)) (t.ao aS Ω Ω Ω Ω Ω (λo d=>A2 ⟨Ω,Ω⟩)) ⟨hR.1,hR.2.ag aS Ω⟩ ⟨X.heap.size,rfl,b3,A0 _ _ _⟩
 case body=>
  intro l m s U x a' X t bR hR bT;obtain⟨r,u,a,G,w⟩:=x;obtain⟨L,rfl,hb,bk⟩:=bT;obtain⟨ac,am,ad,an,ao⟩:=t.ex;obtain⟨aT,bl⟩:=hR;obtain⟨k',bm,aH⟩:=ad.bX _ _ _ _ aT
  have bV:r=k':=by exact_mod_cast bm
  subst bV;dsimp only at*
  have bW:(r:Int)<=65535:=by have:=(aM.dH aH.lt).2.1;have:=aH.lt;omega
  have bn:(U++[Kp.mk r u a G w]).length=U.length+1:=Δ;have bo:=zh bn;have p:=zh t;have HS:=zh am;have aU:=zh ad;have aV:=zh an;have aW:=zh ao;have aX:=zh aT;have bp:=zh bl;have bq:=zh aH;have HB:=zh hb;have br:=zh bk;clear t am ad an ao aT bl aH hb bk bm bn;have x0:=p.o.b1.m 0;have y0:=HB.o.m 0;have y1:=HB.o.m 1;have y2:=HB.o.m 2
  gi_wp2_with (refine⟨ki,?_⟩;gi_at_call 150;refine(CallsIn.inRound l (Bn.2 (OX HS.o aV.o p.o.st.new Ω Ω aM r u a G w BC bq.o bp.o))).mono ?_;rintro d w4 ⟨rfl,aq,z,bw⟩;have B4:=z.y HB.o (by rw[br.o];omega);have u2:=B4.m 2;have f2:=B4.v 2)
  clear u2 f2 x0 y0 y1 y2
  have aY:aq L=113:=by rw[z.ak _ HB.o.lt];exact br.o
  have F4:Ad (SS 198) X s w4 aq:=z.mono (λo d=>Bk (Bk d));have t5:Ac (λo=>o=L) w4 (w4.setCell ⟨L,2,Z⟩ (BB A3)):=Ac.of (Ao _ _ _) (λo d=>by cases d;rfl);have b5:=B4.setCell 2 (BB A3);simp only[jY,kE]at b5;have s5:Ad (λo=>o=113) w4 aq (w4.setCell ⟨L,2,Z⟩ (BB A3)) aq:=AL z.new t5 (λo d=>by rw[d];exact aY);generalize w4.setCell ⟨L,2,Z⟩ (BB A3)=w5 at*;have bA:=zh (F4.trans (s5.mono (λo d=>A2 ⟨Ω,Ω⟩)));have H5:=zh ((HS.o.ag z Ω Ω Ω).ag s5 Ω Ω Ω);have D5:=zh (bw.ag s5 Ω);have P5:=zh ((bp.o.ag z Ω).ag s5 Ω);have a1:=p.o.c1
  have bB:aq h.heap.size=0:=by rw[z.ak _ p.o.b1.lt];exact a1
  have b4:=zh (s5.y (z.y p.o.b1 (by rw[a1];omega)) (by rw[bB];omega));have B5:=zh b5;have L5:=zh aY;clear z bw B4 aY F4 t5 b5 s5 a1 bB;refine Kv (λW=>W.cell? ⟨h.heap.size,0,Z⟩=AA (O (AA ⟨Y,0,Z⟩))/\W.cell? ⟨Y,17,Z⟩=AA (O (AA ⟨M,0,Z⟩))/\Aa W L 198 [J E (u:Nat),B1 a w.length G,BB A3]) [([0,1,2,3,4,5],6,A3)] aO Φ Φ ?_;obtain⟨w6,a2⟩:=Af w5.drew
  have g6:w5.grownBy w6 Z:=by rw[<-a2];exact Bm w5
  rw[a2];have bC:=zh (bA.o.trans (Ad.u bA.o.new g6));have H6:=zh (H5.o.u g6);have D6:=zh (D5.o.u g6);have P6:=zh (P5.o.u g6);have ca:=zh (b4.o.u g6 Δ);have B6:=zh (B5.o.u g6 Δ);clear a2 g6;refine FX ⟨ca.o.m 0,H6.o.cells.2.2.2.2.2.2.2.2.2,B6.o⟩ ?_
  repeat((apply FV rfl (λ_=>rfl) Θ;(· intro wS H;(try have H:=H rfl);(try dsimp only at H);(try have k0:=H.1);(try have k1:=H.2.1);(try have y0:=H.2.2.m 0);(try have y1:=H.2.2.m 1);(try have y2:=H.2.2.m 2);go_simp;(try with_reducible rfl)));(refine Al ?_))
  refine FW ?_;refine Dx rfl (λK hK=>?_);go_simp;refine⟨ki,?_⟩
  have cc:e+2*U.length<maxLen:=by unfold maxLen;omega
  refine(Bn.2 (Pw H6.o.cu bC.o.new cc r Ω bW u a G w A3 P6.o)).mono ?_;rintro d w7 ⟨a4,a5,a6,cd,ce,cf⟩
  obtain⟨v7,rfl,cg⟩:∃v,d=A6 v/\∀o:Int,o≠r->a5 o=m o:=by
   rcases cf with⟨rfl,Q⟩|⟨_,_,_,_,_,_,_,_,_,_,_,_,h8⟩
   ·exact⟨_,rfl,Q⟩
   ·rw[aX.o]at h8;cases h8
  dsimp only;refine hK _ _ ⟨λhf=>(by cases hf),?_⟩;clear hK K;refine Al ?_;refine Gi (NoPanic.normal ?_);have ci:=(aU.o.ip aX.o).h9 aX.o (jP rfl) ce cg;have I:Ad (SS 198) X s w7 a4:=bC.o.trans (a6.mono (Sc.mono (λo d=>A2 (Bk d)) Ω))
  have cj:Ko h b Y j c e k B g ar bf av bd M tk fr dy dd pg f h.heap.size (h.heap.size+1) (h.heap.size+2) a5 a4 (U++[Kp.mk r u a G w]) w7:=by
   refine⟨⟨_,?_,ci,?_,aW.o.trans (YX bq.o.lt _)⟩,p.o.st.trans (I.mono (EK Ω)),I.y p.o.b1 (by rw[p.o.c1];exact Sc.aG Ω Ω),?_,I.y p.o.b3 (by rw[p.o.c3];exact Sc.aG Ω Ω),by rw[I.ak _ p.o.b1.lt];exact p.o.c1,by rw[I.ak _ p.o.b2.lt];exact p.o.c2,by rw[I.ak _ p.o.b3.lt];exact p.o.c3⟩
   ·rw[bo.o];exact(H6.o.eV a6 (Sc.aG Ω Ω) (Sc.aG Ω Ω) (j9 _) cd).mono Ω
   ·rw[bo.o];exact(D6.o.ag a6 (Sc.aG Ω Ω)).mono Ω
   ·exact I.y p.o.b2 (by rw[p.o.c2];exact Sc.aG Ω Ω)
  gi_wp2
  exact⟨a4,a5,I,cj⟩
 case done=>
  intro D m s xs X hS t hK bF;obtain⟨ac,am,ad,an,ao⟩:=t.ex;have x0:=t.b2.m 0;have f0:=t.b2.v 0;have p:=zh t;have HS:=zh am;have aU:=zh ad;have aV:=zh an;have aW:=zh ao;clear t am ad an ao
  have bG:D≠h.heap.size+1:=λd=>by have:=p.o.c2;rw[<-d,bF]at this;cases this
  have ck:D<X.heap.size:=(jR.1 hK).1;have t1:Ac (λo=>o=h.heap.size+1) X (X.setCell ⟨h.heap.size+1,0,Z⟩ (J E 0)):=Ac.of (Ao _ _ _) (λo d=>by cases d;rfl);have b1:=p.o.b2.setCell 0 (J E 0);simp only[jY]at b1;have cl:(X.setCell ⟨h.heap.size+1,0,Z⟩ (J E 0)).heap[D]?=AA (B0 (AA [])):=(t1.bV D ck bG).trans hK
  gi_wp2
  refine⟨Δ,Bk ⟨_,_,rfl,run_takeDeferred cl,?_⟩⟩;generalize X.setCell ⟨h.heap.size+1,0,Z⟩ (J E 0)=X1 at*;have t2:=Hg X1 D (B0 Z);have b2:=t2.y b1 (λd=>bG d.symm);generalize X1.putObj D (B0 Z)=X2 at*;have TT:Ac (λo=>o=h.heap.size+1\/o=D) X X2:=(t1.mono (λ_ d=>Bk d)).trans (t2.mono (λ_ d=>A2 d));have T:=p.o.c2
  have s2:Ad (λo=>o=198\/o=199) X s X2 s:=AL p.o.st.new TT (λo d=>by
   rcases d with d|d
   ·rw[d];exact Bk T
   ·rw[d];exact A2 bF)
  have z0:=b2.m 0;exact⟨J E 0,by simp[results,Tryz.f91,go_sem,z0],rfl,s,ac,p.o.st.trans (s2.mono (λo d=>A2 Ω)),⟨⟨B,g,ar,bf,av,bd,M,tk,fr,dy,dd,m,(HS.o.ag s2 Ω Ω Ω).mono Ω,aU.o⟩,(aV.o.ag s2 Ω).mono Ω,s2.new,aM⟩,aW.o⟩
end
section
open Go.RowKit Go.Maps
attribute [local go_sem ↓] Go.wp_at_zero Go.wp_at_succ
def MR(w:A5)(P:BE)(k:BL)(b r q:Nat)(f:Int->Option BZ)(left:Int->Bool)(a:Nat):Prop:=
 ∃n D L,n<=q/\w.ranges P k Ls b r n D L a/\UO D f/\∀i:Int,L (.int E i)=left i
theorem MR.au{S:Nat->Prop}{left:Int->Bool}(i:MR h d g Y e j a left k)(b:Ac S h n)(l:¬S Y)(m:¬S e):MR n d g Y e j a left k:=by
 obtain⟨o,D,L,p,⟨q,r,s,t,u,c,v,w,x,f,y⟩,z,A⟩:=i;exact⟨o,D,L,p,⟨q,r,s,t,u,(b.bV Y (jR.1 c).1 l).trans c,v,w,x,(b.bV e (jR.1 f).1 m).trans f,y⟩,z,A⟩
theorem MR.lt{left:Int->Bool}(c:MR h d g Y e j a left k):e<h.heap.size/\Y<h.heap.size:=by
 obtain⟨n,D,L,f,b,_,_⟩:=c;exact⟨b.lt,b.owns.lt⟩
theorem MF.hX{f t:BL}(j:MF h d g Y e a)(k:d.underlying g=AA (.int E))(l:d.underlying t=AA (.map g f)):
  ∃b m,(Instr.range t (A7 (AA Y))).run d h=.ok (O (AA ⟨h.heap.size,0,Z⟩)) b/\MR b d g Y h.heap.size e a (λi=>(a i).isSome) m/\h.grownBy b Z/\b.heap.size=h.heap.size+1:=by
 obtain⟨n,D,o,p,c⟩:=j;obtain⟨b,q,r,s,u⟩:=p.range (int_keyed k) l;exact⟨b,_,q,⟨n,D,_,o,r,c,λi=>(c i).1⟩,s,u⟩
theorem MR.hY{left:Int->Bool}(B:MR h d g e Y j a left k)(s:d.underlying g=AA (.int E))(o:BL):
  ((∀i,left i=A3)/\(Instr.next (O (AA ⟨Y,0,Z⟩)) A3 o).run d h=.ok (BD #[BB A3]) h)\/
  ∃(i:Int) (v:BZ) (b:A5) (m:Nat),left i=BC/\(Lit.int E i).wf=BC/\a i=AA v/\(Instr.next (O (AA ⟨Y,0,Z⟩)) A3 o).run d h=.ok (BD #[BB BC,J E i,v]) b/\
   MR b d g e Y j a (λf=>left f&&! decide (f=i)) m/\m<k/\h.grownBy b (AA Y)/\(Instr.entry (O (AA ⟨Y,0,Z⟩))).run d b=.ok (BD #[J E i,v]) b:=by
 obtain⟨n,D,L,C,F,t,p⟩:=B
 rcases F.next (int_keyed s) o with⟨_,q,r⟩|⟨S,v,T,y,b,m,G,q,r,w,H,I,K,M,U,N⟩
 ·exact Bk ⟨λi=>by rw[<-p];exact q _,r⟩
 ·obtain⟨x,rfl,rfl,P⟩:=Maps.keyOf_int_inv s G;have Q:=Ol r
  have R:a x=AA v:=by
   have c:=w (.held Bd);have l:=w (.held (BB BC));rw[(t x).2,Q]at c l
   cases z:a x with
   |some u=>
    rw[z]at c;simp at c;rw[c]
   |none=>
    rw[z]at c l;simp at c l;rw[<-c]at l
    cases l
  refine A2 ⟨x,v,b,m,by rw[<-p];exact q,P,R,H,⟨n,D,_,C,I,t,λf=>?_⟩,K,M,N⟩;show(L (.int E f)&&!(Lit.int E f).sameKey (.int E x))=_;rw[p]
  congr 2
  by_cases A:f=x
  ·subst A;simp[Lit.sameKey]
  ·simp[Lit.sameKey,A]
theorem Sf{i:Int}{v:BZ}(h:Dr l i=AA v):∃k:Nat,i=k/\l k=BC:=by
 unfold Dr at h
 split at h
 ·rename_i a
  exact⟨i.toNat,Ω,a.2⟩
 ·cases h
theorem QA(f:Nat->Bool)(k:Nat):(Dr f (k:Int)).isSome=f k:=by
 rw[Tm]
 cases f k<;>rfl
structure Qe(w:A5)(h:Ae)(s d:Nat)(P:Pl)(q k B g l m e n:Nat)(o p t a:Nat->Bool)(u:Int->Option Pg)(v:Int->List Nat)(r:Nat)(c:Ae)(left:Int->Bool)(x:Nat)(f:Nat->Bool)(y:Nat)(b:Int->Option Pg)(X:A5):Prop where
 mr:MR X Ax 3 e r q (Dr a) left x
 cr:c r=199
 bM:BI X c s d P q k B g y l m e n f p t a b
 bH:AF X c d P.ss P.n q v
 st:Ad (SS 200) w h X c
 dv:∀j:Nat,f j=(o j&&!(a j&&! left (j:Int)))
 cq:∀j:Nat,a j=BC->left (j:Int)=A3->b (j:Int)=Z
 cA:∀i:Int,(∀j:Nat,i=j->a j=BC->left (j:Int)=BC)->b i=u i
 iZ:∀i:Int,left i=BC->∃j:Nat,i=j/\a j=BC
theorem VS{pg:As}(u:SD h b Y k c e j pg f)(hq:e<=1073741800)(aB:Cq pg c.bz):
  BR Ax 95 #[O (AA ⟨Y,0,Z⟩)] h λd w'=>(∃v,d=A6 v)/\∃aD,Ad (SS 200) h b w' aD/\SD w' aD Y k c (e+1) (j+1) pg f:=by
 obtain⟨⟨B,g,a9,W,z,X,M,N,fr,P,D,ab,w,hl⟩,aF,aG,aH⟩:=u;obtain⟨w1,al,ba,aI,g1,bF⟩:=w.md.hX kj mV;obtain⟨_,_,_,_,_,_,_,_,bb,_⟩:=w.cells;obtain⟨ac,ad⟩:=Af (AN b h.heap.size 199)
 have aJ:ac h.heap.size=199:=by rw[<-ad];exact A0 _ _ _
 have an:∀a,a<h.heap.size->ac a=b a:=λa n=>by rw[<-ad];exact Bz _ _ Ω
 have aK:Ad (SS 200) h b w1 ac:=by rw[<-ad];exact Cl aG g1 (jF _) Ω (A2 ⟨Ω,Ω⟩)
 have t1:Ac (λ_=>False) h w1:=Ac.az g1
 have hF:Qe h b Y k c e j B g W z X M N fr P D ab f h.heap.size ac (λi=>(Dr D i).isSome) al N a9 ab w1:=by
  refine⟨aI,aJ,w.ao t1 (λ_ _ u=>u) an,aF.ao t1 (λ_ _ u=>u) an,aK,λa=>?_,λa x h2=>?_,λ_ _=>rfl,λi w=>?_⟩
  ·rw[QA]
   cases N a<;>cases D a<;>rfl
  ·rw[QA,x]at h2
   cases h2
  ·obtain⟨v,hv⟩:=pZ.1 w;exact Sf hv
 have HF:=zh hF;have HL:=zh hl;have be:=zh aB;have HI:=zh w;generalize h.heap.size=r at*;clear w hl aF aG ad aJ an aK t1 hF aB aI g1
 go_enter Tryz.func95,Tryz.ntmps95
 go_wp2_with fail;clear bb ba
 go_loopg [] (al+1) (λl wr=>∃m left cn F Q R,cn<l/\Qe h b Y k c e j B g W z X M N fr P D ab f r m left cn F Q R wr)
 case atStart=>exact⟨_,_,al,_,_,_,nT _,HF.o⟩
 case round=>
  obtain⟨m,left,cn,F,Q,R,aM,o⟩:=hrel
  rcases o.mr.hY kj 0 with⟨aN,bf⟩|⟨i,v,w2,ar,bg,bH,aO,bf,aP,aQ,H,bI⟩
  ·have q:=zh o;have HN:=zh aN;clear o aN;have bJ:=@run_makeMap Ax;obtain⟨_,_,_,_,_,_,_,bK,_,_⟩:=q.o.bM.cells;have s:=(q.o.bM.y.alloc (BX #[] 0)).alloc (BX #[] 0);have bL:=s.m 12;have bM:=s.m 14;have bN:=s.m 15;have bO:=s.m 16;have bP:=s.v 12;have bQ:=s.v 14;have bR:=s.v 15;have bS:=s.v 16;have bh:=zh s;have bT:=q.o.bM.q1;have bU:wrap64 ((j:Int)+1)=(j:Int)+1:=IntWalk.wrap64_in _ Ω;clear s;go_wp2_with fail;obtain⟨p,T⟩:=Af ((wr.alloc (BX #[] 0)).alloc (BX #[] 0))
   have H:wr.grownBy p Z:=by rw[<-T];exact Ab (V _ _ Z) (V _ _ Z)
   have bV:p.heap.size=wr.heap.size+2:=by rw[<-T];simp
   have bi:MF p Ax 3 wr.heap.size 0 (λ_=>Z):=by
    rw[<-T];exact(MF.cB wr Ax 3).u (V _ _ Z) Δ
   have bj:MF p Ax 3 (wr.heap.size+1) 0 (λ_=>Z):=by
    have:=MF.cB (wr.alloc (BX #[] 0)) Ax 3;rw[A4]at this;rw[<-T];exact this
   have hb:=(((bh.o.setCell 16 (A7 (AA z))).setCell 15 (A7 (AA wr.heap.size))).setCell 14 (A7 (AA (wr.heap.size+1)))).setCell 12 (J E ((j:Int)+1));rw[T]at hb⊢
   have A:Ac (λa=>a=Y) p ((((p.setCell ⟨Y,16,Z⟩ (A7 (AA z))).setCell ⟨Y,15,Z⟩ (A7 (AA wr.heap.size))).setCell ⟨Y,14,Z⟩ (A7 (AA (wr.heap.size+1)))).setCell ⟨Y,12,Z⟩ (J E ((j:Int)+1))):=
    (((Ac.of (Ao _ _ _) (λl d=>by cases d;rfl)).trans (Ac.of (Ao _ _ _) (λl d=>by cases d;rfl))).trans (Ac.of (Ao _ _ _) (λl d=>by cases d;rfl))).trans (Ac.of (Ao _ _ _) (λl d=>by cases d;rfl))
   generalize(((p.setCell ⟨Y,16,Z⟩ (A7 (AA z))).setCell ⟨Y,15,Z⟩ (A7 (AA wr.heap.size))).setCell ⟨Y,14,Z⟩ (A7 (AA (wr.heap.size+1)))).setCell ⟨Y,12,Z⟩ (J E ((j:Int)+1))=bk at*;obtain⟨c2,aT⟩:=Af (AN (AN m wr.heap.size 3) (wr.heap.size+1) 3)
   have au:∀a,c2 a=if a=wr.heap.size+1 then 3 else if a=wr.heap.size then 3 else m a:=λa=>by rw[<-aT];rfl
   have aU:∀a,a<wr.heap.size->c2 a=m a:=λa n=>by rw[au,jN Ω,jN Ω]
   have I:=q.o.bM;have bW:=I.y.lt;have bX:=I.aV.ek;have bY:=I.my.lt;obtain⟨bl,bm,_,_,_,_,_,_,_,b2,b3⟩:=I.dR;have b0:m Y=3:=I.c0;have t:BI p c2 Y k c e j B g Q W z X M F fr P D R:=I.ao (Ac.az (S:=λ_=>False) H) (λ_ _ u=>u) aU
   have af:∀a,a=Y->c2 a=3:=λa d=>by rw[d];exact t.c0
   have aW:Dr (λ_=>A3)=λ_=>Z:=by
    funext a
    unfold Dr;rw[jN (λd=>by cases d.2)]
   have av:Ad (SS 200) wr m p c2:=by
    rw[<-aT];exact((Ad.u (C:=SS 200) q.o.st.new H).bQ (jF wr.heap.size) (show wr.heap.size<p.heap.size by omega) (Bk (A2 (A2 rfl)))).bQ (show wr.heap.size<=wr.heap.size+1 by omega) (show wr.heap.size+1<p.heap.size by omega) (Bk (A2 (A2 rfl)))
   have SY:BI bk c2 Y k c (e+1) (j+1) B g Q (wr.heap.size+1) wr.heap.size z M F (λ_=>A3) (λ_=>A3) P R:={
    y:=hb
    aV:=t.aV.au A (λd=>bl d.symm) (λd=>bm d.symm) (λd=>absurd ((af _ d).symm.trans t.dZ) Ξ)
    mf:=by rw[aW];exact(bj.au A Ω).mono (ke _)
    my:=by rw[aW];exact(bi.au A Ω).mono (ke _)
    md:=(t.my.au A b2).mono (j9 e)
    cu:=(t.cu.ao A (λa n d=>by rw[af a d]at n;omega) (λ_ _=>rfl)).mono (j9 e)
    fy:=Ω
    fd:=Ω
    yd:=Ω
    c0:=t.c0
    c1:=t.c1
    c2:=t.c2
    c3:=by rw[au,jP rfl]
    c4:=by rw[au,jN Ω,jP rfl]
    c5:=t.c4
    dZ:=t.dZ
    q1:=by omega}
   have bp:=HL.o.ii (tk':=F) (mem':=R) be.o (λa=>by rw[q.o.dv,HN.o];cases D a<;>simp) (λa n=>q.o.cq a n (HN.o _)) (λi w=>q.o.cA i (λa d n=>by rw[w a d]at n;cases n));refine bodyPost_end (v:=BD #[]) (by simp[results,Tryz.results95,go_sem]) rfl ?_;exact⟨⟨_,rfl⟩,c2,(q.o.st.trans av).trans (AL av.new A (λa d=>by rw[af a d];exact Bk (A2 (A2 rfl)))),⟨_,_,_,_,_,_,_,_,_,_,_,_,SY,bp⟩,(q.o.bH.ao (Ac.az (S:=λ_=>False) H) (λ_ _ u=>u) aU |>.ao A (λa n d=>by rw[af a d]at n;omega) (λ_ _=>rfl)).mono (j9 e),av.new.au A,aH⟩
  ·obtain⟨l,rfl,aw⟩:=Sf aO;have t2:Ac (λa=>a=r) wr w2:=Ac.of H (λa d=>by cases d;rfl);have s2:Ad (λa=>a=199) wr m w2 m:=AL o.st.new t2 (λa d=>by rw[d];exact o.cr);have G:=zh (o.bM.ag s2 Ω Ω Ω);have D2:=zh (o.bH.ag s2 Ω);have aY:=zh (o.st.trans (s2.mono (λa d=>by rw[show a=199 from d];exact A2 ⟨Ω,Ω⟩)));have ah:=zh o;have M2:=zh aP;have bs:Hd (ar+1<gk):=zh (lM aQ aM);have aZ:=zh aw;have a0:=HL.o.ft l aw
   have bt:(l:Int)<=65535:=by have:=(aH.dH a0).2.1;omega
   have CR:Hd (m r=199):=zh o.cr;clear o aO H t2 s2 aP aQ aw aM bg;obtain⟨_,_,_,_,_,bu,_,_,_,ay⟩:=G.o.cells;go_wp2_with fail;refine(RT B g c.a4 _ F l w2 G.o.aV).mono ?_;rintro d w3 ⟨rfl,a1,U⟩;have bv:=G.o.c1;have bw:=G.o.c2;have a2:=G.o.c5
   have ai:∀a,Ie B g a->m a=3:=λa d=>by rcases d with d|d<;>rw[d]<;>assumption
   have H3:=zh (G.o.gq a1 U);have D3:=zh (D2.o.ao (col':=m) U (λa n d=>by rw[ai a d]at n;omega) (λ_ _=>rfl));have a3:=zh (aY.o.trans (AL aY.o.new U (λa d=>by rw[ai a d];exact Bk (A2 (A2 rfl)))))
   have M3:=zh (M2.o.au U (λd=>by
    obtain⟨_,_,_,_,_,_,bz,bA,_⟩:=G.o.dR
    exact d.elim bz bA) (λd=>by have:=ai _ d;rw[CR.o]at this;omega))
   clear a1 U bv bw ai bu ay;obtain⟨_,_,_,_,_,_,_,_,_,ay⟩:=H3.o.cells;go_wp2_with fail;refine(TR H3.o.cu a3.o.new l Ω bt).mono ?_;rintro d w4 ⟨v4,a5,bC,rfl,K,a6,a7,aA⟩
   have a8:a5 r=199:=by rw[K.ak _ M3.o.lt.1];exact CR.o
   have bD:Qe h b Y k c e j B g W z X M N fr P D ab f r a5 (λa=>left a&&! decide (a=(l:Int))) ar (Jg c.a4 F l) Q bC w4:=by
    refine⟨M3.o.au K.au (by rw[a2];exact Sc.aG Ω Ω) (by rw[CR.o];exact Sc.aG Ω Ω),a8,H3.o.eV K (Sc.aG Ω Ω) (Sc.aG Ω Ω) (jF e) a6,D3.o.ag K (Sc.aG Ω Ω),a3.o.trans (K.mono (Sc.mono (λa d=>A2 (Bk d)) Ω)),λa=>?_,λa x h2=>?_,λi x=>?_,λi x=>?_⟩
    ·unfold Jg Dv;rw[show decide (0<=(l:Int)/\(l:Int)<(c.a4:Int))=BC from jG ⟨Ω,by exact_mod_cast a0⟩,ah.o.dv];simp only[jS,nk]
     by_cases d:a=l
     ·subst d;simp[aZ.o]
     ·have L:¬((a:Int)=(l:Int)):=λm=>d (by exact_mod_cast m)
      simp[d,L]
    ·by_cases d:a=l
     ·rw[d];exact a7
     ·have L:¬((a:Int)=(l:Int)):=λm=>d (by exact_mod_cast m)
      rw[aA _ L];refine ah.o.cq a x ?_;simpa[L]using h2
    ·have L:i≠(l:Int):=λd=>by have:=x l d aZ.o;simp at this
     rw[aA i L];exact ah.o.cA i (λa d n=>by have:=x a d n;simp at this;exact this.1)
    ·simp at x;exact ah.o.iZ i x.1
   clear K a6 a7 aA a8 ay a2;go_wp2_with fail
   go_roundg (ar+1)
   case measure=>exact bs.o
   exact⟨_,_,_,_,_,_,nT _,bD⟩
end
section
open Go.RowKit
attribute [local go_sem ↓] Go.wp_at_zero Go.wp_at_succ
theorem Tn(d:DS h b Y j c k e i f):
  BR Ax 45 #[O (AA ⟨Y,0,Z⟩)] h λl m=>l=A6 (J E e)/\h=m:=by
 obtain⟨B,g,n,o,p,q,r,s,t,u,v,w,a,_⟩:=d;obtain⟨_,_,_,_,x,_⟩:=a.cells;clear a
 go_enter Tryz.func45,Tryz.ntmps45
 go_wp2;go_ret;exact⟨rfl,rfl⟩
theorem ZW(m:DS h b Y e c j k i f):
  BR Ax 50 #[O (AA ⟨Y,0,Z⟩)] h λd l=>(∃n:Nat,d=A6 (J E (n:Nat)))/\h=l:=by
 obtain⟨B,g,p,q,r,s,t,u,v,w,x,y,a,_⟩:=m;obtain⟨_,_,_,_,_,_,_,_,_,z⟩:=a.cells;have o:=zh a.cu;clear a
 go_enter Tryz.func50,Tryz.ntmps50
 go_wp2_with fail;refine(gT o.o).mono ?_;rintro d l ⟨⟨n,rfl⟩,rfl⟩;go_wp2_with fail;go_ret;exact⟨⟨_,rfl⟩,rfl⟩
def Lp(f a g c:Nat)(h:A5):Prop:=∃b d,(f<=c/\f<=b/\f<=d)/\(c<a/\b<a/\d<a/\a<=h.heap.size)/\
  ∀e:Ae,e c=2->e b=2->e d=2->AX h e c g 0 b d (List.replicate g Pc.af) 0 (λ_=>Z)
theorem Lp.au{S:Nat->Prop}(m:Lp Y j e k n)(c:Ac S n h)(o:∀a,S a->a<Y):Lp Y j e k h:=by
 obtain⟨q,r,⟨f,g,i⟩,⟨s,t,u,v⟩,w⟩:=m;refine⟨q,r,⟨f,g,i⟩,⟨s,t,u,jM v c.aQ⟩,λl z A B=>?_⟩;have H:=w l z A B
 have d:∀a,Y<=a->¬S a:=λa I C=>by have:=o a C;omega
 have D:∀p∈List.replicate e Pc.af,Ag h 1 p.lv p.ld.length (Ar p.ld)/\(∀b,p.lv.ownBlock=AA b->l b=0/\b<h.heap.size)/\(∀x∈p.ld,x<256):=by
  intro p E;have:=ls E;subst this;exact⟨Ag.nil _ 1,λb F=>by simp[Pc.af,Pc.lv,Value.ownBlock]at F,λJ G=>by cases G⟩
 exact{H with y:=c.y H.y (d _ f),aI:=c.y H.aI (d _ g),map:=H.map.au c (d _ i),cV:=D}
def eK(w:A5)(d l n m o p q h:Nat)(r:BitVec 64)(t i:Nat)(s:Nat)(a:A5):Prop:=
 ∃B g b e f j,w.grownBy a Z/\(w.heap.size<=s/\w.heap.size<=B/\w.heap.size<=g/\w.heap.size<=b/\b<e/\e<f)/\
  Aa a s 196 [O (AA ⟨d,0,Z⟩),J E l,J E n,J E m,J E o,J E p,J E q,J E h,J B2 (U r),J E t,J E i,J E ((n:Int) - 19),J E 1,O (AA ⟨B,0,Z⟩),A7 (AA b),A7 (AA e),A7 (AA f),O (AA ⟨j,0,Z⟩)]/\
  SF a B g i 0 (λ_=>A3)/\MF a Ax 3 b 0 (λ_=>Z)/\MF a Ax 3 e 0 (λ_=>Z)/\MF a Ax 3 f 0 (λ_=>Z)/\∃c k,Lp c k h j a/\w.heap.size<=c/\s<c/\B<c/\g<c/\k<=b
theorem Xn(d i n m o p r g:Nat)(t:BitVec 64)(L x l M N P Q:Nat)(q:Nat)(ct:Int->List Nat)(w:A5)(bp:Ae)(hD:AF w bp d i n q ct)
  (hf:∀W,BR Ax 32 #[.agg #[J E i,J E n,J E m,J E o,J E p,J E r,J E g,J B2 (U t)]] W λe C=>e=A6 (BD #[.agg #[J E 2,J E L,J E x,J E l,J E M,J E N,J E P,J E Q],J E 0])/\W.grownBy C Z)
  (n0:96<=n)(n1:n<=512)(p0:1<=l)(p1:l<=65536)(m0:1<=g)(m1:g<=4096)(hT:ET w)(hG:0<w.heap.size):
  BR Ax 75 #[O (AA ⟨d,0,Z⟩),.agg #[J E i,J E n,J E m,J E o,J E p,J E r,J E g,J B2 (U t)],J E 0] w λe C=>∃s,e=A6 (BD #[O (AA ⟨s,0,Z⟩),J E 0])/\eK w d i n m o p r g t x l s C:=by
 have HD:=zh hD;have HF:=zh hf;have R:=zh (And.intro hT hG);clear hD hf hT hG
 go_enter Tryz.func75,Tryz.ntmps75
 go_wp2_with fail;obtain⟨S,F⟩:=Af (w.alloc (BA #[J E i,J E n,J E m,J E o,J E p,J E r,J E g,J B2 (U t)] 37))
 have g1:w.grownBy S Z:=by rw[<-F];exact V _ _ Z
 have aS:Aa S w.heap.size 37 [J E i,J E n,J E m,J E o,J E p,J E r,J E g,J B2 (U t)]:=by rw[<-F];exact Aa.new _ _ _
 have bZ:S.heap.size=w.heap.size+1:=by rw[<-F];simp
 rw[F];have G1:=zh g1;have P1:=zh aS;clear F g1 aS;refine(HF.o S).mono ?_;rintro e T ⟨rfl,g2⟩;have G2:=zh (Ab G1.o g2);have P2:=zh (P1.o.u g2 Δ);clear g2;go_wp2_with fail;obtain⟨G,X⟩:=Af (T.alloc (BA #[J E 2,J E L,J E x,J E l,J E M,J E N,J E P,J E Q] 85))
 have g3:T.grownBy G Z:=by rw[<-X];exact V _ _ Z
 have aT:Aa G T.heap.size 85 [J E 2,J E L,J E x,J E l,J E M,J E N,J E P,J E Q]:=by rw[<-X];exact Aa.new _ _ _
 rw[X];obtain⟨w4,az⟩:=Af G.drew
 have g4:G.grownBy w4 Z:=by rw[<-az];exact Bm G
 have G4:=zh (Ab G2.o (Ab g3 g4));have H:=zh (P2.o.u (Ab g3 g4) Δ);have L4:=zh (aT.u g4 Δ);have D4:=zh (HD.o.u G4.o);have bE:=zh az;clear X g3 aT g4 az;generalize T.heap.size=ly at*;refine AS (λW=>Aa W w.heap.size 37 [J E i,J E n,J E m,J E o,J E p,J E r,J E g,J B2 (U t)]) (.am [0,1,2,3,4] [5] 6 BC (.am [7,8,9,10,11] [12] 13 BC (.am [] [14,15] 16 A3 (.nil)))) Φ Φ ?_;rw[bE.o];refine Dz H.o ?_
 iterate 5 ((apply AC rfl Θ;(· intro wS a;(try have a:=a rfl);(try dsimp only at a);(try(have x0:=a.m 0;have x1:=a.m 1));go_simp;(try with_reducible rfl)));refine Al ?_)
 refine Aj ?_;refine Av ?_;refine Aj ?_;refine Am ?_;intro K f;refine(Mi D4.o).mono ?_;rintro e C ⟨rfl,rfl⟩;dsimp only;refine f _ _ ⟨_,λ_ h=>h,λ_=>H.o,?_⟩;clear f K;refine Al ?_;refine Dz H.o ?_
 iterate 5 ((apply AC rfl Θ;(· intro wS a;(try have a:=a rfl);(try dsimp only at a);(try(have x0:=a.m 0;have x1:=a.m 1));go_simp;(try with_reducible rfl)));refine Al ?_)
 refine Aj ?_;refine Av ?_;refine Aj ?_;refine Am ?_;intro K f;refine(KJ D4.o).mono ?_;rintro e C ⟨rfl,rfl⟩;dsimp only;refine f _ _ ⟨_,λ_ h=>h,λ_=>H.o,?_⟩;clear f K;refine Al ?_;refine Ap ?_
 iterate 2 refine Av ?_
 refine Aj ?_;refine Am ?_;intro K f;refine Aq f ?_;clear f K;refine AG (NoPanic.normal ?_);go_wp2_with fail;obtain⟨y,aA⟩:=Af w4.drew
 have g5:w4.grownBy y Z:=by rw[<-aA];exact Bm w4
 have G5:=zh (Ab G4.o g5);have P5:=zh (H.o.u g5 Δ);have L5:=zh (L4.o.u g5 Δ);have bG:=zh aA;clear aA g5;refine AS (λW=>Aa W w.heap.size 37 [J E i,J E n,J E m,J E o,J E p,J E r,J E g,J B2 (U t)]/\Aa W ly 85 [J E 2,J E L,J E x,J E l,J E M,J E N,J E P,J E Q]) (.am [1,2,3,4,5,9,10] [0,6,7] 8 BC (.am [] [11] 12 A3 (.am [] [] 13 A3 (.nil)))) Φ Φ ?_;rw[bG.o];refine Dz ⟨P5.o,L5.o⟩ ?_
 iterate 7 ((apply AC rfl Θ;(· intro wS a;(try have a:=a rfl);(try dsimp only at a);(try(have x0:=a.1.m 0;have x1:=a.1.m 1;have x2:=a.1.m 2;have x3:=a.1.m 3;have x4:=a.1.m 4;have x5:=a.1.m 5;have x6:=a.1.m 6;have x7:=a.1.m 7;have y2:=a.2.m 2;have y3:=a.2.m 3));go_simp;(try with_reducible rfl)));refine Al ?_)
 refine Aj ?_;have x1:=P5.o.m 1
 iterate 3 refine Av ?_
 refine Aj ?_;clear x1;refine Am ?_;intro K f;refine(Jb n n0 n1 y).mono ?_;rintro e C ⟨rfl,rfl⟩;dsimp only;refine f _ _ ⟨_,λ_ h=>h,λ_=>⟨P5.o,L5.o⟩,?_⟩;clear f K;refine Al ?_;refine Ap ?_;refine Av ?_;refine Aj ?_;rw[show E.wrap 1=1 from rfl];refine Am ?_;intro K f;obtain⟨w6,af⟩:=Af (y.alloc (BA #[O (AA ⟨d,0,Z⟩),J E i,J E n,J E m,J E o,J E p,J E r,J E g,J B2 (U t),J E x,J E l,J E ((n:Int) - 19),J E 1,O Z,A7 Z,A7 Z,A7 Z,O Z] 196))
 have g6:y.grownBy w6 Z:=by rw[<-af];exact V _ _ Z
 have b6:Aa w6 y.heap.size 196 [O (AA ⟨d,0,Z⟩),J E i,J E n,J E m,J E o,J E p,J E r,J E g,J B2 (U t),J E x,J E l,J E ((n:Int) - 19),J E 1,O Z,A7 Z,A7 Z,A7 Z,O Z]:=by rw[<-af];exact Aa.new _ _ _
 rw[af];have aE:w.heap.size<=y.heap.size:=G5.o.size;have G6:=zh (Ab G5.o g6);have P6:=zh (P5.o.u g6 Δ);have L6:=zh (L5.o.u g6 Δ);have B6:=zh b6;clear af g6 b6;generalize y.heap.size=c at*;refine Aq f ?_;clear f K;refine Ap ?_;refine Aj ?_;refine Am ?_;intro K f;refine Aq f ?_;clear f K;refine AG (NoPanic.normal ?_);have y3:=L6.o.m 3;go_wp2_with fail;refine(eG l w6 p0 p1 (R.o.1.bb (G6.o.block _ R.o.2 Δ)) (jJ R.o.2 G6.o.size)).mono ?_;rintro e z ⟨D,gs,rfl,a2,b7,b9,g7⟩;have ca:=G6.o.size;have B7:=zh (B6.o.u g7 Δ);have P7:=zh (P6.o.u g7 Δ);have G7:=zh (Ab G6.o g7);have aH:=zh a2;clear a2 g7 y3;have bK:=B7.o.m 13;have bL:=B7.o.v 13;have cb:=B6.o.lt;have t8:Ac (λj=>j=c) z (z.setCell ⟨c,13,Z⟩ (O (AA ⟨D,0,Z⟩))):=Ac.of (Ao _ _ _) (λj e=>by cases e;rfl);have b8:=B7.o.setCell 13 (O (AA ⟨D,0,Z⟩))
 have bM:w.heap.size≠c:=λe=>by
  have:=OH (e▸P6.o) B6.o;exact absurd this Ξ
 have P8:=t8.y P7.o bM;have x6:=P8.m 6;have P8:=zh P8;have B8:=zh b8;have T8:=zh t8;clear b8 t8;go_wp2_with fail;obtain⟨w8,a5⟩:=Af (z.setCell ⟨c,13,Z⟩ (O (AA ⟨D,0,Z⟩)));rw[a5]at B8 T8 P8 x6⊢;clear a5 bK bL x6;refine(dN w8 g m0 m1).mono ?_;rintro e b ⟨I,rfl,bN,bO,g9,k1,k2,k3,k4,k5,k6,bc⟩;have cc:z.heap.size<=w8.heap.size:=T8.o.aQ;have bP:Hd (Lp w8.heap.size b.heap.size g I b):=zh ⟨bN,bO,⟨k1,k2,k3⟩,⟨k4,k5,k6,jF _⟩,bc⟩;have B9:=zh (B8.o.u g9 Δ);have bd:Hd (w.grownBy b Z):=zh (Ab (Ac.u G7.o T8.o (λj e=>by rw[e];exact aE)) g9);have cd:D<z.heap.size/\gs<z.heap.size:=⟨aH.o.ek.1,aH.o.ek.2.1⟩;have ce:c<z.heap.size:=B7.o.lt;have ap:c≠D/\c≠gs:=⟨λe=>Ω,λe=>Ω⟩
 have be:c≠0:=λe=>by have:=R.o.2;omega
 have bQ:=zh ((aH.o.au T8.o (λe=>ap.1 e.symm) (λe=>ap.2 e.symm) (λe=>be e.symm)).u g9);clear g9 k1 k2 k3 k4 k5 k6 bc;have bR:=B9.o.m 17;have bS:=B9.o.v 17;have aJ:Ac (λj=>j=c) b (b.setCell ⟨c,17,Z⟩ (O (AA ⟨I,0,Z⟩))):=Ac.of (Ao _ _ _) (λj e=>by cases e;rfl);have aK:=B9.o.setCell 17 (O (AA ⟨I,0,Z⟩));obtain⟨u,aq⟩:=Af (b.setCell ⟨c,17,Z⟩ (O (AA ⟨I,0,Z⟩)));rw[aq]at aJ aK;have cf:=@run_makeMap Ax;obtain⟨A,B⟩:=Af (((u.alloc (BX #[] 0)).alloc (BX #[] 0)).alloc (BX #[] 0))
 have aL:u.grownBy A Z:=by rw[<-B];exact Ab (Ab (V _ _ Z) (V _ _ Z)) (V _ _ Z)
 have v:=aK.u aL Δ;have bf:=v.m 14;have bg:=v.m 15;have bh:=v.m 16;have bi:=v.v 14;have bj:=v.v 15;have bk:=v.v 16
 have ar:MF A Ax 3 u.heap.size 0 (λ_=>Z):=by
  rw[<-B];exact((MF.cB u Ax 3).u (V _ _ Z) Δ).u (V _ _ Z) Δ
 have au:MF A Ax 3 (u.heap.size+1) 0 (λ_=>Z):=by
  have:=MF.cB (u.alloc (BX #[] 0)) Ax 3;rw[A4]at this;rw[<-B];exact this.u (V _ _ Z) Δ
 have av:MF A Ax 3 (u.heap.size+2) 0 (λ_=>Z):=by
  have:=MF.cB ((u.alloc (BX #[] 0)).alloc (BX #[] 0)) Ax 3;rw[A4,A4]at this;rw[<-B];exact this
 rw[<-B, <-aq]at bf bg bh bi bj bk;have HM:=zh (And.intro ar (And.intro au av));have bT:=zh v;have bm:=zh aL;have bU:=zh aJ;have bn:=zh aq;have bV:=zh B;clear ar au av v aL aJ aq B aK;go_wp2_with fail;rw[bn.o,bV.o];clear bf bg bh bi bj bk bR bS;have bW:=((bT.o.setCell 14 (A7 (AA b.heap.size))).setCell 15 (A7 (AA (b.heap.size+1)))).setCell 16 (A7 (AA (b.heap.size+1+1)))
 have aw:Ac (λj=>j=c) A (((A.setCell ⟨c,14,Z⟩ (A7 (AA b.heap.size))).setCell ⟨c,15,Z⟩ (A7 (AA (b.heap.size+1)))).setCell ⟨c,16,Z⟩ (A7 (AA (b.heap.size+1+1)))):=
  ((Ac.of (Ao _ _ _) (λk e=>by cases e;rfl)).trans (Ac.of (Ao _ _ _) (λk e=>by cases e;rfl))).trans (Ac.of (Ao _ _ _) (λk e=>by cases e;rfl))
 have bX:u.heap.size=b.heap.size:=by rw[<-bn.o];simp
 have cg:=bm.o.size;rw[bX]at HM;generalize((A.setCell ⟨c,14,Z⟩ (A7 (AA b.heap.size))).setCell ⟨c,15,Z⟩ (A7 (AA (b.heap.size+1)))).setCell ⟨c,16,Z⟩ (A7 (AA (b.heap.size+1+1)))=Y at*;have TT:Ac (λj=>j=c) b Y:=(bU.o.trans (Ac.az bm.o)).trans aw;have bY:=bd.o.size;have ch:c<b.heap.size:=B9.o.lt;obtain⟨ar,au,av⟩:=HM.o;refine bodyPost_ret (results_tmp2 rfl _ _ _) rfl ⟨c,rfl,D,gs,b.heap.size,b.heap.size+1,b.heap.size+2,I,Ac.u bd.o TT (λj e=>by rw[e];exact aE),⟨aE,Ω,Ω,bY,Ω,Ω⟩,bW,bQ.o.au TT (λe=>ap.1 e.symm) (λe=>ap.2 e.symm) (λe=>be e.symm),ar.au aw Ω,au.au aw Ω,av.au aw Ω,w8.heap.size,b.heap.size,bP.o.au TT (λj e=>by rw[e];omega),Ω,Ω,Ω,Ω,jF _⟩
theorem Y0(G:AF h b Y c.ss c.n e f)(_:AD h b)(l:c.aY)(Q:ET h)(H:0<h.heap.size)(R:b 0=0):
  BR Ax 75 #[O (AA ⟨Y,0,Z⟩),c.val,J E 0] h λm A=>∃s,m=A6 (BD #[O (AA ⟨s,0,Z⟩),J E 0])/\∃d,Ad (SS 200) h b A d/\SD A d s Y c e 1 (λ_=>Z) f:=by
 have o:=l.dH (k:=0) (by have o:=l.d4;have p:c.a4=c.ss - c.aP:=rfl;rw[p];exact jJ (by omega:0<3*c.bz+4) (oV (by rw[pj];exact o)))
 have T:1<=c.a4:=by have o:=l.d4;have p:c.a4=c.ss - c.aP:=rfl;rw[p];exact jM (by omega:1<=3*c.bz+4) (oV (by rw[pj];exact o))
 refine(Xn Y c.ss c.n c.rg c.rs c.lg c.dp c.a7 c.aK c.region c.aP c.a4 c.bv c.bg c.bz c.aA e f h b G (λW=>I9 c l W) l.n0 l.n1 T (jM o.2.1 Ω) (Ψ l.iA) (Ψ l.hp) Q H).mono ?_;rintro m A ⟨s,rfl,B,g,q,r,t,u,I,⟨p,U,V,X,h6,h7⟩,C,K,L,M,N,aa,ab,⟨v,w,⟨k1,k2,k3⟩,⟨k4,k5,k6,k7⟩,ai⟩,aw,hs,hB,az,aA⟩;obtain⟨d,aj⟩:∃d:Ae,(λj=>if j<h.heap.size then b j else if j=s\/j=B\/j=g\/j=q\/j=r\/j=t then 3 else if j=u\/j=v\/j=w then 2 else 0)=d:=⟨_,rfl⟩
 have x:∀j,d j=if j<h.heap.size then b j else if j=s\/j=B\/j=g\/j=q\/j=r\/j=t then 3 else if j=u\/j=v\/j=w then 2 else 0:=λj=>by rw[<-aj]
 have hold:∀j,j<h.heap.size->d j=b j:=λj z=>by rw[x,jP z]
 have n:∀j,h.heap.size<=j->(j=s\/j=B\/j=g\/j=q\/j=r\/j=t)->d j=3:=λj z m=>by rw[x,jN Ω,jP m]
 have D:∀j,aa<=j->j<ab->(j=u\/j=v\/j=w)->d j=2:=λj z aB m=>by rw[x,jN Ω,jN Ω,jP m]
 have aC:=C.lt;have aD:=K.ek;have aE:=L.lt;have aF:=M.lt;have aG:=N.lt
 have P:Ad (SS 200) h b A d:=by
  refine⟨Ac.az I,hold,λj z=>?_,λj z=>?_⟩
  ·rw[x,jN Ω]
   split
   ·exact A2 (Bk (A2 (A2 rfl)))
   ·split
    ·exact A2 (Bk (A2 (Bk rfl)))
    ·exact Bk rfl
  ·rw[x,jN Ω,jN Ω,jN Ω]
 have F:Dr (λ_=>A3)=λ_=>Z:=by
  funext j
  unfold Dr;rw[jN (λm=>by cases m.2)]
 have al:((c.n:Int) - 19)=((c.n - 19:Nat):Int):=by have:=l.n0;omega
 rw[al]at C;refine⟨s,rfl,d,P,⟨B,g,0,q,r,t,u,λ_=>A3,λ_=>A3,λ_=>A3,λ_=>A3,λ_=>Z,?_,?_⟩,G.ao (Ac.az (S:=λ_=>False) I) (λ_ _ am=>am) hold,P.new,l⟩
 ·exact{
   y:=C
   aV:=K
   mf:=by rw[F];exact L.mono (ke _)
   my:=by rw[F];exact M.mono (ke _)
   md:=by rw[F];exact N.mono (ke _)
   cu:=⟨v,w,_,0,_,(ai d (D u k1 k4 (Bk rfl)) (D v k2 k5 (A2 (Bk rfl))) (D w k3 k6 (A2 (A2 rfl)))).mono (ke _),λ_=>rfl⟩
   fy:=Ω
   fd:=Ω
   yd:=Ω
   c0:=n s p (Bk rfl)
   c1:=n B U (A2 (Bk rfl))
   c2:=n g V (A2 (A2 (Bk rfl)))
   c3:=n q X (A2 (A2 (A2 (Bk rfl))))
   c4:=n r Ω (A2 (A2 (A2 (A2 (Bk rfl)))))
   c5:=n t Ω (A2 (A2 (A2 (A2 (A2 rfl)))))
   dZ:=(hold _ H).trans R
   q1:=by omega}
 ·exact{dv:=λk a=>by cases a
        du:=λk a=>by rcases a with a|a|a;exact absurd rfl a;cases a;cases a
        cP:=λk a=>by cases a
        dG:=λk a=>by cases a
        dT:=λk a=>by cases a
        eP:=λk a=>by cases a
        eO:=λk a=>by cases a
        ft:=λk a=>by cases a
        bx:=λk st ld a=>by cases a
        bX:=λi st ld di hi=>by cases hi
        ak:=⟨[],ke _,λk _ a=>by rcases a with a|a;exact absurd rfl a;cases a⟩
        fw:=⟨[],ke _,λk a=>by cases a⟩}
theorem V9(l:AF h b Y c.ss c.n e f)(j:AD h b)(v:c.aY)(m:ET h)(o:0<h.heap.size)(w:b 0=0):
  BR Ax 30 #[O (AA ⟨Y,0,Z⟩),c.val] h λp q=>∃s,p=A6 (BD #[O (AA ⟨s,0,Z⟩),J E 0])/\∃g,Ad (SS 200) h b q g/\SD q g s Y c e 1 (λ_=>Z) f:=by
 obtain⟨k,i⟩:=Af (h.alloc (BA c.cells.toArray 37))
 have d:h.grownBy k Z:=by rw[<-i];exact V _ _ Z
 have r:Aa k h.heap.size 37 c.cells:=by rw[<-i];exact Aa.new _ _ _
 have t:=zh (Y0 (l.u d) (j.u d) v (m.bb (d.block _ o Δ)) (jJ o d.size) w);have x:=zh d;have a:=zh r;have u:=zh i;have y:=zh j;clear l j m d r i;unfold Pl.val at t⊢;unfold Pl.cells at a u;obtain⟨z,n,A,B,C,D,F,G⟩:=c;dsimp only at*
 go_enter Tryz.func30,Tryz.ntmps30
 have K:=a.o.m 0;have L:=a.o.m 1;have M:=a.o.m 2;have N:=a.o.m 3;have P:=a.o.m 4;have Q:=a.o.m 5;have R:=a.o.m 6;have S:=a.o.m 7;go_wp2_with fail;rw[show h.alloc (BA #[J E z,J E n,J E A,J E B,J E C,J E D,J E F,J B2 (U G)] 37)=k from u.o];refine t.o.mono ?_;rintro p T ⟨s,rfl,g,H,I⟩;go_wp2_with fail;refine bodyPost_ret (results_tmp2 rfl _ _ _) rfl ⟨s,rfl,g,(Ad.u y.o x.o).trans H,I⟩
end
