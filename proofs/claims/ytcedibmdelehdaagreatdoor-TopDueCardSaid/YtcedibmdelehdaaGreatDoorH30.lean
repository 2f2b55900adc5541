/- Lemmas. -/
import Derived.Test.YtcedibmdelehdaaGreatDoorH16
import Derived.Test.YtcedibmdelehdaaGreatDoorH28
import Derived.Deep.LoopGhost
namespace Go.Proofs.YtcedibmdelehdaaGreatDoor
set_option maxRecDepth 100000
set_option maxHeartbeats 32000000
open Go.IntKind renaming i64->E,wrap_u64->B4,u64->CV
open Go.Value renaming int->O,slice->V,pointer->AA,bool->Bk,tuple->BC,agg->B3
open Go.World renaming grownBy_alloc->Z,size_alloc->C0
open Option renaming none->Ax,some->A2,map_map->C3
open Bool renaming false->A3,true->BA
open Go.Proofs.Tryz renaming prog->A4,func278->CR,ntmps255->C5,ntmps212->C6,ntmps211->C7,ntmps86->C9,func255->DA,func212->DV,func211->DX,func86->D0,f144->D5
open Go.Ending renaming returned->Bd
open Go renaming World->Bn,bodyPost_ret->Bx,Value->BD,run_takeDeferred->BE,Calls->BR,results_tmp->B0,callsIn_wide->B5,callsIn_of_wp_marks->B9,ownFrom_below->CE,belowK_b->CL,undef->C4,results->C8,Boxed->D1,Addr->D2,maxLen->D3
open Decidable renaming decide->Bs
open Go.Obj renaming cells->BB
open Go.RowKit.Below renaming refl->BL
open Go.IntWalk renaming i64_in->BX,wrap64_in->B2
open Go.Fence renaming wide->B6
open List renaming length->B7,filter->C1,drop_left'->C2
open Go.OwnFrom renaming and->B8
open Nat renaming reduceSub->CA,reduceAdd->CB
open Or renaming inl->CX,inr->D4
variable{h:Int->Option Nat}{J k o:Bn}{Y c e f g i p:Nat}{a:Ad}{b n:List Nat}{d:BD}{j:List BD}{l:Int}
section
open Go.RowKit
attribute [local go_sem ↓] Go.wp_at_zero Go.wp_at_succ
theorem eh(c:∀x∈b,x<256)(d:∀y∈n,y<256)(h:(Fo b).toList=(Fo n).toList):b=n:=by
 rw[Mi,Mi]at h;apply pE
 ·have:=kL B7 h;simpa using this
 ·intro i a f;have e:=List.getElem_of_eq h (i:=i) (by simpa using a);simp only[pG]at e;have g:=c _ (mQ a);have j:=d _ (mQ f);have:=kL UInt8.toNat e;simp at this;omega
theorem Wy(d:List Nat)(a b:Option D2)(c e:Nat)(w:Bn)(f:Ai w 1 (V a d.length c) d.length (Ao d))(g:Ai w 1 (V b d.length e) d.length (Ao d)):
  BR A4 121 #[V a d.length c,V b d.length e] w λe h=>e=Bd (Bk BA)/\w=h:=by
 have i:=KD f;have j:=KD g;have k:=aM d;clear f g
 go_enter Tryz.func121,Tryz.ntmps121
 go_wp2;go_ret;exact⟨Δ,rfl⟩
theorem gm(k:Nat)(h:E7 (k:Int)=BA):FO (k:Int)=k:=Mx h
theorem F8(h:RR J e d (At c Y++b) A3)(l:E7 (Y:Int)=BA)(m:c<256^Y):
  BR A4 184 #[AA (A2 ⟨e,0,Ax⟩),O E Y] J λj f=>∃a,j=Bd (O CV (c:Int))/\RR f e a b A3/\(∀k,a.ownBlock=A2 k->d.ownBlock=A2 k)/\J.grownBy f (A2 e):=by
 refine(Tv e d _ A3 Y J h).mono ?_;rintro j f ⟨a,rfl,g,n,o⟩
 have i:Gg (At c Y++b) (Y:Int)=A3:=by
  unfold Gg;rw[nX,jU,AI];omega
 rw[gm Y l]at g⊢
 have p:Dc (At c Y++b) (Y:Int)=At c Y:=by
  unfold Dc;rw[j7 (by rw[i];simp),km,qQ (AI c Y)]
 have q:FV (At c Y++b) (Y:Int)=b:=by
  unfold FV;rw[j7 (by rw[i];simp),km,C2 (AI c Y)]
 have r:FZ (At c Y++b) A3 (Y:Int)=A3:=by
  unfold FZ;rw[i];rfl
 rw[q,r]at g;refine⟨a,?_,g,n,o⟩;rw[p,OJ c Y,ny m]
theorem NP(h:RR J Y d (b++n) A3):
  BR A4 185 #[AA (A2 ⟨Y,0,Ax⟩),O E b.length] J λe f=>∃a c g,e=Bd (V a b.length c)/\f.ownsRow J.heap.size 5 1 (V a b.length c) b.length (Ao b)/\RR f Y g n A3/\(∀j,g.ownBlock=A2 j->d.ownBlock=A2 j)/\J.grownBy f (A2 Y):=by
 refine(Tg Y d _ A3 b.length J h).mono ?_;rintro e f ⟨a,c,g,k,l,m,o,p⟩
 have i:Gg (b++n) (b.length:Int)=A3:=by
  unfold Gg;rw[nX,jU];omega
 have q:Dc (b++n) (b.length:Int)=b:=by
  unfold Dc;rw[j7 (by rw[i];simp),km,qQ rfl]
 have r:FV (b++n) (b.length:Int)=n:=by
  unfold FV;rw[j7 (by rw[i];simp),km,C2 rfl]
 have s:FZ (b++n) A3 (b.length:Int)=A3:=by
  unfold FZ;rw[i];rfl
 rw[q]at k l;rw[r,s]at m;exact⟨a,c,g,k,l,m,o,p⟩
theorem V6(n:Nat)(a:Option D2)(m c:Nat)(w:Bn)(d:96<=n)(f:n<=512):
  BR A4 205 #[B3 #[O E 0,O E 0,O E 0,V a m c],O E n] w λe b=>e=Bd (O E 1)/\w.grownBy b Ax:=by
 have g:Bs ((n:Int)≥96)=BA:=jT Ω;have h:Bs ((n:Int)<=512)=BA:=jT Ω
 go_enter Tryz.func205,Tryz.ntmps205
 go_wp2;go_ret;exact⟨rfl,Z _ _ Ax⟩
structure LR(a W:Bn)(B:Nat)(v:BD)(b:List Nat)(T R:Nat)(c:List BD):Prop where
 rr:RR W B v b A3
 ci:Aa W T 174 c
 aS:Aa W R 174 [O E 0,O E 0,O E 0,V Ax 0 0]
 bt:B≠T
 br:B≠R
 tr:T≠R
 vt:v.ownBlock≠A2 T
 vr:v.ownBlock≠A2 R
 grown:a.grownBy W Ax
 b0:a.heap.size<=B
 t0:a.heap.size<=T
theorem LR.bO{v:BD}{R:Nat}(h:LR k o Y v n c R j)(l:RR J Y d b A3)(f:∀g,d.ownBlock=A2 g->v.ownBlock=A2 g)(a:o.grownBy J (A2 Y)):LR k J Y d b c R j:=
 ⟨l,h.ci.grown a (λe=>h.bt (by simpa using e.symm)),h.aS.grown a (λe=>h.br (by simpa using e.symm)),h.bt,h.br,h.tr,λe=>h.vt (f _ e),λe=>h.vr (f _ e),Ac.grown h.grown (S:=λi=>i=Y) (Ac.of a (λm e=>by cases e;rfl)) (λi e=>by have:=h.b0;omega),h.b0,h.t0⟩
theorem LR.aR{R:Nat}(h:LR k J c d b Y R j)(a:Nat)(u:BD):LR k (J.setCell ⟨Y,a,Ax⟩ u) c d b Y R (j.set a u):=by
 have g:Ac (λi=>i=Y) J (J.setCell ⟨Y,a,Ax⟩ u):=Ac.of (An _ _ _) (λi e=>by cases e;rfl);refine⟨h.rr.ak g (λi f e=>?_),h.ci.setCell a u,g.u h.aS (λe=>h.tr e.symm),h.bt,h.br,h.tr,h.vt,h.vr,Ac.grown h.grown g (λa e=>by have:=h.t0;omega),h.b0,h.t0⟩;subst e
 rcases f with f|f
 ·exact h.bt f.symm
 ·exact h.vt f
theorem LR.bq{R:Nat}(h:LR J k Y d b c R j)(a:k.grownBy o Ax):LR J o Y d b c R j:=
 ⟨h.rr.grown a,h.ci.grown a Δ,h.aS.grown a Δ,h.bt,h.br,h.tr,h.vt,h.vr,Ae h.grown a,h.b0,h.t0⟩
theorem QU(n g o p:Nat)(d aS:List Nat)(y:List Nat)(a:Option D2)(c:Nat)(w:Bn)(K:96<=n)(W:n<=512)(aw:y=At g 1++(At d.length 2++(At o 4++(At p 8++(d++aS)))))(hl:y.length=n)(ay:∀x∈y,x<256)
  (k1:g<=4)(X:d.length<=n - 19)(p1:o<=2147483647)(hs:p<=9223372036854775807)(aC:(1<=g/\y=BO n g o p d)\/(g=0/\o=0/\p=0))(hr:Ai w 1 (V a n c) n (Ao y)):
  BR A4 144 #[V a n c] w λe Y=>(if g=0 then e=Bd (BC #[B3 #[O E 0,O E 0,O E 0,V Ax 0 0],O E 5])else∃a' c',e=Bd (BC #[B3 #[O E g,O E o,O E p,V a' d.length c'],O E 0])/\
   Y.ownsRow w.heap.size 5 1 (V a' d.length c') d.length (Ao d))/\w.grownBy Y Ax:=by
 have d0:Bs ((n:Int)≥96)=BA:=jT Ω;have d1:Bs ((n:Int)<=512)=BA:=jT Ω;have wk:E.wrap (g:Int)=g:=BX _ Ω;have wl:E.wrap (d.length:Int)=d.length:=BX _ Ω;have wp:E.wrap (o:Int)=o:=BX _ Ω;have ws:E.wrap (p:Int)=p:=BX _ Ω;have aa:=zh aw;have L:=zh hl;have aT:=zh ay;have ab:=zh aC;have HR:=zh hr;clear aw hl ay aC hr
 go_enter Tryz.func144,Tryz.ntmps144
 go_wp2_with (first|(go_at_call 134;go_in)|fail);have ac:=LH y a c (w.alloc (BB #[O E 0,O E 0,O E 0,V Ax 0 0] 174)) (Ψ L.o) aT.o (by rw[L.o];exact HR.o.alloc _);rw[L.o]at ac;refine ac.mono ?_;clear ac;rintro e G ⟨B,v,rfl,M,hB,aH,g1⟩;have ae:=(Aa.new w 174 [O E 0,O E 0,O E 0,V Ax 0 0]).grown g1 Δ;have af:=Ae (Z w (BB #[O E 0,O E 0,O E 0,V Ax 0 0] 174) Ax) g1;have aU:(w.alloc (BB #[O E 0,O E 0,O E 0,V Ax 0 0] 174)).heap.size=w.heap.size+1:=Δ;have bl:=M.u.lt
 have ag:LR w (G.alloc (BB #[O E 0,O E 0,O E 0,V Ax 0 0] 174)) B v y G.heap.size w.heap.size [O E 0,O E 0,O E 0,V Ax 0 0]:=
  ⟨M.grown (Z _ _ Ax),Aa.new _ _ _,ae.alloc _,Ω,Ω,Ψ ae.lt,λe=>by
   have h9:=M.aP.lt (λe9=>by have:=kL B7 e9;rw[GV,L.o]at this;simp at this;omega) _ e
   omega,λe=>Ψ (aH _ e),Ae af (Z _ _ Ax),Ω,af.size⟩
 rw[aa.o]at ag;have H0:=zh ag;clear ag ae af M aH g1 aU;go_wp2_with fail;refine(F8 H0.o.rr Ξ Γ).mono ?_;rintro e w2 ⟨v2,rfl,l,f,q⟩;have N:=zh (H0.o.bO l f q);clear l f q H0;have f0:=N.o.ci.v 0;have z:=N.o.ci.m 0;go_wp2_with fail;have H2:=zh (N.o.aR 0 (O E g));clear N f0 z;refine(F8 H2.o.rr Ξ Γ).mono ?_;rintro e w3 ⟨v3,rfl,l,f,q⟩;have H3:=zh (H2.o.bO l f q);clear l f q H2;go_wp2_with fail;refine(F8 H3.o.rr Ξ Γ).mono ?_;rintro e w4 ⟨v4,rfl,l,f,q⟩;have P:=zh (H3.o.bO l f q);clear l f q H3;have f1:=P.o.ci.v 1;have A:=P.o.ci.m 1;go_wp2_with fail;have H5:=zh (P.o.aR 1 (O E o));clear P f1 A;refine(F8 H5.o.rr Ξ Γ).mono ?_;rintro e w5 ⟨v5,rfl,l,f,q⟩;have Q:=zh (H5.o.bO l f q);clear l f q H5;have f2:=Q.o.ci.v 2;have C:=Q.o.ci.m 2;go_wp2_with fail;have H:=zh (Q.o.aR 2 (O E p));clear Q f2 C;refine(NP H.o.rr).mono ?_;rintro e w6 ⟨s,t,v6,rfl,o6,l,f,q⟩;have R:=zh (H.o.bO l f q);have aJ:=H.o.grown.size;have O6:=zh (BQ o6 aJ)
 have aL:(V s d.length t).ownBlock≠A2 G.heap.size:=λe=>by have:=(o6.lt _ e).1;have:=H.o.ci.lt;omega
 clear l f q H o6;have f3:=R.o.ci.v 3;have D:=R.o.ci.m 3;go_wp2_with fail;have u:=zh (R.o.aR 3 (V s d.length t));have I:=zh (O6.o.kept (An w6 ⟨G.heap.size,3,Ax⟩ (V s d.length t)) (D4 aL));clear R O6 f3 D aL aJ;simp only[ku,kM]at u;refine(ON _ _ _ _ _ u.o.rr).mono ?_;rintro e w7 ⟨rfl,rfl⟩;obtain⟨w7,aM⟩:=Ag (w6.setCell ⟨G.heap.size,3,Ax⟩ (V s d.length t));rw[aM]at u I⊢;clear aM;have z:=u.o.ci.m 0;have A:=u.o.ci.m 1;have C:=u.o.ci.m 2;have D:=u.o.ci.m 3;go_wp2_with fail
 rcases ab.o with⟨aN,aO⟩|⟨rfl,rfl,rfl⟩
 ·have a0:=zh aO;clear aO ab aa;refine(Ro n g o p d.length s t w7 K W aN k1 p1 hs X).mono ?_;rintro e S ⟨rfl,F⟩;have i:=zh (u.o.bq F);have T:=zh (AP I.o F);clear u I z A C D F;have z:=i.o.ci.m 0;have A:=i.o.ci.m 1;have C:=i.o.ci.m 2;have D:=i.o.ci.m 3;go_wp2_with fail;refine(Rn n g o p d s t S K W aN k1 p1 hs X (Ai.aj T.o)).mono ?_;rintro e w9 ⟨ba,bc,rfl,ob,g9⟩;have m:=zh (i.o.bq g9);have aQ:=zh (AP T.o g9);have aR:=Mo (n:=n) (kind:=g) (place:=o) (stamp:=p) K X;have ap:=Wy (BO n g o p d) ba a bc c w9;rw[aR]at ap;have a3:=zh (ap (Ai.aj ob) (by rw[<-a0.o];exact HR.o.grown m.o.grown (λb h=>by cases h)));clear i T z A C D g9 aR ap ob;have z:=m.o.ci.m 0;have A:=m.o.ci.m 1;have C:=m.o.ci.m 2;have D:=m.o.ci.m 3;have r0:=m.o.aS.m 0;have r1:=m.o.aS.m 1;have l:=m.o.aS.m 2;have r3:=m.o.aS.m 3;have q0:=m.o.aS.v 0;have q1:=m.o.aS.v 1;have q2:=m.o.aS.v 2;have q3:=m.o.aS.v 3;go_wp2_with fail;refine a3.o.mono ?_;rintro e Y ⟨rfl,rfl⟩;go_wp2_with fail;obtain⟨aq,J⟩:=Ag (((((w9.setCell ⟨w.heap.size,0,Ax⟩ (O E g)).setCell ⟨w.heap.size,1,Ax⟩ (O E o)).setCell ⟨w.heap.size,2,Ax⟩ (O E p)).setCell ⟨w.heap.size,3,Ax⟩ (V s d.length t)));have r:=(((m.o.aS.setCell 0 (O E g)).setCell 1 (O E o)).setCell 2 (O E p)).setCell 3 (V s d.length t)
  have U:Ac (λj=>j=w.heap.size) w9 aq:=by
   rw[<-J];exact(((Ac.of (An _ _ _) (λk e=>by cases e;rfl)).trans (Ac.of (An _ _ _) (λk e=>by cases e;rfl))).trans (Ac.of (An _ _ _) (λk e=>by cases e;rfl))).trans (Ac.of (An _ _ _) (λk e=>by cases e;rfl))
  rw[J]at r⊢;simp only[ku,kM]at r;have s0:=r.m 0;have s1:=r.m 1;have f:=r.m 2;have s3:=r.m 3;refine Bx (v:=BC #[B3 #[O E g,O E o,O E p,V s d.length t],O E 0]) (by simp[C8,D5,go_sem,s0,s1,f,s3]) rfl ?_;exact⟨⟨s,t,rfl,U.aL aQ.o (λb hb e=>by subst e;exact Bh m.o.aS aQ.o Ξ hb)⟩,Ac.grown m.o.grown U (λj e=>Ω)⟩
 ·clear ab aa;simp only[Int.natCast_zero]at*;refine(V6 n s d.length t w7 K W).mono ?_;rintro e S ⟨rfl,F⟩;have i:=zh (u.o.bq F);have T:=zh (AP I.o F);clear u I z A C D F;have r0:=i.o.aS.m 0;have r1:=i.o.aS.m 1;have l:=i.o.aS.m 2;have r3:=i.o.aS.m 3;have q0:=i.o.aS.v 0;have q1:=i.o.aS.v 1;have q2:=i.o.aS.v 2;have q3:=i.o.aS.v 3;go_wp2_with fail;obtain⟨aq,J⟩:=Ag (((((S.setCell ⟨w.heap.size,0,Ax⟩ (O E 0)).setCell ⟨w.heap.size,1,Ax⟩ (O E 0)).setCell ⟨w.heap.size,2,Ax⟩ (O E 0)).setCell ⟨w.heap.size,3,Ax⟩ (V Ax 0 0)));have r:=(((i.o.aS.setCell 0 (O E 0)).setCell 1 (O E 0)).setCell 2 (O E 0)).setCell 3 (V Ax 0 0)
  have U:Ac (λj=>j=w.heap.size) S aq:=by
   rw[<-J];exact(((Ac.of (An _ _ _) (λk e=>by cases e;rfl)).trans (Ac.of (An _ _ _) (λk e=>by cases e;rfl))).trans (Ac.of (An _ _ _) (λk e=>by cases e;rfl))).trans (Ac.of (An _ _ _) (λk e=>by cases e;rfl))
  rw[J]at r⊢;simp only[ku,kM]at r;have s0:=r.m 0;have s1:=r.m 1;have f:=r.m 2;have s3:=r.m 3;refine Bx (v:=BC #[B3 #[O E 0,O E 0,O E 0,V Ax 0 0],O E 5]) (by simp[C8,D5,go_sem,s0,s1,f,s3]) rfl ?_;exact⟨rfl,Ac.grown i.o.grown U (λj e=>Ω)⟩
theorem ZD(k:Nat):At 0 k=AJ k:=by
 apply pE
 ·rw[AI,Ei]
 ·intro i a b;simp[At,Cx,ID,AJ]
theorem Xn(a b:Nat):AJ (a+b)=AJ a++AJ b:=by unfold AJ;exact List.replicate_append_replicate.symm
theorem YG(n d f g:Nat)(b:List Nat)(a:Option D2)(c:Nat)(w:Bn)(j:96<=n)(o:n<=512)(p:1<=d)(q:d<=4)(k:b.length<=n - 19)(r:∀x∈b,x<256)(s:f<=2147483647)(t:g<=9223372036854775807)(u:Ai w 1 (V a n c) n (Ao (BO n d f g b))):
  BR A4 144 #[V a n c] w λe i=>(∃l m,e=Bd (BC #[B3 #[O E d,O E f,O E g,V l b.length m],O E 0])/\
   i.ownsRow w.heap.size 5 1 (V l b.length m) b.length (Ao b))/\w.grownBy i Ax:=by
 refine(QU n d f g b (AJ (n - 19 - b.length)++At (IB (FY n d f g b)).toNat 4) (BO n d f g b) a c w j o ?_ (Mo j k) (QF r) q k s t (CX ⟨p,rfl⟩) u).mono ?_
 ·unfold BO FY;simp only[ls]
 ·intro e i h;rw[j7 Ω]at h;exact h
theorem Xi(n:Nat)(a:Option D2)(c:Nat)(w:Bn)(d:96<=n)(f:n<=512)(g:Ai w 1 (V a n c) n (Ao (AJ n))):
  BR A4 144 #[V a n c] w λe b=>e=Bd (BC #[B3 #[O E 0,O E 0,O E 0,V Ax 0 0],O E 5])/\w.grownBy b Ax:=by
 refine(QU n 0 0 0 [] (AJ (n - 15)) (AJ n) a c w d f ?_ (Ei n) (Qn n) Ω Δ Ω Ω (D4 ⟨rfl,rfl,rfl⟩) g).mono ?_
 ·simp only[kP,ZD,kv, <-Xn]
  congr 1
  omega
 ·intro e b h;rw[ke rfl]at h;exact h
theorem MA(d s n q:Nat)(z:Int->List Nat)(i:Int)(l m o:Nat)(g:List Nat)(a:Option D2)(c:Nat)(w:Bn)(t:Ad)(h:AD w t d s n q z)(G:Aw w t)(hq:q<=1073741824)(i0:0<=i)(i1:i<s)
  (k0:1<=l)(k1:l<=4)(p1:m<=2147483647)(hs:o<=9223372036854775807)(H:g.length<=n - 19)(I:∀x∈g,x<256)(J:Ai w 1 (V a g.length c) g.length (Ao g)):
  BR A4 154 #[AA (A2 ⟨d,0,Ax⟩),O E i,B3 #[O E l,O E m,O E o,V a g.length c]] w λe A=>e=Bd (O E 0)/\
   ∃u,Ab (λj=>j=1) w t A u/\AD A u d s n (q+1) (Cu z i (BO n l m o g)):=by
 obtain⟨_,L,ay,M,h1,az⟩:=h.dM;have aA:=L.lt;clear L;have HR:=zh J;have HD:=zh h;have N:=zh G;have an:=zh I;clear J h G I
 go_enter Tryz.func154,Tryz.ntmps154
 go_wp2_with fail;obtain⟨r,v⟩:=Ag (w.alloc (BB #[O E l,O E m,O E o,V a g.length c] 174))
 have B:w.grownBy r Ax:=by rw[<-v];exact Z _ _ Ax
 have P:Aa r w.heap.size 174 [O E l,O E m,O E o,V a g.length c]:=by rw[<-v];exact Aa.new _ _ _
 rw[v];have Q:=zh B;have R:=zh P;have S:=zh (HD.o.grown B);clear v B P;refine FQ (λW=>Aa W w.heap.size 174 [O E l,O E m,O E o,V a g.length c]) [([2],[0],1,BA),([],[],3,A3),([],[4,5,6,7],8,A3)] Φ Φ ?_;obtain⟨T,C⟩:=Ag r.drew
 have y:r.grownBy T Ax:=by rw[<-C];exact AS r 1 Ax
 rw[C];have U:=zh (S.o.grown y);have X:=zh (R.o.grown y Δ);have D:=zh (Ae Q.o y);clear C y S R Q;refine Jr X.o ?_
 iterate 1 ((apply AB rfl Θ;(· intro Y f;(try have f:=f rfl);(try dsimp only at f);(try have c0:=f.m 0);(try have c1:=f.m 1);(try have c2:=f.m 2);(try have c3:=f.m 3);go_simp;(try with_reducible rfl)));refine Ak ?_)
 refine Aj ?_
 iterate 1 ((apply AB rfl Θ;(· intro Y f;(try have f:=f rfl);(try dsimp only at f);(try subst f);go_simp;(try with_reducible rfl)));refine Ak ?_)
 refine Aj ?_;refine Al ?_;intro K p;refine(Kr U.o).mono ?_;rintro e A ⟨rfl,rfl⟩;dsimp only;refine p _ _ ⟨_,λ_ h=>h,λ_=>X.o,?_⟩;clear p K;refine Ak ?_;refine Dh ?_;refine Aj ?_;refine Al ?_;intro K p;refine(Rn n l m o g a c T M h1 k0 k1 p1 hs H (HR.o.grown D.o (λb h=>by cases h))).mono ?_;rintro e w3 ⟨ba,bc,rfl,ob,F⟩;dsimp only;have ar:=zh (U.o.grown F);have OB:=zh ob;have G3:=zh (Ae D.o F);refine p _ _ ⟨_,λ_ h=>h,λhf=>(by cases hf),?_⟩;clear p K ob F;refine Ak ?_;refine Dh ?_
 iterate 4 ((apply AB rfl Θ;(· intro Y f;(try have f:=f rfl);(try dsimp only at f);(try subst f);go_simp;(try with_reducible rfl)));refine Ak ?_)
 refine Aj ?_;refine Al ?_;intro K p;refine As p ?_;clear p K;refine Fv (NoPanic.normal ?_);go_wp2_with fail;have aF:=G3.o.size;have aG:=D.o.size;refine(QW d s n q z i (BO n l m o g) ba bc w3 t ar.o (λk hk=>N.o k Ω) hq i0 i1 (Mo M H) (QF an.o) (Ai.aj OB.o) (λb hb=>by have:=(OB.o.lt b hb).1;omega)).mono ?_;rintro e w4 ⟨rfl,u,aw,ax⟩;go_wp2;go_ret;exact⟨rfl,u,(Ab.grown N.o G3.o).trans aw,ax⟩
theorem Sv(d H n q:Nat)(I:Int->List Nat)(i:Int)(a f l:Nat)(c:List Nat)(w:Bn)(B:Ad)(h:AD w B d H n q I)(J:Aw w B)(i0:0<=i)(i1:i<H)(K:I i=BO n a f l c)
  (k0:1<=a)(k1:a<=4)(p1:f<=2147483647)(hs:l<=9223372036854775807)(hm:c.length<=n - 19)(L:∀x∈c,x<256):
  BR A4 86 #[AA (A2 ⟨d,0,Ax⟩),O E i,O E a,O E f] w λe M=>(∃N P,e=Bd (BC #[B3 #[O E a,O E f,O E l,V N c.length P],O E 0])/\
   M.ownsRow w.heap.size 5 1 (V N c.length P) c.length (Ao c))/\w.grownBy M Ax:=by
 obtain⟨_,_,aH,h0,h1,aI⟩:=h.dM;have HD:=zh h;have am:=zh J;have an:=zh L;have ao:=zh K;have b1:((a:Int)!=(a:Int))=A3:=Δ;have b2:((f:Int)!=(f:Int))=A3:=Δ;clear h J L K
 go_enter D0,C9
 go_wp2_with fail;obtain⟨C,s⟩:=Ag (w.alloc (BB #[O E 0,O E 0,O E 0,V Ax 0 0] 174))
 have t:w.grownBy C Ax:=by rw[<-s];exact Z _ _ Ax
 have Q:Aa C w.heap.size 174 [O E 0,O E 0,O E 0,V Ax 0 0]:=by rw[<-s];exact Aa.new _ _ _
 rw[s];have G1:=zh t;have aq:=zh Q;have ar:=zh (HD.o.grown t);have au:Hd (Aw C B):=zh (λk hk=>am.o k (Ψ t.size));clear s t Q;have D:=So ar.o au.o i i0 i1;rw[ao.o]at D;refine D.mono ?_;clear D;rintro e w2 ⟨ra,rc,rfl,R,F⟩;have S:=zh R;have T:=zh (Ae G1.o F);have U:=zh (aq.o.grown F Δ);clear R F;go_wp2_with fail;refine(YG n a f l c ra rc w2 h0 h1 k0 k1 hm an.o p1 hs (Ai.aj S.o)).mono ?_;rintro e G ⟨⟨m,o,rfl,W⟩,u⟩;have ay:=T.o.size;have aM:=u.size;obtain⟨y,r⟩:=Ag (G.alloc (BB #[O E a,O E f,O E l,V m c.length o] 174))
 have z:G.grownBy y Ax:=by rw[<-r];exact Z _ _ Ax
 have X:Aa y G.heap.size 174 [O E a,O E f,O E l,V m c.length o]:=by rw[<-r];exact Aa.new _ _ _
 have Y:=zh (AP (BQ W ay) z);have G4:=zh (Ae (Ae T.o u) z);have g:=zh ((U.o.grown u Δ).grown z Δ);have A:=zh X;have aA:=zh r;clear W u z X r S U;have x0:=A.o.m 0;have x1:=A.o.m 1;have x2:=A.o.m 2;have x3:=A.o.m 3;have r0:=g.o.m 0;have r1:=g.o.m 1;have r2:=g.o.m 2;have r3:=g.o.m 3;have q0:=g.o.v 0;have q1:=g.o.v 1;have q2:=g.o.v 2;have q3:=g.o.v 3;have r:=aA.o;go_wp2_with fail;obtain⟨aB,aa⟩:=Ag (((((y.setCell ⟨w.heap.size,0,Ax⟩ (O E a)).setCell ⟨w.heap.size,1,Ax⟩ (O E f)).setCell ⟨w.heap.size,2,Ax⟩ (O E l)).setCell ⟨w.heap.size,3,Ax⟩ (V m c.length o)));have p:=(((g.o.setCell 0 (O E a)).setCell 1 (O E f)).setCell 2 (O E l)).setCell 3 (V m c.length o)
 have ht:Ac (λj=>j=w.heap.size) y aB:=by
  rw[<-aa];exact(((Ac.of (An _ _ _) (λk e=>by cases e;rfl)).trans (Ac.of (An _ _ _) (λk e=>by cases e;rfl))).trans (Ac.of (An _ _ _) (λk e=>by cases e;rfl))).trans (Ac.of (An _ _ _) (λk e=>by cases e;rfl))
 rw[aa]at p⊢;simp only[ku,kM]at p;have s0:=p.m 0;have s1:=p.m 1;have s2:=p.m 2;have s3:=p.m 3;refine Bx (v:=BC #[B3 #[O E a,O E f,O E l,V m c.length o],O E 0]) (by simp[C8,Tryz.f86,go_sem,s0,s1,s2,s3]) rfl ?_;exact⟨⟨m,o,rfl,ht.aL Y.o (λb hb e=>by subst e;exact Bh g.o Y.o Ξ hb)⟩,Ac.grown G4.o ht (λj e=>Ω)⟩
theorem Ou(d u n q:Nat)(x:Int->List Nat)(i J K:Int)(w:Bn)(g:Ad)(h:AD w g d u n q x)(y:Aw w g)(L:0<=i)(M:i<u)(z:x i=AJ n):
  BR A4 86 #[AA (A2 ⟨d,0,Ax⟩),O E i,O E J,O E K] w λe N=>e=Bd (BC #[B3 #[O E 0,O E 0,O E 0,V Ax 0 0],O E 5])/\w.grownBy N Ax:=by
 obtain⟨_,_,al,P,Q,am⟩:=h.dM;have R:=zh h;have S:=zh y;have T:=zh z;clear h y z
 go_enter D0,C9
 go_wp2_with fail;obtain⟨l,c⟩:=Ag (w.alloc (BB #[O E 0,O E 0,O E 0,V Ax 0 0] 174))
 have f:w.grownBy l Ax:=by rw[<-c];exact Z _ _ Ax
 have A:Aa l w.heap.size 174 [O E 0,O E 0,O E 0,V Ax 0 0]:=by rw[<-c];exact Aa.new _ _ _
 rw[c];have U:=zh f;have W:=zh A;have X:=zh (R.o.grown f);have Y:Hd (Aw l g):=zh (λk hk=>S.o k (Ψ f.size));clear c f A;have m:=So X.o Y.o i L M;rw[T.o]at m;refine m.mono ?_;clear m;rintro e w2 ⟨ra,rc,rfl,B,o⟩;have C:=zh B;have G2:=zh (Ae U.o o);have D:=zh (W.o.grown o Δ);clear B o;go_wp2_with fail;refine(Xi n ra rc w2 P Q (Ai.aj C.o)).mono ?_;rintro e F ⟨rfl,p⟩;obtain⟨r,s⟩:=Ag (F.alloc (BB #[O E 0,O E 0,O E 0,V Ax 0 0] 174))
 have t:F.grownBy r Ax:=by rw[<-s];exact Z _ _ Ax
 have G4:=zh (Ae (Ae G2.o p) t);have G:=zh ((D.o.grown p Δ).grown t Δ);have H:=zh s;clear p t s C D;have a:=G.o;rw[<-H.o]at a;have r0:=a.m 0;have r1:=a.m 1;have r2:=a.m 2;have r3:=a.m 3;have q0:=a.v 0;have q1:=a.v 1;have q2:=a.v 2;have q3:=a.v 3;clear a;go_wp2_with fail;rw[H.o];obtain⟨af,I⟩:=Ag (((((r.setCell ⟨w.heap.size,0,Ax⟩ (O E 0)).setCell ⟨w.heap.size,1,Ax⟩ (O E 0)).setCell ⟨w.heap.size,2,Ax⟩ (O E 0)).setCell ⟨w.heap.size,3,Ax⟩ (V Ax 0 0)));have b:=(((G.o.setCell 0 (O E 0)).setCell 1 (O E 0)).setCell 2 (O E 0)).setCell 3 (V Ax 0 0)
 have ht:Ac (λj=>j=w.heap.size) r af:=by
  rw[<-I];exact(((Ac.of (An _ _ _) (λk e=>by cases e;rfl)).trans (Ac.of (An _ _ _) (λk e=>by cases e;rfl))).trans (Ac.of (An _ _ _) (λk e=>by cases e;rfl))).trans (Ac.of (An _ _ _) (λk e=>by cases e;rfl))
 rw[I]at b⊢;simp only[ku,kM]at b;have s0:=b.m 0;have s1:=b.m 1;have s2:=b.m 2;have s3:=b.m 3;refine Bx (v:=BC #[B3 #[O E 0,O E 0,O E 0,V Ax 0 0],O E 5]) (by simp[C8,Tryz.f86,go_sem,s0,s1,s2,s3]) rfl ?_;exact⟨rfl,Ac.grown G4.o ht (λj e=>Ω)⟩
structure Pc where
 aN:Int
 st:Nat
 a:Option D2
 c:Nat
 ld:List Nat
 di:Bool
 fu:Bool
 ma:Bool
namespace Pc
def lv(p:Pc):BD:=V p.a p.ld.length p.c
def cells(p:Pc):List BD:=[O E p.aN,O E p.st,p.lv,Bk p.di,Bk p.fu,Bk p.ma]
def ad:Pc:=⟨0,0,Ax,0,[],A3,A3,A3⟩
end Pc
def Ct(a:List Pc):List BD:=a.flatMap Pc.cells
theorem IQ(a:List Pc):(Ct a).length=a.length*6:=Kk Pc.cells 6 (λ_=>rfl) a
theorem Ga(a:List Pc)(i j:Nat)(p:Pc)(h:a[i]?=A2 p)(b:j<6):(Ct a)[i*6+j]?=p.cells[j]?:=Eh Pc.cells 6 (λ_=>rfl) a i j p h b
theorem cV(a:List Pc)(i j:Nat)(p b:Pc)(v:BD)(h:a[i]?=A2 p)(c:j<6)(d:b.cells=p.cells.set j v):(Ct a).set (i*6+j) v=Ct (a.set i b):=by
 induction a generalizing i with
 |nil=>simp at h
 |cons x f e=>
  cases i with
  |zero=>
   simp at h;subst h;simp only[Ct,mh,ku,d];rw[show 0*6+j=j by omega,nM _ _ (by show j<(Pc.cells x).length;exact c)]
  |succ i=>
   simp only[Ct,mh,kM];rw[List.set_append_right _ _ (by show(Pc.cells x).length<=_;show 6<=_;omega),show(i+1)*6+j - (Pc.cells x).length=i*6+j by show(i+1)*6+j - 6=_;omega];exact kL _ (e i (by simpa using h))
abbrev Pg:=Nat×List Nat×Bool
def Pc.pg(p:Pc):Pg:=(p.st,p.ld,p.di)
def DS(a:Int->Option Nat)(k:Int):Option BD:=(a k).map (λi=>O E (i:Nat))
structure AU(w:Bn)(e:Ad)(c a q f g:Nat)(d:List Pc)(h:Nat)(j:Int->Option Nat):Prop where
 u:Aa w c 272 [V (A2 ⟨f,0,Ax⟩) a a,.map (A2 g),O E h]
 aB:Aa w f 326 (Ct d)
 map:MF w A4 3 g q (DS j)
 aF:d.length=a
 r0:1<=a
 r1:a<=4096
 gD:h<a
 cj:∀k i,j k=A2 i↔ ∃p,d[i]?=A2 p/\p.fu=BA/\p.aN=k
 cR:∀p∈d,Ai w 1 p.lv p.ld.length (Ao p.ld)/\(∀b,p.lv.ownBlock=A2 b->e b=0/\b<w.heap.size)/\(∀x∈p.ld,x<256)
 ev:∀p∈d,0<=p.aN/\p.aN<=65535
 c0:e c=2
 c1:e f=2
 c2:e g=2
def By(a:List Pc)(b:Int->Option Nat)(k:Int):Option Pg:=(b k).bind (λi=>a[i]?.map Pc.pg)
def DR(w:Bn)(d:Ad)(c e q:Nat)(f:Int->Option Pg):Prop:=∃g h a i b,AU w d c e q g h a i b/\∀k,f k=By a b k
theorem AU.am{col':Ad}{r:List Pc}{S:Nat->Prop}(d:AU J a Y c e f g r i h)(l:Ac S J k)(n:∀j,a j=2\/a j=0->¬S j)(o:∀j,j<J.heap.size->col' j=a j):AU k col' Y c e f g r i h:=
 {d with
  u:=l.u d.u (n _ (CX d.c0))
  aB:=l.u d.aB (n _ (CX d.c1))
  map:=d.map.ak l (n _ (CX d.c2))
  cR:=λp s=>let⟨t,q,v⟩:=d.cR p s;⟨l.aP t (λb m=>n _ (D4 (q b m).1)),λb m=>⟨by rw[o b (q b m).2];exact(q b m).1,jY (q b m).2 l.size⟩,v⟩
  c0:=by rw[o _ d.u.lt];exact d.c0
  c1:=by rw[o _ d.aB.lt];exact d.c1
  c2:=by rw[o _ d.map.lt];exact d.c2}
theorem DR.am{d:Ad}{f:Int->Option Pg}{S:Nat->Prop}(h:DR J a Y c e f)(g:Ac S J k)(i:∀b,a b=2\/a b=0->¬S b)(j:∀b,b<J.heap.size->d b=a b):DR k d Y c e f:=
 let⟨l,m,n,o,p,q,r⟩:=h
 ⟨l,m,n,o,p,q.am g i j,r⟩
theorem AU.grown{d:List Pc}(b:AU J a Y c e f g d i h)(j:J.grownBy k Ax):AU k a Y c e f g d i h:=
 b.am (Ac.au (S:=λ_=>False) j) (λ_ _ b=>b) (λ_ _=>rfl)
theorem AU.mono{b:List Pc}(d:AU J a Y c e g i b p h)(j:e<=f):AU J a Y c f g i b p h:={d with map:=d.map.mono j}
theorem DR.mono{b:Int->Option Pg}(h:DR J a Y c e b)(d:e<=f):DR J a Y c f b:=
 let⟨g,i,j,k,l,m,n⟩:=h
 ⟨g,i,j,k,l,m.mono d,n⟩
theorem AU.at{b:List Pc}{l:Nat}(m:AU J a c e f Y g b l h){i:Nat}{p:Pc}(n:b[i]?=A2 p){j:Nat}(k:p.cells[j]?=A2 d):J.cell? ⟨Y,i*6+j,Ax⟩=A2 d:=by
 have o:j<6:=(jX.1 k).1;exact m.aB.aq (by rw[Ga b i j p n o];exact k)
def EV(a:Nat)(b:Int->Option Nat)(k:Int):BD:=match b k with|none=>AA Ax|some i=>AA (A2 ⟨a,i*6,Ax⟩)
theorem Hj(a:0<=l)(b:l<=65535):(Lit.int E l).wf=BA:=WalkArith.wf_i64 Ω
theorem Ku{m:List Pc}{n:Nat}(b:AU J a Y c f e g m n h)(k:Int)(o:0<=k)(q:k<=65535):
  BR A4 212 #[AA (A2 ⟨Y,0,Ax⟩),O E k] J λr s=>r=Bd (EV e h k)/\J=s:=by
 have H:=zh b;have v:=b.u.m 0;have w:=b.u.m 1;have j:=b.map.gv (e:=3) (t:=115) kr lS (z:=O E 0) (w:=J) rfl k (Hj o q);have x:=zh j;clear b
 cases d:h k with
 |none=>
  have l:DS h k=Ax:=by rw[DS,d];rfl
  rw[l]at j
  go_enter DV,C6
  go_wp2;go_ret;exact⟨by simp[EV,d],rfl⟩
 |some i=>
  have l:DS h k=A2 (O E i):=by rw[DS,d];rfl
  rw[l]at j;obtain⟨p,u,_,_⟩:=(H.o.cj k i).1 d
  have y:i<c:=by rw[<-H.o.aF];exact(jX.1 u).1
  have A:=H.o.r1
  go_enter DV,C6
  go_wp2;go_ret;exact⟨by simp[EV,d],rfl⟩
def Pc.e3(p:Pc):BD:=B3 #[O E p.st,p.lv,Bk p.di]
def CP(a:List Pc)(b:Int->Option Nat)(k:Int):Option Pc:=(b k).bind (λi=>a[i]?)
def Ge(o:Option Pc):BD:=match o with|none=>BC #[Pc.ad.e3,Bk A3]|some p=>BC #[p.e3,Bk BA]
theorem Mj{n:List Pc}{I:Nat}(x:AU J a c e f Y g n I h)(k:Int)(y:0<=k)(z:k<=65535):
  BR A4 211 #[AA (A2 ⟨c,0,Ax⟩),O E k] J λb K=>b=Bd (Ge (CP n h k))/\J.grownBy K Ax:=by
 have H:=zh x;clear x
 cases l:h k with
 |none=>
  have o:Ge (CP n h k)=BC #[B3 #[O E 0,V Ax 0 0,Bk A3],Bk A3]:=by rw[CP,l];rfl
  have s:EV Y h k=AA Ax:=by rw[EV,l]
  rw[o]
  go_enter DX,C7
  go_wp2_with fail;refine(Ku (H.o.grown (Z J _ Ax)) k y z).mono ?_;rintro b m ⟨rfl,rfl⟩;rw[s];go_wp2;exact Bx (DH (p:=4) (ty:=198) rfl _ _ J.heap.size _ _ _ _ rfl ((Aa.new J 198 [O E 0,V Ax 0 0,Bk A3]).alloc _) mF rfl rfl) rfl ⟨rfl,Ae (Z _ _ Ax) (Z _ _ Ax)⟩
 |some i=>
  obtain⟨p,t,L,M⟩:=(H.o.cj k i).1 l
  have o:Ge (CP n h k)=BC #[p.e3,Bk BA]:=by simp[CP,l,t,Ge]
  have s:EV Y h k=AA (A2 ⟨Y,i*6,Ax⟩):=by rw[EV,l]
  rw[o];obtain⟨T,A,B,C,D,F,U,W⟩:=p;simp only[Pc.e3,Pc.lv]at*;have u:=zh t;clear t L M l o
  go_enter DX,C7
  go_wp2_with fail;refine(Ku (H.o.grown (Z J _ Ax)) k y z).mono ?_;rintro b m ⟨rfl,rfl⟩;rw[s];obtain⟨m,q⟩:=Ag (J.alloc (BB #[O E 0,V Ax 0 0,Bk A3] 198))
  have d:Aa m J.heap.size 198 [O E 0,V Ax 0 0,Bk A3]:=by rw[<-q];exact Aa.new _ _ _
  have v:J.grownBy m Ax:=by rw[<-q];exact Z _ _ Ax
  have r:=H.o.grown v;have X:=r.at u.o (j:=1) rfl;have N:=r.at u.o (j:=2) rfl;have x3:=r.at u.o (j:=3) rfl;simp only[Pc.lv]at N;rw[q];have y0:=d.m 0;have y1:=d.m 1;have y2:=d.m 2;have f0:=d.v 0;have f1:=d.v 1;have f2:=d.v 2;have P:=zh d;have Q:=zh v;clear q d v r;go_wp2_with fail;obtain⟨G,w⟩:=Ag ((((m.setCell ⟨J.heap.size,0,Ax⟩ (O E A)).setCell ⟨J.heap.size,1,Ax⟩ (V B D.length C)).setCell ⟨J.heap.size,2,Ax⟩ (Bk F)))
  have R:Aa G J.heap.size 198 [O E A,V B D.length C,Bk F]:=by rw[<-w];exact((P.o.setCell 0 _).setCell 1 _).setCell 2 _
  have S:Ac (λk=>k=J.heap.size) m G:=by rw[<-w];exact((Ac.of (An _ _ _) (λk b=>by cases b;rfl)).trans (Ac.of (An _ _ _) (λk b=>by cases b;rfl))).trans (Ac.of (An _ _ _) (λk b=>by cases b;rfl))
  rw[w];exact Bx (DH (p:=4) (ty:=198) rfl _ _ J.heap.size _ _ _ _ rfl R mF rfl rfl) rfl ⟨rfl,Ac.grown Q.o S (λj b=>b▸jS _)⟩
theorem AU.aR{w':Bn}{s:List Pc}{y:Nat}(d:AU J a c e f Y g s y h){i:Nat}{p:Pc}(t:s[i]?=A2 p)(m:Pc)(z:m.fu=p.fu)(w:m.aN=p.aN)
  (A:Ai J 1 m.lv m.ld.length (Ao m.ld)/\(∀b,m.lv.ownBlock=A2 b->a b=0/\b<J.heap.size)/\(∀x∈m.ld,x<256))
  (q:Aa w' Y 326 (Ct (s.set i m)))(v:Ac (λk=>k=Y) J w'):AU w' a c e f Y g (s.set i m) y h:=by
 have B:=(jX.1 t).1;have C:=d.c1
 have D:∀p∈s.set i m,Ai J 1 p.lv p.ld.length (Ao p.ld)/\(∀b,p.lv.ownBlock=A2 b->a b=0/\b<J.heap.size)/\(∀x∈p.ld,x<256):=by
  intro x l
  rcases lZ l with l|rfl
  ·exact d.cR x l
  ·exact A
 refine{d with u:=v.u d.u (λr=>?_),aB:=q,map:=d.map.ak v (d.map.b6 d.aB),aF:=by rw[lm];exact d.aF,cj:=λk j=>?_,cR:=λx l=>?_,ev:=λx l=>?_,c0:=d.c0,c1:=d.c1,c2:=d.c2}
 ·have o:=d.u;rw[r]at o;have n:=d.aB;unfold Aa at o n;rw[o]at n;simp at n
 ·rw[d.cj k j]
  by_cases r:i=j
  ·subst r;rw[kZ B]
   constructor
   ·rintro⟨x,l,o,n⟩;rw[t]at l
    cases l
    exact⟨m,rfl,z.trans o,w.trans n⟩
   ·rintro⟨x,l,o,n⟩
    cases l
    exact⟨p,t,z.symm.trans o,w.symm.trans n⟩
  ·rw[j9 r]
 ·obtain⟨o,n,E⟩:=D x l;exact⟨v.aP o (λb q r=>by have:=(n b q).1;rw[r,C]at this;cases this),λb q=>⟨(n b q).1,jY (n b q).2 v.size⟩,E⟩
 ·rcases lZ l with l|rfl
  ·exact d.ev x l
  ·rw[w];exact d.ev p (kX t)
theorem AU.hm{l:List Pc}{m:Nat}(n:AU J a c e f Y g l m h){i:Nat}{p:Pc}(o:l[i]?=A2 p)(d:Pc)(j:Nat)(v:BD)(q:j<6)(r:d.cells=p.cells.set j v)(s:d.fu=p.fu)(t:d.aN=p.aN)
  (u:Ai J 1 d.lv d.ld.length (Ao d.ld)/\(∀b,d.lv.ownBlock=A2 b->a b=0/\b<J.heap.size)/\(∀x∈d.ld,x<256)):AU (J.setCell ⟨Y,i*6+j,Ax⟩ v) a c e f Y g (l.set i d) m h:=
 n.aR o d s t u (by rw[<-cV l i j p d v o q r];exact n.aB.setCell _ _) (Ac.of (An _ _ _) (λk w=>by cases w;rfl))
def GJ(a:List Pc)(b:Int->Option Nat)(k:Int):List Pc:=match b k with|none=>a|some i=>match a[i]? with|none=>a|some p=>a.set i {p with ma:=BA}
theorem NS{a:List Pc}{i:Nat}{p:Pc}(b:h l=A2 i)(c:a[i]?=A2 p):GJ a h l=a.set i {p with ma:=BA}:=by
 simp only[GJ,b,c]
theorem YX(a:List Pc)(b:Int->Option Nat)(i:Nat)(p c:Pc)(d:a[i]?=A2 p)(f:c.pg=p.pg)(l:Int):By (a.set i c) b l=By a b l:=by
 unfold By
 cases g:b l with
 |none=>rfl
 |some j=>
  simp only[oH]
  by_cases e:i=j
  ·subst e;rw[kZ (jX.1 d).1,d];simp[f]
  ·rw[j9 e]
theorem Y9(b:List Pc)(a:Int->Option Nat)(k l:Int):By (GJ b a k) a l=By b a l:=by
 cases c:a k with
 |none=>simp only[GJ,c]
 |some i=>
  cases d:b[i]? with
  |none=>simp only[GJ,c,d]
  |some p=>
   rw[NS c d];exact YX b a i p {p with ma:=BA} d rfl l
theorem ZH{d:List Pc}{I:Nat}(s:AU J a c e f Y g d I h)(aj:Aw J a)(k:Int)(w:0<=k)(x:k<=65535):
  BR A4 255 #[AA (A2 ⟨c,0,Ax⟩),O E k] J λb X=>b=Bd (Ge (CP d h k))/\∃aa,Ab (Sc (· =2) 101) J a X aa/\AU X aa c e f Y g (GJ d h k) I h:=by
 have H:=zh s;have K:Sc (· =2) 101 100:=Sc.hN Ω Ω;obtain⟨r,y⟩:=Ag (J.alloc (BB #[O E 0,V Ax 0 0,Bk A3] 198))
 have L:J.grownBy r Ax:=by rw[<-y];exact Z _ _ Ax
 have M:Aa r J.heap.size 198 [O E 0,V Ax 0 0,Bk A3]:=by rw[<-y];exact Aa.new _ _ _
 obtain⟨N,P⟩:=Ag (AL a J.heap.size 100)
 have z:N J.heap.size=100:=by rw[<-P];exact AY _ _ _
 have Q:Ab (Sc (· =2) 101) J a r N:=by rw[<-P];exact Cc aj L (jS _) M.lt K
 have n:AU r N c e f Y g d I h:=s.am (Ac.au (S:=λ_=>False) L) (λ_ _ s=>s) Q.ah;have t:=zh n;have A:=zh Q;have B1:=zh M;have ac:=zh y;clear s P Q M y L n
 cases o:h k with
 |none=>
  have B:Ge (CP d h k)=BC #[B3 #[O E 0,V Ax 0 0,Bk A3],Bk A3]:=by rw[CP,o];rfl
  have R:EV Y h k=AA Ax:=by rw[EV,o]
  have u:GJ d h k=d:=by rw[GJ,o]
  rw[u,B]
  go_enter DA,C5
  go_wp2_with fail;rw[ac.o];refine(Ku t.o k w x).mono ?_;rintro b r ⟨rfl,rfl⟩;rw[R];go_wp2_with fail;refine(Mj t.o k w x).mono ?_;rintro b w2 ⟨rfl,D⟩;rw[B];have l:=B1.o.grown D Δ;have F:=zh (t.o.grown D);have v:=zh (A.o.trans (Ab.grown A.o.new D));have y0:=l.m 0;have y1:=l.m 1;have y2:=l.m 2;have f0:=l.v 0;have f1:=l.v 1;have f2:=l.v 2;have T:=zh l;clear l D;go_wp2_with fail;obtain⟨w3,ar,m,ad⟩:=Br T.o (O E 0) (V Ax 0 0) (Bk A3);rw[ar];refine Bx (DH (p:=4) (ty:=198) rfl _ _ J.heap.size _ _ _ _ rfl m mF rfl rfl) rfl ⟨rfl,_,v.o.trans (AG v.o.new ad (λk b=>by subst b;rw[z];exact K)),F.o.am ad (λj U b=>?_) (λ_ _=>rfl)⟩;subst b;rw[z]at U;omega
 |some i=>
  obtain⟨p,q,aC,aD⟩:=(H.o.cj k i).1 o
  have R:EV Y h k=AA (A2 ⟨Y,i*6,Ax⟩):=by rw[EV,o]
  have u:=NS o q
  have ae:CP d h k=A2 p:=by rw[CP,o];exact q
  have af:CP (GJ d h k) h k=A2 {p with ma:=BA}:=by rw[CP,o,u];exact kZ (jX.1 q).1
  have B:Ge (CP d h k)=BC #[B3 #[O E p.st,V p.a p.ld.length p.c,Bk p.di],Bk BA]:=by rw[ae];rfl
  have au:Ge (CP (GJ d h k) h k)=BC #[B3 #[O E p.st,V p.a p.ld.length p.c,Bk p.di],Bk BA]:=by rw[af];rfl
  rw[B];have n:=t.o;have x5:=n.at q (j:=5) rfl;have z5:=n.aB.v (i*6+5);have W:=n.hm q {p with ma:=BA} 5 (Bk BA) Ω rfl rfl rfl (n.cR p (kX q));rw[<-u]at W;have l:=B1.o.eH (p:=⟨Y,i*6+5,Ax⟩) (Nat.ne_of_gt H.o.aB.lt) (Bk BA);have ag:=A.o.trans (Ab.of (C:=Sc (· =2) 101) A.o.new (An r ⟨Y,i*6+5,Ax⟩ (Bk BA)) (λk b=>by cases b;exact CX n.c1));have F:=zh W;have T:=zh l;have v:=zh ag;have HP:=zh q;clear n W l ag u q ae af
  go_enter DA,C5
  go_wp2_with fail;rw[ac.o];refine(Ku t.o k w x).mono ?_;rintro b r ⟨rfl,rfl⟩;rw[R];go_wp2_with fail;refine(Mj F.o k w x).mono ?_;rintro b w3 ⟨rfl,G⟩;rw[au];have m:=T.o.grown G Δ;have H3:=zh (F.o.grown G);have S3:=zh (v.o.trans (Ab.grown v.o.new G));have y0:=m.m 0;have y1:=m.m 1;have y2:=m.m 2;have f0:=m.v 0;have f1:=m.v 1;have f2:=m.v 2;have ay:=zh m;clear m G x5 z5;go_wp2_with fail;obtain⟨w4,az,aA,ai⟩:=Br ay.o (O E p.st) (V p.a p.ld.length p.c) (Bk p.di);rw[az];refine Bx (DH (p:=4) (ty:=198) rfl _ _ J.heap.size _ _ _ _ rfl aA mF rfl rfl) rfl ⟨rfl,_,S3.o.trans (AG S3.o.new ai (λk b=>by subst b;rw[z];exact K)),H3.o.am ai (λj U b=>?_) (λ_ _=>rfl)⟩;subst b;rw[z]at U;omega
end
section
open Go.RowKit Go.Shelf
attribute [local go_sem] Oper.semAt_some
def Bm(a:List Pc)(j:Nat):Pc:=a.getD j Pc.ad
theorem Tm(a:List Pc)(j:Nat)(h:j<a.length):a[j]?=A2 (Bm a j):=by simp[Bm,List.getD,h]
abbrev Nl(a:List Pc)(j:Fin a.length):Array BD:=#[O E j.val,B3 #[O E (Bm a j).aN,O E ((Bm a j).st:Nat),V (Bm a j).a (Bm a j).ld.length (Bm a j).c,Bk (Bm a j).di,Bk (Bm a j).fu,Bk (Bm a j).ma]]
def fl(a:List Pc)(k:Nat):List (Fin a.length):=(Cd a.length k).filter (λj=>(Bm a j).fu)
theorem TF(a:List Pc)(k:Nat)(h:k<a.length):fl a (k+1)=fl a k++(if(Bm a k).fu then[⟨k,h⟩]else[]):=by
 unfold fl;rw[NR _ _ h,qa]
 congr 1
 simp[C1]
 split<;>simp_all
theorem MT(a:List Pc)(k:Nat)(h:k<=a.length):(fl a k).length<=k:=by
 have:=pA (λj:Fin a.length=>(Bm a j).fu) (Cd a.length k);rw[Kq _ _ h]at this;exact this
theorem Rh(c:Nat)(w:Bn):
  BR A4 251 #[AA (A2 ⟨c,0,Ax⟩)] w λe a=>e=Bd (.func (.func 278) #[] #[AA (A2 ⟨w.heap.size,0,Ax⟩)])/\a=w.alloc (BB #[AA (A2 ⟨c,0,Ax⟩)] 194):=by
 go_enter Tryz.func251,Tryz.ntmps251
 go_wp2;go_ret;exact⟨rfl,rfl⟩
theorem dP(n l s g x:Nat)(hn:1<=n)(b:List Pc)(c r:Nat)(J H:List (Fin b.length)->Bn->Prop)
  (hJ:∀d A B,J d A->A.grownBy B Ax->J d B)
  (hY:∀d u W,J d W->d.length<b.length->YieldAt B6 (n - 1) A4 l (Nl b u) W λe m=>
   (e=Bd (Bk BA)/\J (d++[u]) m/\Bw g x W m)\/(e=Bd (Bk A3)/\H (d++[u]) m))
  (W:Bn)(I:W.cell? ⟨s,0,Ax⟩=A2 (AA (A2 ⟨c,0,Ax⟩)))(t:s<g/\s≠x)(aF:g<=s+1)(aG:g<=W.heap.size)(K:W.cell? ⟨c,0,Ax⟩=A2 (V (A2 ⟨r,0,Ax⟩) b.length b.length))(_:c<g/\c≠x)(L:Aa W r 326 (Ct b))(M:r<g/\r≠x)(hm:b.length<=4096)(h0:J [] W):
  CallsIn B6 n A4 278 #[.func (.yield l) #[] #[],AA (A2 ⟨s,0,Ax⟩)] W λe m=>(∃v,e=Bd v)/\
   ((∃N,N=fl b b.length/\J N m)\/(∃d,(∃k,k<=b.length/\d=fl b k)/\H d m)):=by
 have HC:=zh K;have P:=zh I;have ai:=zh L;clear K I L;refine callsIn_of_wp CR rfl kI ?_ rfl;simp only[Tryz.ntmps278,kR,kj,kP,CB,CA,kF,kG,kU,kJ,kv,kO];have Q:=P.o;have c0:=HC.o
 gi_wp2
 gi_loopw [10] (λi wr=>∃k:Nat,k<=b.length/\i=O E (k:Nat)/\J (fl b k) wr/\Bw g x W wr) (λi _=>((b.length:Int) - (intOf i)).toNat)
 case atStart=>exact⟨0,kN _,Δ,h0,Bw.refl _ _ _⟩
 case round=>
  obtain⟨k,hk,rfl,w,o⟩:=hrel;clear Q c0
  by_cases q:k<b.length
  ·have R:=ai.o.fK o M.1 M.2;have al:=zh o;have Q:wr.cell? ⟨s,0,Ax⟩=A2 (AA (A2 ⟨c,0,Ax⟩)):=(o.aq (p:=⟨s,0,Ax⟩) t.1 t.2).trans P.o;have S:=Tm b k q;have T:=TF b k q
   have h:=λ(j:Nat) (v:BD) (U:(Bm b k).cells[j]?=A2 v)=>R.aq (j:=k*6+j) (by rw[Ga b k j _ S (by exact(jX.1 U).1)];exact U)
   have x0:=h 0 _ rfl;have x1:=h 1 _ rfl;have x2:=h 2 _ rfl;have x3:=h 3 _ rfl;have x4:=h 4 _ rfl;have x5:=h 5 _ rfl;simp only[lD]at x0;simp only[Pc.lv]at x2;have X:=hY (fl b k) ⟨k,q⟩;have Y:=zh X;have y:=zh T;have ao:=zh w;have ap:=zh (MT b k hk)
   have aq:g<=wr.heap.size:=by
    have h9:=o s t.1 t.2;rw[lO (show s<W.heap.size by omega)]at h9;have h8:=(kf.1 h9).1;omega
   have ar:Bs ((k:Int)<b.length)=BA:=jT Ω;have aO:Bs (k<b.length)=BA:=jT q;have aP:wrap64 ((k:Int)+1)=(k:Int)+1:=B2 _ Ω;clear R h S T X w o;dsimp only[Nl]at Y;generalize Bm b k=x at*;obtain⟨au,st,a,cc,ld,di,fu,ma⟩:=x;dsimp only at*;obtain⟨w5,z⟩:=Ag (wr.alloc (BB #[O E au,O E st,V a ld.length cc,Bk di,Bk fu,Bk ma] 326))
   have C:wr.grownBy w5 Ax:=by rw[<-z];exact Z _ _ Ax
   have D:=zh (hJ _ _ _ ao.o C);have F:=zh (al.o.trans (LB ((Ft C).mono aq)));have G:=zh z;clear z C
   cases fu with
   |true=>
    obtain⟨fn,aR,aS,aT,hy,ad⟩:=Y.o w5 D.o (mm ap.o q);rw[<-G.o]at hy ad
    gi_wp2
    refine ad.mono ?_;rintro e W4 (⟨rfl,aB,aC⟩|⟨rfl,aD⟩)
    ·gi_wp2
     go_roundw
     case rel=>exact⟨k+1,Ω,by push_cast;rfl,by rw[y.o];exact aB,F.o.trans (by rw[<-G.o];exact aC)⟩
     case measure=>first|(simp[intOf];done)|(simp[intOf];omega)
    ·gi_wp2
     refine Bx (results_none rfl _ _ _) rfl ?_;exact⟨⟨_,rfl⟩,D4 ⟨_,⟨k+1,Ω,y.o.symm⟩,aD⟩⟩
   |false=>
    rw[<-G.o]at D F
    gi_wp2
    refine⟨(λf e=>by cases e),?_⟩
    gi_wp2
    go_roundw
    case rel=>exact⟨k+1,Ω,by push_cast;rfl,by rw[y.o];simpa using D.o,F.o⟩
    case measure=>first|(simp[intOf];done)|(simp[intOf];omega)
  ·obtain rfl:k=b.length:=by omega
   have ar:Bs ((b.length:Int)<b.length)=A3:=jV Ω
   gi_wp2
   go_end0
   exact⟨⟨_,rfl⟩,CX ⟨_,rfl,w⟩⟩
theorem Qs(n s b x:Nat)(h:1<=n)(a:List Pc)(c d:Nat)(w:Bn)(i:s<b/\s≠x)(j:b<=s+1)(m:b<=w.heap.size)(o:w.cell? ⟨s,0,Ax⟩=A2 (AA (A2 ⟨c,0,Ax⟩)))(q:w.cell? ⟨c,0,Ax⟩=A2 (V (A2 ⟨d,0,Ax⟩) a.length a.length))(t:c<b/\c≠x)(u:Aa w d 326 (Ct a))(v:d<b/\d≠x)(y:a.length<=4096):
  SeqStopsK B6 n A4 278 #[AA (A2 ⟨s,0,Ax⟩)] (Nl a) (Bw b x) (λz=>z=fl a a.length) (λg=>∃k,k<=a.length/\g=fl a k) a.length w:=λl J C W f D _ E F=>
 dP n l s b x h a c d J C (λg A B G H=>D g A B Ax G H (λr e=>by cases e)) E W ((f.cell (p:=⟨s,0,Ax⟩) (by show s<w.heap.size;omega)).trans o) i j (j8 m f.size) ((f.cell (p:=⟨c,0,Ax⟩) (by show c<w.heap.size;omega)).trans q) t (u.below f Ω) v y F
theorem Th:(A4.info? 3).map (λi=>(i.zero,i.size,i.bytes))=A2 (A2 (O E 0),1,8):=Φ
def GL(a:List Pc)(b:List (Fin a.length)):List Int:=b.map (λj=>(Bm a j.val).aN)
theorem ZQ{b:List Pc}(j:AU J a c f Y e g b i h):
  BR A4 210 #[AA (A2 ⟨c,0,Ax⟩)] J λu y=>∃v,u=Bd v/\y.ownsRow J.heap.size 3 1 v (fl b b.length).length ((GL b (fl b b.length)).map (O E))/\J.grownBy y Ax:=by
 obtain⟨G,H,I,L,M⟩:=info_parts Th;have N:=j.aF;subst N;have P:=j.r1;have Q:=zh j;have R:Hd (c<J.heap.size):=zh j.u.lt;have S:Hd (e<J.heap.size):=zh j.aB.lt;clear j;have z:B6.round=Ax:=rfl;refine(B5 (n:=20)).1 ?_;refine B9 Tryz.func210 rfl kI ?_ z;simp only[Tryz.ntmps210,kR,kj,kP,CB,CA,kF,kG,kU,kJ,kv,kO]
 gi_wp2_with (refine⟨kI,?_⟩;gi_at_call 251;refine(B5.2 (Rh _ _)).mono ?_;rintro u w' ⟨rfl,rfl⟩)
 obtain⟨k,o⟩:=Ag ((J.alloc (BB #[V Ax 0 0] 145)).alloc (BB #[AA (A2 ⟨c,0,Ax⟩)] 194))
 have A:Below J.heap.size J k:=by rw[<-o];exact((BL _ J).alloc (jS _) _).alloc Δ _
 have hz:k.heap.size=J.heap.size+2:=by rw[<-o];simp
 have T:D1 k J.heap.size 145 (V Ax 0 0):=by rw[<-o];exact(Boxed.new J _ _).alloc _
 have U:k.cell? ⟨J.heap.size+1,0,Ax⟩=A2 (AA (A2 ⟨c,0,Ax⟩)):=by
  rw[<-o];have j:=Boxed.new (J.alloc (BB #[V Ax 0 0] 145)) 194 (AA (A2 ⟨c,0,Ax⟩));rw[C0]at j;exact j.cell
 rw[o];clear o;have B:=Q.o.grown (Ff A)
 refine wpIn_rangeFunc_ownH z Ω (gf:=278) (lb:=#[AA (A2 ⟨J.heap.size+1,0,Ax⟩)]) rfl kI (enters_of CR Φ rfl)
  (Qs 19 (J.heap.size+1) k.heap.size J.heap.size Ω b c e k Ω Ω (jS _) U (B.u.m 0) (Ψ R.o) B.aB (Ψ S.o) P)
  Bw.trans (Bw.eL (jS _)) (BL _ _) (λ_=>rfl)
  (λ(d:List (Fin b.length)) W=>(∃v,D1 W J.heap.size 145 v/\W.ownsRow k.heap.size 3 1 v d.length ((GL b d).map (O E))/\True)/\Below J.heap.size k W)
  (λ_ _ _=>False)
  (B8 (Own.from (holdsRow_own k.heap.size J.heap.size 145 3 1 (λd:List (Fin b.length)=>d.length) (λd:List (Fin b.length)=>(GL b d).map (O E)) (λ_ _=>True)) _) (CE Ω Ω))
  (λ_ _ _ _ _ w _ _=>w)
  ⟨⟨_,T,World.ownsRow_nil _ _ _ _,kI⟩,BL _ _⟩
  (λY x W=>∃p,Aa W p 326 (Bm b Y.val).cells/\x={tmps:=#[AA (A2 ⟨c,0,Ax⟩),C4,V Ax 0 0,AA (A2 ⟨J.heap.size,0,Ax⟩),C4,AA (A2 ⟨p,0,Ax⟩),AA (A2 ⟨c,0,Ax⟩),Bk A3,AA (A2 ⟨c,0,Ax⟩),.func (.func 278) #[] #[AA (A2 ⟨J.heap.size+1,0,Ax⟩)],O E (Y.val:Nat),B3 #[O E (Bm b Y.val).aN,O E ((Bm b Y.val).st:Nat),V (Bm b Y.val).a (Bm b Y.val).ld.length (Bm b Y.val).c,Bk (Bm b Y.val).di,Bk (Bm b Y.val).fu,Bk (Bm b Y.val).ma],C4,C4,C4,C4,C4,C4],defers:=[]})
  (λY x _ X aq ar w Z hr=>by
   obtain⟨p,h8,h7⟩:=w
   exact⟨p,Ti h8 Z (λr u=>(hr r u).2),h7⟩)
  ?assign ?body ?done ?stop
 case assign=>
  rintro l d Y W K ⟨⟨v,q,s,_⟩,m⟩ t;have au:=m.size;dsimp only[Nl]
  gi_wp2
  exact t _ _ ((KeepsOthers.alloc _ _).from _) (LB ((BL _ W).alloc Ω _)) ⟨⟨v,q.alloc _,s.alloc _,kI⟩,m.alloc Ω _⟩ ⟨W.heap.size,Aa.new W _ _,rfl⟩
 case body=>
  rintro l d Y x W hl hP ⟨⟨v,q,s,_⟩,m⟩ ⟨p,k8,rfl⟩ ax;have hc:=q.cell;have af:=m.size;have u0:W.cell? ⟨p,0,Ax⟩=A2 (O E (Bm b Y.val).aN):=k8.m 0;have HK:Hd (∀d:List (Fin b.length),(GL b (d++[Y])).map (O E)=(GL b d).map (O E)++[O E (Bm b Y.val).aN]):=zh (λd=>by simp[GL]);generalize(Bm b Y.val).aN=kk at*
  gi_wp2_with (gi_at_builtin;refine wpListIn_append_own _ rfl _ _ 145 rfl k.heap.size 3 G (O E 0) 1 8 mO H I L M rfl Ξ _ _ _ rfl (s.alloc _) ⟨W.heap.size,0,Ax⟩ 1 1 [O E kk] rfl rfl (cell_one_new _ _ _) (by simp[Value.oneCell']) (by unfold D3;omega) Ω Γ ?_;intro v' w1 C ai _;obtain⟨g',aB,rfl⟩:=ownsRow_succ C;obtain⟨F,aj,ak,al,am,an⟩:=Ss q Ξ s af C ai;have aC:=F.cell;have aD:=F.frozen)
  exact⟨al.from _,am,⟨_,aj,by rw[HK.o];simpa using ak,kI⟩,m.trans (an _ (jS _) Ω)⟩
 case done=>
  rintro D ys W hD rfl ⟨⟨v,q,s,_⟩,m⟩ t;have hc:=q.cell
  gi_wp2
  refine⟨Δ,CX ⟨_,_,rfl,BE t,?_⟩⟩;refine⟨_,B0 rfl _ _ _,v,rfl,?_,Ff ((A.trans m).trans (CL (w:=J) (jS _) W D _ _ Ω t rfl rfl))⟩;exact BQ (ownsRow_putObj s (.deferred Ax) t rfl) Ω
 case stop=>
  rintro D c d W _ _ j _;exact j.elim
theorem TG{a:List Pc}{k:Nat}{j:Fin a.length}(h:j∈fl a k):(Bm a j.val).fu=BA:=(nI.1 h).2
theorem Rz{N:Nat}(j:Fin N)(h:j.val<Y):j∈Cd N Y:=by
 unfold Cd;rw[nG];exact⟨j.val,Γ,Δ⟩
theorem Uo(a:List Pc)(m:Nat)(e:m<=a.length)(n:∀j,j<m->(Bm a j).fu=BA):∀d,m+d<=a.length->∃b,fl a (m+d)=Cd a.length m++b/\(∀h:m<a.length,(Bm a m).fu=BA->0<d->∃f,b=⟨m,h⟩::f):=by
 intro d
 induction d with
 |zero=>
  intro _;refine⟨[],?_,λ_ _ h=>absurd h Ω⟩;rw[lX];unfold fl;refine List.filter_eq_self.2 (λj c=>?_)
  have:j.val<m:=by
   unfold Cd at c;rw[nG]at c;obtain⟨i,o,rfl⟩:=c;simp at o⊢;omega
  exact n _ this
 |succ d p=>
  intro u;obtain⟨b,g,q⟩:=p Ω;refine⟨b++(if(Bm a (m+d)).fu then[⟨m+d,Ω⟩]else[]),?_,λh k _=>?_⟩
  ·rw[<-lw,TF a (m+d) Ω,g,ls]
  ·by_cases r:0<d
   ·obtain⟨f,s⟩:=q h k r;exact⟨_,by rw[s];rfl⟩
   ·obtain rfl:d=0:=by omega
    have t:b=[]:=by
     have l:=kL B7 g;rw[jU,Kq _ _ e]at l;have:=MT a m e;exact kV (by simp at l;omega)
    rw[t];simp only[lD,kv];exact⟨[],ke k⟩
def Pf(a:List Pc)(m:Nat):Prop:=m<=a.length/\(∀j,j<m->(Bm a j).fu=BA)/\(m<a.length->(Bm a m).fu=A3)
theorem Vl{a:List Pc}(b:Y<=a.length)(h:fl a a.length=Cd a.length Y):Pf a Y:=by
 have c:∀j,j<Y->(Bm a j).fu=BA:=λj e=>TG (k:=a.length) (j:=⟨j,Ω⟩) (by rw[h];exact Rz _ e)
 refine⟨b,c,λf=>?_⟩
 cases g:(Bm a Y).fu with
 |false=>rfl
 |true=>
  obtain⟨m,d,i⟩:=Uo a Y b c (a.length - Y) Ω;obtain⟨n,l⟩:=i f g Ω;rw[show Y+(a.length - Y)=a.length by omega,h,l]at d;have:=kL B7 d;simp at this
theorem Vt{a:List Pc}{j:Fin a.length}(g:c<=a.length)(d:Y<=a.length)(h:Cd a.length Y++[j]=fl a c)(k:j.val≠Y):Pf a Y:=by
 have e:∀i,i<Y->(Bm a i).fu=BA:=λi l=>TG (k:=c) (j:=⟨i,Ω⟩) (by rw[<-h];exact me _ (Rz _ l))
 have b:=MT a c g;rw[<-h,jU,Kq _ _ d]at b;simp at b;refine⟨d,e,λb=>?_⟩
 cases m:(Bm a Y).fu with
 |false=>rfl
 |true=>
  obtain⟨r,f,n⟩:=Uo a Y d e (c - Y) Ω;obtain⟨s,o⟩:=n b m Ω;rw[show Y+(c - Y)=c by omega, <-h,o]at f;have p:=List.append_cancel_left f;injection p with q;exact absurd (kL Fin.val q) k
theorem Qg{β:Type}{T:TypeId}(f:Nat->BD)(Q:Nat->β->Prop)(i:Y<c):OwnFrom c (λ(s:β) W=>∃m,D1 W Y T (f m)/\Q m s):=by
 intro s X j k h a b;obtain⟨m,d,g⟩:=h;exact⟨m,d.kept a (λe=>by have:=(b Y e.symm).1;omega),g⟩
def IZ(a:List Pc)(m:Nat):Int:=if m=a.length then -1 else m
theorem Ya{b:List Pc}(r:AU J a Y f c e g b i h):
  BR A4 213 #[AA (A2 ⟨Y,0,Ax⟩)] J λN Q=>(∃m,Pf b m/\N=Bd (O E (IZ b m)))/\J.grownBy Q Ax:=by
 have R:=r.aF;subst R;have S:=r.r1;have T:=zh r;have L:Hd (Y<J.heap.size):=zh r.u.lt;have U:Hd (e<J.heap.size):=zh r.aB.lt;clear r;have P:B6.round=Ax:=rfl;refine(B5 (n:=20)).1 ?_;refine B9 Tryz.func213 rfl kI ?_ P;simp only[Tryz.ntmps213,kR,kj,kP,CB,CA,kF,kG,kU,kJ,kv,kO]
 gi_wp2_with (refine⟨kI,?_⟩;gi_at_call 251;refine(B5.2 (Rh _ _)).mono ?_;rintro N w' ⟨rfl,rfl⟩)
 obtain⟨t,w⟩:=Ag ((J.alloc (BB #[O E 0] 3)).alloc (BB #[AA (A2 ⟨Y,0,Ax⟩)] 194))
 have z:Below J.heap.size J t:=by rw[<-w];exact((BL _ J).alloc (jS _) _).alloc Δ _
 have hz:t.heap.size=J.heap.size+2:=by rw[<-w];simp
 have X:D1 t J.heap.size 3 (O E 0):=by rw[<-w];exact(Boxed.new J _ _).alloc _
 have Z:t.cell? ⟨J.heap.size+1,0,Ax⟩=A2 (AA (A2 ⟨Y,0,Ax⟩)):=by
  rw[<-w];have r:=Boxed.new (J.alloc (BB #[O E 0] 3)) 194 (AA (A2 ⟨Y,0,Ax⟩));rw[C0]at r;exact r.cell
 rw[w];clear w;have G:=T.o.grown (Ff z)
 refine wpIn_rangeFunc_ownG P Ω (gf:=278) (lb:=#[AA (A2 ⟨J.heap.size+1,0,Ax⟩)]) rfl kI (enters_of CR Φ rfl)
  (Qs 19 (J.heap.size+1) t.heap.size J.heap.size Ω b Y e t Ω Ω (jS _) Z (G.u.m 0) (Ψ L.o) G.aB (Ψ U.o) S)
  Bw.trans (Bw.eL (jS _)) (BL _ _) (λ_=>rfl)
  (λ(s:List (Fin b.length)) W=>(∃m,D1 W J.heap.size 3 (O E (m:Nat))/\m<=b.length/\s=Cd b.length m)/\Below J.heap.size t W)
  (λk s W=>(∃m,D1 W J.heap.size 3 (O E (m:Nat))/\∃j,m<=b.length/\s=Cd b.length m++[j]/\j.val≠m)/\(k=.exit 0/\Below J.heap.size t W))
  (B8 (Qg (λm=>O E (m:Nat)) (λm s=>m<=b.length/\s=Cd b.length m) Ω) (CE Ω Ω))
  (λk=>B8 (Qg (λm=>O E (m:Nat)) (λm s=>∃j,m<=b.length/\s=Cd b.length m++[j]/\j.val≠m) Ω) (B8 (ownFrom_pure _ (λ_=>k=.exit 0)) (CE Ω Ω)))
  ⟨⟨0,X,kN _,rfl⟩,BL _ _⟩
  ?a₁ ?assign ?body ?done ?stop
 case assign=>
  intro l x W K o
  gi_wp2
  exact o
 case body=>
  rintro l s c W ⟨⟨m,u,y,rfl⟩,d⟩ H;have I:=u.cell;have hf:=u.frozen;have al:=d.size;rw[Kq _ _ y]at H
  by_cases A:c.val=m
  ·have B:((c.val:Int)!=(m:Int))=A3:=by simp[A]
   have C:(c.val !=m)=A3:=by simp[A]
   have am:wrap64 ((m:Int)+1)=(m:Int)+1:=B2 _ Ω
   gi_wp2
   have aa:=NR b.length m H;have ab:c=⟨m,H⟩:=Fin.ext A;exact⟨(KeepsOthers.setCell W ⟨J.heap.size,0,Ax⟩ _).from _,λk hk hx=>Below.heap_setCell _ _ _ _ hx,⟨⟨m+1,by push_cast;exact u.set _,H,by rw[aa,ab]⟩,d.trans ((BL _ W).setCell (p:=⟨J.heap.size,0,Ax⟩) (jS _) _)⟩⟩
  ·have B:((c.val:Int)!=(m:Int))=BA:=by simp;omega
   have C:(c.val !=m)=BA:=by simp[A]
   gi_wp2
   exact⟨KeepsFrom.refl _ _,⟨m,u,c,y,rfl,A⟩,rfl,d⟩
 case done=>
  rintro D ys W hD rfl ⟨⟨m,u,y,M⟩,d⟩ o;have F:=Vl y M;have c0:W.cell? ⟨Y,0,Ax⟩=A2 (V (A2 ⟨e,0,Ax⟩) b.length b.length):=(d.cell (p:=⟨Y,0,Ax⟩) L.o).trans (G.u.m 0);have I:=u.cell
  by_cases q:m=b.length
  ·have v:IZ b m= -1:=ke q
   have B:((m:Int)==(b.length:Int))=BA:=by simp[q]
   have C:(m==b.length)=BA:=by simp[q]
   gi_wp2
   gi_quiet (fail)
   gi_wp2
   refine⟨Δ,CX ⟨_,_,rfl,BE (show(W.drewN nq).heap[D]?=_ from o),?_⟩⟩;exact⟨_,B0 rfl _ _ _,⟨m,F,by rw[v];rfl⟩,Ff ((z.trans d).trans ((Ft (AS W nq Ax)).mono (Ψ d.size) |>.trans (CL (w:=J) (jS _) (W.drewN nq) D _ _ Ω o rfl rfl)))⟩
  ·have v:IZ b m=m:=j7 q;have B:((m:Int)==(b.length:Int))=A3:=Γ
   have C:(m==b.length)=A3:=by simp[q]
   gi_wp2
   gi_quiet (fail)
   have af:(W.drewN nq).cell? ⟨J.heap.size,0,Ax⟩=A2 (O E m):=I
   gi_wp2
   refine⟨Δ,CX ⟨_,_,rfl,BE (show(W.drewN nq).heap[D]?=_ from o),?_⟩⟩;exact⟨_,B0 rfl _ _ _,⟨m,F,by rw[v];rfl⟩,Ff ((z.trans d).trans ((Ft (AS W nq Ax)).mono (Ψ d.size) |>.trans (CL (w:=J) (jS _) (W.drewN nq) D _ _ Ω o rfl rfl)))⟩
 case stop=>
  rintro D k s W hD ⟨kk,ag,rfl⟩ ⟨⟨m,u,j,y,M,hj⟩,⟨rfl,d⟩⟩ o;have F:=Vt ag y M.symm hj;have c0:W.cell? ⟨Y,0,Ax⟩=A2 (V (A2 ⟨e,0,Ax⟩) b.length b.length):=(d.cell (p:=⟨Y,0,Ax⟩) L.o).trans (G.u.m 0);have I:=u.cell
  by_cases q:m=b.length
  ·have v:IZ b m= -1:=ke q
   have B:((m:Int)==(b.length:Int))=BA:=by simp[q]
   have C:(m==b.length)=BA:=by simp[q]
   gi_wp2
   gi_quiet (fail)
   gi_wp2
   refine⟨Δ,CX ⟨_,_,rfl,BE (show(W.drewN nq).heap[D]?=_ from o),?_⟩⟩;exact⟨_,B0 rfl _ _ _,⟨m,F,by rw[v];rfl⟩,Ff ((z.trans d).trans ((Ft (AS W nq Ax)).mono (Ψ d.size) |>.trans (CL (w:=J) (jS _) (W.drewN nq) D _ _ Ω o rfl rfl)))⟩
  ·have v:IZ b m=m:=j7 q;have B:((m:Int)==(b.length:Int))=A3:=Γ
   have C:(m==b.length)=A3:=by simp[q]
   gi_wp2
   gi_quiet (fail)
   have af:(W.drewN nq).cell? ⟨J.heap.size,0,Ax⟩=A2 (O E m):=I
   gi_wp2
   refine⟨Δ,CX ⟨_,_,rfl,BE (show(W.drewN nq).heap[D]?=_ from o),?_⟩⟩;exact⟨_,B0 rfl _ _ _,⟨m,F,by rw[v];rfl⟩,Ff ((z.trans d).trans ((Ft (AS W nq Ax)).mono (Ψ d.size) |>.trans (CL (w:=J) (jS _) (W.drewN nq) D _ _ Ω o rfl rfl)))⟩
end
section
open Go.RowKit
attribute [local go_sem ↓] Go.wp_at_zero Go.wp_at_succ
def Pc.dL(p:Pc):Pc:={p with ma:=A3}
def FG(a b:List Pc):Prop:=b.map Pc.dL=a.map Pc.dL
theorem FG.refl(a:List Pc):FG a a:=rfl
theorem FG.fS{a b:List Pc}(h:FG a b)(i:Nat):(b[i]?).map Pc.dL=(a[i]?).map Pc.dL:=by
 have:=kL (λl=>l[i]?) h;simpa using this
theorem FG.a7{b c:List Pc}(h:FG b c)(a:Int->Option Nat)(k:Int):By c a k=By b a k:=by
 unfold By
 cases d:a k with
 |none=>rfl
 |some i=>
  simp only[oH];have:=kL (Option.map Pc.pg) (h.fS i);rw[C3,C3]at this;exact this
theorem FG.aR{c a:List Pc}(h:FG c a){i:Nat}{p:Pc}(d:a[i]?=A2 p)(b:Bool):FG c (a.set i {p with ma:=b}):=by
 unfold FG at*;rw[<-h,qI];refine lR (λj=>?_)
 by_cases e:i=j
 ·subst e;rw[kZ (by simp;exact(jX.1 d).1),lB,d];rfl
 ·rw[j9 e]
def Ip(a:List Pc):Nat:=(a.filter Pc.ma).length
theorem Yv{a:List Pc}{i:Nat}{p:Pc}(b:a[i]?=A2 p)(c:p.ma=BA):Ip (a.set i {p with ma:=A3})<Ip a:=by
 induction a generalizing i with
 |nil=>simp at b
 |cons x e d=>
  cases i with
  |zero=>
   simp at b;subst b;simp[Ip,C1,c]
  |succ i=>
   have:=d (i:=i) (by simpa using b);simp only[Ip,kM,C1]at this⊢
   split<;>simp<;>omega
theorem AU.eK{o:List Pc}(d:AU J a c e i f g o p h)(r:Y<e):AU (J.setCell ⟨c,2,Ax⟩ (O E (Y:Int))) a c e i f g o Y h:=by
 have s:f≠c:=λj=>by
  have q:=d.u;have Y:=d.aB;rw[j]at Y;unfold Aa at q Y;rw[q]at Y;simp at Y
 have t:g≠c:=d.map.b6 d.u;have l:Ac (λk=>k=c) J (J.setCell ⟨c,2,Ax⟩ (O E (Y:Int))):=Ac.of (An _ _ _) (λk j=>by cases j;rfl)
 exact{d with
  u:=d.u.setCell 2 _
  aB:=l.u d.aB s
  map:=d.map.ak l t
  gD:=r
  cR:=λx v=>let⟨w,n,y⟩:=d.cR x v;⟨l.aP w (λb m j=>by have:=(n b m).1;rw[j,d.c0]at this;cases this),λb m=>⟨(n b m).1,jY (n b m).2 l.size⟩,y⟩}
theorem Wx{o:List Pc}{B:Nat}(t:AU J a c Y f e g o B h)(C:Aw J a):
  BR A4 214 #[AA (A2 ⟨c,0,Ax⟩)] J λq D=>∃(i:Nat) (d:List Pc) (w:Nat),i<Y/\q=Bd (O E i)/\AU D a c Y f e g d w h/\FG o d/\Ac (λj=>j=c\/j=e) J D:=by
 have H:=zh t;have Z:=zh C;have aa:=t.r0;have ab:=t.r1;clear t C
 go_enter Tryz.func214,Tryz.ntmps214
 go_wp2_with fail;refine wp_scope_straight ?_;go_wp2_with fail;refine wp_label ?_;go_wp2_with fail
 go_loopg [3] (Ip o+1) (λk s3 wr=>∃d w,AU wr a c Y f e g d w h/\Ip d<k/\FG o d/\Ac (λj=>j=c\/j=e) J wr)
 case atStart=>exact⟨o,B,H.o,nY _,FG.refl _,Ac.refl _ _⟩
 case round=>
  obtain⟨d,b,l,r,F,G⟩:=hrel;obtain⟨p,x⟩:∃p,d[b]?=A2 p:=⟨_,jW (by rw[l.aF];exact l.gD)⟩;have R:=l.gD;have I:=l.u.m 0;have K:=l.u.m 2;have u:=l.at x (j:=5) rfl;have S:=zh l;have T:=zh G;have L:=zh r;have M:=zh F;have s:=zh x;have HH:=zh H;clear l G r F x H;go_wp2_with fail
  go_quiet (fail)
  have m:=zh (S.o.grown (AS wr nq Ax));have U:=zh (T.o.trans (Ac.au (AS wr nq Ax)));generalize wr.drewN nq=y at*;clear I K u;have I:=m.o.u.m 0;have K:=m.o.u.m 2;have u:=m.o.at s.o (j:=5) rfl;have f2:=m.o.u.v 2;have af:wrap64 ((b:Int)+1)=(b:Int)+1:=B2 _ Ω;have hz:¬(Y=0):=Ω;have ah:¬((Y:Int)=0):=Ω;obtain⟨n,z⟩:=Ag ((b+1)%Y)
  have V:n<Y:=by rw[<-z];exact lT _ Ω
  have ai:((b:Int)+1).tmod (Y:Int)=(n:Int):=by rw[<-z];rw[ln Ω];push_cast;rfl
  have f5:=m.o.aB.v (b*6+5)
  have N:(((b:Int)+1)%(Y:Int))=(n:Int):=by rw[<-z];push_cast;rfl
  have A:Hd (AU (y.setCell ⟨c,2,Ax⟩ (O E (((b:Int)+1)%(Y:Int)))) a c Y f e g d n h):=zh (by rw[N];exact m.o.eK V);have P:Hd (Ac (λj=>j=c\/j=e) J (y.setCell ⟨c,2,Ax⟩ (O E (((b:Int)+1)%(Y:Int))))):=zh (U.o.trans (Ac.of (An _ _ _) (λk q=>by cases q;exact CX rfl)));clear N
  cases v:p.ma
  ·rw[v]at u;go_wp2_with fail
   go_still_tail 12,Φ
   go_wp2_with fail;simp only[Exit.noGoto];go_ret;exact⟨b,d,n,R,rfl,A.o.grown (AS _ 1 Ax),M.o,P.o.trans (Ac.au (AS _ 1 Ax))⟩
  ·rw[v]at u;have Q:=zh (Yv s.o v);have W:=zh (A.o.hm s.o {p with ma:=A3} 5 (Bk A3) Ω rfl rfl rfl (A.o.cR p (kX s.o)));have X:=zh (P.o.trans (Ac.of (An (y.setCell ⟨c,2,Ax⟩ (O E (((b:Int)+1)%(Y:Int)))) ⟨e,b*6+5,Ax⟩ (Bk A3)) (λk q=>by cases q;exact D4 rfl)))
   have r:Ip (d.set b {p with ma:=A3})+1<gk+1:=by have:=Q.o;have:=L.o;omega
   have ak:=zh r;clear v r;go_wp2_with fail
   go_still_tail 12,Φ
   go_wp2_with fail
   go_roundg (Ip d)
   case measure=>exact L.o
   exact⟨d.set b {p with ma:=A3},n,W.o.grown (AS _ 1 Ax),Q.o,M.o.aR s.o A3,X.o.trans (Ac.au (AS _ 1 Ax))⟩
def Dk(a b:List Nat)(e:Nat):List Nat:=(((((At 165 1++At a.length 1)++At b.length 2)++At e 8)++a)++b)++At 90 1
theorem JG(a b:List Nat)(e:Nat):(Dk a b e).length=13+a.length+b.length:=by
 unfold Dk;simp only[jU,AI];omega
theorem Rl{e:Nat}(c:∀x∈b,x<256)(d:∀x∈n,x<256):∀x∈Dk b n e,x<256:=by
 intro x a;unfold Dk at a;simp only[kY]at a
 rcases a with(((((h|h)|h)|h)|h)|h)|h
 ·exact Ek _ _ x h
 ·exact Ek _ _ x h
 ·exact Ek _ _ x h
 ·exact Ek _ _ x h
 ·exact c x h
 ·exact d x h
 ·exact Ek _ _ x h
theorem Oh(k v:Nat)(b:1<=k)(c:k<=64)(d:v<=4096)(w:Bn):BR A4 107 #[O E k,O E v] w λe a=>e=Bd (O E ((13+k+v:Nat):Int))/\w=a:=by
 have f:Bs ((k:Int)<1)=A3:=jV Ω;have g:Bs ((k:Int)>64)=A3:=jV Ω;have h:Bs ((v:Int)<0)=A3:=jV Ω;have i:Bs ((v:Int)>4096)=A3:=jV Ω
 go_enter Tryz.func107,Tryz.ntmps107
 go_wp2;go_ret;exact⟨by congr 2,rfl⟩
def Dw(k v:Nat)(e:Int):Int:=if k<1\/64<k then 10 else if 4096<v then 11 else if e<0\/281474976710656<e then 2 else 0
theorem Rp(k v:Nat)(g h:Option D2)(i j:Nat)(e:Int)(w:Bn)(l:k<=D3)(m:v<=D3):
  BR A4 122 #[B3 #[V g k i,V h v j,O E e]] w λx n=>x=Bd (O E (Dw k v e))/\w.grownBy n Ax:=by
 unfold D3 at l m
 rcases(show(k<1)\/(64<k)\/(1<=k/\k<=64) by omega)with b|b|b
 ·have d:Bs ((k:Int)<1)=BA:=jT Ω;rw[show Dw k v e=10 from ke (CX b)]
  go_enter py,oW
  go_wp2;go_ret;exact⟨rfl,Z _ _ Ax⟩
 ·have d:Bs ((k:Int)<1)=A3:=jV Ω;have o:Bs ((k:Int)>64)=BA:=jT Ω;rw[show Dw k v e=10 from ke (D4 b)]
  go_enter py,oW
  go_wp2;go_ret;exact⟨rfl,Z _ _ Ax⟩
 ·have d:Bs ((k:Int)<1)=A3:=jV Ω;have o:Bs ((k:Int)>64)=A3:=jV Ω
  by_cases c:4096<v
  ·have p:Bs ((v:Int)>4096)=BA:=jT Ω;rw[show Dw k v e=11 by unfold Dw;rw[j7 Ω,ke c]]
   go_enter py,oW
   go_wp2;go_ret;exact⟨rfl,Z _ _ Ax⟩
  ·have p:Bs ((v:Int)>4096)=A3:=jV Ω
   rcases(show(e<0)\/(281474976710656<e)\/(0<=e/\e<=281474976710656) by omega)with a|a|a
   ·have f:Bs (e<0)=BA:=jT a;rw[show Dw k v e=2 by unfold Dw;rw[j7 Ω,j7 c,ke (CX a)]]
    go_enter py,oW
    go_wp2;go_ret;exact⟨rfl,Z _ _ Ax⟩
   ·have f:Bs (e<0)=A3:=jV Ω;have q:Bs (e>281474976710656)=BA:=jT a;rw[show Dw k v e=2 by unfold Dw;rw[j7 Ω,j7 c,ke (D4 a)]]
    go_enter py,oW
    go_wp2;go_ret;exact⟨rfl,Z _ _ Ax⟩
   ·have f:Bs (e<0)=A3:=jV Ω;have q:Bs (e>281474976710656)=A3:=jV Ω;rw[show Dw k v e=0 by unfold Dw;rw[j7 Ω,j7 c,j7 Ω]]
    go_enter py,oW
    go_wp2;go_ret;exact⟨rfl,Z _ _ Ax⟩
theorem Sk(d f:List Nat)(e:Nat)(i j:Option D2)(l m:Nat)(w:Bn)(k0:1<=d.length)(k1:d.length<=64)(v1:f.length<=4096)(e1:e<=281474976710656)
  (r:Ai w 1 (V i d.length l) d.length (Ao d))(s:Ai w 1 (V j f.length m) f.length (Ao f)):
  BR A4 71 #[B3 #[V i d.length l,V j f.length m,O E e]] w λx y=>∃a c,x=Bd (BC #[V a (13+d.length+f.length) c,O E 0])/\
   y.ownsRow w.heap.size 5 1 (V a (13+d.length+f.length) c) (13+d.length+f.length) (Ao (Dk d f e))/\w.grownBy y Ax:=by
 have J:∀b,d≠[]->(V i d.length l).ownBlock=A2 b->b<w.heap.size:=λb n g=>r.lt (by intro e;exact n (nT.1 e)) b g
 have K:∀b,f≠[]->(V j f.length m).ownBlock=A2 b->b<w.heap.size:=λb n g=>s.lt (by intro e;exact n (nT.1 e)) b g
 have af:=zh J;have ag:=zh K;have ah:=zh r;have ai:=zh s
 have L:Dw d.length f.length e=0:=by unfold Dw;rw[j7 Ω,j7 Ω,j7 Ω]
 have z:=λW=>Rp d.length f.length i j l m e W r.2.1 s.2.1
 rw[L]at z;have aj:=zh z
 have wk:CV.wrap (d.length:Int)=d.length:=by rw[B4];omega
 have wv:CV.wrap (f.length:Int)=f.length:=by rw[B4];omega
 have we:CV.wrap (e:Int)=e:=by rw[B4];omega
 clear J K r s L z
 go_enter Tryz.func71,Tryz.ntmps71
 go_wp2_with fail;refine(aj.o _).mono ?_;rintro x A ⟨rfl,B⟩;have g:=(Aa.new w 136 [V i d.length l,V j f.length m,O E e]).grown B Δ;have aw:w.heap.size<A.heap.size:=g.lt;have t:=zh (Ae (Z w (BB #[V i d.length l,V j f.length m,O E e] 136) Ax) B);have o:=zh g;have p:=g.m 0;have q:=g.m 1;clear g B;go_wp2_with fail;refine(Oh d.length f.length k0 k1 v1 _).mono ?_;rintro x y ⟨rfl,rfl⟩;go_wp2_with fail;refine(II _ Ω _).mono ?_;rintro x w2 ⟨rfl,C,M⟩;rw[ke Ω]at C
 have N:PW A w2 A.heap.size (V Ax 0 0) [] ((13+d.length+f.length:Nat):Int):=⟨C,λk hk=>by
  rcases hk with h|h
  ·omega
  ·simp[Value.ownBlock]at h,M⟩
 have P:=zh N;clear C N M p q;go_wp2_with fail;refine(P.o.a8 165 1 Ω Ξ Γ Δ).mono ?_;rintro x w3 ⟨v3,rfl,Q,_⟩;have D:=zh Q;clear Q P;have p:=((o.o.grown D.o.grown Δ).m 0);go_wp2_with fail;refine(D.o.a8 d.length 1 Ω Ξ (by simp[AI];omega) (by simp[AI])).mono ?_;rintro x w4 ⟨v4,rfl,R,_⟩;have F:=zh R;clear R D p;have q:=((o.o.grown F.o.grown Δ).m 1);go_wp2_with fail;refine(F.o.a8 f.length 2 Ω Ξ (by simp[AI];omega) (by simp[AI])).mono ?_;rintro x w5 ⟨v5,rfl,S,_⟩;have G:=zh S;clear S F q;have b2:=((o.o.grown G.o.grown Δ).m 2);go_wp2_with fail;refine(G.o.a8 e 8 Ω Ξ (by simp[AI];omega) (by simp[AI])).mono ?_;rintro x w6 ⟨v6,rfl,T,_⟩;have u:=zh T;clear T G b2;have p:=((o.o.grown u.o.grown Δ).m 0);go_wp2_with fail;refine(u.o.e4 (ys:=d) i l (by simp[AI];omega) (by simp[AI];omega) (ah.o.grown (Ae t.o u.o.grown) (λb h=>by cases h)) (λn b g=>by have:=af.o b n g;omega)).mono ?_;rintro x w7 ⟨v7,rfl,U,_⟩;have v:=zh U;clear U u p;have q:=((o.o.grown v.o.grown Δ).m 1);go_wp2_with fail;refine(v.o.e4 (ys:=f) j m (by simp[AI];omega) (by simp[AI];omega) (ai.o.grown (Ae t.o v.o.grown) (λb h=>by cases h)) (λn b g=>by have:=ag.o b n g;omega)).mono ?_;rintro x w8 ⟨v8,rfl,X,_⟩;have Y:=zh X;clear X v q;go_wp2_with fail;refine(Y.o.a8 90 1 Ω Ξ (by simp[AI];omega) (by simp[AI];omega)).mono ?_;rintro x w9 ⟨v9,rfl,H,_⟩
 have aa:([]++At 165 1++At d.length 1++At f.length 2++At e 8++d++f++At 90 1)=Dk d f e:=by rw[kv];rfl
 rw[aa]at H;have I:=zh H;clear H Y aa;go_wp2_with fail;refine(Hv _ _ _ _ _ _ I.o.wr).mono ?_;rintro x aL ⟨an,ao,rfl,ab,ap⟩;rw[JG]at ab⊢;go_wp2
 go_ret2
 exact⟨an,ao,rfl,BQ ab (Ψ ((Ae t.o I.o.grown).size)),Ae (Ae t.o I.o.grown) ap⟩
end
