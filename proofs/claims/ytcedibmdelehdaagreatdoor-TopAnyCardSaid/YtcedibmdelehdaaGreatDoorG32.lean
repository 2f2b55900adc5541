/- Lemmas. -/
import Derived.Test.YtcedibmdelehdaaGreatDoorG15
import Derived.Test.YtcedibmdelehdaaGreatDoorG31
import Derived.Deep.LoopGhost
namespace Go.Proofs.YtcedibmdelehdaaGreatDoor
set_option maxRecDepth 100000
set_option maxHeartbeats 32000000
open Go.IntKind renaming i64->E,wrap_u64->B0,u64->CB
open Go.Value renaming int->O,slice->V,pointer->AA,bool->A6,tuple->Bx,agg->BZ
open Go.World renaming grownBy_alloc->Z,size_alloc->CK
open Option renaming none->Ax,some->A2,map_map->CV
open Bool renaming false->A3,true->Bn
open Go.Proofs.Tryz renaming prog->A4,func278->CA,ntmps255->C1,ntmps212->C2,ntmps211->C3,ntmps86->C5,ntmps71->C6,func255->C7,func212->C8,func211->C9,func86->DG,func71->DV,f144->D1
open Go.Ending renaming returned->A5
open Go renaming World->A7,bodyPost_ret->Bk,Value->BA,run_takeDeferred->BB,Calls->BD,results_tmp->BR,callsIn_wide->B2,callsIn_of_wp_marks->B5,ownFrom_below->B8,belowK_b->B9,undef->CX,maxLen->C0,results->C4,Addr->DA,Boxed->DX
open Decidable renaming decide->Bd
open Go.Obj renaming cells->Bs
open Go.RowKit.Below renaming refl->BC
open Go.IntWalk renaming i64_in->BE,wrap64_in->BX
open List renaming length->BL,filter->CL,drop_left'->CR
open Go.Fence renaming wide->B3
open Go.OwnFrom renaming and->B4
open Nat renaming reduceSub->B6,reduceAdd->B7
open Or renaming inl->CE,inr->D0
variable{f:Int->Option Nat}{h k o:A7}{J b c e g i q:Nat}{Y p:Ae}{a n:List Nat}{d:BA}{j:List BA}{l:Int}
section
open Go.RowKit
attribute [local go_sem ↓] Go.wp_at_zero Go.wp_at_succ
theorem eo(c:∀x∈a,x<256)(d:∀y∈n,y<256)(h:(Di a).toList=(Di n).toList):a=n:=by
 rw[KM,KM]at h;apply oO
 ·have:=kM BL h;simpa using this
 ·intro i b f;have e:=List.getElem_of_eq h (i:=i) (by simpa using b);simp only[oQ]at e;have g:=c _ (ml b);have j:=d _ (ml f);have:=kM UInt8.toNat e;simp at this;omega
theorem WC(d:List Nat)(a b:Option DA)(c e:Nat)(w:A7)(f:Ag w 1 (V a d.length c) d.length (Ar d))(g:Ag w 1 (V b d.length e) d.length (Ar d)):
  BD A4 121 #[V a d.length c,V b d.length e] w λe h=>e=A5 (A6 Bn)/\w=h:=by
 have i:=Jc f;have j:=Jc g;have k:=aU d;clear f g
 go_enter Tryz.func121,Tryz.ntmps121
 go_wp2;go_ret;exact⟨Δ,rfl⟩
theorem gp(k:Nat)(h:Fe (k:Int)=Bn):FS (k:Int)=k:=MM h
theorem Gl(l:RR h c d (At b J++a) A3)(m:Fe (J:Int)=Bn)(n:b<256^J):
  BD A4 184 #[AA (A2 ⟨c,0,Ax⟩),O E J] h λe g=>∃f,e=A5 (O CB (b:Int))/\RR g c f a A3/\(∀k,f.ownBlock=A2 k->d.ownBlock=A2 k)/\h.grownBy g (A2 c):=by
 refine(TH c d _ A3 J h l).mono ?_;rintro e g ⟨f,rfl,i,o,p⟩
 have j:Gt (At b J++a) (J:Int)=A3:=by
  unfold Gt;rw[ou,jI,AK];omega
 rw[gp J m]at i⊢
 have q:Dt (At b J++a) (J:Int)=At b J:=by
  unfold Dt;rw[jN (by rw[j];simp),jS,qm (AK b J)]
 have r:Ga (At b J++a) (J:Int)=a:=by
  unfold Ga;rw[jN (by rw[j];simp),jS,CR (AK b J)]
 have s:Ge (At b J++a) A3 (J:Int)=A3:=by
  unfold Ge;rw[j];rfl
 rw[r,s]at i;refine⟨f,?_,i,o,p⟩;rw[q,OQ b J,mR n]
theorem NY(o:RR h J d (a++n) A3):
  BD A4 185 #[AA (A2 ⟨J,0,Ax⟩),O E a.length] h λe f=>∃g c i,e=A5 (V g a.length c)/\f.ownsRow h.heap.size 5 1 (V g a.length c) a.length (Ar a)/\RR f J i n A3/\(∀b,i.ownBlock=A2 b->d.ownBlock=A2 b)/\h.grownBy f (A2 J):=by
 refine(Tq J d _ A3 a.length h o).mono ?_;rintro e f ⟨g,c,i,k,l,m,p,q⟩
 have j:Gt (a++n) (a.length:Int)=A3:=by
  unfold Gt;rw[ou,jI];omega
 have r:Dt (a++n) (a.length:Int)=a:=by
  unfold Dt;rw[jN (by rw[j];simp),jS,qm rfl]
 have s:Ga (a++n) (a.length:Int)=n:=by
  unfold Ga;rw[jN (by rw[j];simp),jS,CR rfl]
 have t:Ge (a++n) A3 (a.length:Int)=A3:=by
  unfold Ge;rw[j];rfl
 rw[r]at k l;rw[s,t]at m;exact⟨g,c,i,k,l,m,p,q⟩
theorem Wf(n:Nat)(a:Option DA)(m c:Nat)(w:A7)(d:96<=n)(f:n<=512):
  BD A4 205 #[BZ #[O E 0,O E 0,O E 0,V a m c],O E n] w λe b=>e=A5 (O E 1)/\w.grownBy b Ax:=by
 have g:Bd ((n:Int)≥96)=Bn:=jG Ω;have h:Bd ((n:Int)<=512)=Bn:=jG Ω
 go_enter Tryz.func205,Tryz.ntmps205
 go_wp2;go_ret;exact⟨rfl,Z _ _ Ax⟩
structure LR(a W:A7)(B:Nat)(v:BA)(b:List Nat)(T R:Nat)(c:List BA):Prop where
 rr:RR W B v b A3
 cj:Aa W T 174 c
 aZ:Aa W R 174 [O E 0,O E 0,O E 0,V Ax 0 0]
 bt:B≠T
 br:B≠R
 tr:T≠R
 vt:v.ownBlock≠A2 T
 vr:v.ownBlock≠A2 R
 u:a.grownBy W Ax
 b0:a.heap.size<=B
 t0:a.heap.size<=T
theorem LR.bT{v:BA}{R:Nat}(c:LR k o J v n b R j)(m:RR h J d a A3)(g:∀i,d.ownBlock=A2 i->v.ownBlock=A2 i)(f:o.grownBy h (A2 J)):LR k h J d a b R j:=
 ⟨m,c.cj.u f (λe=>c.bt (by simpa using e.symm)),c.aZ.u f (λe=>c.br (by simpa using e.symm)),c.bt,c.br,c.tr,λe=>c.vt (g _ e),λe=>c.vr (g _ e),Ac.u c.u (S:=λl=>l=J) (Ac.of f (λp e=>by cases e;rfl)) (λl e=>by have:=c.b0;omega),c.b0,c.t0⟩
theorem LR.aV{R:Nat}(c:LR k h b d a J R j)(f:Nat)(u:BA):LR k (h.setCell ⟨J,f,Ax⟩ u) b d a J R (j.set f u):=by
 have i:Ac (λl=>l=J) h (h.setCell ⟨J,f,Ax⟩ u):=Ac.of (Ao _ _ _) (λl e=>by cases e;rfl);refine⟨c.rr.au i (λl g e=>?_),c.cj.setCell f u,i.y c.aZ (λe=>c.tr e.symm),c.bt,c.br,c.tr,c.vt,c.vr,Ac.u c.u i (λf e=>by have:=c.t0;omega),c.b0,c.t0⟩;subst e
 rcases g with g|g
 ·exact c.bt g.symm
 ·exact c.vt g
theorem LR.bw{R:Nat}(c:LR h k J d a b R j)(e:k.grownBy o Ax):LR h o J d a b R j:=
 ⟨c.rr.u e,c.cj.u e Δ,c.aZ.u e Δ,c.bt,c.br,c.tr,c.vt,c.vr,Ab c.u e,c.b0,c.t0⟩
theorem Rb(n g o p:Nat)(d aS:List Nat)(y:List Nat)(a:Option DA)(c:Nat)(w:A7)(K:96<=n)(W:n<=512)(aw:y=At g 1++(At d.length 2++(At o 4++(At p 8++(d++aS)))))(hl:y.length=n)(ay:∀x∈y,x<256)
  (k1:g<=4)(X:d.length<=n - 19)(p1:o<=2147483647)(hs:p<=9223372036854775807)(aC:(1<=g/\y=Cd n g o p d)\/(g=0/\o=0/\p=0))(hr:Ag w 1 (V a n c) n (Ar y)):
  BD A4 144 #[V a n c] w λe Y=>(if g=0 then e=A5 (Bx #[BZ #[O E 0,O E 0,O E 0,V Ax 0 0],O E 5])else∃a' c',e=A5 (Bx #[BZ #[O E g,O E o,O E p,V a' d.length c'],O E 0])/\
   Y.ownsRow w.heap.size 5 1 (V a' d.length c') d.length (Ar d))/\w.grownBy Y Ax:=by
 have d0:Bd ((n:Int)≥96)=Bn:=jG Ω;have d1:Bd ((n:Int)<=512)=Bn:=jG Ω;have wk:E.wrap (g:Int)=g:=BE _ Ω;have wl:E.wrap (d.length:Int)=d.length:=BE _ Ω;have wp:E.wrap (o:Int)=o:=BE _ Ω;have ws:E.wrap (p:Int)=p:=BE _ Ω;have aa:=zh aw;have L:=zh hl;have aT:=zh ay;have ab:=zh aC;have HR:=zh hr;clear aw hl ay aC hr
 go_enter Tryz.func144,Tryz.ntmps144
 go_wp2_with (first|(go_at_call 134;go_in)|fail);have ac:=Mc y a c (w.alloc (Bs #[O E 0,O E 0,O E 0,V Ax 0 0] 174)) (Ψ L.o) aT.o (by rw[L.o];exact HR.o.alloc _);rw[L.o]at ac;refine ac.mono ?_;clear ac;rintro e G ⟨B,v,rfl,M,hB,aH,g1⟩;have ae:=(Aa.new w 174 [O E 0,O E 0,O E 0,V Ax 0 0]).u g1 Δ;have af:=Ab (Z w (Bs #[O E 0,O E 0,O E 0,V Ax 0 0] 174) Ax) g1;have aU:(w.alloc (Bs #[O E 0,O E 0,O E 0,V Ax 0 0] 174)).heap.size=w.heap.size+1:=Δ;have bl:=M.y.lt
 have ag:LR w (G.alloc (Bs #[O E 0,O E 0,O E 0,V Ax 0 0] 174)) B v y G.heap.size w.heap.size [O E 0,O E 0,O E 0,V Ax 0 0]:=
  ⟨M.u (Z _ _ Ax),Aa.new _ _ _,ae.alloc _,Ω,Ω,Ψ ae.lt,λe=>by
   have h9:=M.aN.lt (λe9=>by have:=kM BL e9;rw[Hh,L.o]at this;simp at this;omega) _ e
   omega,λe=>Ψ (aH _ e),Ab af (Z _ _ Ax),Ω,af.size⟩
 rw[aa.o]at ag;have H0:=zh ag;clear ag ae af M aH g1 aU;go_wp2_with fail;refine(Gl H0.o.rr Ξ Γ).mono ?_;rintro e w2 ⟨v2,rfl,l,f,q⟩;have N:=zh (H0.o.bT l f q);clear l f q H0;have f0:=N.o.cj.v 0;have z:=N.o.cj.m 0;go_wp2_with fail;have H2:=zh (N.o.aV 0 (O E g));clear N f0 z;refine(Gl H2.o.rr Ξ Γ).mono ?_;rintro e w3 ⟨v3,rfl,l,f,q⟩;have H3:=zh (H2.o.bT l f q);clear l f q H2;go_wp2_with fail;refine(Gl H3.o.rr Ξ Γ).mono ?_;rintro e w4 ⟨v4,rfl,l,f,q⟩;have P:=zh (H3.o.bT l f q);clear l f q H3;have f1:=P.o.cj.v 1;have A:=P.o.cj.m 1;go_wp2_with fail;have H5:=zh (P.o.aV 1 (O E o));clear P f1 A;refine(Gl H5.o.rr Ξ Γ).mono ?_;rintro e w5 ⟨v5,rfl,l,f,q⟩;have Q:=zh (H5.o.bT l f q);clear l f q H5;have f2:=Q.o.cj.v 2;have C:=Q.o.cj.m 2;go_wp2_with fail;have H:=zh (Q.o.aV 2 (O E p));clear Q f2 C;refine(NY H.o.rr).mono ?_;rintro e w6 ⟨s,t,v6,rfl,o6,l,f,q⟩;have R:=zh (H.o.bT l f q);have aJ:=H.o.u.size;have O6:=zh (Cf o6 aJ)
 have aL:(V s d.length t).ownBlock≠A2 G.heap.size:=λe=>by have:=(o6.lt _ e).1;have:=H.o.cj.lt;omega
 clear l f q H o6;have f3:=R.o.cj.v 3;have D:=R.o.cj.m 3;go_wp2_with fail;have u:=zh (R.o.aV 3 (V s d.length t));have I:=zh (O6.o.kept (Ao w6 ⟨G.heap.size,3,Ax⟩ (V s d.length t)) (D0 aL));clear R O6 f3 D aL aJ;simp only[jY,kE]at u;refine(OT _ _ _ _ _ u.o.rr).mono ?_;rintro e w7 ⟨rfl,rfl⟩;obtain⟨w7,aM⟩:=Af (w6.setCell ⟨G.heap.size,3,Ax⟩ (V s d.length t));rw[aM]at u I⊢;clear aM;have z:=u.o.cj.m 0;have A:=u.o.cj.m 1;have C:=u.o.cj.m 2;have D:=u.o.cj.m 3;go_wp2_with fail
 rcases ab.o with⟨aN,aO⟩|⟨rfl,rfl,rfl⟩
 ·have a0:=zh aO;clear aO ab aa;refine(Rw n g o p d.length s t w7 K W aN k1 p1 hs X).mono ?_;rintro e S ⟨rfl,F⟩;have i:=zh (u.o.bw F);have T:=zh (AV I.o F);clear u I z A C D F;have z:=i.o.cj.m 0;have A:=i.o.cj.m 1;have C:=i.o.cj.m 2;have D:=i.o.cj.m 3;go_wp2_with fail;refine(Rv n g o p d s t S K W aN k1 p1 hs X (Ag.ai T.o)).mono ?_;rintro e w9 ⟨ba,bc,rfl,ob,g9⟩;have m:=zh (i.o.bw g9);have aQ:=zh (AV T.o g9);have aR:=MA (n:=n) (kind:=g) (place:=o) (stamp:=p) K X;have ap:=WC (Cd n g o p d) ba a bc c w9;rw[aR]at ap;have a3:=zh (ap (Ag.ai ob) (by rw[<-a0.o];exact HR.o.u m.o.u (λb h=>by cases h)));clear i T z A C D g9 aR ap ob;have z:=m.o.cj.m 0;have A:=m.o.cj.m 1;have C:=m.o.cj.m 2;have D:=m.o.cj.m 3;have r0:=m.o.aZ.m 0;have r1:=m.o.aZ.m 1;have l:=m.o.aZ.m 2;have r3:=m.o.aZ.m 3;have q0:=m.o.aZ.v 0;have q1:=m.o.aZ.v 1;have q2:=m.o.aZ.v 2;have q3:=m.o.aZ.v 3;go_wp2_with fail;refine a3.o.mono ?_;rintro e Y ⟨rfl,rfl⟩;go_wp2_with fail;obtain⟨aq,J⟩:=Af (((((w9.setCell ⟨w.heap.size,0,Ax⟩ (O E g)).setCell ⟨w.heap.size,1,Ax⟩ (O E o)).setCell ⟨w.heap.size,2,Ax⟩ (O E p)).setCell ⟨w.heap.size,3,Ax⟩ (V s d.length t)));have r:=(((m.o.aZ.setCell 0 (O E g)).setCell 1 (O E o)).setCell 2 (O E p)).setCell 3 (V s d.length t)
  have U:Ac (λj=>j=w.heap.size) w9 aq:=by
   rw[<-J];exact(((Ac.of (Ao _ _ _) (λk e=>by cases e;rfl)).trans (Ac.of (Ao _ _ _) (λk e=>by cases e;rfl))).trans (Ac.of (Ao _ _ _) (λk e=>by cases e;rfl))).trans (Ac.of (Ao _ _ _) (λk e=>by cases e;rfl))
  rw[J]at r⊢;simp only[jY,kE]at r;have s0:=r.m 0;have s1:=r.m 1;have f:=r.m 2;have s3:=r.m 3;refine Bk (v:=Bx #[BZ #[O E g,O E o,O E p,V s d.length t],O E 0]) (by simp[C4,D1,go_sem,s0,s1,f,s3]) rfl ?_;exact⟨⟨s,t,rfl,U.aT aQ.o (λb hb e=>by subst e;exact Bv m.o.aZ aQ.o Ξ hb)⟩,Ac.u m.o.u U (λj e=>Ω)⟩
 ·clear ab aa;simp only[Int.natCast_zero]at*;refine(Wf n s d.length t w7 K W).mono ?_;rintro e S ⟨rfl,F⟩;have i:=zh (u.o.bw F);have T:=zh (AV I.o F);clear u I z A C D F;have r0:=i.o.aZ.m 0;have r1:=i.o.aZ.m 1;have l:=i.o.aZ.m 2;have r3:=i.o.aZ.m 3;have q0:=i.o.aZ.v 0;have q1:=i.o.aZ.v 1;have q2:=i.o.aZ.v 2;have q3:=i.o.aZ.v 3;go_wp2_with fail;obtain⟨aq,J⟩:=Af (((((S.setCell ⟨w.heap.size,0,Ax⟩ (O E 0)).setCell ⟨w.heap.size,1,Ax⟩ (O E 0)).setCell ⟨w.heap.size,2,Ax⟩ (O E 0)).setCell ⟨w.heap.size,3,Ax⟩ (V Ax 0 0)));have r:=(((i.o.aZ.setCell 0 (O E 0)).setCell 1 (O E 0)).setCell 2 (O E 0)).setCell 3 (V Ax 0 0)
  have U:Ac (λj=>j=w.heap.size) S aq:=by
   rw[<-J];exact(((Ac.of (Ao _ _ _) (λk e=>by cases e;rfl)).trans (Ac.of (Ao _ _ _) (λk e=>by cases e;rfl))).trans (Ac.of (Ao _ _ _) (λk e=>by cases e;rfl))).trans (Ac.of (Ao _ _ _) (λk e=>by cases e;rfl))
  rw[J]at r⊢;simp only[jY,kE]at r;have s0:=r.m 0;have s1:=r.m 1;have f:=r.m 2;have s3:=r.m 3;refine Bk (v:=Bx #[BZ #[O E 0,O E 0,O E 0,V Ax 0 0],O E 5]) (by simp[C4,D1,go_sem,s0,s1,f,s3]) rfl ?_;exact⟨rfl,Ac.u i.o.u U (λj e=>Ω)⟩
theorem ZO(k:Nat):At 0 k=AO k:=by
 apply oO
 ·rw[AK,Ep]
 ·intro i a b;simp[At,BU,Fu,AO]
theorem Xz(a b:Nat):AO (a+b)=AO a++AO b:=by unfold AO;exact List.replicate_append_replicate.symm
theorem YR(n d f g:Nat)(b:List Nat)(a:Option DA)(c:Nat)(w:A7)(j:96<=n)(o:n<=512)(p:1<=d)(q:d<=4)(k:b.length<=n - 19)(r:∀x∈b,x<256)(s:f<=2147483647)(t:g<=9223372036854775807)(u:Ag w 1 (V a n c) n (Ar (Cd n d f g b))):
  BD A4 144 #[V a n c] w λe i=>(∃l m,e=A5 (Bx #[BZ #[O E d,O E f,O E g,V l b.length m],O E 0])/\
   i.ownsRow w.heap.size 5 1 (V l b.length m) b.length (Ar b))/\w.grownBy i Ax:=by
 refine(Rb n d f g b (AO (n - 19 - b.length)++At (IS (Gd n d f g b)).toNat 4) (Cd n d f g b) a c w j o ?_ (MA j k) (QN r) q k s t (CE ⟨p,rfl⟩) u).mono ?_
 ·unfold Cd Gd;simp only[kK]
 ·intro e i h;rw[jN Ω]at h;exact h
theorem Xt(n:Nat)(a:Option DA)(c:Nat)(w:A7)(d:96<=n)(f:n<=512)(g:Ag w 1 (V a n c) n (Ar (AO n))):
  BD A4 144 #[V a n c] w λe b=>e=A5 (Bx #[BZ #[O E 0,O E 0,O E 0,V Ax 0 0],O E 5])/\w.grownBy b Ax:=by
 refine(Rb n 0 0 0 [] (AO (n - 15)) (AO n) a c w d f ?_ (Ep n) (Qu n) Ω Δ Ω Ω (D0 ⟨rfl,rfl,rfl⟩) g).mono ?_
 ·simp only[kA,ZO,jX, <-Xz]
  congr 1
  omega
 ·intro e b h;rw[jP rfl]at h;exact h
theorem MQ(d s n q:Nat)(z:Int->List Nat)(i:Int)(l m o:Nat)(g:List Nat)(a:Option DA)(c:Nat)(w:A7)(t:Ae)(h:AF w t d s n q z)(G:AD w t)(hq:q<=1073741824)(i0:0<=i)(i1:i<s)
  (k0:1<=l)(k1:l<=4)(p1:m<=2147483647)(hs:o<=9223372036854775807)(H:g.length<=n - 19)(I:∀x∈g,x<256)(J:Ag w 1 (V a g.length c) g.length (Ar g)):
  BD A4 154 #[AA (A2 ⟨d,0,Ax⟩),O E i,BZ #[O E l,O E m,O E o,V a g.length c]] w λe A=>e=A5 (O E 0)/\
   ∃u,Ad (λj=>j=1) w t A u/\AF A u d s n (q+1) (CJ z i (Cd n l m o g)):=by
 obtain⟨_,L,ay,M,h1,az⟩:=h.dR;have aA:=L.lt;clear L;have HR:=zh J;have HD:=zh h;have N:=zh G;have an:=zh I;clear J h G I
 go_enter Tryz.func154,Tryz.ntmps154
 go_wp2_with fail;obtain⟨r,v⟩:=Af (w.alloc (Bs #[O E l,O E m,O E o,V a g.length c] 174))
 have B:w.grownBy r Ax:=by rw[<-v];exact Z _ _ Ax
 have P:Aa r w.heap.size 174 [O E l,O E m,O E o,V a g.length c]:=by rw[<-v];exact Aa.new _ _ _
 rw[v];have Q:=zh B;have R:=zh P;have S:=zh (HD.o.u B);clear v B P;refine FU (λW=>Aa W w.heap.size 174 [O E l,O E m,O E o,V a g.length c]) [([2],[0],1,Bn),([],[],3,A3),([],[4,5,6,7],8,A3)] Φ Φ ?_;obtain⟨T,C⟩:=Af r.drew
 have y:r.grownBy T Ax:=by rw[<-C];exact AZ r 1 Ax
 rw[C];have U:=zh (S.o.u y);have X:=zh (R.o.u y Δ);have D:=zh (Ab Q.o y);clear C y S R Q;refine JG X.o ?_
 iterate 1 ((apply AC rfl Θ;(· intro Y f;(try have f:=f rfl);(try dsimp only at f);(try have c0:=f.m 0);(try have c1:=f.m 1);(try have c2:=f.m 2);(try have c3:=f.m 3);go_simp;(try with_reducible rfl)));refine Al ?_)
 refine Aj ?_
 iterate 1 ((apply AC rfl Θ;(· intro Y f;(try have f:=f rfl);(try dsimp only at f);(try subst f);go_simp;(try with_reducible rfl)));refine Al ?_)
 refine Aj ?_;refine Am ?_;intro K p;refine(KJ U.o).mono ?_;rintro e A ⟨rfl,rfl⟩;dsimp only;refine p _ _ ⟨_,λ_ h=>h,λ_=>X.o,?_⟩;clear p K;refine Al ?_;refine Dw ?_;refine Aj ?_;refine Am ?_;intro K p;refine(Rv n l m o g a c T M h1 k0 k1 p1 hs H (HR.o.u D.o (λb h=>by cases h))).mono ?_;rintro e w3 ⟨ba,bc,rfl,ob,F⟩;dsimp only;have ar:=zh (U.o.u F);have OB:=zh ob;have G3:=zh (Ab D.o F);refine p _ _ ⟨_,λ_ h=>h,λhf=>(by cases hf),?_⟩;clear p K ob F;refine Al ?_;refine Dw ?_
 iterate 4 ((apply AC rfl Θ;(· intro Y f;(try have f:=f rfl);(try dsimp only at f);(try subst f);go_simp;(try with_reducible rfl)));refine Al ?_)
 refine Aj ?_;refine Am ?_;intro K p;refine Aq p ?_;clear p K;refine Fw (NoPanic.normal ?_);go_wp2_with fail;have aF:=G3.o.size;have aG:=D.o.size;refine(Rc d s n q z i (Cd n l m o g) ba bc w3 t ar.o (λk hk=>N.o k Ω) hq i0 i1 (MA M H) (QN an.o) (Ag.ai OB.o) (λb hb=>by have:=(OB.o.lt b hb).1;omega)).mono ?_;rintro e w4 ⟨rfl,u,aw,ax⟩;go_wp2;go_ret;exact⟨rfl,u,(Ad.u N.o G3.o).trans aw,ax⟩
theorem SO(d H n q:Nat)(I:Int->List Nat)(i:Int)(a f l:Nat)(c:List Nat)(w:A7)(B:Ae)(h:AF w B d H n q I)(J:AD w B)(i0:0<=i)(i1:i<H)(K:I i=Cd n a f l c)
  (k0:1<=a)(k1:a<=4)(p1:f<=2147483647)(hs:l<=9223372036854775807)(hm:c.length<=n - 19)(L:∀x∈c,x<256):
  BD A4 86 #[AA (A2 ⟨d,0,Ax⟩),O E i,O E a,O E f] w λe M=>(∃N P,e=A5 (Bx #[BZ #[O E a,O E f,O E l,V N c.length P],O E 0])/\
   M.ownsRow w.heap.size 5 1 (V N c.length P) c.length (Ar c))/\w.grownBy M Ax:=by
 obtain⟨_,_,aH,h0,h1,aI⟩:=h.dR;have HD:=zh h;have am:=zh J;have an:=zh L;have ao:=zh K;have b1:((a:Int)!=(a:Int))=A3:=Δ;have b2:((f:Int)!=(f:Int))=A3:=Δ;clear h J L K
 go_enter DG,C5
 go_wp2_with fail;obtain⟨C,s⟩:=Af (w.alloc (Bs #[O E 0,O E 0,O E 0,V Ax 0 0] 174))
 have t:w.grownBy C Ax:=by rw[<-s];exact Z _ _ Ax
 have Q:Aa C w.heap.size 174 [O E 0,O E 0,O E 0,V Ax 0 0]:=by rw[<-s];exact Aa.new _ _ _
 rw[s];have G1:=zh t;have aq:=zh Q;have ar:=zh (HD.o.u t);have au:Hd (AD C B):=zh (λk hk=>am.o k (Ψ t.size));clear s t Q;have D:=SH ar.o au.o i i0 i1;rw[ao.o]at D;refine D.mono ?_;clear D;rintro e w2 ⟨ra,rc,rfl,R,F⟩;have S:=zh R;have T:=zh (Ab G1.o F);have U:=zh (aq.o.u F Δ);clear R F;go_wp2_with fail;refine(YR n a f l c ra rc w2 h0 h1 k0 k1 hm an.o p1 hs (Ag.ai S.o)).mono ?_;rintro e G ⟨⟨m,o,rfl,W⟩,u⟩;have ay:=T.o.size;have aM:=u.size;obtain⟨y,r⟩:=Af (G.alloc (Bs #[O E a,O E f,O E l,V m c.length o] 174))
 have z:G.grownBy y Ax:=by rw[<-r];exact Z _ _ Ax
 have X:Aa y G.heap.size 174 [O E a,O E f,O E l,V m c.length o]:=by rw[<-r];exact Aa.new _ _ _
 have Y:=zh (AV (Cf W ay) z);have G4:=zh (Ab (Ab T.o u) z);have g:=zh ((U.o.u u Δ).u z Δ);have A:=zh X;have aA:=zh r;clear W u z X r S U;have x0:=A.o.m 0;have x1:=A.o.m 1;have x2:=A.o.m 2;have x3:=A.o.m 3;have r0:=g.o.m 0;have r1:=g.o.m 1;have r2:=g.o.m 2;have r3:=g.o.m 3;have q0:=g.o.v 0;have q1:=g.o.v 1;have q2:=g.o.v 2;have q3:=g.o.v 3;have r:=aA.o;go_wp2_with fail;obtain⟨aB,aa⟩:=Af (((((y.setCell ⟨w.heap.size,0,Ax⟩ (O E a)).setCell ⟨w.heap.size,1,Ax⟩ (O E f)).setCell ⟨w.heap.size,2,Ax⟩ (O E l)).setCell ⟨w.heap.size,3,Ax⟩ (V m c.length o)));have p:=(((g.o.setCell 0 (O E a)).setCell 1 (O E f)).setCell 2 (O E l)).setCell 3 (V m c.length o)
 have ht:Ac (λj=>j=w.heap.size) y aB:=by
  rw[<-aa];exact(((Ac.of (Ao _ _ _) (λk e=>by cases e;rfl)).trans (Ac.of (Ao _ _ _) (λk e=>by cases e;rfl))).trans (Ac.of (Ao _ _ _) (λk e=>by cases e;rfl))).trans (Ac.of (Ao _ _ _) (λk e=>by cases e;rfl))
 rw[aa]at p⊢;simp only[jY,kE]at p;have s0:=p.m 0;have s1:=p.m 1;have s2:=p.m 2;have s3:=p.m 3;refine Bk (v:=Bx #[BZ #[O E a,O E f,O E l,V m c.length o],O E 0]) (by simp[C4,Tryz.f86,go_sem,s0,s1,s2,s3]) rfl ?_;exact⟨⟨m,o,rfl,ht.aT Y.o (λb hb e=>by subst e;exact Bv g.o Y.o Ξ hb)⟩,Ac.u G4.o ht (λj e=>Ω)⟩
theorem OG(d u n q:Nat)(x:Int->List Nat)(i J K:Int)(w:A7)(g:Ae)(h:AF w g d u n q x)(y:AD w g)(L:0<=i)(M:i<u)(z:x i=AO n):
  BD A4 86 #[AA (A2 ⟨d,0,Ax⟩),O E i,O E J,O E K] w λe N=>e=A5 (Bx #[BZ #[O E 0,O E 0,O E 0,V Ax 0 0],O E 5])/\w.grownBy N Ax:=by
 obtain⟨_,_,al,P,Q,am⟩:=h.dR;have R:=zh h;have S:=zh y;have T:=zh z;clear h y z
 go_enter DG,C5
 go_wp2_with fail;obtain⟨l,c⟩:=Af (w.alloc (Bs #[O E 0,O E 0,O E 0,V Ax 0 0] 174))
 have f:w.grownBy l Ax:=by rw[<-c];exact Z _ _ Ax
 have A:Aa l w.heap.size 174 [O E 0,O E 0,O E 0,V Ax 0 0]:=by rw[<-c];exact Aa.new _ _ _
 rw[c];have U:=zh f;have W:=zh A;have X:=zh (R.o.u f);have Y:Hd (AD l g):=zh (λk hk=>S.o k (Ψ f.size));clear c f A;have m:=SH X.o Y.o i L M;rw[T.o]at m;refine m.mono ?_;clear m;rintro e w2 ⟨ra,rc,rfl,B,o⟩;have C:=zh B;have G2:=zh (Ab U.o o);have D:=zh (W.o.u o Δ);clear B o;go_wp2_with fail;refine(Xt n ra rc w2 P Q (Ag.ai C.o)).mono ?_;rintro e F ⟨rfl,p⟩;obtain⟨r,s⟩:=Af (F.alloc (Bs #[O E 0,O E 0,O E 0,V Ax 0 0] 174))
 have t:F.grownBy r Ax:=by rw[<-s];exact Z _ _ Ax
 have G4:=zh (Ab (Ab G2.o p) t);have G:=zh ((D.o.u p Δ).u t Δ);have H:=zh s;clear p t s C D;have a:=G.o;rw[<-H.o]at a;have r0:=a.m 0;have r1:=a.m 1;have r2:=a.m 2;have r3:=a.m 3;have q0:=a.v 0;have q1:=a.v 1;have q2:=a.v 2;have q3:=a.v 3;clear a;go_wp2_with fail;rw[H.o];obtain⟨af,I⟩:=Af (((((r.setCell ⟨w.heap.size,0,Ax⟩ (O E 0)).setCell ⟨w.heap.size,1,Ax⟩ (O E 0)).setCell ⟨w.heap.size,2,Ax⟩ (O E 0)).setCell ⟨w.heap.size,3,Ax⟩ (V Ax 0 0)));have b:=(((G.o.setCell 0 (O E 0)).setCell 1 (O E 0)).setCell 2 (O E 0)).setCell 3 (V Ax 0 0)
 have ht:Ac (λj=>j=w.heap.size) r af:=by
  rw[<-I];exact(((Ac.of (Ao _ _ _) (λk e=>by cases e;rfl)).trans (Ac.of (Ao _ _ _) (λk e=>by cases e;rfl))).trans (Ac.of (Ao _ _ _) (λk e=>by cases e;rfl))).trans (Ac.of (Ao _ _ _) (λk e=>by cases e;rfl))
 rw[I]at b⊢;simp only[jY,kE]at b;have s0:=b.m 0;have s1:=b.m 1;have s2:=b.m 2;have s3:=b.m 3;refine Bk (v:=Bx #[BZ #[O E 0,O E 0,O E 0,V Ax 0 0],O E 5]) (by simp[C4,Tryz.f86,go_sem,s0,s1,s2,s3]) rfl ?_;exact⟨rfl,Ac.u G4.o ht (λj e=>Ω)⟩
structure Pc where
 aO:Int
 st:Nat
 a:Option DA
 c:Nat
 ld:List Nat
 di:Bool
 fu:Bool
 ma:Bool
namespace Pc
def lv(p:Pc):BA:=V p.a p.ld.length p.c
def cells(p:Pc):List BA:=[O E p.aO,O E p.st,p.lv,A6 p.di,A6 p.fu,A6 p.ma]
def af:Pc:=⟨0,0,Ax,0,[],A3,A3,A3⟩
end Pc
def CI(a:List Pc):List BA:=a.flatMap Pc.cells
theorem I6(a:List Pc):(CI a).length=a.length*6:=KA Pc.cells 6 (λ_=>rfl) a
theorem Gm(a:List Pc)(i j:Nat)(p:Pc)(h:a[i]?=A2 p)(b:j<6):(CI a)[i*6+j]?=p.cells[j]?:=Dd Pc.cells 6 (λ_=>rfl) a i j p h b
theorem du(a:List Pc)(i j:Nat)(p b:Pc)(v:BA)(h:a[i]?=A2 p)(c:j<6)(d:b.cells=p.cells.set j v):(CI a).set (i*6+j) v=CI (a.set i b):=by
 induction a generalizing i with
 |nil=>simp at h
 |cons x f e=>
  cases i with
  |zero=>
   simp at h;subst h;simp only[CI,lP,jY,d];rw[show 0*6+j=j by omega,nJ _ _ (by show j<(Pc.cells x).length;exact c)]
  |succ i=>
   simp only[CI,lP,kE];rw[List.set_append_right _ _ (by show(Pc.cells x).length<=_;show 6<=_;omega),show(i+1)*6+j - (Pc.cells x).length=i*6+j by show(i+1)*6+j - 6=_;omega];exact kM _ (e i (by simpa using h))
abbrev Pg:=Nat×List Nat×Bool
def Pc.pg(p:Pc):Pg:=(p.st,p.ld,p.di)
def Ei(a:Int->Option Nat)(k:Int):Option BA:=(a k).map (λi=>O E (i:Nat))
structure AX(w:A7)(e:Ae)(c a q f g:Nat)(d:List Pc)(h:Nat)(j:Int->Option Nat):Prop where
 y:Aa w c 272 [V (A2 ⟨f,0,Ax⟩) a a,.map (A2 g),O E h]
 aI:Aa w f 326 (CI d)
 map:MF w A4 3 g q (Ei j)
 aC:d.length=a
 r0:1<=a
 r1:a<=4096
 gv:h<a
 cm:∀k i,j k=A2 i↔ ∃p,d[i]?=A2 p/\p.fu=Bn/\p.aO=k
 cV:∀p∈d,Ag w 1 p.lv p.ld.length (Ar p.ld)/\(∀b,p.lv.ownBlock=A2 b->e b=0/\b<w.heap.size)/\(∀x∈p.ld,x<256)
 ez:∀p∈d,0<=p.aO/\p.aO<=65535
 c0:e c=2
 c1:e f=2
 c2:e g=2
def BN(a:List Pc)(b:Int->Option Nat)(k:Int):Option Pg:=(b k).bind (λi=>a[i]?.map Pc.pg)
def CZ(w:A7)(d:Ae)(c e q:Nat)(f:Int->Option Pg):Prop:=∃g h a i b,AX w d c e q g h a i b/\∀k,f k=BN a b k
theorem AX.ao{col':Ae}{r:List Pc}{S:Nat->Prop}(a:AX h Y J b c e g r i f)(l:Ac S h k)(n:∀d,Y d=2\/Y d=0->¬S d)(o:∀d,d<h.heap.size->col' d=Y d):AX k col' J b c e g r i f:=
 {a with
  y:=l.y a.y (n _ (CE a.c0))
  aI:=l.y a.aI (n _ (CE a.c1))
  map:=a.map.au l (n _ (CE a.c2))
  cV:=λp s=>let⟨t,q,u⟩:=a.cV p s;⟨l.aN t (λj m=>n _ (D0 (q j m).1)),λj m=>⟨by rw[o j (q j m).2];exact(q j m).1,jJ (q j m).2 l.aQ⟩,u⟩
  c0:=by rw[o _ a.y.lt];exact a.c0
  c1:=by rw[o _ a.aI.lt];exact a.c1
  c2:=by rw[o _ a.map.lt];exact a.c2}
theorem CZ.ao{d:Int->Option Pg}{S:Nat->Prop}(e:CZ h Y J b c d)(f:Ac S h k)(g:∀a,Y a=2\/Y a=0->¬S a)(i:∀a,a<h.heap.size->p a=Y a):CZ k p J b c d:=
 let⟨j,l,m,n,o,q,r⟩:=e
 ⟨j,l,m,n,o,q.ao f g i,r⟩
theorem AX.u{d:List Pc}(a:AX h Y J b c e g d i f)(j:h.grownBy k Ax):AX k Y J b c e g d i f:=
 a.ao (Ac.az (S:=λ_=>False) j) (λ_ _ a=>a) (λ_ _=>rfl)
theorem CZ.u{d:Int->Option Pg}(a:CZ h Y J b c d)(e:h.grownBy k Ax):CZ k Y J b c d:=
 a.ao (Ac.az (S:=λ_=>False) e) (λ_ _ a=>a) (λ_ _=>rfl)
theorem CZ.ag{C:Nat->Prop}{a:Int->Option Pg}(g:CZ h Y J b c a)(d:Ad C h Y k p)(i:¬C 2)(l:¬C 0):CZ k p J b c a:=
 g.ao d.au (λj m f=>m.elim (λe=>i (by rw[<-e];exact f)) (λe=>l (by rw[<-e];exact f))) d.ak
theorem AX.mono{a:List Pc}(d:AX h Y J b c g i a q f)(j:c<=e):AX h Y J b e g i a q f:={d with map:=d.map.mono j}
theorem CZ.mono{a:Int->Option Pg}(d:CZ h Y J b c a)(f:c<=e):CZ h Y J b e a:=
 let⟨g,i,j,k,l,m,n⟩:=d
 ⟨g,i,j,k,l,m.mono f,n⟩
theorem AX.at{a:List Pc}{l:Nat}(m:AX h Y b c e J g a l f){i:Nat}{p:Pc}(n:a[i]?=A2 p){j:Nat}(k:p.cells[j]?=A2 d):h.cell? ⟨J,i*6+j,Ax⟩=A2 d:=by
 have o:j<6:=(jL.1 k).1;exact m.aI.ap (by rw[Gm a i j p n o];exact k)
def EZ(a:Nat)(b:Int->Option Nat)(k:Int):BA:=match b k with|none=>AA Ax|some i=>AA (A2 ⟨a,i*6,Ax⟩)
theorem Hy(a:0<=l)(b:l<=65535):(Lit.int E l).wf=Bn:=WalkArith.wf_i64 Ω
theorem KQ{m:List Pc}{n:Nat}(a:AX h Y J b e c g m n f)(k:Int)(o:0<=k)(q:k<=65535):
  BD A4 212 #[AA (A2 ⟨J,0,Ax⟩),O E k] h λr s=>r=A5 (EZ c f k)/\h=s:=by
 have H:=zh a;have v:=a.y.m 0;have w:=a.y.m 1;have j:=a.map.gT (e:=3) (t:=115) kj mi (z:=O E 0) (w:=h) rfl k (Hy o q);have x:=zh j;clear a
 cases d:f k with
 |none=>
  have l:Ei f k=Ax:=by rw[Ei,d];rfl
  rw[l]at j
  go_enter C8,C2
  go_wp2;go_ret;exact⟨by simp[EZ,d],rfl⟩
 |some i=>
  have l:Ei f k=A2 (O E i):=by rw[Ei,d];rfl
  rw[l]at j;obtain⟨p,u,_,_⟩:=(H.o.cm k i).1 d
  have y:i<b:=by rw[<-H.o.aC];exact(jL.1 u).1
  have A:=H.o.r1
  go_enter C8,C2
  go_wp2;go_ret;exact⟨by simp[EZ,d],rfl⟩
def Pc.eZ(p:Pc):BA:=BZ #[O E p.st,p.lv,A6 p.di]
def Dl(a:List Pc)(b:Int->Option Nat)(k:Int):Option Pc:=(b k).bind (λi=>a[i]?)
def Gr(o:Option Pc):BA:=match o with|none=>Bx #[Pc.af.eZ,A6 A3]|some p=>Bx #[p.eZ,A6 Bn]
theorem Mv{o:List Pc}{I:Nat}(y:AX h Y b c e J g o I f)(k:Int)(z:0<=k)(A:k<=65535):
  BD A4 211 #[AA (A2 ⟨b,0,Ax⟩),O E k] h λd K=>d=A5 (Gr (Dl o f k))/\h.grownBy K Ax:=by
 have H:=zh y;clear y
 cases m:f k with
 |none=>
  have q:Gr (Dl o f k)=Bx #[BZ #[O E 0,V Ax 0 0,A6 A3],A6 A3]:=by rw[Dl,m];rfl
  have t:EZ J f k=AA Ax:=by rw[EZ,m]
  rw[q]
  go_enter C9,C3
  go_wp2_with fail;refine(KQ (H.o.u (Z h _ Ax)) k z A).mono ?_;rintro d n ⟨rfl,rfl⟩;rw[t];go_wp2;exact Bk (BQ (p:=4) (ty:=198) rfl _ _ h.heap.size _ _ _ _ rfl ((Aa.new h 198 [O E 0,V Ax 0 0,A6 A3]).alloc _) lX rfl rfl) rfl ⟨rfl,Ab (Z _ _ Ax) (Z _ _ Ax)⟩
 |some i=>
  obtain⟨p,u,L,M⟩:=(H.o.cm k i).1 m
  have q:Gr (Dl o f k)=Bx #[p.eZ,A6 Bn]:=by simp[Dl,m,u,Gr]
  have t:EZ J f k=AA (A2 ⟨J,i*6,Ax⟩):=by rw[EZ,m]
  rw[q];obtain⟨T,B,a,C,D,F,U,W⟩:=p;simp only[Pc.eZ,Pc.lv]at*;have v:=zh u;clear u L M m q
  go_enter C9,C3
  go_wp2_with fail;refine(KQ (H.o.u (Z h _ Ax)) k z A).mono ?_;rintro d n ⟨rfl,rfl⟩;rw[t];obtain⟨n,r⟩:=Af (h.alloc (Bs #[O E 0,V Ax 0 0,A6 A3] 198))
  have l:Aa n h.heap.size 198 [O E 0,V Ax 0 0,A6 A3]:=by rw[<-r];exact Aa.new _ _ _
  have w:h.grownBy n Ax:=by rw[<-r];exact Z _ _ Ax
  have s:=H.o.u w;have X:=s.at v.o (j:=1) rfl;have N:=s.at v.o (j:=2) rfl;have x3:=s.at v.o (j:=3) rfl;simp only[Pc.lv]at N;rw[r];have y0:=l.m 0;have y1:=l.m 1;have y2:=l.m 2;have f0:=l.v 0;have f1:=l.v 1;have f2:=l.v 2;have P:=zh l;have Q:=zh w;clear r l w s;go_wp2_with fail;obtain⟨G,x⟩:=Af ((((n.setCell ⟨h.heap.size,0,Ax⟩ (O E B)).setCell ⟨h.heap.size,1,Ax⟩ (V a D.length C)).setCell ⟨h.heap.size,2,Ax⟩ (A6 F)))
  have R:Aa G h.heap.size 198 [O E B,V a D.length C,A6 F]:=by rw[<-x];exact((P.o.setCell 0 _).setCell 1 _).setCell 2 _
  have S:Ac (λk=>k=h.heap.size) n G:=by rw[<-x];exact((Ac.of (Ao _ _ _) (λk d=>by cases d;rfl)).trans (Ac.of (Ao _ _ _) (λk d=>by cases d;rfl))).trans (Ac.of (Ao _ _ _) (λk d=>by cases d;rfl))
  rw[x];exact Bk (BQ (p:=4) (ty:=198) rfl _ _ h.heap.size _ _ _ _ rfl R lX rfl rfl) rfl ⟨rfl,Ac.u Q.o S (λj d=>d▸jF _)⟩
theorem AX.aV{w':A7}{s:List Pc}{w:Nat}(a:AX h Y b c e J g s w f){i:Nat}{p:Pc}(t:s[i]?=A2 p)(m:Pc)(z:m.fu=p.fu)(v:m.aO=p.aO)
  (A:Ag h 1 m.lv m.ld.length (Ar m.ld)/\(∀l,m.lv.ownBlock=A2 l->Y l=0/\l<h.heap.size)/\(∀x∈m.ld,x<256))
  (q:Aa w' J 326 (CI (s.set i m)))(u:Ac (λk=>k=J) h w'):AX w' Y b c e J g (s.set i m) w f:=by
 have B:=(jL.1 t).1;have C:=a.c1
 have D:∀p∈s.set i m,Ag h 1 p.lv p.ld.length (Ar p.ld)/\(∀l,p.lv.ownBlock=A2 l->Y l=0/\l<h.heap.size)/\(∀x∈p.ld,x<256):=by
  intro x d
  rcases lI d with d|rfl
  ·exact a.cV x d
  ·exact A
 refine{a with y:=u.y a.y (λr=>?_),aI:=q,map:=a.map.au u (a.map.cg a.aI),aC:=by rw[kG];exact a.aC,cm:=λk j=>?_,cV:=λx d=>?_,ez:=λx d=>?_,c0:=a.c0,c1:=a.c1,c2:=a.c2}
 ·have o:=a.y;rw[r]at o;have n:=a.aI;unfold Aa at o n;rw[o]at n;simp at n
 ·rw[a.cm k j]
  by_cases r:i=j
  ·subst r;rw[kv B]
   constructor
   ·rintro⟨x,d,o,n⟩;rw[t]at d
    cases d
    exact⟨m,rfl,z.trans o,v.trans n⟩
   ·rintro⟨x,d,o,n⟩
    cases d
    exact⟨p,t,z.symm.trans o,v.symm.trans n⟩
  ·rw[jO r]
 ·obtain⟨o,n,E⟩:=D x d;exact⟨u.aN o (λl q r=>by have:=(n l q).1;rw[r,C]at this;cases this),λl q=>⟨(n l q).1,jJ (n l q).2 u.aQ⟩,E⟩
 ·rcases lI d with d|rfl
  ·exact a.ez x d
  ·rw[v];exact a.ez p (kp t)
theorem AX.gZ{d:List Pc}{m:Nat}(n:AX h Y b c e J g d m f){i:Nat}{p:Pc}(o:d[i]?=A2 p)(a:Pc)(j:Nat)(v:BA)(q:j<6)(r:a.cells=p.cells.set j v)(s:a.fu=p.fu)(t:a.aO=p.aO)
  (u:Ag h 1 a.lv a.ld.length (Ar a.ld)/\(∀l,a.lv.ownBlock=A2 l->Y l=0/\l<h.heap.size)/\(∀x∈a.ld,x<256)):AX (h.setCell ⟨J,i*6+j,Ax⟩ v) Y b c e J g (d.set i a) m f:=
 n.aV o a s t u (by rw[<-du d i j p a v o q r];exact n.aI.setCell _ _) (Ac.of (Ao _ _ _) (λk w=>by cases w;rfl))
def GU(a:List Pc)(b:Int->Option Nat)(k:Int):List Pc:=match b k with|none=>a|some i=>match a[i]? with|none=>a|some p=>a.set i {p with ma:=Bn}
theorem Ob{a:List Pc}{i:Nat}{p:Pc}(b:f l=A2 i)(c:a[i]?=A2 p):GU a f l=a.set i {p with ma:=Bn}:=by
 simp only[GU,b,c]
theorem Zb(a:List Pc)(b:Int->Option Nat)(i:Nat)(p c:Pc)(d:a[i]?=A2 p)(f:c.pg=p.pg)(l:Int):BN (a.set i c) b l=BN a b l:=by
 unfold BN
 cases g:b l with
 |none=>rfl
 |some j=>
  simp only[nS]
  by_cases e:i=j
  ·subst e;rw[kv (jL.1 d).1,d];simp[f]
  ·rw[jO e]
theorem Zm(b:List Pc)(a:Int->Option Nat)(k l:Int):BN (GU b a k) a l=BN b a l:=by
 cases c:a k with
 |none=>simp only[GU,c]
 |some i=>
  cases d:b[i]? with
  |none=>simp only[GU,c,d]
  |some p=>
   rw[Ob c d];exact Zb b a i p {p with ma:=Bn} d rfl l
theorem ZS{d:List Pc}{I:Nat}(s:AX h Y b c e J g d I f)(aj:AD h Y)(k:Int)(w:0<=k)(x:k<=65535):
  BD A4 255 #[AA (A2 ⟨b,0,Ax⟩),O E k] h λa X=>a=A5 (Gr (Dl d f k))/\∃aa,Ad (Sc (· =2) 101) h Y X aa/\AX X aa b c e J g (GU d f k) I f:=by
 have H:=zh s;have K:Sc (· =2) 101 100:=Sc.hz Ω Ω;obtain⟨r,y⟩:=Af (h.alloc (Bs #[O E 0,V Ax 0 0,A6 A3] 198))
 have L:h.grownBy r Ax:=by rw[<-y];exact Z _ _ Ax
 have M:Aa r h.heap.size 198 [O E 0,V Ax 0 0,A6 A3]:=by rw[<-y];exact Aa.new _ _ _
 obtain⟨N,P⟩:=Af (AN Y h.heap.size 100)
 have z:N h.heap.size=100:=by rw[<-P];exact A0 _ _ _
 have Q:Ad (Sc (· =2) 101) h Y r N:=by rw[<-P];exact Cl aj L (jF _) M.lt K
 have n:AX r N b c e J g d I f:=s.ao (Ac.az (S:=λ_=>False) L) (λ_ _ s=>s) Q.ak;have t:=zh n;have A:=zh Q;have B1:=zh M;have ac:=zh y;clear s P Q M y L n
 cases o:f k with
 |none=>
  have B:Gr (Dl d f k)=Bx #[BZ #[O E 0,V Ax 0 0,A6 A3],A6 A3]:=by rw[Dl,o];rfl
  have R:EZ J f k=AA Ax:=by rw[EZ,o]
  have u:GU d f k=d:=by rw[GU,o]
  rw[u,B]
  go_enter C7,C1
  go_wp2_with fail;rw[ac.o];refine(KQ t.o k w x).mono ?_;rintro a r ⟨rfl,rfl⟩;rw[R];go_wp2_with fail;refine(Mv t.o k w x).mono ?_;rintro a w2 ⟨rfl,D⟩;rw[B];have l:=B1.o.u D Δ;have F:=zh (t.o.u D);have v:=zh (A.o.trans (Ad.u A.o.new D));have y0:=l.m 0;have y1:=l.m 1;have y2:=l.m 2;have f0:=l.v 0;have f1:=l.v 1;have f2:=l.v 2;have T:=zh l;clear l D;go_wp2_with fail;obtain⟨w3,ar,m,ad⟩:=Bq T.o (O E 0) (V Ax 0 0) (A6 A3);rw[ar];refine Bk (BQ (p:=4) (ty:=198) rfl _ _ h.heap.size _ _ _ _ rfl m lX rfl rfl) rfl ⟨rfl,_,v.o.trans (AL v.o.new ad (λk a=>by subst a;rw[z];exact K)),F.o.ao ad (λj U a=>?_) (λ_ _=>rfl)⟩;subst a;rw[z]at U;omega
 |some i=>
  obtain⟨p,q,aC,aD⟩:=(H.o.cm k i).1 o
  have R:EZ J f k=AA (A2 ⟨J,i*6,Ax⟩):=by rw[EZ,o]
  have u:=Ob o q
  have ae:Dl d f k=A2 p:=by rw[Dl,o];exact q
  have af:Dl (GU d f k) f k=A2 {p with ma:=Bn}:=by rw[Dl,o,u];exact kv (jL.1 q).1
  have B:Gr (Dl d f k)=Bx #[BZ #[O E p.st,V p.a p.ld.length p.c,A6 p.di],A6 Bn]:=by rw[ae];rfl
  have au:Gr (Dl (GU d f k) f k)=Bx #[BZ #[O E p.st,V p.a p.ld.length p.c,A6 p.di],A6 Bn]:=by rw[af];rfl
  rw[B];have n:=t.o;have x5:=n.at q (j:=5) rfl;have z5:=n.aI.v (i*6+5);have W:=n.gZ q {p with ma:=Bn} 5 (A6 Bn) Ω rfl rfl rfl (n.cV p (kp q));rw[<-u]at W;have l:=B1.o.fe (p:=⟨J,i*6+5,Ax⟩) (pq H.o.aI.lt) (A6 Bn);have ag:=A.o.trans (Ad.of (C:=Sc (· =2) 101) A.o.new (Ao r ⟨J,i*6+5,Ax⟩ (A6 Bn)) (λk a=>by cases a;exact CE n.c1));have F:=zh W;have T:=zh l;have v:=zh ag;have HP:=zh q;clear n W l ag u q ae af
  go_enter C7,C1
  go_wp2_with fail;rw[ac.o];refine(KQ t.o k w x).mono ?_;rintro a r ⟨rfl,rfl⟩;rw[R];go_wp2_with fail;refine(Mv F.o k w x).mono ?_;rintro a w3 ⟨rfl,G⟩;rw[au];have m:=T.o.u G Δ;have H3:=zh (F.o.u G);have S3:=zh (v.o.trans (Ad.u v.o.new G));have y0:=m.m 0;have y1:=m.m 1;have y2:=m.m 2;have f0:=m.v 0;have f1:=m.v 1;have f2:=m.v 2;have ay:=zh m;clear m G x5 z5;go_wp2_with fail;obtain⟨w4,az,aA,ai⟩:=Bq ay.o (O E p.st) (V p.a p.ld.length p.c) (A6 p.di);rw[az];refine Bk (BQ (p:=4) (ty:=198) rfl _ _ h.heap.size _ _ _ _ rfl aA lX rfl rfl) rfl ⟨rfl,_,S3.o.trans (AL S3.o.new ai (λk a=>by subst a;rw[z];exact K)),H3.o.ao ai (λj U a=>?_) (λ_ _=>rfl)⟩;subst a;rw[z]at U;omega
end
section
open Go.RowKit Go.Shelf
attribute [local go_sem] Oper.semAt_some
def BF(a:List Pc)(j:Nat):Pc:=a.getD j Pc.af
theorem Tx(a:List Pc)(j:Nat)(h:j<a.length):a[j]?=A2 (BF a j):=by simp[BF,List.getD,h]
abbrev Nt(a:List Pc)(j:Fin a.length):Array BA:=#[O E j.val,BZ #[O E (BF a j).aO,O E ((BF a j).st:Nat),V (BF a j).a (BF a j).ld.length (BF a j).c,A6 (BF a j).di,A6 (BF a j).fu,A6 (BF a j).ma]]
def fl(a:List Pc)(k:Nat):List (Fin a.length):=(Cp a.length k).filter (λj=>(BF a j).fu)
theorem TV(a:List Pc)(k:Nat)(h:k<a.length):fl a (k+1)=fl a k++(if(BF a k).fu then[⟨k,h⟩]else[]):=by
 unfold fl;rw[Oa _ _ h,pB]
 congr 1
 simp[CL]
 split<;>simp_all
theorem Ng(a:List Pc)(k:Nat)(h:k<=a.length):(fl a k).length<=k:=by
 have:=List.length_filter_le (λj:Fin a.length=>(BF a j).fu) (Cp a.length k);rw[KI _ _ h]at this;exact this
theorem Rq(c:Nat)(w:A7):
  BD A4 251 #[AA (A2 ⟨c,0,Ax⟩)] w λe a=>e=A5 (.func (.func 278) #[] #[AA (A2 ⟨w.heap.size,0,Ax⟩)])/\a=w.alloc (Bs #[AA (A2 ⟨c,0,Ax⟩)] 194):=by
 go_enter Tryz.func251,Tryz.ntmps251
 go_wp2;go_ret;exact⟨rfl,rfl⟩
theorem dU(n l s g x:Nat)(hn:1<=n)(b:List Pc)(c r:Nat)(J H:List (Fin b.length)->A7->Prop)
  (hJ:∀d A B,J d A->A.grownBy B Ax->J d B)
  (hY:∀d u W,J d W->d.length<b.length->YieldAt B3 (n - 1) A4 l (Nt b u) W λe m=>
   (e=A5 (A6 Bn)/\J (d++[u]) m/\BM g x W m)\/(e=A5 (A6 A3)/\H (d++[u]) m))
  (W:A7)(I:W.cell? ⟨s,0,Ax⟩=A2 (AA (A2 ⟨c,0,Ax⟩)))(t:s<g/\s≠x)(aF:g<=s+1)(aG:g<=W.heap.size)(K:W.cell? ⟨c,0,Ax⟩=A2 (V (A2 ⟨r,0,Ax⟩) b.length b.length))(_:c<g/\c≠x)(L:Aa W r 326 (CI b))(M:r<g/\r≠x)(hm:b.length<=4096)(h0:J [] W):
  CallsIn B3 n A4 278 #[.func (.yield l) #[] #[],AA (A2 ⟨s,0,Ax⟩)] W λe m=>(∃v,e=A5 v)/\
   ((∃N,N=fl b b.length/\J N m)\/(∃d,(∃k,k<=b.length/\d=fl b k)/\H d m)):=by
 have HC:=zh K;have P:=zh I;have ai:=zh L;clear K I L;refine callsIn_of_wp CA rfl ki ?_ rfl;simp only[Tryz.ntmps278,kB,jT,kA,B7,B6,kf,kh,kJ,kr,jX,ku];have Q:=P.o;have c0:=HC.o
 gi_wp2
 gi_loopw [10] (λi wr=>∃k:Nat,k<=b.length/\i=O E (k:Nat)/\J (fl b k) wr/\BM g x W wr) (λi _=>((b.length:Int) - (intOf i)).toNat)
 case atStart=>exact⟨0,ke _,Δ,h0,BM.refl _ _ _⟩
 case round=>
  obtain⟨k,hk,rfl,w,o⟩:=hrel;clear Q c0
  by_cases q:k<b.length
  ·have R:=ai.o.fH o M.1 M.2;have al:=zh o;have Q:wr.cell? ⟨s,0,Ax⟩=A2 (AA (A2 ⟨c,0,Ax⟩)):=(o.ap (p:=⟨s,0,Ax⟩) t.1 t.2).trans P.o;have S:=Tx b k q;have T:=TV b k q
   have h:=λ(j:Nat) (v:BA) (U:(BF b k).cells[j]?=A2 v)=>R.ap (j:=k*6+j) (by rw[Gm b k j _ S (by exact(jL.1 U).1)];exact U)
   have x0:=h 0 _ rfl;have x1:=h 1 _ rfl;have x2:=h 2 _ rfl;have x3:=h 3 _ rfl;have x4:=h 4 _ rfl;have x5:=h 5 _ rfl;simp only[kU]at x0;simp only[Pc.lv]at x2;have X:=hY (fl b k) ⟨k,q⟩;have Y:=zh X;have y:=zh T;have ao:=zh w;have ap:=zh (Ng b k hk)
   have aq:g<=wr.heap.size:=by
    have h9:=o s t.1 t.2;rw[lZ (show s<W.heap.size by omega)]at h9;have h8:=(jR.1 h9).1;omega
   have ar:Bd ((k:Int)<b.length)=Bn:=jG Ω;have aO:Bd (k<b.length)=Bn:=jG q;have aP:wrap64 ((k:Int)+1)=(k:Int)+1:=BX _ Ω;clear R h S T X w o;dsimp only[Nt]at Y;generalize BF b k=x at*;obtain⟨au,st,a,cc,ld,di,fu,ma⟩:=x;dsimp only at*;obtain⟨w5,z⟩:=Af (wr.alloc (Bs #[O E au,O E st,V a ld.length cc,A6 di,A6 fu,A6 ma] 326))
   have C:wr.grownBy w5 Ax:=by rw[<-z];exact Z _ _ Ax
   have D:=zh (hJ _ _ _ ao.o C);have F:=zh (al.o.trans (LZ ((Fv C).mono aq)));have G:=zh z;clear z C
   cases fu with
   |true=>
    obtain⟨fn,aR,aS,aT,hy,ad⟩:=Y.o w5 D.o (lM ap.o q);rw[<-G.o]at hy ad
    gi_wp2
    refine ad.mono ?_;rintro e W4 (⟨rfl,aB,aC⟩|⟨rfl,aD⟩)
    ·gi_wp2
     go_roundw
     case rel=>exact⟨k+1,Ω,by push_cast;rfl,by rw[y.o];exact aB,F.o.trans (by rw[<-G.o];exact aC)⟩
     case measure=>first|(simp[intOf];done)|(simp[intOf];omega)
    ·gi_wp2
     refine Bk (results_none rfl _ _ _) rfl ?_;exact⟨⟨_,rfl⟩,D0 ⟨_,⟨k+1,Ω,y.o.symm⟩,aD⟩⟩
   |false=>
    rw[<-G.o]at D F
    gi_wp2
    refine⟨(λf e=>by cases e),?_⟩
    gi_wp2
    go_roundw
    case rel=>exact⟨k+1,Ω,by push_cast;rfl,by rw[y.o];simpa using D.o,F.o⟩
    case measure=>first|(simp[intOf];done)|(simp[intOf];omega)
  ·obtain rfl:k=b.length:=by omega
   have ar:Bd ((b.length:Int)<b.length)=A3:=jH Ω
   gi_wp2
   go_end0
   exact⟨⟨_,rfl⟩,CE ⟨_,rfl,w⟩⟩
theorem Qz(n s b x:Nat)(h:1<=n)(a:List Pc)(c d:Nat)(w:A7)(i:s<b/\s≠x)(j:b<=s+1)(m:b<=w.heap.size)(o:w.cell? ⟨s,0,Ax⟩=A2 (AA (A2 ⟨c,0,Ax⟩)))(q:w.cell? ⟨c,0,Ax⟩=A2 (V (A2 ⟨d,0,Ax⟩) a.length a.length))(t:c<b/\c≠x)(u:Aa w d 326 (CI a))(v:d<b/\d≠x)(y:a.length<=4096):
  SeqStopsK B3 n A4 278 #[AA (A2 ⟨s,0,Ax⟩)] (Nt a) (BM b x) (λz=>z=fl a a.length) (λg=>∃k,k<=a.length/\g=fl a k) a.length w:=λl J C W f D _ E F=>
 dU n l s b x h a c d J C (λg A B G H=>D g A B Ax G H (λr e=>by cases e)) E W ((f.cell (p:=⟨s,0,Ax⟩) (by show s<w.heap.size;omega)).trans o) i j (jM m f.size) ((f.cell (p:=⟨c,0,Ax⟩) (by show c<w.heap.size;omega)).trans q) t (u.below f Ω) v y F
theorem Tr:(A4.info? 3).map (λi=>(i.zero,i.size,i.bytes))=A2 (A2 (O E 0),1,8):=Φ
def GV(a:List Pc)(b:List (Fin a.length)):List Int:=b.map (λj=>(BF a j.val).aO)
theorem Z2{a:List Pc}(j:AX h Y b e J c g a i f):
  BD A4 210 #[AA (A2 ⟨b,0,Ax⟩)] h λu y=>∃v,u=A5 v/\y.ownsRow h.heap.size 3 1 v (fl a a.length).length ((GV a (fl a a.length)).map (O E))/\h.grownBy y Ax:=by
 obtain⟨G,H,I,L,M⟩:=info_parts Tr;have N:=j.aC;subst N;have P:=j.r1;have Q:=zh j;have R:Hd (b<h.heap.size):=zh j.y.lt;have S:Hd (c<h.heap.size):=zh j.aI.lt;clear j;have z:B3.round=Ax:=rfl;refine(B2 (n:=20)).1 ?_;refine B5 Tryz.func210 rfl ki ?_ z;simp only[Tryz.ntmps210,kB,jT,kA,B7,B6,kf,kh,kJ,kr,jX,ku]
 gi_wp2_with (refine⟨ki,?_⟩;gi_at_call 251;refine(B2.2 (Rq _ _)).mono ?_;rintro u w' ⟨rfl,rfl⟩)
 obtain⟨k,o⟩:=Af ((h.alloc (Bs #[V Ax 0 0] 145)).alloc (Bs #[AA (A2 ⟨b,0,Ax⟩)] 194))
 have A:Below h.heap.size h k:=by rw[<-o];exact((BC _ h).alloc (jF _) _).alloc Δ _
 have hz:k.heap.size=h.heap.size+2:=by rw[<-o];simp
 have T:DX k h.heap.size 145 (V Ax 0 0):=by rw[<-o];exact(Boxed.new h _ _).alloc _
 have U:k.cell? ⟨h.heap.size+1,0,Ax⟩=A2 (AA (A2 ⟨b,0,Ax⟩)):=by
  rw[<-o];have j:=Boxed.new (h.alloc (Bs #[V Ax 0 0] 145)) 194 (AA (A2 ⟨b,0,Ax⟩));rw[CK]at j;exact j.cell
 rw[o];clear o;have B:=Q.o.u (Ff A)
 refine wpIn_rangeFunc_ownH z Ω (gf:=278) (lb:=#[AA (A2 ⟨h.heap.size+1,0,Ax⟩)]) rfl ki (enters_of CA Φ rfl)
  (Qz 19 (h.heap.size+1) k.heap.size h.heap.size Ω a b c k Ω Ω (jF _) U (B.y.m 0) (Ψ R.o) B.aI (Ψ S.o) P)
  BM.trans (BM.eL (jF _)) (BC _ _) (λ_=>rfl)
  (λ(d:List (Fin a.length)) W=>(∃v,DX W h.heap.size 145 v/\W.ownsRow k.heap.size 3 1 v d.length ((GV a d).map (O E))/\True)/\Below h.heap.size k W)
  (λ_ _ _=>False)
  (B4 (Own.from (holdsRow_own k.heap.size h.heap.size 145 3 1 (λd:List (Fin a.length)=>d.length) (λd:List (Fin a.length)=>(GV a d).map (O E)) (λ_ _=>True)) _) (B8 Ω Ω))
  (λ_ _ _ _ _ w _ _=>w)
  ⟨⟨_,T,World.ownsRow_nil _ _ _ _,ki⟩,BC _ _⟩
  (λJ x W=>∃p,Aa W p 326 (BF a J.val).cells/\x={tmps:=#[AA (A2 ⟨b,0,Ax⟩),CX,V Ax 0 0,AA (A2 ⟨h.heap.size,0,Ax⟩),CX,AA (A2 ⟨p,0,Ax⟩),AA (A2 ⟨b,0,Ax⟩),A6 A3,AA (A2 ⟨b,0,Ax⟩),.func (.func 278) #[] #[AA (A2 ⟨h.heap.size+1,0,Ax⟩)],O E (J.val:Nat),BZ #[O E (BF a J.val).aO,O E ((BF a J.val).st:Nat),V (BF a J.val).a (BF a J.val).ld.length (BF a J.val).c,A6 (BF a J.val).di,A6 (BF a J.val).fu,A6 (BF a J.val).ma],CX,CX,CX,CX,CX,CX],defers:=[]})
  (λJ x _ X aq ar w Z hr=>by
   obtain⟨p,h8,h7⟩:=w
   exact⟨p,Tt h8 Z (λr u=>(hr r u).2),h7⟩)
  ?assign ?body ?done ?stop
 case assign=>
  rintro l d J W K ⟨⟨v,q,s,_⟩,m⟩ t;have au:=m.size;dsimp only[Nt]
  gi_wp2
  exact t _ _ ((KeepsOthers.alloc _ _).from _) (LZ ((BC _ W).alloc Ω _)) ⟨⟨v,q.alloc _,s.alloc _,ki⟩,m.alloc Ω _⟩ ⟨W.heap.size,Aa.new W _ _,rfl⟩
 case body=>
  rintro l d J x W hl hP ⟨⟨v,q,s,_⟩,m⟩ ⟨p,k8,rfl⟩ ax;have hc:=q.cell;have af:=m.size;have u0:W.cell? ⟨p,0,Ax⟩=A2 (O E (BF a J.val).aO):=k8.m 0;have HK:Hd (∀d:List (Fin a.length),(GV a (d++[J])).map (O E)=(GV a d).map (O E)++[O E (BF a J.val).aO]):=zh (λd=>by simp[GV]);generalize(BF a J.val).aO=kk at*
  gi_wp2_with (gi_at_builtin;refine wpListIn_append_own _ rfl _ _ 145 rfl k.heap.size 3 G (O E 0) 1 8 mA H I L M rfl Ξ _ _ _ rfl (s.alloc _) ⟨W.heap.size,0,Ax⟩ 1 1 [O E kk] rfl rfl (cell_one_new _ _ _) (by simp[Value.oneCell']) (by unfold C0;omega) Ω Γ ?_;intro v' w1 C ai _;obtain⟨g',aB,rfl⟩:=ownsRow_succ C;obtain⟨F,aj,ak,al,am,an⟩:=SM q Ξ s af C ai;have aC:=F.cell;have aD:=F.frozen)
  exact⟨al.from _,am,⟨_,aj,by rw[HK.o];simpa using ak,ki⟩,m.trans (an _ (jF _) Ω)⟩
 case done=>
  rintro D ys W hD rfl ⟨⟨v,q,s,_⟩,m⟩ t;have hc:=q.cell
  gi_wp2
  refine⟨Δ,CE ⟨_,_,rfl,BB t,?_⟩⟩;refine⟨_,BR rfl _ _ _,v,rfl,?_,Ff ((A.trans m).trans (B9 (w:=h) (jF _) W D _ _ Ω t rfl rfl))⟩;exact Cf (ownsRow_putObj s (.deferred Ax) t rfl) Ω
 case stop=>
  rintro D b d W _ _ j _;exact j.elim
theorem TW{a:List Pc}{k:Nat}{j:Fin a.length}(h:j∈fl a k):(BF a j.val).fu=Bn:=(nc.1 h).2
theorem RN{N:Nat}(j:Fin N)(h:j.val<J):j∈Cp N J:=by
 unfold Cp;rw[mZ];exact⟨j.val,Γ,Δ⟩
theorem UA(a:List Pc)(m:Nat)(e:m<=a.length)(n:∀j,j<m->(BF a j).fu=Bn):∀d,m+d<=a.length->∃b,fl a (m+d)=Cp a.length m++b/\(∀h:m<a.length,(BF a m).fu=Bn->0<d->∃f,b=⟨m,h⟩::f):=by
 intro d
 induction d with
 |zero=>
  intro _;refine⟨[],?_,λ_ _ h=>absurd h Ω⟩;rw[lw];unfold fl;refine List.filter_eq_self.2 (λj c=>?_)
  have:j.val<m:=by
   unfold Cp at c;rw[mZ]at c;obtain⟨i,o,rfl⟩:=c;simp at o⊢;omega
  exact n _ this
 |succ d p=>
  intro u;obtain⟨b,g,q⟩:=p Ω;refine⟨b++(if(BF a (m+d)).fu then[⟨m+d,Ω⟩]else[]),?_,λh k _=>?_⟩
  ·rw[<-kO,TV a (m+d) Ω,g,kK]
  ·by_cases r:0<d
   ·obtain⟨f,s⟩:=q h k r;exact⟨_,by rw[s];rfl⟩
   ·obtain rfl:d=0:=by omega
    have t:b=[]:=by
     have l:=kM BL g;rw[jI,KI _ _ e]at l;have:=Ng a m e;exact km (by simp at l;omega)
    rw[t];simp only[kU,jX];exact⟨[],jP k⟩
def Pp(a:List Pc)(m:Nat):Prop:=m<=a.length/\(∀j,j<m->(BF a j).fu=Bn)/\(m<a.length->(BF a m).fu=A3)
theorem Vt{a:List Pc}(b:J<=a.length)(h:fl a a.length=Cp a.length J):Pp a J:=by
 have c:∀j,j<J->(BF a j).fu=Bn:=λj e=>TW (k:=a.length) (j:=⟨j,Ω⟩) (by rw[h];exact RN _ e)
 refine⟨b,c,λf=>?_⟩
 cases g:(BF a J).fu with
 |false=>rfl
 |true=>
  obtain⟨m,d,i⟩:=UA a J b c (a.length - J) Ω;obtain⟨n,l⟩:=i f g Ω;rw[show J+(a.length - J)=a.length by omega,h,l]at d;have:=kM BL d;simp at this
theorem VB{a:List Pc}{j:Fin a.length}(g:b<=a.length)(d:J<=a.length)(h:Cp a.length J++[j]=fl a b)(k:j.val≠J):Pp a J:=by
 have e:∀i,i<J->(BF a i).fu=Bn:=λi l=>TW (k:=b) (j:=⟨i,Ω⟩) (by rw[<-h];exact lK _ (RN _ l))
 have c:=Ng a b g;rw[<-h,jI,KI _ _ d]at c;simp at c;refine⟨d,e,λc=>?_⟩
 cases m:(BF a J).fu with
 |false=>rfl
 |true=>
  obtain⟨r,f,n⟩:=UA a J d e (b - J) Ω;obtain⟨s,o⟩:=n c m Ω;rw[show J+(b - J)=b by omega, <-h,o]at f;have p:=List.append_cancel_left f;injection p with q;exact absurd (kM Fin.val q) k
theorem Qo{β:Type}{T:TypeId}(f:Nat->BA)(Q:Nat->β->Prop)(i:J<b):OwnFrom b (λ(s:β) W=>∃m,DX W J T (f m)/\Q m s):=by
 intro s X Y j h a c;obtain⟨m,d,g⟩:=h;exact⟨m,d.kept a (λe=>by have:=(c J e.symm).1;omega),g⟩
def Jf(a:List Pc)(m:Nat):Int:=if m=a.length then -1 else m
theorem Yl{a:List Pc}(r:AX h Y J e b c g a i f):
  BD A4 213 #[AA (A2 ⟨J,0,Ax⟩)] h λN Q=>(∃m,Pp a m/\N=A5 (O E (Jf a m)))/\h.grownBy Q Ax:=by
 have R:=r.aC;subst R;have S:=r.r1;have T:=zh r;have L:Hd (J<h.heap.size):=zh r.y.lt;have U:Hd (c<h.heap.size):=zh r.aI.lt;clear r;have P:B3.round=Ax:=rfl;refine(B2 (n:=20)).1 ?_;refine B5 Tryz.func213 rfl ki ?_ P;simp only[Tryz.ntmps213,kB,jT,kA,B7,B6,kf,kh,kJ,kr,jX,ku]
 gi_wp2_with (refine⟨ki,?_⟩;gi_at_call 251;refine(B2.2 (Rq _ _)).mono ?_;rintro N w' ⟨rfl,rfl⟩)
 obtain⟨t,w⟩:=Af ((h.alloc (Bs #[O E 0] 3)).alloc (Bs #[AA (A2 ⟨J,0,Ax⟩)] 194))
 have z:Below h.heap.size h t:=by rw[<-w];exact((BC _ h).alloc (jF _) _).alloc Δ _
 have hz:t.heap.size=h.heap.size+2:=by rw[<-w];simp
 have X:DX t h.heap.size 3 (O E 0):=by rw[<-w];exact(Boxed.new h _ _).alloc _
 have Z:t.cell? ⟨h.heap.size+1,0,Ax⟩=A2 (AA (A2 ⟨J,0,Ax⟩)):=by
  rw[<-w];have r:=Boxed.new (h.alloc (Bs #[O E 0] 3)) 194 (AA (A2 ⟨J,0,Ax⟩));rw[CK]at r;exact r.cell
 rw[w];clear w;have G:=T.o.u (Ff z)
 refine wpIn_rangeFunc_ownG P Ω (gf:=278) (lb:=#[AA (A2 ⟨h.heap.size+1,0,Ax⟩)]) rfl ki (enters_of CA Φ rfl)
  (Qz 19 (h.heap.size+1) t.heap.size h.heap.size Ω a J c t Ω Ω (jF _) Z (G.y.m 0) (Ψ L.o) G.aI (Ψ U.o) S)
  BM.trans (BM.eL (jF _)) (BC _ _) (λ_=>rfl)
  (λ(s:List (Fin a.length)) W=>(∃m,DX W h.heap.size 3 (O E (m:Nat))/\m<=a.length/\s=Cp a.length m)/\Below h.heap.size t W)
  (λk s W=>(∃m,DX W h.heap.size 3 (O E (m:Nat))/\∃j,m<=a.length/\s=Cp a.length m++[j]/\j.val≠m)/\(k=.exit 0/\Below h.heap.size t W))
  (B4 (Qo (λm=>O E (m:Nat)) (λm s=>m<=a.length/\s=Cp a.length m) Ω) (B8 Ω Ω))
  (λk=>B4 (Qo (λm=>O E (m:Nat)) (λm s=>∃j,m<=a.length/\s=Cp a.length m++[j]/\j.val≠m) Ω) (B4 (ownFrom_pure _ (λ_=>k=.exit 0)) (B8 Ω Ω)))
  ⟨⟨0,X,ke _,rfl⟩,BC _ _⟩
  ?a₁ ?assign ?body ?done ?stop
 case assign=>
  intro l x W K o
  gi_wp2
  exact o
 case body=>
  rintro l s b W ⟨⟨m,u,y,rfl⟩,d⟩ H;have I:=u.cell;have hf:=u.frozen;have al:=d.size;rw[KI _ _ y]at H
  by_cases A:b.val=m
  ·have B:((b.val:Int)!=(m:Int))=A3:=by simp[A]
   have C:(b.val !=m)=A3:=by simp[A]
   have am:wrap64 ((m:Int)+1)=(m:Int)+1:=BX _ Ω
   gi_wp2
   have aa:=Oa a.length m H;have ab:b=⟨m,H⟩:=Fin.ext A;exact⟨(KeepsOthers.setCell W ⟨h.heap.size,0,Ax⟩ _).from _,λk hk hx=>Below.heap_setCell _ _ _ _ hx,⟨⟨m+1,by push_cast;exact u.set _,H,by rw[aa,ab]⟩,d.trans ((BC _ W).setCell (p:=⟨h.heap.size,0,Ax⟩) (jF _) _)⟩⟩
  ·have B:((b.val:Int)!=(m:Int))=Bn:=by simp;omega
   have C:(b.val !=m)=Bn:=by simp[A]
   gi_wp2
   exact⟨KeepsFrom.refl _ _,⟨m,u,b,y,rfl,A⟩,rfl,d⟩
 case done=>
  rintro D ys W hD rfl ⟨⟨m,u,y,M⟩,d⟩ o;have F:=Vt y M;have c0:W.cell? ⟨J,0,Ax⟩=A2 (V (A2 ⟨c,0,Ax⟩) a.length a.length):=(d.cell (p:=⟨J,0,Ax⟩) L.o).trans (G.y.m 0);have I:=u.cell
  by_cases q:m=a.length
  ·have v:Jf a m= -1:=jP q
   have B:((m:Int)==(a.length:Int))=Bn:=by simp[q]
   have C:(m==a.length)=Bn:=by simp[q]
   gi_wp2
   gi_quiet (fail)
   gi_wp2
   refine⟨Δ,CE ⟨_,_,rfl,BB (show(W.drewN nq).heap[D]?=_ from o),?_⟩⟩;exact⟨_,BR rfl _ _ _,⟨m,F,by rw[v];rfl⟩,Ff ((z.trans d).trans ((Fv (AZ W nq Ax)).mono (Ψ d.size) |>.trans (B9 (w:=h) (jF _) (W.drewN nq) D _ _ Ω o rfl rfl)))⟩
  ·have v:Jf a m=m:=jN q;have B:((m:Int)==(a.length:Int))=A3:=Γ
   have C:(m==a.length)=A3:=by simp[q]
   gi_wp2
   gi_quiet (fail)
   have af:(W.drewN nq).cell? ⟨h.heap.size,0,Ax⟩=A2 (O E m):=I
   gi_wp2
   refine⟨Δ,CE ⟨_,_,rfl,BB (show(W.drewN nq).heap[D]?=_ from o),?_⟩⟩;exact⟨_,BR rfl _ _ _,⟨m,F,by rw[v];rfl⟩,Ff ((z.trans d).trans ((Fv (AZ W nq Ax)).mono (Ψ d.size) |>.trans (B9 (w:=h) (jF _) (W.drewN nq) D _ _ Ω o rfl rfl)))⟩
 case stop=>
  rintro D k s W hD ⟨kk,ag,rfl⟩ ⟨⟨m,u,j,y,M,hj⟩,⟨rfl,d⟩⟩ o;have F:=VB ag y M.symm hj;have c0:W.cell? ⟨J,0,Ax⟩=A2 (V (A2 ⟨c,0,Ax⟩) a.length a.length):=(d.cell (p:=⟨J,0,Ax⟩) L.o).trans (G.y.m 0);have I:=u.cell
  by_cases q:m=a.length
  ·have v:Jf a m= -1:=jP q
   have B:((m:Int)==(a.length:Int))=Bn:=by simp[q]
   have C:(m==a.length)=Bn:=by simp[q]
   gi_wp2
   gi_quiet (fail)
   gi_wp2
   refine⟨Δ,CE ⟨_,_,rfl,BB (show(W.drewN nq).heap[D]?=_ from o),?_⟩⟩;exact⟨_,BR rfl _ _ _,⟨m,F,by rw[v];rfl⟩,Ff ((z.trans d).trans ((Fv (AZ W nq Ax)).mono (Ψ d.size) |>.trans (B9 (w:=h) (jF _) (W.drewN nq) D _ _ Ω o rfl rfl)))⟩
  ·have v:Jf a m=m:=jN q;have B:((m:Int)==(a.length:Int))=A3:=Γ
   have C:(m==a.length)=A3:=by simp[q]
   gi_wp2
   gi_quiet (fail)
   have af:(W.drewN nq).cell? ⟨h.heap.size,0,Ax⟩=A2 (O E m):=I
   gi_wp2
   refine⟨Δ,CE ⟨_,_,rfl,BB (show(W.drewN nq).heap[D]?=_ from o),?_⟩⟩;exact⟨_,BR rfl _ _ _,⟨m,F,by rw[v];rfl⟩,Ff ((z.trans d).trans ((Fv (AZ W nq Ax)).mono (Ψ d.size) |>.trans (B9 (w:=h) (jF _) (W.drewN nq) D _ _ Ω o rfl rfl)))⟩
end
section
open Go.RowKit
attribute [local go_sem ↓] Go.wp_at_zero Go.wp_at_succ
def Pc.dP(p:Pc):Pc:={p with ma:=A3}
def E3(a b:List Pc):Prop:=b.map Pc.dP=a.map Pc.dP
theorem E3.refl(a:List Pc):E3 a a:=rfl
theorem E3.fN{a b:List Pc}(h:E3 a b)(i:Nat):(b[i]?).map Pc.dP=(a[i]?).map Pc.dP:=by
 have:=kM (λl=>l[i]?) h;simpa using this
theorem E3.aC{a b:List Pc}(h:E3 a b):b.length=a.length:=by
 have:=kM BL h;simpa using this
theorem E3.a7{b c:List Pc}(h:E3 b c)(a:Int->Option Nat)(k:Int):BN c a k=BN b a k:=by
 unfold BN
 cases d:a k with
 |none=>rfl
 |some i=>
  simp only[nS];have:=kM (Option.map Pc.pg) (h.fN i);rw[CV,CV]at this;exact this
theorem E3.aV{c a:List Pc}(h:E3 c a){i:Nat}{p:Pc}(d:a[i]?=A2 p)(b:Bool):E3 c (a.set i {p with ma:=b}):=by
 unfold E3 at*;rw[<-h,qg];refine lQ (λj=>?_)
 by_cases e:i=j
 ·subst e;rw[kv (by simp;exact(jL.1 d).1),lh,d];rfl
 ·rw[jO e]
def IF(a:List Pc):Nat:=(a.filter Pc.ma).length
theorem YF{a:List Pc}{i:Nat}{p:Pc}(b:a[i]?=A2 p)(c:p.ma=Bn):IF (a.set i {p with ma:=A3})<IF a:=by
 induction a generalizing i with
 |nil=>simp at b
 |cons x e d=>
  cases i with
  |zero=>
   simp at b;subst b;simp[IF,CL,c]
  |succ i=>
   have:=d (i:=i) (by simpa using b);simp only[IF,kE,CL]at this⊢
   split<;>simp<;>omega
theorem AX.eK{o:List Pc}(a:AX h Y b c i e g o q f)(r:J<c):AX (h.setCell ⟨b,2,Ax⟩ (O E (J:Int))) Y b c i e g o J f:=by
 have s:e≠b:=λd=>by
  have p:=a.y;have J:=a.aI;rw[d]at J;unfold Aa at p J;rw[p]at J;simp at J
 have t:g≠b:=a.map.cg a.y;have j:Ac (λk=>k=b) h (h.setCell ⟨b,2,Ax⟩ (O E (J:Int))):=Ac.of (Ao _ _ _) (λk d=>by cases d;rfl)
 exact{a with
  y:=a.y.setCell 2 _
  aI:=j.y a.aI s
  map:=a.map.au j t
  gv:=r
  cV:=λx u=>let⟨v,n,w⟩:=a.cV x u;⟨j.aN v (λl m d=>by have:=(n l m).1;rw[d,a.c0]at this;cases this),λl m=>⟨(n l m).1,jJ (n l m).2 j.aQ⟩,w⟩}
theorem WA{o:List Pc}{B:Nat}(t:AX h Y b J e c g o B f)(C:AD h Y):
  BD A4 214 #[AA (A2 ⟨b,0,Ax⟩)] h λq D=>∃(i:Nat) (d:List Pc) (w:Nat),i<J/\q=A5 (O E i)/\AX D Y b J e c g d w f/\E3 o d/\Ac (λj=>j=b\/j=c) h D:=by
 have H:=zh t;have Z:=zh C;have aa:=t.r0;have ab:=t.r1;clear t C
 go_enter Tryz.func214,Tryz.ntmps214
 go_wp2_with fail;refine wp_scope_straight ?_;go_wp2_with fail;refine wp_label ?_;go_wp2_with fail
 go_loopg [3] (IF o+1) (λk s3 wr=>∃d w,AX wr Y b J e c g d w f/\IF d<k/\E3 o d/\Ac (λj=>j=b\/j=c) h wr)
 case atStart=>exact⟨o,B,H.o,nT _,E3.refl _,Ac.refl _ _⟩
 case round=>
  obtain⟨d,a,l,r,F,G⟩:=hrel;obtain⟨p,x⟩:∃p,d[a]?=A2 p:=⟨_,jK (by rw[l.aC];exact l.gv)⟩;have R:=l.gv;have I:=l.y.m 0;have K:=l.y.m 2;have u:=l.at x (j:=5) rfl;have S:=zh l;have T:=zh G;have L:=zh r;have M:=zh F;have s:=zh x;have HH:=zh H;clear l G r F x H;go_wp2_with fail
  go_quiet (fail)
  have m:=zh (S.o.u (AZ wr nq Ax));have U:=zh (T.o.trans (Ac.az (AZ wr nq Ax)));generalize wr.drewN nq=y at*;clear I K u;have I:=m.o.y.m 0;have K:=m.o.y.m 2;have u:=m.o.at s.o (j:=5) rfl;have f2:=m.o.y.v 2;have af:wrap64 ((a:Int)+1)=(a:Int)+1:=BX _ Ω;have hz:¬(J=0):=Ω;have ah:¬((J:Int)=0):=Ω;obtain⟨n,z⟩:=Af ((a+1)%J)
  have V:n<J:=by rw[<-z];exact lA _ Ω
  have ai:((a:Int)+1).tmod (J:Int)=(n:Int):=by rw[<-z];rw[kP Ω];push_cast;rfl
  have f5:=m.o.aI.v (a*6+5)
  have N:(((a:Int)+1)%(J:Int))=(n:Int):=by rw[<-z];push_cast;rfl
  have A:Hd (AX (y.setCell ⟨b,2,Ax⟩ (O E (((a:Int)+1)%(J:Int)))) Y b J e c g d n f):=zh (by rw[N];exact m.o.eK V);have P:Hd (Ac (λj=>j=b\/j=c) h (y.setCell ⟨b,2,Ax⟩ (O E (((a:Int)+1)%(J:Int))))):=zh (U.o.trans (Ac.of (Ao _ _ _) (λk q=>by cases q;exact CE rfl)));clear N
  cases v:p.ma
  ·rw[v]at u;go_wp2_with fail
   go_still_tail 12,Φ
   go_wp2_with fail;simp only[Exit.noGoto];go_ret;exact⟨a,d,n,R,rfl,A.o.u (AZ _ 1 Ax),M.o,P.o.trans (Ac.az (AZ _ 1 Ax))⟩
  ·rw[v]at u;have Q:=zh (YF s.o v);have W:=zh (A.o.gZ s.o {p with ma:=A3} 5 (A6 A3) Ω rfl rfl rfl (A.o.cV p (kp s.o)));have X:=zh (P.o.trans (Ac.of (Ao (y.setCell ⟨b,2,Ax⟩ (O E (((a:Int)+1)%(J:Int)))) ⟨c,a*6+5,Ax⟩ (A6 A3)) (λk q=>by cases q;exact D0 rfl)))
   have r:IF (d.set a {p with ma:=A3})+1<gk+1:=by have:=Q.o;have:=L.o;omega
   have ak:=zh r;clear v r;go_wp2_with fail
   go_still_tail 12,Φ
   go_wp2_with fail
   go_roundg (IF d)
   case measure=>exact L.o
   exact⟨d.set a {p with ma:=A3},n,W.o.u (AZ _ 1 Ax),Q.o,M.o.aV s.o A3,X.o.trans (Ac.az (AZ _ 1 Ax))⟩
def DB(a b:List Nat)(e:Nat):List Nat:=(((((At 165 1++At a.length 1)++At b.length 2)++At e 8)++a)++b)++At 90 1
theorem JT(a b:List Nat)(e:Nat):(DB a b e).length=13+a.length+b.length:=by
 unfold DB;simp only[jI,AK];omega
theorem Ru{e:Nat}(c:∀x∈a,x<256)(d:∀x∈n,x<256):∀x∈DB a n e,x<256:=by
 intro x b;unfold DB at b;simp only[kI]at b
 rcases b with(((((h|h)|h)|h)|h)|h)|h
 ·exact Es _ _ x h
 ·exact Es _ _ x h
 ·exact Es _ _ x h
 ·exact Es _ _ x h
 ·exact c x h
 ·exact d x h
 ·exact Es _ _ x h
theorem Ow(k v:Nat)(b:1<=k)(c:k<=64)(d:v<=4096)(w:A7):BD A4 107 #[O E k,O E v] w λe a=>e=A5 (O E ((13+k+v:Nat):Int))/\w=a:=by
 have f:Bd ((k:Int)<1)=A3:=jH Ω;have g:Bd ((k:Int)>64)=A3:=jH Ω;have h:Bd ((v:Int)<0)=A3:=jH Ω;have i:Bd ((v:Int)>4096)=A3:=jH Ω
 go_enter Tryz.func107,Tryz.ntmps107
 go_wp2;go_ret;exact⟨by congr 2,rfl⟩
def CG(k v:Nat)(e:Int):Int:=if k<1\/64<k then 10 else if 4096<v then 11 else if e<0\/281474976710656<e then 2 else 0
theorem Og(k v:Nat)(g h:Option DA)(i j:Nat)(e:Int)(w:A7)(l:k<=C0)(m:v<=C0):
  BD A4 122 #[BZ #[V g k i,V h v j,O E e]] w λx n=>x=A5 (O E (CG k v e))/\w.grownBy n Ax:=by
 unfold C0 at l m
 rcases(show(k<1)\/(64<k)\/(1<=k/\k<=64) by omega)with b|b|b
 ·have d:Bd ((k:Int)<1)=Bn:=jG Ω;rw[show CG k v e=10 from jP (CE b)]
  go_enter oH,od
  go_wp2;go_ret;exact⟨rfl,Z _ _ Ax⟩
 ·have d:Bd ((k:Int)<1)=A3:=jH Ω;have o:Bd ((k:Int)>64)=Bn:=jG Ω;rw[show CG k v e=10 from jP (D0 b)]
  go_enter oH,od
  go_wp2;go_ret;exact⟨rfl,Z _ _ Ax⟩
 ·have d:Bd ((k:Int)<1)=A3:=jH Ω;have o:Bd ((k:Int)>64)=A3:=jH Ω
  by_cases c:4096<v
  ·have p:Bd ((v:Int)>4096)=Bn:=jG Ω;rw[show CG k v e=11 by unfold CG;rw[jN Ω,jP c]]
   go_enter oH,od
   go_wp2;go_ret;exact⟨rfl,Z _ _ Ax⟩
  ·have p:Bd ((v:Int)>4096)=A3:=jH Ω
   rcases(show(e<0)\/(281474976710656<e)\/(0<=e/\e<=281474976710656) by omega)with a|a|a
   ·have f:Bd (e<0)=Bn:=jG a;rw[show CG k v e=2 by unfold CG;rw[jN Ω,jN c,jP (CE a)]]
    go_enter oH,od
    go_wp2;go_ret;exact⟨rfl,Z _ _ Ax⟩
   ·have f:Bd (e<0)=A3:=jH Ω;have q:Bd (e>281474976710656)=Bn:=jG a;rw[show CG k v e=2 by unfold CG;rw[jN Ω,jN c,jP (D0 a)]]
    go_enter oH,od
    go_wp2;go_ret;exact⟨rfl,Z _ _ Ax⟩
   ·have f:Bd (e<0)=A3:=jH Ω;have q:Bd (e>281474976710656)=A3:=jH Ω;rw[show CG k v e=0 by unfold CG;rw[jN Ω,jN c,jN Ω]]
    go_enter oH,od
    go_wp2;go_ret;exact⟨rfl,Z _ _ Ax⟩
theorem dV(k v:Nat)(a b:Option DA)(c d:Nat)(e:Int)(w:A7)(f:k<=C0)(g:v<=C0)(h:CG k v e≠0):
  BD A4 71 #[BZ #[V a k c,V b v d,O E e]] w λx i=>x=A5 (Bx #[V Ax 0 0,O E (CG k v e)])/\w.grownBy i Ax:=by
 have j:=zh (λW=>Og k v a b c d e W f g);generalize CG k v e=l at*
 have n:(l !=0)=Bn:=by rw[bne_iff_ne];exact h
 go_enter DV,C6
 go_wp2_with fail;refine(j.o _).mono ?_;rintro x o ⟨rfl,m⟩;go_wp2
 go_ret2
 exact⟨rfl,Ab (Z _ _ Ax) m⟩
theorem KO(d f:List Nat)(e:Nat)(i j:Option DA)(l m:Nat)(w:A7)(k0:1<=d.length)(k1:d.length<=64)(v1:f.length<=4096)(e1:e<=281474976710656)
  (r:Ag w 1 (V i d.length l) d.length (Ar d))(s:Ag w 1 (V j f.length m) f.length (Ar f)):
  BD A4 71 #[BZ #[V i d.length l,V j f.length m,O E e]] w λx y=>∃a c,x=A5 (Bx #[V a (13+d.length+f.length) c,O E 0])/\
   y.ownsRow w.heap.size 5 1 (V a (13+d.length+f.length) c) (13+d.length+f.length) (Ar (DB d f e))/\w.grownBy y Ax:=by
 have J:∀b,d≠[]->(V i d.length l).ownBlock=A2 b->b<w.heap.size:=λb n g=>r.lt (by intro e;exact n (nm.1 e)) b g
 have K:∀b,f≠[]->(V j f.length m).ownBlock=A2 b->b<w.heap.size:=λb n g=>s.lt (by intro e;exact n (nm.1 e)) b g
 have af:=zh J;have ag:=zh K;have ah:=zh r;have ai:=zh s
 have L:CG d.length f.length e=0:=by unfold CG;rw[jN Ω,jN Ω,jN Ω]
 have z:=λW=>Og d.length f.length i j l m e W r.2.1 s.2.1
 rw[L]at z;have aj:=zh z
 have wk:CB.wrap (d.length:Int)=d.length:=by rw[B0];omega
 have wv:CB.wrap (f.length:Int)=f.length:=by rw[B0];omega
 have we:CB.wrap (e:Int)=e:=by rw[B0];omega
 clear J K r s L z
 go_enter DV,C6
 go_wp2_with fail;refine(aj.o _).mono ?_;rintro x A ⟨rfl,B⟩;have g:=(Aa.new w 136 [V i d.length l,V j f.length m,O E e]).u B Δ;have aw:w.heap.size<A.heap.size:=g.lt;have t:=zh (Ab (Z w (Bs #[V i d.length l,V j f.length m,O E e] 136) Ax) B);have o:=zh g;have p:=g.m 0;have q:=g.m 1;clear g B;go_wp2_with fail;refine(Ow d.length f.length k0 k1 v1 _).mono ?_;rintro x y ⟨rfl,rfl⟩;go_wp2_with fail;refine(IV _ Ω _).mono ?_;rintro x w2 ⟨rfl,C,M⟩;rw[jP Ω]at C
 have N:PW A w2 A.heap.size (V Ax 0 0) [] ((13+d.length+f.length:Nat):Int):=⟨C,λk hk=>by
  rcases hk with h|h
  ·omega
  ·simp[Value.ownBlock]at h,M⟩
 have P:=zh N;clear C N M p q;go_wp2_with fail;refine(P.o.be 165 1 Ω Ξ Γ Δ).mono ?_;rintro x w3 ⟨v3,rfl,Q,_⟩;have D:=zh Q;clear Q P;have p:=((o.o.u D.o.u Δ).m 0);go_wp2_with fail;refine(D.o.be d.length 1 Ω Ξ (by simp[AK];omega) (by simp[AK])).mono ?_;rintro x w4 ⟨v4,rfl,R,_⟩;have F:=zh R;clear R D p;have q:=((o.o.u F.o.u Δ).m 1);go_wp2_with fail;refine(F.o.be f.length 2 Ω Ξ (by simp[AK];omega) (by simp[AK])).mono ?_;rintro x w5 ⟨v5,rfl,S,_⟩;have G:=zh S;clear S F q;have b2:=((o.o.u G.o.u Δ).m 2);go_wp2_with fail;refine(G.o.be e 8 Ω Ξ (by simp[AK];omega) (by simp[AK])).mono ?_;rintro x w6 ⟨v6,rfl,T,_⟩;have u:=zh T;clear T G b2;have p:=((o.o.u u.o.u Δ).m 0);go_wp2_with fail;refine(u.o.e0 (ys:=d) i l (by simp[AK];omega) (by simp[AK];omega) (ah.o.u (Ab t.o u.o.u) (λb h=>by cases h)) (λn b g=>by have:=af.o b n g;omega)).mono ?_;rintro x w7 ⟨v7,rfl,U,_⟩;have v:=zh U;clear U u p;have q:=((o.o.u v.o.u Δ).m 1);go_wp2_with fail;refine(v.o.e0 (ys:=f) j m (by simp[AK];omega) (by simp[AK];omega) (ai.o.u (Ab t.o v.o.u) (λb h=>by cases h)) (λn b g=>by have:=ag.o b n g;omega)).mono ?_;rintro x w8 ⟨v8,rfl,X,_⟩;have Y:=zh X;clear X v q;go_wp2_with fail;refine(Y.o.be 90 1 Ω Ξ (by simp[AK];omega) (by simp[AK];omega)).mono ?_;rintro x w9 ⟨v9,rfl,H,_⟩
 have aa:([]++At 165 1++At d.length 1++At f.length 2++At e 8++d++f++At 90 1)=DB d f e:=by rw[jX];rfl
 rw[aa]at H;have I:=zh H;clear H Y aa;go_wp2_with fail;refine(Il _ _ _ _ _ _ I.o.wr).mono ?_;rintro x aL ⟨an,ao,rfl,ab,ap⟩;rw[JT]at ab⊢;go_wp2
 go_ret2
 exact⟨an,ao,rfl,Cf ab (Ψ ((Ab t.o I.o.u).size)),Ab (Ab t.o I.o.u) ap⟩
end
