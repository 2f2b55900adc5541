/- Lemmas. -/
import Derived.Test.YtcedibmdelehdaaGreatDoorH44
namespace Go.Proofs.YtcedibmdelehdaaGreatDoor
set_option maxRecDepth 100000
set_option maxHeartbeats 32000000
open Go.Value renaming slice->E,int->A2,func->Bd
open Bool renaming false->J,true->A3
open Option renaming some->O,none->Z
open And renaming intro->V
open Go renaming World->Y,maxLen->Bk
open Decidable renaming decide->Ax
open Or renaming inr->AA,inl->A4
variable{a:List Bc}{b j p q:Nat}{c:Y}{d:Pl}{e r:BitVec 64}{f s:ByteArray}{g:Ad}{i:List Value}{k:AC}{l:TypeId}{n:Type}{o:Bc}
section
open Go Go.RowKit
attribute [local go_sem ↓] Go.wp_at_zero Go.wp_at_succ
abbrev PD(c a b:Nat):List Es:=[⟨61,#[Am c],#[]⟩,⟨62,#[],#[Am a,Am b]⟩,⟨64,#[],#[Am a,Am b]⟩]
structure Uy(N a:AC)(h:BitVec 64):Prop where
 la:a.aw=N.aw
 bo:a.aO=N.aO
 f:∀x,a.F x=if x=h then Z else N.F x
def PO(N c:AC)(h:BitVec 64):Prop:=∃a b,Bp N a/\Uy a b h/\Bp b c
def Lv(w:Y)(d:Ad)(A:AO)(P:Pl)(q:Nat)(N:AC)(h:BitVec 64)(j:Nat)(W:Y):Prop:=
 match j with
 |0=>W=w
 |1=>∃a b,Ab Bi w d W a/\AM W a A P (q+43000) b/\Bp N b/\0<DO P b.fr b.nx
 |2=>∃a e c,Ab Bi w d W a/\AM W a A P (q+43000+1300) c/\Bp N e/\Uy e c h/\0<DO P c.fr c.nx
 |_=>∃a b,Ab Bi w d W a/\AM W a A P (q+43000+1300+1) b/\PO N b h
theorem Lv.ae{A:AO}{N:AC}{W:Y}(f:Aw c g)(s:Lv c g A d b N e j W):∃a,Ab Bi c g W a:=by
 unfold Lv at s
 split at s
 ·subst s;exact⟨g,Ab.refl f⟩
 ·obtain⟨a,_,s,_⟩:=s;exact⟨a,s⟩
 ·obtain⟨a,_,_,s,_⟩:=s;exact⟨a,s⟩
 ·obtain⟨a,_,s,_⟩:=s;exact⟨a,s⟩
theorem iy{A:AO}{N:AC}(h:AM c g A d b N)(hq:b<=1073400000)(f t u:Nat)(G:t<=281474976710656)(z:Cf c f A d t u)(B:¬Bi (g f))(n:BitVec 64)
  (l m:Nat)(H:Aa c l 31 [Am f])(I:Aa c m 22 [A2 .u64 (U n)])(J:¬Bi (g l))(K:¬Bi (g m))
  (a:Option Addr)(v:Nat)(M:Ai c 1 (E a 3 v) 3 ((PD f l m).map Es.val))(P:∀k,(E a 3 v).ownBlock=O k->¬Bi (g k)):
  Calls Tryz.prog 34 #[E a 3 v] c λe o=>e=.returned (A2 .i64 0)/\Lv c g A d b N n 3 o:=by
 refine(MC a v (PD f l m) (Lv c g A d b N n) c (show 3<=10 by omega) ?_ ?_ ?_ rfl).mono ?_
 ·rintro j W i;obtain⟨w,s⟩:=i.ae h.cl;exact s.aP M P
 ·intro x L ah W;simp only[lK,nh,pZ]at L
  rcases L with rfl|rfl|rfl<;>rfl
 ·rintro j x y W i;have ai:j<3:=(jX.1 y).1
  rcases j with _|_|_|j
  ·obtain rfl:=kE y;obtain rfl:W=c:=i;refine(RV h Ω f t u G z B).mono ?_;rintro e o ⟨rfl,w,C,s,p,q,r⟩;exact⟨rfl,w,C,s,p,q,r⟩
  ·obtain rfl:=kE y;obtain⟨w,C,s,p,q,r⟩:=i;refine(Zn p Ω f t u (z.ae s B) n l m (s.u H J) (s.u I K)).mono ?_;rintro e o ⟨rfl,D,F,Q,R,S,T,V,X,Z⟩;exact⟨rfl,D,C,F,s.trans Q,R,q,⟨S,T,Z⟩,by rw[V,X];exact r⟩
  ·obtain rfl:=kE y;obtain⟨w,N1,F,s,p,q,dg,r⟩:=i;refine(YM p Ω r f t u G (z.ae s B) n l m (s.u H J) (s.u I K)).mono ?_;rintro e o ⟨rfl,D,N3,s3,p3,g3⟩;exact⟨rfl,D,N3,s.trans s3,p3,N1,F,q,dg,g3⟩
  ·omega
 ·rintro e o ⟨rfl,i⟩;exact⟨rfl,i⟩
def Tt(w:Y)(e:Ad)(c:Nat)(A:AO)(P:Pl)(q t f:Nat)(N:AC)(h:BitVec 64)(a:Y):Prop:=
 ∃b d,Ab Ee w e a b/\Ca a b c A P (q+50000) t f d/\PO N d h
theorem Vu{A:AO}{N:AC}(h:Ca c g b A d q j p N)(hq:q<=1073400000)(o:List Nat)(i:Nat)(D:o.length=i)(u:Option Addr)(v:Nat)(ab:1<=i)(ac:i<=64)(ad:∀x∈o,x<256)(ae:Ai c 1 (E u i v) i (Ao o))(l:BitVec 64)(af:CM d.aQ o=l):
  Calls Tryz.prog 22 #[Am b,E u i v] c λe w'=>e=.returned (A2 .i64 0)/\Tt c g b A d q j p N l w':=by
 obtain⟨w1,aD,r,F⟩:=Aq c 31 [Am b];have HR:=zh (Kl (h.grown r).b);have HN:=zh (Rg i u v ab ac w1);have G:=Mc (h.grown r).b o u v ad (by rw[D];exact ae.grown r Δ);rw[D,af]at G;have HH:=zh G;have k0:=F.m 0;have G1:=zh r;have B1:=zh F;have H:=zh h;have HQ:=zh hq;clear D ab ac ad ae af G r F h hq
 go_enter Tryz.func22,Tryz.ntmps22
 go_wp2_with fail;refine HR.o.mono ?_;rintro e w0 ⟨rfl,rfl⟩;go_wp2_with fail;refine HN.o.mono ?_;rintro e w0 ⟨rfl,rfl⟩;go_wp2_with fail;refine HH.o.mono ?_;rintro e f ⟨rfl,w⟩;clear HH HN HR aD k0;obtain⟨w3,aI,g3,y⟩:=Aq f 22 [A2 .u64 0];obtain⟨z,I⟩:=Ag (w3.setCell ⟨f.heap.size,0,Z⟩ (A2 .u64 (U l)));have K:=y.setCell 0 (A2 .u64 (U l));rw[I]at K;have f0:=y.v 0;have v0:=y.m 0;have L:=Ac.grown g3 (show Ac (λam=>am=f.heap.size) w3 z by rw[<-I];exact AF _ _ _ _) (λam e=>by rw[e];exact jS _);have M:=zh (Ae G1.o (Ae w L));have P:=zh (B1.o.grown (Ae w L) Δ);have Y4:=zh (show Aa z f.heap.size 22 [A2 .u64 (U l)]from K);have Z4:Hd (c.heap.size<=f.heap.size):=zh (Ae G1.o w).size;clear w g3 y K L;go_wp2_with fail;clear aI I f0 v0;refine Dg (λW=>W.cell? ⟨c.heap.size,0,Z⟩=O (Am b)) [([0,1,2,3,4],5,A3),([],6,A3),([],7,J),([],8,J)] Φ Φ ?_;obtain⟨Q,an,g5⟩:=AZ z;rw[an];have R:=zh g5;clear an g5;have X0:=zh (λ(W:Y) (aN:z.grownBy W Z)=>(P.o.grown aN Δ).m 0);refine BU (X0.o _ R.o) ?_
 repeat(apply AB rfl Θ;(· intro wS S;(try have S:=S rfl);(try dsimp only at S);go_simp;(try with_reducible rfl));refine Ak ?_)
 refine Aj ?_;refine AH rfl (λm a=>?_);go_simp;obtain⟨w6,aq,g6,b6⟩:=Aq Q 95 [Bd (.func 61) #[Am b] #[],Bd (.func 62) #[] #[Am c.heap.size,Am f.heap.size],Bd (.func 64) #[] #[Am c.heap.size,Am f.heap.size]];rw[aq];have n:=zh (Ae R.o g6);have av:Ai w6 1 (E (O ⟨Q.heap.size,0,Z⟩) 3 3) 3 ((PD b c.heap.size f.heap.size).map Es.val):=Ai.bn b6 rfl (by unfold Bk;omega);have s:=zh (H.o.grown (Ae M.o n.o));have aw:c.heap.size<=Q.heap.size:=(Ae M.o R.o).size;have B:=H.o.p.cl;have ax:=zh (iy s.o.p HQ.o b j p s.o.t s.o.b s.o.hc l c.heap.size f.heap.size (P.o.grown n.o Δ) (Y4.o.grown n.o Δ) (by rw[B _ (jS _)];exact EH) (by rw[B _ Z4.o];exact EH) _ 3 av (λk hk=>by cases hk;rw[B _ aw];exact EH));refine a _ _ ⟨λ_=>X0.o _ n.o,?_⟩;clear a m aq g6 b6 av aw B;refine BG ?_;refine AH rfl (λm a=>?_);go_simp;refine ax.o.mono ?_;rintro e w7 ⟨rfl,c7,N7,C,p7,dg⟩;dsimp only;have T:=zh (s.o.next C p7);have aS:=zh ((Ab.grown H.o.p.cl (Ae M.o n.o)).trans C);have DG:=zh dg;have aU:=(C.u (P.o.grown n.o Δ) (by rw[H.o.p.cl _ (jS _)];exact EH)).m 0;clear ax C p7 dg;refine a _ _ ⟨λ_=>aU,?_⟩;clear a m;refine BG ?_;refine AH rfl (λm a=>?_);go_simp;refine(JC T.o.p b j p T.o.b 3 Ω).mono ?_;rintro e w8 ⟨rfl,V,p8⟩;dsimp only;have t:=T.o.next V p8;have aW:=zh (show Tt c g b A d q j p N l w8 from⟨c7,N7,(aS.o.trans V).mono Lf,⟨t.p.mono Ω,t.b,t.c,t.t⟩,DG.o⟩);clear V p8 t;refine a _ _ ⟨λX=>(by cases X),?_⟩;clear a m;refine BG ?_;refine AH rfl (λm a=>?_);go_simp;refine a _ _ ⟨λX=>(by cases X),?_⟩;refine Di (NoPanic.normal ?_);clear a m;go_wp2_with fail;go_ret;exact⟨rfl,aW.o⟩
end
section
open Go Go.RowKit
attribute [local go_sem ↓] Go.wp_at_zero Go.wp_at_succ
def JN(P:Pl)(t k v:Nat)(n:Int):Int:=if Dw k v 0≠0 then Dw k v 0 else if n<0\/281474976710656<(t:Int)+n then 2 else if P.aI<13+k+v then 9 else 0
theorem cG{m:Nat}{a:Option Addr}(h:c.ownsRow p l q (E a b j) m i):b<=j:=by
 rcases h.2 with⟨l,_⟩|⟨g,f,k,l,_,_,n,_⟩
 ·injection l with _ d e;omega
 ·injection l with _ d e;omega
end
section
open Go Go.RowKit
attribute [local go_sem ↓] Go.wp_at_zero Go.wp_at_succ
theorem RT{v:Value}(h:c.ownsRow b l p v q i)(d:j<=b):c.ownsRow j l p v q i:=by
 refine⟨h.1,?_⟩
 rcases h.2 with a|⟨g,e,f,a,k,m⟩
 ·exact A4 a
 ·exact AA ⟨g,e,f,a,j8 d k,m⟩
def Ey(t a:Nat):Nat:=if a=0 then 0 else t+a
def Nn(w:Y)(c:Nat)(f:Option Addr)(g h:Nat)(i j k a:Nat)(b:List Nat)(W:Y):Prop:=
 w.grownBy W Z/\Aa W i 31 [Am c]/\Aa W j 64 [E f h g]/\∃d e,Aa W k 64 [E d a e]/\W.ownsRow w.heap.size 5 1 (E d a e) a (Ao b)
def Su(w:Y)(g:Ad)(c:Nat)(A:AO)(P:Pl)(q t i:Nat)(N:AC)(h:BitVec 64)(b:List Nat)(a:Y):Prop:=
 ∃d e f,Ab Ee w g a d/\Ca a d c A P (q+120000) t f e/\La P N e h b i f
theorem Y6{A:AO}{N:AC}(h:Ca c g b A d p j q N)(v z:List Nat)(s va:Option Addr)(t vc i B:Nat)(aj:v.length=i)(ak:z.length=B)(_cB:i<=Bk)(_cC:B<=Bk)(aV:Ai c 1 (E s i t) i (Ao v))(aW:Ai c 1 (E va B vc) B (Ao z))(m:Nat)
  (bA:1<=i)(bB:i<=64)(bC:B<=4096)(bD:j+m<=281474976710656)(cD:13+i+B<=d.aI)(hq:p<=1073400000)(bF:q<=1000000000)(aX:∀x∈v,x<256)(aY:∀x∈z,x<256)(bG:∀k,(E s i t).ownBlock=O k->g k=0/\k<c.heap.size)
  (w:List Nat)(hb:Dk v z (Ey j m)=w)(hh:BitVec 64)(bH:CM d.aQ v=hh):
  Calls Tryz.prog 27 #[Am b,E s i t,E va B vc,A2 .i64 m] c λe w'=>e=.returned (A2 .i64 0)/\Su c g b A d p j q N hh w w':=by
 obtain⟨r,aA,g1,b1⟩:=Aq c 31 [Am b];obtain⟨P,cF,g2,b2⟩:=Aq r 64 [E s i t];obtain⟨w3,cH,g3,D⟩:=Aq P 136 [E Z 0 0,E Z 0 0,A2 .i64 0];obtain⟨w4,cJ,b4,t4⟩:=Br D (E s i t) (E va B vc) (A2 .i64 0);have F:=Ae g1 g2;have g4:=Ac.grown g3 t4 (λl e=>by rw[e];exact jS _);have G4:=zh (Ae F g4);have HZ:Hd (c.heap.size<=P.heap.size):=zh F.size;have B1:=zh ((b1.grown g2 Δ).grown g4 Δ);have B2:=zh (b2.grown g4 Δ);have B4:=zh b4;have HR:=zh (Kl (h.grown F).b);have H:=zh h;have k0:=(b1.grown g2 Δ).m 0;have k1:=b2.m 0;have f0:=D.v 0;have f1:=D.v 1;have f2:=D.v 2;have v0:=D.m 0;have v1:=D.m 1;have v2:=D.m 2;have x0:=b4.m 0;have x1:=b4.m 1;have x2:=b4.m 2;have cR:Hd (r.heap.size=c.heap.size+1):=zh (by rw[<-aA];simp);have G:=Sk v z 0 s va t vc w4 Ω Ω Ω Ω (by rw[aj];exact aV.grown G4.o Δ) (by rw[ak];exact aW.grown G4.o Δ);rw[aj,ak]at G;obtain⟨n,aF⟩:=Ag (13+i+B);rw[aF]at G;have am:=zh G;have ht:=h.t;have cT:d.aI<=32*493:=mn h.p.a1.dq (Ψ h.p.a1.n1);have d1:Ax (((m:Nat):Int)<0)=J:=jV Ω
 have cU:wrap64 (281474976710656 - (j:Int))=((281474976710656 - j:Nat):Int):=by rw[IntWalk.wrap64_in _ Ω];omega
 obtain⟨M,hM⟩:=Ag (281474976710656 - j);rw[hM]at cU;have d2:Ax (((m:Nat):Int)>(M:Int))=J:=jV Ω;have d3:Ax (M<m)=J:=jV Ω;obtain⟨RR,bN⟩:=Ag d.aI;have d4:Ax ((n:Int)>(RR:Int))=J:=jV Ω;have d5:Ax (RR<n)=J:=jV Ω;have cV:=zh bN;have HQ:=zh (V hq bF);have aG:=zh (V aX (V aV bG));have cW:=zh (V aY aW);have HB:=zh hb;have cX:=zh (show w.length=n by rw[<-hb,JG,aj,ak];exact aF);have cY:=zh (show∀x∈w,x<256 by rw[<-hb];exact Rl aX aY);have cZ:=zh bH;have a8:=zh (V bA (V bB bC));have I:=zh (V aj ak);have bQ:=zh bD;have bR:=zh (show n<=d.aI/\0<n by omega);have c0:=zh aF;clear h g1 g2 g3 b1 b2 D b4 t4 F g4 aj ak _cB _cC aV aW bA bB bC bD cD G aF ht hM cT bN hq bF aX aY bG hb bH
 go_enter Tryz.func27,Tryz.ntmps27
 go_wp2_with fail;refine HR.o.mono ?_;rintro e w0 ⟨rfl,rfl⟩;go_wp2_with fail;refine am.o.mono ?_;rintro e f ⟨a9,cP,rfl,o5,g5⟩;clear am k0 k1 f0 f1 f2 v0 v1 v2 x0 x1 x2 aA cF cH cJ;obtain⟨w6,c1,g6,b6⟩:=Aq f 64 [E Z 0 0];obtain⟨w7,aI⟩:=Ag (w6.setCell ⟨f.heap.size,0,Z⟩ (E a9 n cP));have f0:=b6.v 0;have v0:=b6.m 0;have b7:=b6.setCell 0 (E a9 n cP);rw[aI]at b7;have g7:=Ac.grown g6 (show Ac (λl=>l=f.heap.size) w6 w7 by rw[<-aI];exact AF _ _ _ _) (λl e=>by rw[e];exact jS _);have bT:=zh aI;have bU:Hd (c.heap.size<=r.heap.size/\c.heap.size<=f.heap.size):=zh ⟨by rw[cR.o];omega,(Ae G4.o g5).size⟩;have c2:Hd (r.heap.size≠f.heap.size):=zh (by have:=B2.o.lt;have:=g5.size;omega);have bV:=zh (Ae g5 g7);have G7:=zh (Ae G4.o (Ae g5 g7));have c3:Hd (c.heap.size<=f.heap.size):=zh (Ae G4.o g5).size;have k0:=(B1.o.grown bV.o Δ).m 0;have bX:=(H.o.grown G7.o).b;have kt:=Aa.aq (j:=22) bX rfl
 go_upto_region 10 with fail
 refine A7 (λ_=>True) (.an [] [0,1,2,3,4,5,6,7] 8 J (.nil)) Φ Φ ?_;obtain⟨w8,bY,g8⟩:=AZ w7;rw[bY];clear c1 aI f0 v0 k0 kt;have bZ:=zh g8;have G8:=zh (Ae G7.o g8);have ap:=zh (Ae bV.o g8);have B8:=zh (b7.grown g8 Δ);have k0:=(B1.o.grown ap.o Δ).m 0;have k1:=B8.o.m 0;have b0:=(H.o.grown G8.o).b;have k2:=Aa.aq (j:=16) b0 rfl;rw[cV.o]at k2;clear bY b0 bX;refine Ar ?_
 iterate 8 refine Az ?_
 refine Aj ?_;refine Al ?_;intro K o;refine As o ?_;clear o K;refine AK (NoPanic.normal ?_);clear k2 k1;have O8:=zh (RT (AP o5 (Ae (Ac.grown g6 (show Ac (λl=>l=f.heap.size) w6 w7 by rw[<-bT.o];exact AF _ _ _ _) (λl e=>by rw[e];exact jS _)) bZ.o)) G4.o.size);clear g5 g6 b6 g7 b7 o5;have L:=zh (show Nn c b s t i c.heap.size r.heap.size f.heap.size n (Dk v z 0) w8 from⟨G8.o,B1.o.grown ap.o Δ,B2.o.grown ap.o Δ,a9,cP,B8.o,O8.o⟩);have Q:=zh (B4.o.grown ap.o Δ);clear bT bZ
 go_upto_if 53 with fail
 go_cut [8] (λs8 wx=>s8=A2 .i64 0/\Nn c b s t i c.heap.size r.heap.size f.heap.size n w wx)
 case first=>
  by_cases aM:m=0
  ·have t1:Ax (((m:Nat):Int)>0)=J:=jV Ω;have t2:Ax (0<m)=J:=jV Ω;have t3:¬0<m:=Ω
   have aq:w=Dk v z 0:=by rw[<-HB.o];unfold Ey;rw[ke aM]
   have ar:=zh (show Nn c b s t i c.heap.size r.heap.size f.heap.size n w w8 by rw[aq];exact L.o);clear aM aq;go_wp2_with fail
   go_meet
   exact⟨rfl,ar.o⟩
  ·have t1:Ax (((m:Nat):Int)>0)=A3:=jT Ω;have t2:Ax (0<m)=A3:=jT Ω;have t3:0<m:=Ω;obtain⟨te,bh⟩:=Ag (j+m)
   have aA:wrap64 ((j:Int)+(m:Int))=(te:Int):=by rw[IntWalk.wrap64_in _ (Ψ bQ.o), <-bh];omega
   have aq:w=Dk v z te:=by rw[<-HB.o, <-bh];unfold Ey;rw[j7 aM]
   have c9:=zh (show te<=281474976710656 by have:=bQ.o;omega);have k0:=L.o.2.1.m 0;have kt:=Aa.aq (j:=22) (H.o.grown G8.o).b rfl;have r2:=Q.o.m 2;have f2:=Q.o.v 2;obtain⟨w9,bi⟩:=Ag (w8.setCell ⟨P.heap.size,2,Z⟩ (A2 .i64 te));have b9:=Q.o.setCell 2 (A2 .i64 te);rw[bi]at b9;simp only[ku,kM]at b9
   have t9:Ac (λl=>l=P.heap.size) w8 w9:=by rw[<-bi];exact AF _ _ _ _
   have x0:=b9.m 0;have x1:=b9.m 1;have x2:=b9.m 2;have G9:=zh (Ac.grown G8.o t9 (λl e=>by rw[e];exact HZ.o))
   have ca:c.heap.size≠P.heap.size:=λe=>by have u:=L.o.2.1;have a:=Q.o;rw[e]at u;unfold Aa at u a;rw[u]at a;injection a with a;injection a with _ a;exact absurd a Ξ
   have cb:r.heap.size≠P.heap.size:=λe=>by have u:=L.o.2.2.1;have a:=Q.o;rw[e]at u;unfold Aa at u a;rw[u]at a;injection a with a;injection a with _ a;exact absurd a Ξ
   have cc:f.heap.size≠P.heap.size:=λe=>by obtain⟨_,_,u,_⟩:=L.o.2.2.2;have a:=Q.o;rw[e]at u;unfold Aa at u a;rw[u]at a;injection a with a;injection a with _ a;exact absurd a Ξ
   have X9:=zh (V (t9.u L.o.2.1 ca) (V (t9.u L.o.2.2.1 cb) (t9.u B8.o cc)));have G:=Sk v z te s va t vc w9 (by rw[I.o.1];exact a8.o.1) (by rw[I.o.1];exact a8.o.2.1) (by rw[I.o.2];exact a8.o.2.2) c9.o (by rw[I.o.1];exact aG.o.2.1.grown G9.o Δ) (by rw[I.o.2];exact cW.o.2.grown G9.o Δ);rw[I.o.1,I.o.2,c0.o, <-aq]at G;have am:=zh G;clear bh b9 t9 ca cb cc G aq aM;go_wp2_with fail;refine am.o.mono ?_;rintro e cd ⟨aP,aQ,rfl,bj,av⟩;clear am k0 kt r2 f2 x0 x1 x2 aA bi;have R:=X9.o.2.2.grown av Δ;have v0:=R.m 0;have f0:=R.v 0;obtain⟨ce,cf⟩:=Ag (cd.setCell ⟨f.heap.size,0,Z⟩ (E aP n aQ));have bk:=R.setCell 0 (E aP n aQ);rw[cf]at bk
   have aw:Ac (λl=>l=f.heap.size) cd ce:=by rw[<-cf];exact AF _ _ _ _
   have y0:=X9.o.1.grown av Δ;have y1:=X9.o.2.1.grown av Δ
   have n0:c.heap.size≠f.heap.size:=λe=>by rw[e]at y0;unfold Aa at y0 R;rw[y0]at R;injection R with a;injection a with _ a;exact absurd a Ξ
   have S:r.heap.size≠f.heap.size:=c2.o
   have no:∀k,(E aP n aQ).ownBlock=O k->¬k=f.heap.size:=λk y e=>by
    have u:=(bj.lt k y).1;have a:=X9.o.2.2.lt;omega
   have ar:=zh (show Nn c b s t i c.heap.size r.heap.size f.heap.size n w ce from⟨Ac.grown (Ae G9.o av) aw (λl e=>by rw[e];exact c3.o),aw.u y0 n0,aw.u y1 S,aP,aQ,bk,RT (aw.aL bj no) G9.o.size⟩);clear bj av R bk aw y0 y1 n0 S no;go_wp2_with fail
   go_meet
   exact⟨rfl,ar.o⟩
 case rest=>
  obtain⟨rfl,hM⟩:=hcut;have M:=zh hM;clear hM L Q G8 ap B8 O8;obtain⟨ba,bc,m2,mo⟩:=M.o.2.2.2;have M2:=zh m2;have MO:=zh mo;obtain⟨aR,dd,F,bm⟩:=Aq wc 130 [.bool J,A2 .u64 0,A2 .i64 0,A2 .i64 0,A2 .i64 0];obtain⟨bn,aS⟩:=Ag (AL g wc.heap.size 220);have bo:=H.o.grown M.o.1
  have bp:Ab (λl=>l=220) wc g aR bn:=by rw[<-aS];exact Cc bo.p.cl F (jS _) bm.lt rfl
  have cm:∀k,k<wc.heap.size->bn k=g k:=λk y=>by rw[<-aS];exact Bg _ _ Ω
  have af:=zh cm;have CA:=zh (bo.ae bp (λl e=>Ω));have ST:=zh ((Ab.grown (C:=Ee) H.o.p.cl M.o.1).trans (bp.mono (λl e=>AA Ω)));have br:=zh F;have df:=zh bm;have dg:Hd (bn wc.heap.size=220):=zh (by rw[<-aS];exact AY _ _ _);clear aS bo bp cm F bm m2 mo;go_wp2_with fail;clear dd;refine Dg (λW=>W.cell? ⟨c.heap.size,0,Z⟩=O (Am b)) [([0,1,2,3,4],5,A3),([],6,A3),([],7,J),([],8,J)] Φ Φ ?_;obtain⟨aT,cn,co⟩:=AZ aR;rw[cn];have bs:=zh co;clear cn co;have X0:=zh (λ(W:Y) (dh:aR.grownBy W Z)=>((M.o.2.1.grown br.o Δ).grown dh Δ).m 0);refine BU (X0.o _ bs.o) ?_
  repeat(apply AB rfl Θ;(· intro wS bt;(try have bt:=bt rfl);(try dsimp only at bt);go_simp;(try with_reducible rfl));refine Ak ?_)
  refine Aj ?_;refine AH rfl (λT o=>?_);go_simp;obtain⟨cq,cr,cs,ct⟩:=Aq aT 95 [Bd (.func 61) #[Am b] #[],Bd (.func 72) #[] #[Am c.heap.size,Am r.heap.size,Am f.heap.size,Am wc.heap.size],Bd (.func 74) #[] #[Am c.heap.size,Am wc.heap.size]];rw[cr];have ag:=zh (Ae bs.o cs);have cu:Ai cq 1 (E (O ⟨aT.heap.size,0,Z⟩) 3 3) 3 ((PE b c.heap.size r.heap.size f.heap.size wc.heap.size).map Es.val):=Ai.bn ct rfl (by unfold Bk;omega);have U:=Ae br.o ag.o;have di:wc.heap.size<=cq.heap.size:=U.size;have dj:c.heap.size<=wc.heap.size:=M.o.1.size;have cv:aR.heap.size<=aT.heap.size:=bs.o.size;have S:=I.o.1;have X:=cX.o
  have bu:=ic (CA.o.grown ag.o) HQ.o.1 HQ.o.2 v s t aG.o.1 (by rw[S];exact(aG.o.2.1.grown M.o.1 Δ).grown U Δ)
   (λk y=>by rw[S]at y;have h3:=aG.o.2.2 k y;exact⟨by rw[af.o k Ω];exact h3.1,Ω⟩)
   w ba bc (by rw[X];exact bR.o.2) (by rw[X];exact bR.o.1) cY.o (by rw[X];exact cG MO.o) (by rw[X];exact(Ai.aj MO.o).grown U Δ)
   (λk y=>by rw[X]at y;have h3:=MO.o.lt k y;exact⟨by rw[af.o k h3.2];exact H.o.p.cl k h3.1,Ω⟩)
   c.heap.size r.heap.size f.heap.size wc.heap.size (M.o.2.1.grown U Δ) (by rw[S];exact M.o.2.2.1.grown U Δ) (by rw[X];exact M2.o.grown U Δ) (df.o.grown ag.o Δ)
   (by rw[af.o _ M.o.2.1.lt];exact H.o.p.cl _ (jS _)) (by rw[af.o _ M.o.2.2.1.lt];exact H.o.p.cl _ bU.o.1) (by rw[af.o _ M2.o.lt];exact H.o.p.cl _ bU.o.2) dg.o
   (O ⟨aT.heap.size,0,Z⟩) 3 cu (λk y=>by cases y;exact CA.o.p.cl _ cv)
  rw[cZ.o]at bu;have cw:=zh bu;refine o _ _ ⟨λ_=>X0.o _ ag.o,?_⟩;clear o T cr cs ct cu U di dj cv S X bu;refine BG ?_;refine AH rfl (λT o=>?_);go_simp;refine cw.o.mono ?_;rintro e dz ⟨rfl,dk,dl,cx,bv,cy,sg⟩;dsimp only;have bw:=zh cy;have dm:=zh (ST.o.trans ((Ab.grown CA.o.p.cl ag.o).trans (bv.mono (PK Ω))));have SG:=zh sg;have dp:=(bv.u ((M.o.2.1.grown br.o Δ).grown ag.o Δ) (by rw[af.o _ M.o.2.1.lt,H.o.p.cl _ (jS _)];rintro(h|h)<;>omega)).m 0;clear cw bv cy sg;refine o _ _ ⟨λ_=>dp,?_⟩;clear o T;refine BG ?_;refine AH rfl (λT o=>?_);go_simp;refine(JC bw.o.p b j cx bw.o.b 2 Ω).mono ?_;rintro e dq ⟨rfl,bx,cA⟩;dsimp only;have ay:=bw.o.next bx cA;have ar:=zh (show Su c g b A d p j q N hh w dq from⟨dk,dl,cx,dm.o.trans (bx.mono Lf),⟨ay.p.mono Ω,ay.b,ay.c,ay.t⟩,SG.o⟩);clear bx cA ay;refine o _ _ ⟨λhf=>(by cases hf),?_⟩;clear o T;refine BG ?_;refine AH rfl (λT o=>?_);go_simp;refine o _ _ ⟨λhf=>(by cases hf),?_⟩;refine Di (NoPanic.normal ?_);clear o T;go_wp2_with fail;go_ret;exact⟨rfl,ar.o⟩
end
section
open Go Go.RowKit
def bl(s:ByteArray):List Nat:=s.data.toList.map λb=>b.toNat
theorem In(s:ByteArray):∀x∈bl s,x<256:=by
 intro x a;obtain⟨b,_,rfl⟩:=lP.1 a;exact b.toNat_lt
theorem I7(s:ByteArray):(bl s).length=s.size:=by
 unfold bl;rw[mH,mZ];rfl
theorem JM(s:ByteArray):Fo (bl s)=s:=by
 obtain⟨d⟩:=s;unfold bl Fo strOfNums;simp[oo]
theorem Uq(h:bl f=bl s):f=s:=by rw[<-JM f,h,JM]
theorem IV:Jo f s=A3↔f=s:=by
 constructor
 ·intro h
  have b:f.toList=s.toList:=by simpa[Jo]using h
  rw[<-JM f, <-JM s,Mi,Mi]at b;apply Uq;have a:=kL (List.map λx:UInt8=>x.toNat) b;rw[List.map_map,List.map_map]at a
  have c:∀l:List Nat,(∀x∈l,x<256)->l.map ((λx:UInt8=>x.toNat)∘λx=>UInt8.ofNat x)=l:=by
   intro l d
   conv=>rhs;rw[<-List.map_id l]
   refine pP λx e=>?_
   have:=d x e;simp;omega
  rw[c _ (In f),c _ (In s)]at a;exact a
 ·rintro rfl;simp[Jo]
def Bc.h(s:BitVec 64)(x:Bc):BitVec 64:=CM s (bl x.aN)
theorem NL:∀{n i:Nat},n<=a.length->DL a f n=O i->i<n/\(∃x,a[i]?=O x/\x.aN=f)/\∀j y,i<j->j<n->a[j]?=O y->y.aN≠f
 |0,i,_,h=>by simp[DL]at h
 |n+1,i,o,h=>by
  have b:a[n]?=O a[n]:=jW Ω;unfold DL at h;rw[b]at h;dsimp only at h
  split at h
  ·rename_i c
   obtain rfl:n=i:=kE h;exact⟨nY _,⟨_,b,IV.1 c⟩,λj y k g=>Ω⟩
  ·rename_i c
   obtain⟨k,g,l⟩:=NL Ω h;refine⟨Ω,g,λj y m p d=>?_⟩
   by_cases e:j=n
   ·subst e;rw[b]at d;obtain rfl:=kE d
    exact λe=>c (IV.2 e)
   ·exact l j y m Ω d
theorem Qv:∀{n:Nat},n<=a.length->DL a f n=Z->∀j y,j<n->a[j]?=O y->y.aN≠f
 |0,_,_=>λj y g=>Ω
 |n+1,i,h=>by
  have c:a[n]?=O a[n]:=jW Ω;unfold DL at h;rw[c]at h;dsimp only at h
  split at h
  ·cases h
  ·rename_i d
   intro j y k b
   by_cases e:j=n
   ·subst e;rw[c]at b;obtain rfl:=kE b
    exact λe=>d (IV.2 e)
   ·exact Qv Ω h j y Ω b
def EQ(s:BitVec 64)(a:List Bc)(i:Nat)(h:BitVec 64):Prop:=∀j y,i<j->a[j]?=O y->y.h s≠h
structure Cp(P:Pl)(N:AC)(lo:Nat)(b:List Bc):Prop where
 gR:∀h e,N.F h=O e->∃r a s:Nat,e=⟨h,r,a,s⟩/\1<=r/\r<=N.aw/\(Cv P N.aw<=r->∃i x,b[i]?=O x/\x.cF=J/\x.h P.aQ=h/\EQ P.aQ b i h/\JR P N r a (bl x.aN) (bl x.val) x.en/\s=13+(bl x.aN).length+(bl x.val).length)
 cN:∀i x,b[i]?=O x->x.cF=J->EQ P.aQ b i (x.h P.aQ)->x.lo=lo->∃r:Nat,x.wh<=(r+1)*P.aI/\1<=r/\(Cv P N.aw<=r->∃e,N.F (x.h P.aQ)=O e/\e.r=r)
 lo:∀x∈b,x.lo<=lo
 wh:∀x∈b,x.wh<=1000000000000000
 d2:1<=N.aw\/P.aI<=(N.aO 0).length
theorem Cp.dx{P:Pl}{N:AC}(hF:∀h,N.F h=Z)(a:∃z,N.aO 0=AJ P.aI++z):Cp P N 0 []:=by
 refine⟨λh e k=>(by rw[hF]at k;cases k),λi x k=>(by simp at k),λx k=>(by simp at k),λx k=>(by simp at k),AA ?_⟩;obtain⟨z,b⟩:=a;rw[b,jU,Ei];omega
theorem Cp.dj{N:AC}(h:Cp d N b a)(g:Bp N k):Cp d k b a:=by
 refine⟨λx e l=>?_,λi x n o p q=>?_,h.lo,h.wh,?_⟩
 ·rw[g.f]at l;obtain⟨r,t,s,c,f,j,u⟩:=h.gR x e l;refine⟨r,t,s,c,f,by rw[g.la];exact j,λm=>?_⟩;rw[g.la]at m;obtain⟨i,y,v,w,A,B,C,D⟩:=u m;exact⟨i,y,v,w,A,B,C.dz (by rw[g.la];exact jS _) (g.bo r),D⟩
 ·obtain⟨r,c,f,j⟩:=h.cN i x n o p q;exact⟨r,c,f,by rw[g.la,g.f];exact j⟩
 ·rw[g.la]
  rcases h.d2 with c|c
  ·exact A4 c
  ·obtain⟨z,E⟩:=g.bo 0;exact AA (by rw[E,jU];omega)
theorem OD{l:List n}{x y:n}(h:(l++[x])[b]?=O y):l[b]?=O y/\b<l.length\/b=l.length/\y=x:=by
 by_cases a:b<l.length
 ·rw[lj a]at h;exact A4 ⟨h,a⟩
 ·rw[lf Ω]at h
  have:b - l.length<1:=by
   have:=(jX.1 h).1;simpa using this
  obtain e:b=l.length:=Ω;subst e;rw[lU]at h;exact AA ⟨rfl,(kE h).symm⟩
theorem Ma{l:List n}{x y:n}(h:l[b]?=O y):(l++[x])[b]?=O y:=by
 rw[lj (jX.1 h).1];exact h
theorem EQ.hH{i:Nat}(k:EQ e a i r)(b:o.h e≠r):EQ e (a++[o]) i r:=by
 intro j y c d
 rcases OD d with⟨f,_⟩|⟨_,rfl⟩
 ·exact k j y c f
 ·exact b
theorem EQ.hA{i:Nat}(k:EQ e (a++[o]) i r)(b:i<a.length):EQ e a i r/\o.h e≠r:=
 ⟨λj y c d=>k j y c (Ma d),k a.length o b (by rw[lf (jS _),lU];rfl)⟩
theorem EQ.aw(s:BitVec 64)(a:List Bc)(x:Bc)(h:BitVec 64):EQ s (a++[x]) a.length h:=by
 intro j y c b;have:=(jX.1 b).1;rw[jU,lr]at this;omega
theorem Cp.i1{N:AC}(h:Cp d N b a)(x:Bc)(p:x.cF=A3)(q:x.lo<=b)(t:x.wh<=1000000000000000)(c:PO N k (x.h d.aQ)):Cp d k b (a++[x]):=by
 obtain⟨Q,R,u,c,v⟩:=c;refine Cp.dj ?_ v;have h:=h.dj u;refine⟨λy e g=>?_,λi y w j A B=>?_,λy f=>?_,λy f=>?_,by rw[c.la,c.bo];exact h.d2⟩
 ·rw[c.f]at g
  split at g
  ·cases g
  rename_i C
  obtain⟨r,D,s,l,m,n,E⟩:=h.gR y e g;refine⟨r,D,s,l,m,by rw[c.la];exact n,λo=>?_⟩;rw[c.la]at o;obtain⟨i,z,F,G,H,I,J,K⟩:=E o;exact⟨i,z,Ma F,G,H,I.hH λe=>C e.symm,J.dz (by rw[c.la];exact jS _) ⟨[],by rw[c.bo,lX]⟩,K⟩
 ·rcases OD w with⟨L,M⟩|⟨_,rfl⟩
  ·obtain⟨O,P⟩:=A.hA M;obtain⟨r,l,m,n⟩:=h.cN i y L j O B;refine⟨r,l,m,?_⟩;rw[c.la,c.f,j7 λe=>P e.symm];exact n
  ·rw[p]at j
   cases j
 ·rcases kY.1 f with f|f
  ·exact h.lo y f
  ·rw[kH.1 f];exact q
 ·rcases kY.1 f with f|f
  ·exact h.wh y f
  ·rw[kH.1 f];exact t
theorem Si(P:Pl)(h:b<=j):Cv P b<=Cv P j:=by
 unfold Cv;omega
theorem Xu(P:Pl)(b:Nat)(a:Bz)(n k:Nat):∃z,DQ P b a n k=a k++z:=by
 unfold DQ
 split
 ·exact⟨[],(lX _).symm⟩
 ·exact QV P b a k
theorem WL(a:Bz)(r:Nat)(b:List Nat)(k:Nat):∃z,Ck a r b k=a k++z:=by
 unfold Ck
 split
 ·exact⟨_,rfl⟩
 ·exact⟨[],(lX _).symm⟩
theorem Cp.aR{N:AC}(h:Cp d N j a)(x:Bc)(R:x.cF=J)(ao:x.lo=b)(H:x.wh<=(N.aw+1)*d.aI)(S:x.wh<=1000000000000000)
  (T:1<=(bl x.aN).length)(U:(bl x.aN).length<=64)(V:(bl x.val).length<=4096)(W:x.en<=281474976710656)(n:La d N k (x.h d.aQ) (Dk (bl x.aN) (bl x.val) x.en) j b):Cp d k b (a++[x]):=by
 obtain⟨ap,c,q,B,n,I⟩:=n;refine Cp.dj ?_ I;rw[<-B.la]at H;have h:=h.dj B;clear B I;obtain⟨K,L,t,M⟩:=n.go;have u:=JG (bl x.aN) (bl x.val) x.en;obtain⟨l,C⟩:=Ag (Dk (bl x.aN) (bl x.val) x.en);rw[C]at u t M;have m:=n.la;have v:=n.bo;rw[C]at m v;have X:=MM d c.aw c.aO l.length
 have D:c.aw<=q.aw:=by rw[m];exact X.1
 have Y:∀g,∃z,q.aO g=c.aO g++z:=by
  intro g;obtain⟨z,Z⟩:=Xu d c.aw c.aO l.length g;obtain⟨y,f⟩:=WL (DQ d c.aw c.aO l.length) (BJ d c.aw c.aO l.length) l g;exact⟨z++y,by rw[v,f,Z,ls]⟩
 have E:1<=q.aw:=by
  rcases h.d2 with o|o
  ·omega
  ·by_cases h0:1<=c.aw
   ·omega
   ·have aa:c.aw=0:=by omega
    rw[m];unfold BJ;rw[aa,j7 Ω];exact jS _
 have O:∀y∈a++[x],y∈a\/y=x:=λy f=>by
  rcases kY.1 f with f|f
  ·exact A4 f
  ·exact AA (kH.1 f)
 refine⟨λy e g=>?_,λi y p k2 k3 k4=>?_,λy f=>?_,λy f=>?_,A4 E⟩
 ·by_cases f:y=x.h d.aQ
  ·subst f;have hF:=t.1;rw[show(Iv d c (x.h d.aQ) l.length).h=x.h d.aQ from rfl]at hF;rw[hF]at g;obtain rfl:=kE g;refine⟨BJ d c.aw c.aO l.length,(DQ d c.aw c.aO l.length (BJ d c.aw c.aO l.length)).length,l.length,rfl,by rw[<-m];exact E,by rw[m];exact jS _,λ_=>?_⟩;refine⟨a.length,x,by rw[lf (jS _),lU];rfl,R,rfl,EQ.aw _ _ _ _,⟨by rw[m];exact jS _,?_,?_,T,U,V,W,In _,In _⟩,u⟩
   ·rw[v,CW,jU,u];omega
   ·rw[v,CW,C, <-u];unfold Dy;rw[List.drop_left,mI]
  ·rcases t.2 y f with p|p
   ·rw[p]at g;obtain⟨r,ad,s,o,F,P,h4⟩:=h.gR y e g;refine⟨r,ad,s,o,F,Ω,λG=>?_⟩;obtain⟨i,z,w,A,j3,j4,j5,j6⟩:=h4 (j8 (Si d D) G);exact⟨i,z,Ma w,A,j3,j4.hH λe=>f e.symm,j5.dz D (Y r),j6⟩
   ·rw[p]at g
    cases g
 ·rcases OD p with⟨Q,k6⟩|⟨_,rfl⟩
  ·obtain⟨k7,k8⟩:=k3.hA k6;have au:=h.lo y (kX Q)
   have am:K=J:=by
    cases K
    ·rfl
    ·simp only[qW]at L;omega
   subst am;obtain⟨r,o,F,P⟩:=h.cN i y Q k2 k7 (by simp at L;omega);refine⟨r,o,F,λG=>?_⟩;obtain⟨e,w,A⟩:=P (j8 (Si d D) G)
   rcases(M rfl).2 (y.h d.aQ) (λe=>k8 e.symm)with g|⟨_,e',g,k'⟩
   ·exact⟨e,by rw[g];exact w,A⟩
   ·rw[w]at g;obtain rfl:=kE g;rw[A]at k';omega
  ·refine⟨q.aw,?_,E,λ_=>⟨_,t.1,by rw[m];rfl⟩⟩;refine j8 H (mg _ ?_);omega
 ·rcases O y f with f|rfl
  ·have:=h.lo y f;omega
  ·omega
 ·rcases O y f with f|rfl
  ·exact h.wh y f
  ·exact S
def Jh(t:Nat)(a:List Bc)(b c:ByteArray):Bool:=
 match DL a b a.length with
 |none=>J
 |some i=>match a[i]? with
  |none=>J
  |some x=>! x.cF&&Jo x.val c&&! I6 t x
def MS(s:BitVec 64)(a:List Bc)(i:Nat)(h:BitVec 64):Bool:=(a.drop (i+1)).any λy=>Ax (y.h s=h)
theorem Zd{i:Nat}:MS e a i r=J↔EQ e a i r:=by
 unfold MS EQ;rw[qr]
 constructor
 ·intro k j y h c d;refine k y ?_ (jT d);refine kX (i:=j - (i+1)) ?_;rw[mj, <-c]
  congr 1
  omega
 ·intro k y f g;obtain⟨j,b⟩:=mD f;rw[mj]at b;exact k (i+1+j) y Ω b (kQ g)
def JQ(P:Pl)(t c d:Nat)(a:List Bc)(b:ByteArray):Option ByteArray:=
 match DL a b a.length with
 |none=>Z
 |some i=>match a[i]? with
  |none=>Z
  |some x=>if x.cF=A3\/I6 t x=A3\/x.lo≠c\/(P.rg - 1)*P.aI+x.wh<=d\/MS P.aQ a i (CM P.aQ (bl b))=A3 then Z else O x.val
theorem Cp.fS{N:AC}(h:Cp d N b a)(an:3<=d.rg)(t:Nat)(g:ByteArray)(u:Nat)(ao:N.aw*d.aI<=u):
  ∃(H:Bool) (n:BitVec 64) (I K L:Int) (w:Bool) (z:Option (List Nat×Nat)),(N.F (CM d.aQ (bl g))).isSome=H/\(N.F (CM d.aQ (bl g))).getD Af.ad=⟨n,I,K,L⟩/\Uv d N (bl g) H I K L w z/\(w=A3->z.isSome=A3)/\
   (∀v,Gd w z t=O v->Jh t a g (Fo v)=A3/\v.length<=4096)/\(∀v,JQ d t b u a g=O v->Gd w z t=O (bl v)):=by
 have D:∀v,JQ d t b u a g=O v->∃i x,a[i]?=O x/\x.aN=g/\x.cF=J/\I6 t x=J/\EQ d.aQ a i (CM d.aQ (bl g))/\v=x.val/\∃r:Nat,Cv d N.aw<=r/\∃e,N.F (CM d.aQ (bl g))=O e/\e.r=r:=by
  intro v f;unfold JQ at f
  split at f
  ·cases f
  rename_i i E
  obtain⟨ap,⟨x,n,M⟩,aq⟩:=NL (jS _) E;rw[n]at f;dsimp only at f
  split at f
  ·cases f
  rename_i o
  have P:EQ d.aQ a i (CM d.aQ (bl g)):=Zd.1 (by cases p:MS d.aQ a i (CM d.aQ (bl g));rfl;exact absurd (AA (AA (AA (AA p)))) o)
  have Q:x.cF=J:=by cases p:x.cF;rfl;exact absurd (A4 p) o
  have X:I6 t x=J:=by cases p:I6 t x;rfl;exact absurd (AA (A4 p)) o
  have A:x.lo=b:=lJ λe=>o (AA (AA (A4 e)))
  have Y:¬(d.rg - 1)*d.aI+x.wh<=u:=λe=>o (AA (AA (AA (A4 e))))
  have R:x.h d.aQ=CM d.aQ (bl g):=by unfold Bc.h;rw[M]
  obtain⟨r,F,h2,B⟩:=h.cN i x n Q (by rw[R];exact P) A;rw[R]at B
  refine⟨i,x,n,M,Q,X,P,(kE f).symm,r,?_,B ?_⟩<;>
  ·refine lJ λl=>Y ?_
   have hr:r+d.rg<=N.aw:=by
    unfold Cv at l;omega
   have hm:=mg d.aI hr
   have e1:(r+d.rg)*d.aI=(r+1)*d.aI+(d.rg - 1)*d.aI:=by rw[<-mS];congr 1;omega
   omega
 rcases hF:N.F (CM d.aQ (bl g))with _|e
 ·refine⟨J,0,0,0,0,J,Z,rfl,rfl,A4 ⟨rfl,rfl,rfl⟩,λe=>(by cases e),λv f=>(by cases f),λv f=>?_⟩;obtain⟨_,_,_,_,_,_,_,_,_,_,e,F,_⟩:=D v f;rw[hF]at F
  cases F
 ·obtain⟨r,S,s,rfl,h2,B,h4⟩:=h.gR _ e hF
  by_cases l:Cv d N.aw<=r
  ·obtain⟨i,x,j,j2,j3,T,U,j6⟩:=h4 l;subst j6;refine⟨A3,_,_,_,_,Ax (bl x.aN=bl g),O (bl x.val,x.en),rfl,rfl,AA (AA ⟨rfl,r,S,bl x.aN,bl x.val,x.en,rfl,rfl,rfl,l,U,rfl,rfl⟩),λ_=>rfl,λv f=>?_,λv f=>?_⟩
   ·unfold Gd at f
    split at f
    ·rename_i hd
     have V:x.aN=g:=Uq (kQ hd);dsimp only at f
     split at f
     ·cases f
     rename_i ah
     obtain rfl:=kE f;rw[JM]
     have ai:DL a g a.length=O i:=by
      rcases A:DL a g a.length with _|m
      ·exact absurd V (Qv (jS _) A i x (jX.1 j).1 j)
      ·obtain⟨q,⟨y,k,C⟩,G⟩:=NL (jS _) A;have E:i<a.length:=(jX.1 j).1
       rcases qu i m with c|c|c
       ·exact absurd (show y.h d.aQ=_ by unfold Bc.h;rw[C]) (T m y c k)
       ·rw[c]
       ·exact absurd V (G i x c E j)
     refine⟨?_,U.v1⟩;unfold Jh;rw[ai];dsimp only;rw[j];dsimp only;rw[j2,IV.2 rfl,show I6 t x=J from jV ah];rfl
    ·cases f
   ·obtain⟨m,W,q,k,C,G,k5,k6,_⟩:=D v f
    have al:i=m:=by
     rcases qu i m with c|c|c
     ·exact absurd (show W.h d.aQ=_ by unfold Bc.h;rw[k]) (T m W c q)
     ·exact c
     ·exact absurd j3 (k5 i x c j)
    subst al;rw[j]at q;obtain rfl:=kE q;subst k6;unfold Gd;rw[ke (by rw[k];exact jT rfl)];dsimp only;rw[j7 (ph G)]
  ·refine⟨A3,_,_,_,_,J,Z,rfl,rfl,AA (A4 ⟨rfl,rfl,rfl,r,S,s,rfl,rfl,rfl,l,B⟩),λe=>(by cases e),λv f=>(by cases f),λv f=>?_⟩;obtain⟨_,_,_,_,_,_,_,_,r',q,e,k,C⟩:=D v f;rw[hF]at k;obtain rfl:=kE k;exact absurd (show Cv d N.aw<=r by have:(r:Int)=(r':Int):=C;omega) l
end
