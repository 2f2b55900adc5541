/- Lemmas. -/
import Derived.Test.YtcedibmdelehdaaGreatDoorHBase
import Derived.Deep.RegionHeld3
import Derived.OrdersHeld
import Derived.OrdersIn
import Derived.StillTail
import Derived.TacticsIn
namespace Go.Proofs.YtcedibmdelehdaaGreatDoor
set_option maxRecDepth 100000
set_option maxHeartbeats 32000000
open Go renaming World->E,Oper->A3,Act->A4,Value->Bk,getD_replicate_false->Bs,Program->BA,NoPanic->BB,ready_mono->BD,wpOp_mono->BE,mem_ready->BL,wpOp->BR,getD_set_ne->BX,yielded->B0,wpOpIn->B1,getD_set_true->B2,wp_region_noPanic->B7,execOp->B9,getD_both->CA,YieldsIf->CB,wpOpIn_mono->CR,wp_region_any->CV,wpIn_region_any->C2,wanted_put->C3,execOp_put->C4,Exit->C6,undef->C7,about_put->C8
open Bool renaming true->J,false->V
open Go.Region renaming ready->O,noSelect->Z,binds->Ax,Mode->AA,wanted->A2,noSelect_spec->B3,free_spec->CE,free->DA
open _root_.Array renaming replicate->Y
open Option renaming some->Bd,none->C1
open Go.Exit renaming panic->Bn,normal->Bx
open Go.Act renaming put_comm->BC,put->C9
open Go.Oper renaming semAt_none->B4,wpIn->CX,uponIn->C0,upon->DV
open Go.Departure renaming mixedOrders->B5
open List renaming range->B6
open Go.Code renaming region->B8,wpIn_mono->C5
open Decidable renaming decide->CL
variable{h:E}{a s:A4}{b t:List Nat}{c:A3}{d:List (List Nat×Nat×Bool)}{e:A4->E->Prop}{f:A4->Prop}{g:Nat}{i u:Bk}{j v:Array Bool}{k:Bk->E->Prop}{l:Bool}{m:List (List Nat×List Nat×Nat×Bool)}{n:List A3}{o:E->Prop}{p:Option Tmp}{q:Prop}{r:BA}
section
section
open Go
section
variable {P:Program} {ops:Array Oper} {Q:Exit->Act->World->Prop} {md:Region.Mode} {S:World->Prop} {n:Nat}
def iI(P:BA)(md:AA)(ops:Array A3)(Q:C6->A4->E->Prop)(S:E->Prop)(n:Nat):Nat->Array Bool->A4->E->Prop
 |0,b,a,w=>O md ops b=[]/\Q Bx a w
 |d+1,b,a,w=>(O md ops b=[]->Q Bx a w)/\∀i∈O md ops b,BR P ops Q i (λe c=>(i<n->S c)/\iI P md ops Q S n d (b.setIfInBounds i J) e c) a w
end
section
variable {P:Program} {l:List Oper} {Q:Exit->Act->World->Prop} {md:Region.Mode} {S:World->Prop} {n:Nat}
def ik(P:BA)(l:List A3)(S:E->Prop)(K:A4->Prop):List Nat->A4->Prop
 |[],a=>K a
 |i::b,a=>∃o v,l[i]?=Bd o/\CB P l.toArray S o v a/\ik P l S K b (a.put o.dst v)
def ie(md:AA)(a:Array A3)(n:Nat):List Nat->Array Bool->Bool
 |[],_=>J
 |i::c,b=>CL (i<n)&&(O md a b).contains i&&DA md a b i&&ie md a n c (b.setIfInBounds i J)
def Bv:List Nat->Array Bool->Array Bool
 |[],a=>a
 |i::b,a=>Bv b (a.setIfInBounds i J)
theorem AH{i:Nat}(d:l[i]?=Bd c)
  (f:∀b:A4->E->Prop,(∀a h,e a h->b a h)->if A2 c (B0 l.toArray a.tmps)=J then Oper.wp P c a h b Q else b (a.put c.dst C7) h):BR P l.toArray Q i e a h:=
 wpOp_step (by simpa using d) f
end
end
section
open Go
section
variable {P:Program} {ops:Array Oper} {Q:Exit->Act->World->Prop} {md:Region.Mode} {S:World->Prop} {R:List Nat}
def Fz(md:AA)(ops:Array A3):Nat->Nat->Nat->Bool
 |0,_,_=>V
 |a+1,j,i=>
  match ops[j]? with
  |none=>V
  |some b=>b.after.any λe=>Ax md e&&(e.on==i||Fz md ops a e.on i)
def CK(md:AA)(ops:Array A3)(a:Array Bool):Prop:=
 ∀j b,ops[j]?=Bd b->a.getD j V=J->∀e∈b.after,Ax md e=J->a.getD e.on V=J
theorem CK.aR{i:Nat}(k:CK md ops j)(l:i∈O md ops j):CK md ops (j.setIfInBounds i J):=by
 obtain⟨_,m,n,o⟩:=BL.1 l;intro a b c d e f g
 by_cases h:i=a
 ·subst h;have:b=m:=kE (c.symm.trans n);subst this;exact B2 (o e f g)
 ·rw[BX V h]at d;exact B2 (k a b c d e f g)
theorem Mg{i:Nat}(f:CK md ops j)(g:j.getD i J=V):
  ∀(b c:Nat),(∀a,ops[c]?=Bd a->∀e∈a.after,Ax md e=J->j.getD e.on V=J)->Fz md ops b c i=V
 |0,_,_=>rfl
 |b+1,c,h=>by
  unfold Fz
  split
  ·rfl
  ·rename_i a k
   rw[Array.any_eq_false'];intro e l;simp only[kh,m7,nc,not_and,not_or,Bool.not_eq_true];intro m;have d:=h a k e l m;refine⟨λn=>?_,Mg f g b e.on (λo p q r s=>f e.on o p d q r s)⟩;rw[n,CA g]at d
   cases d
def BH(o:A3):Bool:=match o.op with| .extract ..=>V| .move ..=>V| .assign ..=>V| .pick ..=>V|_=>J
def Fj(md:AA)(ops:Array A3)(R:List Nat)(j:Nat):Bool:=R.any λi=>(match ops[i]? with|some o=>BH o|none=>V)&&(i !=j&&! Fz md ops ops.size j i)
def I8(P:BA)(md:AA)(ops:Array A3)(Q:C6->A4->E->Prop)(S:E->Prop)(R:List Nat):Nat->Array Bool->A4->E->Prop
 |0,b,a,w=>O md ops b=[]/\Q Bx a w
 |d+1,b,a,w=>(O md ops b=[]->Q Bx a w)/\∀i∈O md ops b,BR P ops Q i (λe c=>((R.contains i=J->c=w)/\(R.contains i=V->Fj md ops R i=J->S c))/\I8 P md ops Q S R d (b.setIfInBounds i J) e c) a w
theorem QY:∀(b:Nat) (c:Array Bool) (a:A4) (w:E),I8 P md ops Q S R b c a w->wpAny P md ops Q b c a w
 |0,_,_,_,h=>h
 |b+1,_,_,_,h=>⟨h.1,λi d=>BE (λe f g=>QY b _ e f g.2) (h.2 i d)⟩
theorem Vq{i:Nat}{v:Bk}(F:i∈R)(t:ops[i]?=Bd c)(G:∀(j:Nat) (o:A3) m b,ops[j]?=Bd o->o.op≠.select m b)
  (W:∀I a w,Q (Bn I) (a.put c.dst v) w->Q (Bn I) a w):
  ∀(n:Nat) (d:Array Bool) (a:A4) (w:E),CK md ops d->
   (∀j g,ops[j]?=Bd g->j≠i->d.getD j J=V->(∀e∈g.after,Ax md e=J->e.on≠i)->c.apart ops g=J)->
   i∈O md ops d->CB P ops (λw=>BH c=J->S w) c v a->(BH c=J->S w)->
   I8 P md ops Q S R n (d.setIfInBounds i J) (a.put c.dst v) w->I8 P md ops Q S R (n+1) d a w:=by
 have K:R.contains i=J:=by simpa using F
 intro n
 induction n with
 |zero=>
  intro d a w B _ l u x H;refine⟨λh=>(by rw[h]at l;cases l),λj p=>?_⟩
  by_cases f:j=i
  ·subst f;exact u.wpOp t x ⟨⟨λ_=>rfl,λh=>by rw[K]at h;cases h⟩,H⟩
  ·have:=BD p f;rw[H.1]at this
   cases this
 |succ n X=>
  intro d a w B L l u x H;refine⟨λh=>(by rw[h]at l;cases l),λj p=>?_⟩
  by_cases f:j=i
  ·subst f;exact u.wpOp t x ⟨⟨λ_=>rfl,λh=>by rw[K]at h;cases h⟩,H⟩
  ·have q:=(BL.1 l).1;have y:=H.2 j (BD p f);obtain⟨M,g,z,N⟩:=BL.1 p
   have Y:∀e∈g.after,Ax md e=J->e.on≠i:=λe C D Z=>by
    have y:=N e C D;rw[Z,CA q]at y
    cases y
   have hd:BH c=J->Fj md ops R j=J:=λA=>by
    unfold Fj;rw[nU];refine⟨i,F,?_⟩
    rw[Mg B q ops.size j (λo ho e C D=>by
     have:o=g:=kE (ho.symm.trans z);subst this
     exact N e C D),t]
    simp[qV f,A]
   have h2:=wpOp_putIf z (L j g z f M Y) (λm b=>G i c m b t) (λm b=>G j g m b z) W u y
   have ad:∀k r,ops[k]?=Bd r->k≠i->(d.setIfInBounds j J).getD k J=V->
     (∀e∈r.after,Ax md e=J->e.on≠i)->c.apart ops r=J:=λk r hk af q ag=>by
    refine L k r hk af ?_ ag
    by_cases T:j=k
    ·subst T;exact M
    ·rw[BX J T]at q;exact q
   refine BE (λa' w' s=>⟨s.2.1,X (d.setIfInBounds j J) a' w' (B.aR p) ad (BD l (qV f)) s.1 (λA=>?_) ?_⟩) h2
   ·cases U:R.contains j
    ·exact s.2.1.2 U (hd A)
    ·rw[s.2.1.1 U];exact x A
   ·rw[oS _ _ f];exact s.2.2
end
section
variable {P:Program} {l:List Oper} {Q:Exit->Act->World->Prop} {md:Region.Mode} {S:World->Prop} {R:List Nat}
def Cq(P:BA)(l:List A3)(S:E->Prop)(K:A4->Prop):List Nat->A4->Prop
 |[],a=>K a
 |i::b,a=>∃o v,l[i]?=Bd o/\CB P l.toArray (λw=>BH o=J->S w) o v a/\Cq P l S K b (a.put o.dst v)
theorem Aj(h:f a):Cq P l S f [] a:=h
theorem AB{i:Nat}{v:Bk}(d:l[i]?=Bd c)(e:A2 c (B0 l.toArray a.tmps)=J)(g:∀w,(BH c=J->S w)->(B9 a.eval c).run P w=.ok (.value v) w)
  (h:Cq P l S f b (a.put c.dst v)):Cq P l S f (i::b) a:=⟨c,v,d,.inl ⟨e,g⟩,h⟩
def GH(P:BA)(l:List A3)(Q:C6->A4->E->Prop)(S:E->Prop):List (List Nat×Nat×Bool)->A4->E->Prop
 |[],a,w=>Q Bx a w
 |(b,i,d)::e,a,w=>((b.any λk=>match l[k]? with|some o=>BH o|none=>V)=J->S w)/\Cq P l S (λf=>BR P l.toArray Q i (λg c=>(d=J->S c)/\GH P l Q S e g c) f w) b a
theorem BU{i:Nat}{c:Bool}(f:S h)(g:Cq P l S (λj=>BR P l.toArray Q i (λk e=>(c=J->S e)/\GH P l Q S d k e) j h) b a):GH P l Q S ((b,i,c)::d) a h:=⟨λ_=>f,g⟩
theorem LM{i:Nat}{c:Bool}(g:(b.any λk=>match l[k]? with|some o=>BH o|none=>V)=V)(j:Cq P l S (λm=>BR P l.toArray Q i (λn e=>(c=J->S e)/\GH P l Q S d n e) m h) b a):GH P l Q S ((b,i,c)::d) a h:=⟨λf=>(by rw[g]at f;cases f),j⟩
theorem BG{i:Nat}{b:Bool}(e:BR P l.toArray Q i (λf c=>(b=J->S c)/\GH P l Q S d f c) a h):GH P l Q S (([],i,b)::d) a h:=⟨λg=>(by simp at g),e⟩
theorem Di(b:Q Bx a h):GH P l Q S [] a h:=b
def FB(md:AA)(a:Array A3):List Nat->Array Bool->Bool
 |[],_=>J
 |i::c,b=>(O md a b).contains i&&DA md a b i&&FB md a c (b.setIfInBounds i J)
def It(md:AA)(a:Array A3)(R:List Nat):List (List Nat×Nat×Bool)->Array Bool->Bool
 |[],b=>(O md a b).isEmpty
 |(c,i,d)::e,b=>FB md a c b&&CL (O md a (Bv c b)=[i])&&(d||! Fj md a R i)&&! R.contains i&&c.all (λk=>R.contains k)&&It md a R e ((Bv c b).setIfInBounds i J)
def FU:List (List Nat×Nat×Bool)->Nat
 |[]=>0
 |(a,_,_)::b=>a.length+1+FU b
theorem Qp(j:Z l.toArray=J)(m:∀c a x w,Q (Bn c) a w->Q (Bn c) x w)(K:A4->Prop)(e:Nat)(w:E)(L:Array Bool)
  (n:∀a,CK md l.toArray L->K a->I8 P md l.toArray Q S R e L a w):
  ∀(b:List Nat) (d:Array Bool) (a:A4),(∀k∈b,k∈R)->((b.any λk=>match l[k]? with|some o=>BH o|none=>V)=J->S w)->CK md l.toArray d->Bv b d=L->FB md l.toArray b d=J->Cq P l S K b a->I8 P md l.toArray Q S R (b.length+e) d a w
 |[],d,a,_,_,f,g,_,h=>by
  have y:d=L:=g;subst y;rw[show[].length+e=e from mx _];exact n a f h
 |i::b,d,a,p,q,f,g,r,h=>by
  simp only[FB,kh]at r;obtain⟨⟨z,A⟩,B⟩:=r;obtain⟨o,v,s,C,D⟩:=h
  have t:l.toArray[i]?=Bd o:=by simpa using s
  have u:i∈O md l.toArray d:=by simpa using z
  have F:BH o=J->S w:=λG=>q (by simp[s,G])
  have H:=Qp j m K e w L n b (d.setIfInBounds i J) (a.put o.dst v) (λk I=>p k (lA _ I)) (λM=>q (by rw[qX,M,pR])) (f.aR u) g B D;have:=Vq (P:=P) (S:=S) (R:=R) (p i Δ) t (B3 j) (λc a w h=>m c _ _ w h) (b.length+e) d a w f (CE t A) u C F H;rw[show(i::b).length+e=b.length+e+1 by simp only[kj];omega];exact this
theorem QH(o:Z l.toArray=J)(p:∀c a q w,Q (Bn c) a w->Q (Bn c) q w):
  ∀(m:List (List Nat×Nat×Bool)) (b:Array Bool) (a:A4) (w:E),CK md l.toArray b->It md l.toArray R m b=J->GH P l Q S m a w->I8 P md l.toArray Q S R (FU m) b a w
 |[],b,a,w,_,e,h=>⟨by simpa[It]using e,h⟩
 |(f,i,d)::g,b,a,w,v,e,h=>by
  simp only[It,kh,mb]at e;obtain⟨⟨⟨⟨⟨x,r⟩,y⟩,s⟩,z⟩,A⟩:=e;obtain⟨B,C⟩:=h;rw[show FU ((f,i,d)::g)=f.length+(FU g+1) by simp only[FU];omega];refine Qp o p _ (FU g+1) w (Bv f b) ?_ f b a (λk D=>by simpa using lQ.1 z k D) B v rfl x C;intro q F G;refine⟨λt=>(by rw[r]at t;cases t),λj n=>?_⟩;have H:=n;rw[r]at n
  obtain rfl:j=i:=by simpa using n
  refine BE (λI K u=>⟨⟨λL=>(by rw[L]at s;cases s),λ_ M=>u.1 (by simpa[M]using y)⟩,?_⟩) G;exact QH o p g _ I K (F.aR H) A u.2
def Hy:List (List Nat×Nat×Bool)->List Nat
 |[]=>[]
 |(a,_,_)::b=>a++Hy b
def JH(l:List A3)(a:List (List Nat×Nat×Bool)):Bool:=
 Z l.toArray&&It .any l.toArray (Hy a) a (Y l.toArray.size V)&&CL (FU a=l.toArray.size)
theorem Dg(S:E->Prop)(b:List (List Nat×Nat×Bool))(i:P.follows B5=J)(e:JH l b=J)
  (d:GH P l (BB Q) S b a h.drew):(B8 g l.toArray J).wp P Q a h:=by
 simp only[JH,kh,mb]at e;obtain⟨⟨k,m⟩,n⟩:=e;refine B7 (CV i (QY (S:=S) (R:=Hy b) _ _ _ _ ?_))
 have o:CK .any l.toArray (Y l.toArray.size V):=λj p _ f=>(by rw[Bs]at f;cases f)
 have:=QH (P:=P) (Q:=BB Q) (S:=S) (R:=Hy b) (md:=.any) k (λc a q h d=>d) b (Y l.toArray.size V) a h.drew o m d;rw[n]at this;exact this
end
end
theorem Al{a:Prop}(h:a)(k:a->q:=by(intro b;refine AH rfl (λK c=>?_);go_simp;revert c;revert K;exact b)):q:=k h
end
section
section
open Go
section
variable {F:Fence} {fn:Nat} {P:Program} {ops:Array Oper} {Q:Exit->Act->World->Prop} {md:Region.Mode} {S:World->Prop} {n:Nat}
def Fy(P:BA)(ops:Array A3)(S:E->Prop)(o:A3)(v:Bk)(a:A4):Prop:=CB P ops S o v a/\∀w,o.about P w a.eval=C1
theorem Fy.wpOpIn{i:Nat}{v:Bk}(l:F.round=C1)(m:ops[i]?=Bd c)(d:Fy P ops S c v a)
  (n:S h)(g:e (a.put c.dst v) h):B1 F fn P ops Q i e a h:=by
 unfold B1;simp only[m]
 have j:∀f,c.about P h a.eval=Bd f->F.fn f:=λf k=>by rw[d.2 h]at k;cases k
 rcases d.1 with⟨b,o⟩|⟨b,rfl⟩
 ·simp only[b,qW,CX,l,B4,o h n,C0];exact⟨j,g⟩
 ·simp only[b,pd,if_false];exact⟨j,g⟩
theorem Fy.hf(b:Fy P ops S c i a)(d:B9 s.eval c=B9 a.eval c)
  (e:A2 c (B0 ops s.tmps)=A2 c (B0 ops a.tmps))(f:∀w,c.about P w s.eval=c.about P w a.eval):Fy P ops S c i s:=
 ⟨b.1.of_same d e,λw=>by rw[f w];exact b.2 w⟩
theorem Vy{k:A3}(B:F.round=C1)(G:ops[g]?=Bd k)(H:c.apart ops k=J)
  (I:∀t b,c.op≠.select t b)(K:∀t b,k.op≠.select t b)
  (v:∀q a h,Q (Bn q) (a.put c.dst i) h->Q (Bn q) a h)
  (m:Fy P ops S c i a)(j:B1 F fn P ops Q g e (a.put c.dst i) h):
  B1 F fn P ops Q g (λC w=>Fy P ops S c i C/\e (C.put c.dst i) w) a h:=by
 obtain⟨s,o,y⟩:=Oper.apart_spec H
 have p:∀(a:A4),Fy P ops S c i a->∀u,Fy P ops S c i (a.put k.dst u):=λa m u=>
  m.hf (C4 c I a k.dst u y) (C3 c a k.dst u y) (λh=>C8 c h a k.dst u y)
 have L:∀d,Fy P ops S c i {a with defers:=d::a.defers}:=λd=>m.hf rfl rfl (λ_=>rfl)
 unfold B1 at*;simp only[G]at*;rw[C3 k a c.dst i s,C8 k h a c.dst i s]at j
 split
 ·rename_i z
  simp only[z,qW]at j;unfold CX at*;rw[C8 k h a c.dst i s]at j;refine⟨j.1,?_⟩;have j:=j.2;rw[B,B4,C4 k K a c.dst i s]at j;rw[B,B4];generalize(B9 a.eval k).run P h=r at*
  cases r with
  |ok x w=>
   cases x<;>simp only[C0]at j⊢
   case value u=>exact⟨p a m u,by rw[<-BC a i u o];exact j⟩
   case skip=>exact⟨p a m _,by rw[<-BC a i C7 o];exact j⟩
   case defer d=>
    refine⟨p _ (L d) _,?_⟩;rw[<-BC _ i C7 o, <-Act.put_defers];exact j
   case enter f M=>
    refine⟨j.1,CallsIn.mono j.2 λA D n=>?_⟩
    cases A with
    |returned u=>exact⟨p a m u,by rw[<-BC a i u o];exact n⟩
    |panicked q=>exact v _ _ _ n
    |outgrown=>exact n
   case row N M=>exact⟨j.1,RowsIn.mono j.2 λu D n=>⟨p a m u,by rw[<-BC a i u o];exact n⟩⟩
   case round l f O R T=>
    refine⟨j.1,RoundIn.mono j.2 λA D n=>?_⟩
    cases A with
    |returned u=>exact⟨p a m u,by rw[<-BC a i u o];exact n⟩
    |panicked q=>exact v _ _ _ n
    |outgrown=>exact n
  |halt x w=>
   cases x<;>simp only[C0]at j⊢
   case panic u=>exact v _ _ _ j
 ·rename_i z
  simp only[z]at j;exact⟨j.1,p a m _,by rw[<-BC a i C7 o];exact j.2⟩
def eP(F:Fence)(fn:Nat)(P:BA)(md:AA)(ops:Array A3)(Q:C6->A4->E->Prop)(S:E->Prop)(n:Nat):Nat->Array Bool->A4->E->Prop
 |0,b,a,w=>O md ops b=[]/\Q Bx a w
 |d+1,b,a,w=>(O md ops b=[]->Q Bx a w)/\∀i∈O md ops b,B1 F fn P ops Q i (λe c=>(i<n->S c)/\eP F fn P md ops Q S n d (b.setIfInBounds i J) e c) a w
end
section
variable {F:Fence} {fn:Nat} {P:Program} {l:List Oper} {Q:Exit->Act->World->Prop} {md:Region.Mode} {S:World->Prop} {n:Nat}
def bM(P:BA)(l:List A3)(S:E->Prop)(K:A4->Prop):List Nat->A4->Prop
 |[],a=>K a
 |i::b,a=>∃o v,l[i]?=Bd o/\Fy P l.toArray S o v a/\bM P l S K b (a.put o.dst v)
theorem BW{i:Nat}(d:l[i]?=Bd c)
  (g:∀b:A4->E->Prop,(∀a h,e a h->b a h)->if A2 c (B0 l.toArray a.tmps)=J then CX F fn P c a h b Q else(∀f,c.about P h a.eval=Bd f->F.fn f)/\b (a.put c.dst C7) h):B1 F fn P l.toArray Q i e a h:=
 wpOpIn_step (by simpa using d) g
end
end
section
open Go
section
variable {F:Fence} {fn:Nat} {P:Program} {ops:Array Oper} {Q:Exit->Act->World->Prop} {md:Region.Mode} {S:World->Prop} {R:List Nat}
def IT(F:Fence)(fn:Nat)(P:BA)(md:AA)(ops:Array A3)(Q:C6->A4->E->Prop)(S:E->Prop)(R:List Nat):Nat->Array Bool->A4->E->Prop
 |0,b,a,w=>O md ops b=[]/\Q Bx a w
 |d+1,b,a,w=>(O md ops b=[]->Q Bx a w)/\∀i∈O md ops b,B1 F fn P ops Q i (λe c=>((R.contains i=J->c=w)/\(R.contains i=V->Fj md ops R i=J->S c))/\IT F fn P md ops Q S R d (b.setIfInBounds i J) e c) a w
theorem NF:∀(b:Nat) (c:Array Bool) (a:A4) (w:E),IT F fn P md ops Q S R b c a w->wpAnyIn F fn P md ops Q b c a w
 |0,_,_,_,h=>h
 |b+1,_,_,_,h=>⟨h.1,λi d=>CR (λe f g=>NF b _ e f g.2) (h.2 i d)⟩
theorem U3(B:F.round=C1){i:Nat}{v:Bk}(I:i∈R)(t:ops[i]?=Bd c)(K:∀(j:Nat) (o:A3) m b,ops[j]?=Bd o->o.op≠.select m b)
  (Y:∀L a w,Q (Bn L) (a.put c.dst v) w->Q (Bn L) a w):
  ∀(n:Nat) (d:Array Bool) (a:A4) (w:E),CK md ops d->
   (∀j g,ops[j]?=Bd g->j≠i->d.getD j J=V->(∀e∈g.after,Ax md e=J->e.on≠i)->c.apart ops g=J)->
   i∈O md ops d->Fy P ops (λw=>BH c=J->S w) c v a->(BH c=J->S w)->
   IT F fn P md ops Q S R n (d.setIfInBounds i J) (a.put c.dst v) w->IT F fn P md ops Q S R (n+1) d a w:=by
 have M:R.contains i=J:=by simpa using I
 intro n
 induction n with
 |zero=>
  intro d a w C _ l u x H;refine⟨λh=>(by rw[h]at l;cases l),λj p=>?_⟩
  by_cases f:j=i
  ·subst f;exact u.wpOpIn B t x ⟨⟨λ_=>rfl,λh=>by rw[M]at h;cases h⟩,H⟩
  ·have:=BD p f;rw[H.1]at this
   cases this
 |succ n Z=>
  intro d a w C N l u x H;refine⟨λh=>(by rw[h]at l;cases l),λj p=>?_⟩
  by_cases f:j=i
  ·subst f;exact u.wpOpIn B t x ⟨⟨λ_=>rfl,λh=>by rw[M]at h;cases h⟩,H⟩
  ·have q:=(BL.1 l).1;have y:=H.2 j (BD p f);obtain⟨T,g,z,U⟩:=BL.1 p
   have aa:∀e∈g.after,Ax md e=J->e.on≠i:=λe D G ab=>by
    have y:=U e D G;rw[ab,CA q]at y
    cases y
   have hd:BH c=J->Fj md ops R j=J:=λA=>by
    unfold Fj;rw[nU];refine⟨i,I,?_⟩
    rw[Mg C q ops.size j (λo ho e D G=>by
     have:o=g:=kE (ho.symm.trans z);subst this
     exact U e D G),t]
    simp[qV f,A]
   have h2:=Vy B z (N j g z f T aa) (λm b=>K i c m b t) (λm b=>K j g m b z) Y u y
   have af:∀k r,ops[k]?=Bd r->k≠i->(d.setIfInBounds j J).getD k J=V->
     (∀e∈r.after,Ax md e=J->e.on≠i)->c.apart ops r=J:=λk r hk ah q ai=>by
    refine N k r hk ah ?_ ai
    by_cases W:j=k
    ·subst W;exact T
    ·rw[BX J W]at q;exact q
   refine CR (λa' w' s=>⟨s.2.1,Z (d.setIfInBounds j J) a' w' (C.aR p) af (BD l (qV f)) s.1 (λA=>?_) ?_⟩) h2
   ·cases X:R.contains j
    ·exact s.2.1.2 X (hd A)
    ·rw[s.2.1.1 X];exact x A
   ·rw[oS _ _ f];exact s.2.2
end
section
variable {F:Fence} {fn:Nat} {P:Program} {l:List Oper} {Q:Exit->Act->World->Prop} {md:Region.Mode} {S:World->Prop} {R:List Nat}
def GY(P:BA)(l:List A3)(S:E->Prop)(K:A4->Prop):List Nat->A4->Prop
 |[],a=>K a
 |i::b,a=>∃o v,l[i]?=Bd o/\Fy P l.toArray (λw=>BH o=J->S w) o v a/\GY P l S K b (a.put o.dst v)
theorem Fc(h:f a):GY P l S f [] a:=h
theorem Fa{i:Nat}{v:Bk}(d:l[i]?=Bd c)(e:∀w,c.about P w a.eval=C1)(g:A2 c (B0 l.toArray a.tmps)=J)(j:∀w,(BH c=J->S w)->(B9 a.eval c).run P w=.ok (.value v) w)
  (h:GY P l S f b (a.put c.dst v)):GY P l S f (i::b) a:=⟨c,v,d,⟨.inl ⟨g,j⟩,e⟩,h⟩
theorem Qc{i:Nat}(d:l[i]?=Bd c)(e:∀w,c.about P w a.eval=C1)(g:A2 c (B0 l.toArray a.tmps)=V)
  (h:GY P l S f b (a.put c.dst C7)):GY P l S f (i::b) a:=⟨c,C7,d,⟨.inr ⟨g,rfl⟩,e⟩,h⟩
def GZ(F:Fence)(fn:Nat)(P:BA)(l:List A3)(Q:C6->A4->E->Prop)(S:E->Prop):List (List Nat×Nat×Bool)->A4->E->Prop
 |[],a,w=>Q Bx a w
 |(b,i,d)::e,a,w=>((b.any λk=>match l[k]? with|some o=>BH o|none=>V)=J->S w)/\GY P l S (λf=>B1 F fn P l.toArray Q i (λg c=>(d=J->S c)/\GZ F fn P l Q S e g c) f w) b a
theorem Fe{i:Nat}{c:Bool}(f:S h)(g:GY P l S (λj=>B1 F fn P l.toArray Q i (λk e=>(c=J->S e)/\GZ F fn P l Q S d k e) j h) b a):GZ F fn P l Q S ((b,i,c)::d) a h:=⟨λ_=>f,g⟩
theorem Eg{i:Nat}{b:Bool}(e:B1 F fn P l.toArray Q i (λf c=>(b=J->S c)/\GZ F fn P l Q S d f c) a h):GZ F fn P l Q S (([],i,b)::d) a h:=⟨λg=>(by simp at g),e⟩
theorem Fu(b:Q Bx a h):GZ F fn P l Q S [] a h:=b
theorem Qb(j:F.round=C1)(m:Z l.toArray=J)(n:∀c a y w,Q (Bn c) a w->Q (Bn c) y w)(K:A4->Prop)(e:Nat)(w:E)(L:Array Bool)
  (p:∀a,CK md l.toArray L->K a->IT F fn P md l.toArray Q S R e L a w):
  ∀(b:List Nat) (d:Array Bool) (a:A4),(∀k∈b,k∈R)->((b.any λk=>match l[k]? with|some o=>BH o|none=>V)=J->S w)->CK md l.toArray d->Bv b d=L->FB md l.toArray b d=J->GY P l S K b a->IT F fn P md l.toArray Q S R (b.length+e) d a w
 |[],d,a,_,_,f,g,_,h=>by
  have z:d=L:=g;subst z;rw[show[].length+e=e from mx _];exact p a f h
 |i::b,d,a,q,r,f,g,s,h=>by
  simp only[FB,kh]at s;obtain⟨⟨A,B⟩,C⟩:=s;obtain⟨o,v,t,D,G⟩:=h
  have u:l.toArray[i]?=Bd o:=by simpa using t
  have x:i∈O md l.toArray d:=by simpa using A
  have H:BH o=J->S w:=λI=>r (by simp[t,I])
  have M:=Qb j m n K e w L p b (d.setIfInBounds i J) (a.put o.dst v) (λk N=>q k (lA _ N)) (λT=>r (by rw[qX,T,pR])) (f.aR x) g C G;have:=U3 (F:=F) (fn:=fn) (P:=P) (S:=S) (R:=R) j (q i Δ) u (B3 m) (λc a w h=>n c _ _ w h) (b.length+e) d a w f (CE u B) x D H M;rw[show(i::b).length+e=b.length+e+1 by simp only[kj];omega];exact this
theorem ND(o:F.round=C1)(p:Z l.toArray=J)(q:∀c a r w,Q (Bn c) a w->Q (Bn c) r w):
  ∀(m:List (List Nat×Nat×Bool)) (b:Array Bool) (a:A4) (w:E),CK md l.toArray b->It md l.toArray R m b=J->GZ F fn P l Q S m a w->IT F fn P md l.toArray Q S R (FU m) b a w
 |[],b,a,w,_,e,h=>⟨by simpa[It]using e,h⟩
 |(f,i,d)::g,b,a,w,x,e,h=>by
  simp only[It,kh,mb]at e;obtain⟨⟨⟨⟨⟨y,s⟩,z⟩,t⟩,A⟩,B⟩:=e;obtain⟨C,D⟩:=h;rw[show FU ((f,i,d)::g)=f.length+(FU g+1) by simp only[FU];omega];refine Qb o p q _ (FU g+1) w (Bv f b) ?_ f b a (λk G=>by simpa using lQ.1 A k G) C x rfl y D;intro r H I;refine⟨λu=>(by rw[s]at u;cases u),λj n=>?_⟩;have K:=n;rw[s]at n
  obtain rfl:j=i:=by simpa using n
  refine CR (λL M v=>⟨⟨λN=>(by rw[N]at t;cases t),λ_ O=>v.1 (by simpa[O]using z)⟩,?_⟩) I;exact ND o p q g _ L M (H.aR K) B v.2
theorem Kg(S:E->Prop)(b:List (List Nat×Nat×Bool))(i:F.round=C1)(k:P.follows B5=J)(e:JH l b=J)
  (d:GZ F fn P l (BB Q) S b a h.drew):(B8 g l.toArray J).wpIn F fn P Q a h:=by
 simp only[JH,kh,mb]at e;obtain⟨⟨m,n⟩,o⟩:=e;refine C5 NoPanic.imp (C2 k (NF (S:=S) (R:=Hy b) _ _ _ _ ?_))
 have p:CK .any l.toArray (Y l.toArray.size V):=λj q _ f=>(by rw[Bs]at f;cases f)
 have:=ND (F:=F) (fn:=fn) (P:=P) (Q:=BB Q) (S:=S) (R:=Hy b) (md:=.any) i m (λc a r h d=>d) b (Y l.toArray.size V) a h.drew p n d;rw[o]at this;exact this
end
end
section
open Go
section
variable {F:Fence} {fn:Nat} {P:Program} {ops:Array Oper} {Q:Exit->Act->World->Prop} {md:Region.Mode}
def MN(ops:Array A3):Bool:=ops.all λo=>match o.op with| .defer _=>V|_=>J
theorem Ym{i:Nat}(h:MN ops=J)(b:ops[i]?=Bd c):∀a,c.op≠.defer a:=by
 intro a d;have:=pW.1 h c (Array.mem_of_getElem? b);rw[d]at this
 cases this
theorem Vx{i:Nat}{f:A4->E->Prop}(j:F.round=C1)(k:MN ops=J)(l:∀a h,e a h->f a h)(b:B1 F fn P ops Q i e a h):B1 (F.inRound g) fn P ops Q i f a h:=by
 have b:=CR l b;unfold B1 at*
 cases c:ops[i]? with
 |none=>rw[c]at b;exact b
 |some o=>
  rw[c]at b;simp only at b⊢
  split
  ·rename_i d
   rw[ke d]at b;unfold CX at*;rw[j,B4]at b;rw[Fence.inRound_round,Oper.semAt_some g _ _ (Ym k c)];exact b
  ·rename_i d
   rw[j7 d]at b;exact b
theorem Qe(c:F.round=C1)(d:MN ops=J):∀(b:Nat) (e:Array Bool) (a:A4) (w:E),wpAnyIn F fn P md ops Q b e a w->wpAnyIn (F.inRound g) fn P md ops Q b e a w
 |0,_,_,_,h=>h
 |b+1,_,_,_,h=>⟨h.1,λi f=>Vx c d (λj k l=>Qe c d b _ j k l) (h.2 i f)⟩
end
theorem IH{F:Fence}{k:Nat}{Q:C6->A4->E->Prop}{l:Nat}(S:E->Prop)(b:List (List Nat×Nat×Bool))(e:F.round=C1)(m:r.follows B5=J)(f:(MN n.toArray&&JH n b)=J)
  (d:GZ F g r n (BB Q) S b a h.drew):(B8 l n.toArray J).wpIn (F.inRound k) g r Q a h:=by
 simp only[JH,kh,mb]at f;obtain⟨o,⟨p,q⟩,s⟩:=f;refine C5 NoPanic.imp (C2 m (Qe e o _ _ _ _ (NF (S:=S) (R:=Hy b) _ _ _ _ ?_)))
 have t:CK .any n.toArray (Y n.toArray.size V):=λj u _ i=>(by rw[Bs]at i;cases i)
 have:=ND (F:=F) (fn:=g) (P:=r) (Q:=BB Q) (S:=S) (R:=Hy b) (md:=.any) e p (λc a v h d=>d) b (Y n.toArray.size V) a h.drew t q d;rw[s]at this;exact this
end
end
section
open Go
section
variable {P:Program} {ops:Array Oper} {Q:Exit->Act->World->Prop} {md:Region.Mode}
def Dv(ops:Array A3)(j:Nat):Option Tmp:=match ops[j]? with|some o=>o.dst|none=>C1
def CJ(ops:Array A3)(b:Nat->Bk)(L:List Nat)(a:A4):A4:=L.foldl (λa j=>a.put (Dv ops j) (b j)) a
theorem Qd(b:Nat->Bk)(L M:List Nat)(a:A4):CJ ops b (L++M) a=CJ ops b M (CJ ops b L a):=by simp[CJ]
theorem Ql{b c:Nat->Bk}:∀(L:List Nat) (a:A4),(∀j∈L,b j=c j)->CJ ops b L a=CJ ops c L a
 |[],_,_=>rfl
 |j::L,a,h=>by
  simp only[CJ,List.foldl_cons];rw[h j Δ];exact Ql L _ (λk d=>h k (lA _ d))
theorem QI{vals:Nat->Bk}(e:∀i j d,i≠j->Dv ops i=Bd d->Dv ops j≠Bd d)(h:b.Perm t)(a:A4):CJ ops vals b a=CJ ops vals t a:=by
 refine List.Perm.foldl_eq' h (λx _ y _ z=>?_) a
 by_cases c:x=y
 ·subst c;rfl
 ·exact BC _ _ _ (λd f=>e x y d c f)
theorem QA(o:A3)(e:∀i b,o.op≠.select i b)(c:Nat->Bk):∀(L:List Nat) (a:A4),(∀j∈L,∀d,Dv ops j=Bd d->d∉o.looksAt ops)->B9 (CJ ops c L a).eval o=B9 a.eval o/\A2 o (B0 ops (CJ ops c L a).tmps)=A2 o (B0 ops a.tmps)
 |[],_,_=>⟨rfl,rfl⟩
 |j::L,a,h=>by
  have f:=QA o e c L (a.put (Dv ops j) (c j)) (λk l=>h k (lA _ l));have g:=h j Δ;exact⟨f.1.trans (C4 o e a _ _ g),f.2.trans (C3 o a _ _ g)⟩
def EU(o:A3)(a:A4)(T:Bk->E->Prop)(b:A4)(c:E):Prop:=∃v,b=a.put o.dst v/\T v c
theorem EU.mk(b:k i h):EU c a k (a.put c.dst i) h:=⟨i,rfl,b⟩
theorem Vg{d:Deferred}(h:({a with defers:=d::a.defers}:A4).put p i=a.put p u):False:=by
 have b:(({a with defers:=d::a.defers}:A4).put p i).defers=(a.put p u).defers:=by rw[h]
 have c:(({a with defers:=d::a.defers}:A4).put p i).defers.length=(a.put p u).defers.length:=by rw[b]
 cases p<;>simp[C9]at c
theorem df(h:a.put p i=a.put p u)(f:s.tmps.size=a.tmps.size):s.put p i=s.put p u:=by
 cases p with
 |none=>rfl
 |some d=>
  by_cases b:d<a.tmps.size
  ·have c:((a.put (Bd d) i).tmps)[d]?=((a.put (Bd d) u).tmps)[d]?:=by rw[h]
   simp only[C9,Array.getElem?_setIfInBounds_self_of_lt b]at c;rw[kE c]
  ·simp only[C9]
   have e:s.tmps.size<=d:=by rw[f];exact Nat.not_lt.1 b
   rw[po e,po e]
theorem NI(b:Nat->Bk):∀(L:List Nat) (a:A4),(CJ ops b L a).tmps.size=a.tmps.size
 |[],_=>rfl
 |j::L,a=>(NI b L (a.put (Dv ops j) (b j))).trans (by cases Dv ops j<;>simp[C9])
theorem ZV{i:Nat}(t:ops[i]?=Bd c)(w:s.tmps.size=a.tmps.size)(g:B9 s.eval c=B9 a.eval c)(y:A2 c (B0 ops s.tmps)=A2 c (B0 ops a.tmps))
  (q:∀m a z h,Q (Bn m) a h->Q (Bn m) z h)
  (b:BR P ops Q i (EU c a k) a h):BR P ops Q i (EU c s k) s h:=by
 have j:∀{u l},EU c a k (a.put c.dst u) l->EU c s k (s.put c.dst u) l:=λ⟨v,o,A⟩=>⟨v,df o w,A⟩
 unfold BR at*;simp only[t]at*;rw[y]
 split
 ·rename_i p
  simp only[p,qW]at b
  rcases b with b|⟨B,C⟩
  case inr=>exact .inr ⟨by unfold Oper.asks at*;rw[g];exact B,C⟩
  refine .inl ?_;unfold Oper.wp at*;rw[g];generalize(B9 a.eval c).run P h=r at*
  cases r with
  |ok n l=>
   cases n<;>simp only[DV]at b⊢
   case value u=>exact j b
   case skip=>exact j b
   case defer d=>
    obtain⟨v,o,_⟩:=b;exact(Vg o).elim
   case enter f D=>
    refine Calls.mono b λe F g=>?_
    cases e with
    |returned u=>exact j g
    |panicked m=>exact q _ _ _ _ g
    |outgrown=>exact g
   case row G D=>exact Rows.mono b λu F g=>j g
  |halt x l=>
   cases x<;>simp only[DV]at b⊢
   case panic u=>exact q _ _ _ _ b
 ·rename_i p
  simp only[p]at b;exact j b
def Hg(ops:Array A3)(F:Nat->Bk->E->Prop)(w:E)(K:A4->Prop):List Nat->A4->Prop
 |[],a=>K a
 |j::b,a=>∀v,F j v w->Hg ops F w K b (a.put (Dv ops j) v)
theorem NX{F:Nat->Bk->E->Prop}{K:A4->Prop}(b:Nat->Bk):∀(L:List Nat) (a:A4),(∀j∈L,F j (b j) h)->Hg ops F h K L a->K (CJ ops b L a)
 |[],_,_,c=>c
 |j::L,a,hF,c=>NX b L (a.put (Dv ops j) (b j)) (λk d=>hF k (lA _ d)) (c (b j) (hF j Δ))
def Uz(md:AA)(ops:Array A3):Bool:=
 Z ops&&
 (B6 ops.size).all (λi=>match ops[i]? with
  |none=>J
  |some o=>o.after.all (λe=>! Ax md e||CL (e.on<i))&&
   (B6 ops.size).all (λj=>i==j||((match Dv ops j with
    |none=>J
    |some d=>!(o.dst==Bd d)&&(!(o.looksAt ops).contains d||Fz md ops ops.size i j||Fz md ops ops.size j i)))))
theorem jH{i:Nat}(h:Uz md ops=J)(a:ops[i]?=Bd c):∀e∈c.after,Ax md e=J->e.on<i:=by
 simp only[Uz,kh,lQ,lE]at h
 have d:i<ops.size:=by
  rcases mU i ops.size with h|h
  ·exact h
  ·rw[lI h]at a;cases a
 have b:=h.2 i d;rw[a]at b;simp only[kh]at b;intro e f g;have j:=pW.1 b.1 e f;simpa[g]using j
theorem Tf{d:Tmp}(h:Dv ops g=Bd d):g<ops.size:=by
 rcases mU g ops.size with a|a
 ·exact a
 ·rw[Dv,lI a]at h;cases h
theorem QG{n:Nat}{L:List Nat}(b:L.Nodup)(p:Nat->Bool)(a:∀j,p j=J->j<n/\j∈L):((B6 n).filter p++L.filter (λj=>! p j)).Perm L:=by
 have c:((B6 n).filter p).Perm (L.filter p):=by
  refine(nz (op _ nu) (op _ b)).2 (λj=>?_);simp only[nI,lE];exact⟨λh=>⟨(a j h.2).2,h.2⟩,λh=>⟨(a j h.2).1,h.2⟩⟩
 exact(c.append_right _).trans (List.filter_append_perm p L)
structure FK(md:AA)(ops:Array A3)(a:Array Bool)(L:List Nat):Prop where
 nd:L.Nodup
 a7:∀j,j∈L↔a.getD j V=J
 size:a.size=ops.size
 gA:CK md ops a
theorem FK.lt(h:FK md ops j b)(c:g∈b):g<ops.size:=by
 have d:=(h.a7 g).1 c
 rcases mU g j.size with a|a
 ·rw[<-h.size];exact a
 ·simp[lI a]at d
theorem FK.add(h:FK md ops j b){i:Nat}(f:i∈O md ops j):FK md ops (j.setIfInBounds i J) (b++[i]):=by
 have g:=(BL.1 f).1
 have m:i<j.size:=by
  rcases mU i j.size with c|c
  ·exact c
  ·simp[lI c]at g
 have n:i∉b:=λo=>by
  have:=(h.a7 i).1 o;rw[CA g]at this
  cases this
 refine⟨?_,λk=>?_,by simpa using h.size,h.gA.aR f⟩
 ·rw[List.nodup_append]
  exact⟨h.nd,Δ,λa p q l=>by
   simp only[kH]at l;subst l
   exact λe=>n (e▸p)⟩
 ·rw[kY,h.a7 k,kH]
  by_cases d:i=k
  ·subst d;simp[m]
  ·rw[BX V d];exact⟨λh=>h.elim id (λe=>absurd e.symm d),.inl⟩
theorem FK.ew(h:FK md ops j b)(l:b.length=ops.size):O md ops j=[]:=by
 refine List.eq_nil_iff_forall_not_mem.2 (λi d=>?_);have c:=h.add d
 have e:=QG (n:=ops.size) (L:=B6 ops.size) nu (λa=>(b++[i]).contains a) (λa f=>by
  have:a∈b++[i]:=by simpa using f
  exact⟨c.lt this,lE.2 (c.lt this)⟩)
 have g:((B6 ops.size).filter λa=>(b++[i]).contains a).Perm (b++[i]):=by
  refine(nz (op _ nu) c.nd).2 (λa=>?_);simp only[nI,lE];exact⟨λh=>by simpa using h.2,λh=>⟨c.lt h,by simpa using h⟩⟩
 have k:=e.length_eq;rw[jU,g.length_eq,List.length_range,jU,lr]at k;omega
end
section
variable {P:Program} {l:List Oper} {Q:Exit->Act->World->Prop}
def JJ(P:BA)(l:List A3)(Q:C6->A4->E->Prop)(S:E->Prop)(R:E->E->Prop)(F:Nat->Bk->E->Prop)(a:A4):Nat->List (List Nat)->List A3->Prop
 |k,c::e,o::f=>(∀w,S w->Hg l.toArray F w (λd=>BR P l.toArray (BB Q) k (EU o d (λv b=>R w b/\S b/\F k v b)) d w) c a)/\JJ P l Q S R F a (k+1) e f
 |_,_,_=>True
variable {S:World->Prop} {R:World->World->Prop} {F:Nat->Value->World->Prop} {a:Act}
theorem DU{e:List (List Nat)}(h:∀w,S w->Hg l.toArray F w (λf=>BR P l.toArray (BB Q) g (EU c f (λv d=>R w d/\S d/\F g v d)) f w) b a)(i:JJ P l Q S R F a (g+1) e n):JJ P l Q S R F a g (b::e) (c::n):=⟨h,i⟩
theorem VU:JJ P l Q S R F a g [] []:=kI
theorem Ri:∀(e:List A3) (f:List (List Nat)) (k:Nat),JJ P l Q S R F a k f e->∀i o c,e[i]?=Bd o->f[i]?=Bd c->∀w,S w->Hg l.toArray F w (λj=>BR P l.toArray (BB Q) (k+i) (EU o j (λv g=>R w g/\S g/\F (k+i) v g)) j w) c a
 |[],_,_,_,i,o,c,b,_=>by simp at b
 |_::_,[],_,_,i,o,c,_,d=>by simp at d
 |m::e,n::f,k,h,0,o,c,b,d=>by
  simp only[qE,oh]at b d;subst b d;exact h.1
 |m::e,n::f,k,h,i+1,o,c,b,d=>by
  have:=Ri e f (k+1) h.2 i o c (by simpa using b) (by simpa using d)
  rwa[show k+1+i=k+(i+1) by omega]at this
theorem DI{a:A4}(d:l[g]?=Bd c)(e:∀v,F g v h->Hg l.toArray F h f b (a.put c.dst v)):Hg l.toArray F h f (g::b) a:=by
 have:Dv l.toArray g=c.dst:=by simp[Dv,d]
 intro v i;rw[this];exact e v i
theorem DJ{b:Array A3}{a:A4}(c:f a):Hg b F h f [] a:=c
theorem Fg{i:Nat}{a:A4}{v:Bk}(d:l[i]?=Bd c)(f:A2 c (B0 l.toArray a.tmps)=J)(g:(B9 a.eval c).run P h=.ok (.value v) h)(j:k v h):BR P l.toArray (BB Q) i (EU c a k) a h:=
 YieldsIf.wpOp (S:=λb=>b=h) (by simpa using d) (.inl ⟨f,λb e=>by rw[e];exact g⟩) rfl (EU.mk j)
end
end
section
open Go
section
variable {P:Program} {ops:Array Oper} {Q:Exit->Act->World->Prop} {md:Region.Mode}
def Ns(D:Nat->Bool)(i:Nat):Nat->Bool:=λk=>k==i||D k
def J5(a:Nat->Bk)(i:Nat)(v:Bk):Nat->Bk:=λk=>if k=i then v else a k
end
section
variable {P:Program} {l:List Oper} {Q:Exit->Act->World->Prop}
variable {I:(Nat->Bool)->(Nat->Value)->World->Prop} {a:Act}
variable {F:Nat->Value->Prop} {G:(Nat->Bool)->(Nat->Value)->World->Prop}
theorem Wi{i:Nat}{a:A4}{U:Bk->E->Prop}(d:∀v b,k v b->U v b)(f:BR P l.toArray (BB Q) i (EU c a k) a h):BR P l.toArray (BB Q) i (EU c a U) a h:=
 BE (λm b g=>by obtain⟨v,e,j⟩:=g;exact⟨v,e,d v b j⟩) f
end
end
section
open Go
section
variable {P:Program} {ops:Array Oper} {Q:Exit->Act->World->Prop} {md:Region.Mode} {R:List Nat}
def Ii(l f:Array Bool):Prop:=∀k,l.getD k V=J->f.getD k V=J
theorem Vj(h:Ii v j)(b:j.size=ops.size)(c:g∈O md ops v)(d:j.getD g V=V):g∈O md ops j:=by
 obtain⟨l,o,a,f⟩:=BL.1 c;exact BL.2 ⟨getD_in (by rw[b];exact(kf.1 a).1) d,o,a,λe i k=>h _ (f e i k)⟩
theorem Sw.gf{q:E->Prop}(h:CB P ops o c i a)(b:∀W,q W->o W):CB P ops q c i a:=by
 rcases h with⟨d,e⟩|h
 ·exact .inl ⟨d,λW f=>e W (b W f)⟩
 ·exact .inr h
def If(P:BA)(md:AA)(ops:Array A3)(Q:C6->A4->E->Prop)(R:List Nat):Nat->(E->Prop)->Array Bool->A4->E->Prop
 |0,_,b,a,w=>O md ops b=[]/\Q Bx a w
 |e+1,S,b,a,w=>(O md ops b=[]->Q Bx a w)/\∀i∈O md ops b,BR P ops Q i (λf d=>∃c:E->Prop,(∀W,c W->S W)/\((R.contains i=J->d=w/\c=S)/\(R.contains i=V->Fj md ops R i=J->c d))/\If P md ops Q R e c (b.setIfInBounds i J) f d) a w
theorem NU:∀(b:Nat) (S:E->Prop) (c:Array Bool) (a:A4) (w:E),If P md ops Q R b S c a w->wpAny P md ops Q b c a w
 |0,_,_,_,_,h=>h
 |b+1,_,_,_,_,h=>⟨h.1,λi d=>BE (λe f g=>by obtain⟨j,_,_,k⟩:=g;exact NU b j _ e f k) (h.2 i d)⟩
theorem Vr(exact:Bool){i:Nat}{K:Bk}(Z:i∈R)(B:ops[i]?=Bd c)(aa:∀(d:Nat) (o:A3) t b,ops[d]?=Bd o->o.op≠.select t b)
  (hQ:∀ab a w,Q (Bn ab) (a.put c.dst K) w->Q (Bn ab) a w)
  (am:exact=J->O md ops j=[g])(an:exact=J->j.size=ops.size)(ao:exact=J->BH c=J->Fz md ops ops.size g i=J)
  (ap:exact=J->∀d,j.getD d V=J->v.getD d V=V->R.contains d=J):
  ∀(u:Nat) (S:E->Prop) (l:Array Bool) (a:A4) (w:E),CK md ops l->(exact=J->BH c=J->Ii v l/\Ii l j)->
   (∀d n,ops[d]?=Bd n->d≠i->l.getD d J=V->(∀g∈n.after,Ax md g=J->g.on≠i)->c.apart ops n=J)->
   i∈O md ops l->CB P ops (λW=>BH c=J->if exact=J then W=w else S W) c K a->(exact=V->BH c=J->S w)->
   If P md ops Q R u S (l.setIfInBounds i J) (a.put c.dst K) w->If P md ops Q R (u+1) S l a w:=by
 have ac:R.contains i=J:=by simpa using Z
 have ad:∀(S:E->Prop) (w:E),(exact=V->BH c=J->S w)->BH c=J->if exact=J then w=w else S w:=λS w q e=>by
  cases exact
  ·exact q rfl e
  ·exact rfl
 intro u
 induction u with
 |zero=>
  intro S l a w L M _ p C q H;refine⟨λh=>(by rw[h]at p;cases p),λd r=>?_⟩
  by_cases m:d=i
  ·subst m;exact C.wpOp B (ad S w q) ⟨S,λ_ h=>h,⟨λ_=>⟨rfl,rfl⟩,λh=>by rw[ac]at h;cases h⟩,H⟩
  ·have:=BD r m;rw[H.1]at this
   cases this
 |succ u ih=>
  intro S l a w L M ae p C q H;refine⟨λh=>(by rw[h]at p;cases p),λd r=>?_⟩
  by_cases m:d=i
  ·subst m;exact C.wpOp B (ad S w q) ⟨S,λ_ h=>h,⟨λ_=>⟨rfl,rfl⟩,λh=>by rw[ac]at h;cases h⟩,H⟩
  ·have x:=(BL.1 p).1;have D:=H.2 d (BD r m);obtain⟨N,n,F,af⟩:=BL.1 r
   have ar:∀g∈n.after,Ax md g=J->g.on≠i:=λg T U au=>by
    have D:=af g T U;rw[au,CA x]at D
    cases D
   have y:Fz md ops ops.size d i=V:=Mg L x ops.size d (λo ho g T U=>by
    have:o=n:=kE (ho.symm.trans F);subst this
    exact af g T U)
   have hd:BH c=J->Fj md ops R d=J:=λe=>by
    unfold Fj;rw[nU];refine⟨i,Z,?_⟩;rw[y,B];simp[qV m,e]
   have ag:exact=J->BH c=J->R.contains d=J/\j.getD d V=J:=λf e=>by
    obtain⟨X,Y⟩:=M f e
    cases hf:j.getD d V
    ·have G:=Vj Y (an f) r hf;rw[am f]at G
     have ax:d=g:=by simpa using G
     subst ax;rw[ao f e]at y
     cases y
    ·refine⟨ap f d hf ?_,rfl⟩
     cases h0:v.getD d V
     ·rfl
     ·have:=X d h0;rw[CA N]at this
      cases this
   have G:=wpOp_putIf F (ae d n F m N ar) (λt b=>aa i c t b B) (λt b=>aa d n t b F) hQ C D
   have az:∀k z,ops[k]?=Bd z->k≠i->(l.setIfInBounds d J).getD k J=V->
     (∀g∈z.after,Ax md g=J->g.on≠i)->c.apart ops z=J:=λk z s aA x y=>by
    refine ae k z s aA ?_ y
    by_cases A:d=k
    ·subst A;exact N
    ·rw[BX J A]at x;exact x
   have aB:exact=J->BH c=J->Ii v (l.setIfInBounds d J)/\Ii (l.setIfInBounds d J) j:=λf e=>by
    obtain⟨X,Y⟩:=M f e;refine⟨λk s=>B2 (X k s),λk s=>?_⟩
    by_cases A:d=k
    ·subst A;exact(ag f e).2
    ·rw[BX V A]at s;exact Y k s
   refine BE (λa' w' h3=>?_) G;obtain⟨aF,S',aj,I,aG⟩:=h3;refine⟨S',aj,I,ih S' (l.setIfInBounds d J) a' w' (L.aR r) aB az (BD p (qV m)) (Sw.gf aF (λW hq e=>?_)) (λf e=>?_) ?_⟩
   ·have:=hq e
    cases f:exact
    ·rw[f]at this;exact aj W this
    ·rw[f]at this;rw[(I.1 (ag f e).1).1]at this;exact this
   ·cases ak:R.contains d
    ·exact I.2 ak (hd e)
    ·obtain⟨e1,e2⟩:=I.1 ak;rw[e1,e2];exact q f e
   ·rw[oS _ _ m];exact aG
theorem Qi:∀(a:List Nat) (_l:Array Bool),Ii _l (Bv a _l)
 |[],_=>λ_ h=>h
 |_::a,_l=>λk h=>Qi a _ k (B2 h)
theorem F7:∀(a:List Nat) (l:Array Bool),(Bv a l).size=l.size
 |[],_=>rfl
 |i::a,l=>by rw[Bv,F7 a,ni]
theorem NO:∀(a:List Nat) (l:Array Bool) (j:Nat),(Bv a l).getD j V=J->l.getD j V=V->j∈a
 |[],l,j,h,b=>by
  rw[Bv,b]at h
  cases h
 |i::a,l,j,h,b=>by
  by_cases c:i=j
  ·subst c;exact mi
  ·exact lA _ (NO a _ j h (by rw[BX V c];exact b))
end
section
variable {P:Program} {l:List Oper} {Q:Exit->Act->World->Prop} {md:Region.Mode} {R:List Nat}
def Gz(P:BA)(l:List A3)(Q:C6->A4->E->Prop):List (List Nat×List Nat×Nat×Bool)->(E->Prop)->A4->E->Prop
 |[],_,a,w=>Q Bx a w
 |(c,f,i,d)::g,S,a,w=>((c.any λk=>match l[k]? with|some o=>BH o|none=>V)=J->S w)/\Cq P l S (λh=>Cq P l (λW=>W=w) (λj=>BR P l.toArray Q i (λm e=>∃b:E->Prop,(∀W,b W->S W)/\(d=J->b e)/\Gz P l Q g b m e) j w) f h) c a
theorem Jr{S:E->Prop}{i:Nat}{d:Bool}(f:S h)(g:Cq P l S (λj=>Cq P l (λW=>W=h) (λk=>BR P l.toArray Q i (λn e=>∃c:E->Prop,(∀W,c W->S W)/\(d=J->c e)/\Gz P l Q m c n e) k h) t j) b a):Gz P l Q ((b,t,i,d)::m) S a h:=⟨λ_=>f,g⟩
theorem Dh{S:E->Prop}{i:Nat}{d:Bool}(f:Cq P l (λW=>W=h) (λg=>BR P l.toArray Q i (λj e=>∃c:E->Prop,(∀W,c W->S W)/\(d=J->c e)/\Gz P l Q m c j e) g h) b a):Gz P l Q (([],b,i,d)::m) S a h:=⟨λk=>(by simp at k),f⟩
theorem Fv{S:E->Prop}(b:Q Bx a h):Gz P l Q [] S a h:=b
def KX(md:AA)(a:Array A3)(R:List Nat):List (List Nat×List Nat×Nat×Bool)->Array Bool->Bool
 |[],b=>(O md a b).isEmpty
 |(c,e,i,d)::f,b=>FB md a c b&&FB md a e (Bv c b)&&CL (O md a (Bv e (Bv c b))=[i])&&(d||! Fj md a R i)&&! R.contains i&&c.all (λk=>R.contains k)&&e.all (λk=>R.contains k&&((match a[k]? with|some o=>! BH o|none=>V)||Fz md a a.size i k))&&KX md a R f ((Bv e (Bv c b)).setIfInBounds i J)
def IR:List (List Nat×List Nat×Nat×Bool)->Nat
 |[]=>0
 |(a,b,_,_)::c=>a.length+(b.length+(IR c+1))
def LW:List (List Nat×List Nat×Nat×Bool)->List Nat
 |[]=>[]
 |(a,b,_,_)::c=>a++b++LW c
def SL(l:List A3)(a:List (List Nat×List Nat×Nat×Bool)):Bool:=
 Z l.toArray&&KX .any l.toArray (LW a) a (Y l.toArray.size V)&&CL (IR a=l.toArray.size)
theorem Jq(exact:Bool)(t:Z l.toArray=J)(u:∀c a H w,Q (Bn c) a w->Q (Bn c) H w)(K:A4->Prop)(f:Nat)(S:E->Prop)(w:E)(L n:Array Bool)(e:Nat)
  (x:exact=J->O md l.toArray L=[e])(y:exact=J->L.size=l.toArray.size)(z:exact=J->∀j,L.getD j V=J->n.getD j V=V->R.contains j=J)
  (A:∀a,CK md l.toArray L->K a->If P md l.toArray Q R f S L a w):
  ∀(d:List Nat) (b:Array Bool) (a:A4),(∀k∈d,k∈R/\∀o,l[k]?=Bd o->exact=J->BH o=J->Fz md l.toArray l.toArray.size e k=J)->(exact=V->(d.any λk=>match l[k]? with|some o=>BH o|none=>V)=J->S w)->CK md l.toArray b->Ii n b->Bv d b=L->FB md l.toArray d b=J->Cq P l (λW=>if exact=J then W=w else S W) K d a->If P md l.toArray Q R (d.length+f) S b a w
 |[],b,a,_,_,g,_,m,_,h=>by
  have I:b=L:=m;subst I;rw[show[].length+f=f from mx _];exact A a g h
 |i::d,b,a,p,B,g,C,m,D,h=>by
  simp only[FB,kh]at D;obtain⟨⟨M,N⟩,T⟩:=D;obtain⟨o,v,q,U,X⟩:=h
  have F:l.toArray[i]?=Bd o:=by simpa using q
  have G:i∈O md l.toArray b:=by simpa using M
  have ih:=Jq exact t u K f S w L n e x y z A d (b.setIfInBounds i J) (a.put o.dst v) (λk r=>p k (lA _ r)) (λs hq=>B s (by rw[qX,hq,pR])) (g.aR G) (λk r=>B2 (C k r)) m T X
  have ac:Ii b L:=by rw[<-m];exact Qi (i::d) b
  have:=Vr (P:=P) (R:=R) exact (p i Δ).1 F (B3 t) (λc a w h=>u c _ _ w h) x y ((p i Δ).2 o q) z (d.length+f) S b a w g (λ_ _=>⟨C,ac⟩) (CE F N) G U (λs hn=>B s (by simp[q,hn])) ih;rw[show(i::d).length+f=d.length+f+1 by simp only[kj];omega];exact this
theorem Jp{S:E->Prop}(h:∀W,o W->S W):∀(b:List Nat) (a:A4),Cq P l S f b a->Cq P l o f b a
 |[],_,c=>c
 |i::b,a,c=>by
  obtain⟨d,v,e,g,j⟩:=c;exact⟨d,v,e,Sw.gf g (λW k m=>h W (k m)),Jp h b _ j⟩
theorem Qm(t:Z l.toArray=J)(u:∀c a m w,Q (Bn c) a w->Q (Bn c) m w):
  ∀(v:List (List Nat×List Nat×Nat×Bool)) (S:E->Prop) (b:Array Bool) (a:A4) (w:E),b.size=l.toArray.size->CK md l.toArray b->KX md l.toArray R v b=J->Gz P l Q v S a w->If P md l.toArray Q R (IR v) S b a w
 |[],S,b,a,w,_,_,r,h=>⟨by simpa[KX]using r,h⟩
 |(g,f,i,d)::n,S,b,a,w,C,H,r,h=>by
  simp only[KX,kh,mb]at r;obtain⟨⟨⟨⟨⟨⟨⟨I,K⟩,x⟩,L⟩,D⟩,M⟩,N⟩,O⟩:=r;obtain⟨T,U⟩:=h;rw[show IR ((g,f,i,d)::n)=g.length+(f.length+(IR n+1))from rfl]
  have F:∀k∈f,k∈R/\∀o,l[k]?=Bd o->J=J->BH o=J->Fz md l.toArray l.toArray.size i k=J:=λk y=>by
   have:=lQ.1 N k y;simp only[kh,m7]at this;refine⟨by simpa using this.1,λo X _ Y=>?_⟩;have G:=this.2
   have aa:l.toArray[k]?=Bd o:=by simpa using X
   rw[aa]at G;simpa[Y]using G
  refine Jq V t u (λm=>Cq P l (λW=>W=w) (λp=>BR P l.toArray Q i (λz q=>∃e:E->Prop,(∀W,e W->S W)/\(d=J->e q)/\Gz P l Q n e z q) p w) f m) (f.length+(IR n+1)) S w (Bv g b) b i (λh=>by cases h) (λh=>by cases h) (λh=>by cases h) ?_ g b a (λk y=>⟨by simpa using lQ.1 M k y,λ_ _ h=>by cases h⟩) (λ_=>T) H (λ_ h=>h) rfl I (Jp (λW h=>by simpa using h) g a U);intro m A hx;refine Jq J t u (λp=>BR P l.toArray Q i (λz q=>∃e:E->Prop,(∀W,e W->S W)/\(d=J->e q)/\Gz P l Q n e z q) p w) (IR n+1) S w (Bv f (Bv g b)) (Bv g b) i (λ_=>x) (λ_=>by rw[F7,F7];exact C) (λ_ j h1 s=>by simpa using(F j (NO f _ j h1 s)).1) ?_ f (Bv g b) m F (λh=>by cases h) A (λ_ h=>h) rfl K (Jp (λW h=>by simpa using h) f m hx);intro m A ad;refine⟨λs=>(by rw[x]at s;cases s),λj B=>?_⟩;have ae:=B;rw[x]at B
  obtain rfl:j=i:=by simpa using B
  refine BE (λp af hp=>?_) ad;obtain⟨e,ah,ai,aj⟩:=hp;exact⟨e,ah,⟨λhc=>(by rw[hc]at D;cases D),λ_ al=>ai (by simpa[al]using L)⟩,Qm t u n e _ p af (by rw[ni,F7,F7];exact C) (A.aR ae) O aj⟩
theorem FQ(S:E->Prop)(b:List (List Nat×List Nat×Nat×Bool))(i:P.follows B5=J)(e:SL l b=J)
  (d:Gz P l (BB Q) b S a h.drew):(B8 g l.toArray J).wp P Q a h:=by
 simp only[SL,kh,mb]at e;obtain⟨⟨k,m⟩,n⟩:=e;refine B7 (CV i (NU (R:=LW b) _ S _ _ _ ?_))
 have o:CK .any l.toArray (Y l.toArray.size V):=λj p _ f=>(by rw[Bs]at f;cases f)
 have:=Qm (P:=P) (Q:=BB Q) (R:=LW b) (md:=.any) k (λc a q h d=>d) b S (Y l.toArray.size V) a h.drew Δ o m d;rw[n]at this;exact this
end
end
section
open Go
inductive PT where
 |nil
 |an (qs xs:List Nat) (i:Nat) (d:Bool) (rest:PT)
 |bP (qs:List Nat) (i:Nat) (d:Bool) (rest:PT) (i':Nat) (d':Bool) (rest':PT)
def PT.aF:PT->Nat
 | .nil=>0
 | .an a b _ _ r=>a.length+(b.length+(r.aF+1))
 | .bP a _ _ r _ _ _=>a.length+(r.aF+1)
def PT.fJ:PT->List Nat
 | .nil=>[]
 | .an a b _ _ r=>a++b++r.fJ
 | .bP a _ _ r _ _ _=>a++r.fJ
section
variable {P:Program} {l:List Oper} {Q:Exit->Act->World->Prop} {md:Region.Mode} {R:List Nat}
def Et(P:BA)(l:List A3)(Q:C6->A4->E->Prop):PT->(E->Prop)->A4->E->Prop
 | .nil,_,a,w=>Q Bx a w
 | .an e j i d h,S,a,w=>((e.any λk=>match l[k]? with|some o=>BH o|none=>V)=J->S w)/\Cq P l S (λg=>Cq P l (λW=>W=w) (λm=>BR P l.toArray Q i (λf c=>∃b:E->Prop,(∀W,b W->S W)/\(d=J->b c)/\Et P l Q h b f c) m w) j g) e a
 | .bP e i d h n p q,S,a,w=>((e.any λk=>match l[k]? with|some o=>BH o|none=>V)=J->S w)/\Cq P l S (λg=>
   BR P l.toArray Q i (λf c=>∃b:E->Prop,(∀W,b W->S W)/\(d=J->b c)/\Et P l Q h b f c) g w/\
   BR P l.toArray Q n (λf c=>∃b:E->Prop,(∀W,b W->S W)/\(p=J->b c)/\Et P l Q q b f c) g w) e a
theorem DK{S:E->Prop}{i:Nat}{d:Bool}{e:PT}(g:S h)(j:Cq P l S (λk=>Cq P l (λW=>W=h) (λm=>BR P l.toArray Q i (λn f=>∃c:E->Prop,(∀W,c W->S W)/\(d=J->c f)/\Et P l Q e c n f) m h) t k) b a):Et P l Q (.an b t i d e) S a h:=⟨λ_=>g,j⟩
theorem Ar{S:E->Prop}{i:Nat}{d:Bool}{e:PT}(g:Cq P l (λW=>W=h) (λj=>BR P l.toArray Q i (λk f=>∃c:E->Prop,(∀W,c W->S W)/\(d=J->c f)/\Et P l Q e c k f) j h) b a):Et P l Q (.an [] b i d e) S a h:=⟨λm=>(by simp at m),g⟩
theorem Ej{S:E->Prop}{i:Nat}{d j:Bool}{k m:PT}(o:S h)(p:Cq P l S (λn=>
   BR P l.toArray Q i (λf e=>∃c:E->Prop,(∀W,c W->S W)/\(d=J->c e)/\Et P l Q k c f e) n h/\
   BR P l.toArray Q g (λf e=>∃c:E->Prop,(∀W,c W->S W)/\(j=J->c e)/\Et P l Q m c f e) n h) b a):Et P l Q (.bP b i d k g j m) S a h:=⟨λ_=>o,p⟩
theorem AK{S:E->Prop}(b:Q Bx a h):Et P l Q .nil S a h:=b
def Ie(md:AA)(a:Array A3)(R:List Nat):PT->Array Bool->Bool
 | .nil,b=>(O md a b).isEmpty
 | .an c e i d f,b=>FB md a c b&&FB md a e (Bv c b)&&CL (O md a (Bv e (Bv c b))=[i])&&(d||! Fj md a R i)&&! R.contains i&&c.all (λk=>R.contains k)&&e.all (λk=>R.contains k&&((match a[k]? with|some o=>! BH o|none=>V)||Fz md a a.size i k))&&Ie md a R f ((Bv e (Bv c b)).setIfInBounds i J)
 | .bP c i d f g j h,b=>FB md a c b&&CL (O md a (Bv c b)=[i,g])&&(d||! Fj md a R i)&&! R.contains i&&(j||! Fj md a R g)&&! R.contains g&&c.all (λk=>R.contains k)&&CL (f.aF=h.aF)&&Ie md a R f ((Bv c b).setIfInBounds i J)&&Ie md a R h ((Bv c b).setIfInBounds g J)
def Rv(l:List A3)(a:PT):Bool:=
 Z l.toArray&&Ie .any l.toArray a.fJ a (Y l.toArray.size V)&&CL (a.aF=l.toArray.size)
theorem LJ(x:Z l.toArray=J)(y:∀c a n w,Q (Bn c) a w->Q (Bn c) n w):
  ∀(T:PT) (S:E->Prop) (f:Array Bool) (a:A4) (w:E),f.size=l.toArray.size->CK md l.toArray f->Ie md l.toArray R T f=J->Et P l Q T S a w->If P md l.toArray Q R T.aF S f a w
 | .nil,S,f,a,w,_,_,s,h=>⟨by simpa[Ie]using s,h⟩
 | .an g q i d m,S,f,a,w,B,U,s,h=>by
  simp only[Ie,kh,mb]at s;obtain⟨⟨⟨⟨⟨⟨⟨X,ak⟩,z⟩,Y⟩,C⟩,aa⟩,al⟩,ab⟩:=s;obtain⟨hS,ad⟩:=h;rw[show(PT.an g q i d m).aF=g.length+(q.length+(m.aF+1))from rfl]
  have ag:∀k∈q,k∈R/\∀o,l[k]?=Bd o->J=J->BH o=J->Fz md l.toArray l.toArray.size i k=J:=λk D=>by
   have:=lQ.1 al k D;simp only[kh,m7]at this;refine⟨by simpa using this.1,λo ho _ hn=>?_⟩;have h2:=this.2
   have ao:l.toArray[k]?=Bd o:=by simpa using ho
   rw[ao]at h2;simpa[hn]using h2
  refine Jq V x y (λn=>Cq P l (λW=>W=w) (λr=>BR P l.toArray Q i (λt p=>∃b:E->Prop,(∀W,b W->S W)/\(d=J->b p)/\Et P l Q m b t p) r w) q n) (q.length+(m.aF+1)) S w (Bv g f) f i (λh=>by cases h) (λh=>by cases h) (λh=>by cases h) ?_ g f a (λk D=>⟨by simpa using lQ.1 aa k D,λ_ _ h=>by cases h⟩) (λ_=>hS) U (λ_ h=>h) rfl X (Jp (λW h=>by simpa using h) g a ad);intro n A hx;refine Jq J x y (λr=>BR P l.toArray Q i (λt p=>∃b:E->Prop,(∀W,b W->S W)/\(d=J->b p)/\Et P l Q m b t p) r w) (m.aF+1) S w (Bv q (Bv g f)) (Bv g f) i (λ_=>z) (λ_=>by rw[F7,F7];exact B) (λ_ j h1 u=>by simpa using(ag j (NO q _ j h1 u)).1) ?_ q (Bv g f) n ag (λh=>by cases h) A (λ_ h=>h) rfl ak (Jp (λW h=>by simpa using h) q n hx);intro n A N;refine⟨λu=>(by rw[z]at u;cases u),λj v=>?_⟩;have O:=v;rw[z]at v
  obtain rfl:j=i:=by simpa using v
  refine BE (λr F G=>?_) N;obtain⟨b,H,I,K⟩:=G;exact⟨b,H,⟨λL=>(by rw[L]at C;cases C),λ_ M=>I (by simpa[M]using Y)⟩,LJ x y m b _ r F (by rw[ni,F7,F7];exact B) (A.aR O) ab K⟩
 | .bP g i d m i' d' af,S,f,a,w,B,U,s,h=>by
  simp only[Ie,kh,mb]at s;obtain⟨⟨⟨⟨⟨⟨⟨⟨⟨X,z⟩,Y⟩,C⟩,ar⟩,aj⟩,aa⟩,au⟩,ab⟩,av⟩:=s;obtain⟨hS,ad⟩:=h;rw[show(PT.bP g i d m i' d' af).aF=g.length+(m.aF+1)from rfl]
  refine Jq V x y (λn=>
   BR P l.toArray Q i (λt p=>∃b:E->Prop,(∀W,b W->S W)/\(d=J->b p)/\Et P l Q m b t p) n w/\
   BR P l.toArray Q i' (λt p=>∃b:E->Prop,(∀W,b W->S W)/\(d'=J->b p)/\Et P l Q af b t p) n w) (m.aF+1) S w (Bv g f) f i (λh=>by cases h) (λh=>by cases h) (λh=>by cases h) ?_ g f a (λk D=>⟨by simpa using lQ.1 aa k D,λ_ _ h=>by cases h⟩) (λ_=>hS) U (λ_ h=>h) rfl X (Jp (λW h=>by simpa using h) g a ad)
  intro n A N;refine⟨λu=>(by rw[z]at u;cases u),λj v=>?_⟩;have O:=v;rw[z]at v
  have aw:j=i\/j=i':=by simpa using v
  rcases aw with e|e
  ·subst e;refine BE (λr F G=>?_) N.1;obtain⟨b,H,I,K⟩:=G;exact⟨b,H,⟨λL=>(by rw[L]at C;cases C),λ_ M=>I (by simpa[M]using Y)⟩,LJ x y m b _ r F (by rw[ni,F7];exact B) (A.aR O) ab K⟩
  ·subst e;refine BE (λr F G=>?_) N.2;obtain⟨b,H,I,K⟩:=G;refine⟨b,H,⟨λL=>(by rw[L]at aj;cases aj),λ_ M=>I (by simpa[M]using ar)⟩,?_⟩;rw[au];exact LJ x y af b _ r F (by rw[ni,F7];exact B) (A.aR O) av K
theorem A7(S:E->Prop)(b:PT)(i:P.follows B5=J)(e:Rv l b=J)
  (d:Et P l (BB Q) b S a h.drew):(B8 g l.toArray J).wp P Q a h:=by
 simp only[Rv,kh,mb]at e;obtain⟨⟨k,m⟩,n⟩:=e;refine B7 (CV i (NU (R:=b.fJ) _ S _ _ _ ?_))
 have o:CK .any l.toArray (Y l.toArray.size V):=λj p _ f=>(by rw[Bs]at f;cases f)
 have:=LJ (P:=P) (Q:=BB Q) (R:=b.fJ) (md:=.any) k (λc a q h d=>d) b S (Y l.toArray.size V) a h.drew Δ o m d;rw[n]at this;exact this
end
theorem Az{i:Nat}(d:q)(k:q->Cq r n (λW=>W=h) f (i::b) a:=by(intro e;apply AB rfl Θ;(· intro g c;(try have c:=c rfl);(try dsimp only at c);(try subst c);go_simp;(try with_reducible rfl));(try simp only[Act.put,List.setIfInBounds_toArray,List.set_cons_zero,List.set_cons_succ]);exact e)):Cq r n (λW=>W=h) f (i::b) a:=k d
theorem As{X:(E->Prop)->A4->E->Prop}{S:E->Prop}(d:∀a h,(∃b:E->Prop,(∀W,b W->S W)/\(V=J->b h)/\X b a h)->e a h)(c:q)(k:q->X S a h:=by(intro f;(try simp only[Act.put,List.setIfInBounds_toArray,List.set_cons_zero,List.set_cons_succ]);exact f)):e a h:=d _ _ ⟨S,λ_ c=>c,λg=>(by cases g),k c⟩
end
