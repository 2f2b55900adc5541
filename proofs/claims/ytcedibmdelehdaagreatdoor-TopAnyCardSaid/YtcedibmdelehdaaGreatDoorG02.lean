/- Lemmas. -/
import Derived.Test.YtcedibmdelehdaaGreatDoorBase
import Derived.Deep.RegionHeld3
import Derived.OrdersHeld
import Derived.OrdersIn
import Derived.StillTail
import Derived.TacticsIn
namespace Go.Proofs.YtcedibmdelehdaaGreatDoor
set_option maxRecDepth 100000
set_option maxHeartbeats 32000000
open Go renaming World->E,Oper->A3,Act->A4,Value->A6,getD_replicate_false->Bd,Program->Bn,NoPanic->Bs,ready_mono->BA,wpOp_mono->BB,mem_ready->BC,wpOp->BD,getD_set_ne->BE,yielded->BL,wpOpIn->BR,getD_set_true->BX,wp_region_noPanic->B3,execOp->B5,getD_both->B6,YieldsIf->B7,wpOpIn_mono->CA,wp_region_any->CB,wpIn_region_any->CR,wanted_put->CV,execOp_put->CX,Exit->C1,undef->C2,about_put->C3
open Bool renaming true->J,false->V
open Go.Region renaming ready->O,noSelect->Z,binds->Ax,Mode->AA,wanted->A2,noSelect_spec->BZ,free_spec->B8,free->C5
open _root_.Array renaming replicate->Y
open Option renaming some->A5,none->CL
open Go.Exit renaming panic->A7,normal->Bk
open Go.Act renaming put_comm->Bx,put->C4
open Go.Oper renaming semAt_none->B0,wpIn->CE,uponIn->CK,upon->C6
open Go.Departure renaming mixedOrders->B1
open List renaming range->B2
open Go.Code renaming region->B4,wpIn_mono->C0
open Decidable renaming decide->B9
variable{f:E}{h s:A4}{a t:List Nat}{b:A3}{c:List (List Nat×Nat×Bool)}{d:A4->E->Prop}{e:A4->Prop}{g:Nat}{i u:A6}{j v:Array Bool}{k:A6->E->Prop}{l:Bool}{m:List (List Nat×List Nat×Nat×Bool)}{n:List A3}{o:E->Prop}{p:Option Tmp}{q:Prop}{r:Bn}
section
section
open Go
section
variable {P:Program} {ops:Array Oper} {Q:Exit->Act->World->Prop} {md:Region.Mode} {S:World->Prop} {n:Nat}
def iI(P:Bn)(md:AA)(ops:Array A3)(Q:C1->A4->E->Prop)(S:E->Prop)(n:Nat):Nat->Array Bool->A4->E->Prop
 |0,b,a,w=>O md ops b=[]/\Q Bk a w
 |d+1,b,a,w=>(O md ops b=[]->Q Bk a w)/\∀i∈O md ops b,BD P ops Q i (λe c=>(i<n->S c)/\iI P md ops Q S n d (b.setIfInBounds i J) e c) a w
end
section
variable {P:Program} {l:List Oper} {Q:Exit->Act->World->Prop} {md:Region.Mode} {S:World->Prop} {n:Nat}
def ij(P:Bn)(l:List A3)(S:E->Prop)(K:A4->Prop):List Nat->A4->Prop
 |[],a=>K a
 |i::b,a=>∃o v,l[i]?=A5 o/\B7 P l.toArray S o v a/\ij P l S K b (a.put o.dst v)
def ic(md:AA)(a:Array A3)(n:Nat):List Nat->Array Bool->Bool
 |[],_=>J
 |i::c,b=>B9 (i<n)&&(O md a b).contains i&&C5 md a b i&&ic md a n c (b.setIfInBounds i J)
def BJ:List Nat->Array Bool->Array Bool
 |[],a=>a
 |i::b,a=>BJ b (a.setIfInBounds i J)
theorem AE{i:Nat}(c:l[i]?=A5 b)
  (e:∀a:A4->E->Prop,(∀h f,d h f->a h f)->if A2 b (BL l.toArray h.tmps)=J then Oper.wp P b h f a Q else a (h.put b.dst C2) f):BD P l.toArray Q i d h f:=
 wpOp_step (by simpa using c) e
end
end
section
open Go
section
variable {P:Program} {ops:Array Oper} {Q:Exit->Act->World->Prop} {md:Region.Mode} {S:World->Prop} {R:List Nat}
def FA(md:AA)(ops:Array A3):Nat->Nat->Nat->Bool
 |0,_,_=>V
 |a+1,j,i=>
  match ops[j]? with
  |none=>V
  |some b=>b.after.any λe=>Ax md e&&(e.on==i||FA md ops a e.on i)
def Dh(md:AA)(ops:Array A3)(a:Array Bool):Prop:=
 ∀j b,ops[j]?=A5 b->a.getD j V=J->∀e∈b.after,Ax md e=J->a.getD e.on V=J
theorem Dh.aV{i:Nat}(k:Dh md ops j)(l:i∈O md ops j):Dh md ops (j.setIfInBounds i J):=by
 obtain⟨_,m,n,o⟩:=BC.1 l;intro a b c d e f g
 by_cases h:i=a
 ·subst h;have:b=m:=jV (c.symm.trans n);subst this;exact BX (o e f g)
 ·rw[BE V h]at d;exact BX (k a b c d e f g)
theorem Mt{i:Nat}(f:Dh md ops j)(g:j.getD i J=V):
  ∀(b c:Nat),(∀a,ops[c]?=A5 a->∀e∈a.after,Ax md e=J->j.getD e.on V=J)->FA md ops b c i=V
 |0,_,_=>rfl
 |b+1,c,h=>by
  unfold FA
  split
  ·rfl
  ·rename_i a k
   rw[Array.any_eq_false'];intro e l;simp only[jQ,mw,mz,not_and,not_or,Bool.not_eq_true];intro m;have d:=h a k e l m;refine⟨λn=>?_,Mt f g b e.on (λo p q r s=>f e.on o p d q r s)⟩;rw[n,B6 g]at d
   cases d
def BS(o:A3):Bool:=match o.op with| .extract ..=>V| .move ..=>V| .assign ..=>V| .pick ..=>V|_=>J
def Fk(md:AA)(ops:Array A3)(R:List Nat)(j:Nat):Bool:=R.any λi=>(match ops[i]? with|some o=>BS o|none=>V)&&(i !=j&&! FA md ops ops.size j i)
def Jj(P:Bn)(md:AA)(ops:Array A3)(Q:C1->A4->E->Prop)(S:E->Prop)(R:List Nat):Nat->Array Bool->A4->E->Prop
 |0,b,a,w=>O md ops b=[]/\Q Bk a w
 |d+1,b,a,w=>(O md ops b=[]->Q Bk a w)/\∀i∈O md ops b,BD P ops Q i (λe c=>((R.contains i=J->c=w)/\(R.contains i=V->Fk md ops R i=J->S c))/\Jj P md ops Q S R d (b.setIfInBounds i J) e c) a w
theorem Re:∀(b:Nat) (c:Array Bool) (a:A4) (w:E),Jj P md ops Q S R b c a w->wpAny P md ops Q b c a w
 |0,_,_,_,h=>h
 |b+1,_,_,_,h=>⟨h.1,λi d=>BB (λe f g=>Re b _ e f g.2) (h.2 i d)⟩
theorem Vy{i:Nat}{v:A6}(G:i∈R)(u:ops[i]?=A5 b)(I:∀(j:Nat) (o:A3) m n,ops[j]?=A5 o->o.op≠.select m n)
  (W:∀c a w,Q (A7 c) (a.put b.dst v) w->Q (A7 c) a w):
  ∀(p:Nat) (d:Array Bool) (a:A4) (w:E),Dh md ops d->
   (∀j g,ops[j]?=A5 g->j≠i->d.getD j J=V->(∀e∈g.after,Ax md e=J->e.on≠i)->b.apart ops g=J)->
   i∈O md ops d->B7 P ops (λw=>BS b=J->S w) b v a->(BS b=J->S w)->
   Jj P md ops Q S R p (d.setIfInBounds i J) (a.put b.dst v) w->Jj P md ops Q S R (p+1) d a w:=by
 have K:R.contains i=J:=by simpa using G
 intro p
 induction p with
 |zero=>
  intro d a w C _ l x y H;refine⟨λh=>(by rw[h]at l;cases l),λj q=>?_⟩
  by_cases f:j=i
  ·subst f;exact x.wpOp u y ⟨⟨λ_=>rfl,λh=>by rw[K]at h;cases h⟩,H⟩
  ·have:=BA q f;rw[H.1]at this
   cases this
 |succ p X=>
  intro d a w C L l x y H;refine⟨λh=>(by rw[h]at l;cases l),λj q=>?_⟩
  by_cases f:j=i
  ·subst f;exact x.wpOp u y ⟨⟨λ_=>rfl,λh=>by rw[K]at h;cases h⟩,H⟩
  ·have r:=(BC.1 l).1;have z:=H.2 j (BA q f);obtain⟨M,g,A,N⟩:=BC.1 q
   have Y:∀e∈g.after,Ax md e=J->e.on≠i:=λe D F Z=>by
    have z:=N e D F;rw[Z,B6 r]at z
    cases z
   have hd:BS b=J->Fk md ops R j=J:=λB=>by
    unfold Fk;rw[oL];refine⟨i,G,?_⟩
    rw[Mt C r ops.size j (λo ho e D F=>by
     have:o=g:=jV (ho.symm.trans A);subst this
     exact N e D F),u]
    simp[qr f,B]
   have h2:=wpOp_putIf A (L j g A f M Y) (λm n=>I i b m n u) (λm n=>I j g m n A) W x z
   have ad:∀k s,ops[k]?=A5 s->k≠i->(d.setIfInBounds j J).getD k J=V->
     (∀e∈s.after,Ax md e=J->e.on≠i)->b.apart ops s=J:=λk s hk af r ag=>by
    refine L k s hk af ?_ ag
    by_cases T:j=k
    ·subst T;exact M
    ·rw[BE J T]at r;exact r
   refine BB (λa' w' t=>⟨t.2.1,X (d.setIfInBounds j J) a' w' (C.aV q) ad (BA l (qr f)) t.1 (λB=>?_) ?_⟩) h2
   ·cases U:R.contains j
    ·exact t.2.1.2 U (hd B)
    ·rw[t.2.1.1 U];exact y B
   ·rw[nZ _ _ f];exact t.2.2
end
section
variable {P:Program} {l:List Oper} {Q:Exit->Act->World->Prop} {md:Region.Mode} {S:World->Prop} {R:List Nat}
def CC(P:Bn)(l:List A3)(S:E->Prop)(K:A4->Prop):List Nat->A4->Prop
 |[],a=>K a
 |i::b,a=>∃o v,l[i]?=A5 o/\B7 P l.toArray (λw=>BS o=J->S w) o v a/\CC P l S K b (a.put o.dst v)
theorem Aj(a:e h):CC P l S e [] h:=a
theorem AC{i:Nat}{v:A6}(c:l[i]?=A5 b)(d:A2 b (BL l.toArray h.tmps)=J)(f:∀w,(BS b=J->S w)->(B5 h.eval b).run P w=.ok (.value v) w)
  (g:CC P l S e a (h.put b.dst v)):CC P l S e (i::a) h:=⟨b,v,c,.inl ⟨d,f⟩,g⟩
def GP(P:Bn)(l:List A3)(Q:C1->A4->E->Prop)(S:E->Prop):List (List Nat×Nat×Bool)->A4->E->Prop
 |[],a,w=>Q Bk a w
 |(b,i,d)::e,a,w=>((b.any λk=>match l[k]? with|some o=>BS o|none=>V)=J->S w)/\CC P l S (λf=>BD P l.toArray Q i (λg c=>(d=J->S c)/\GP P l Q S e g c) f w) b a
theorem Cc{i:Nat}{d:Bool}(e:S f)(g:CC P l S (λj=>BD P l.toArray Q i (λk b=>(d=J->S b)/\GP P l Q S c k b) j f) a h):GP P l Q S ((a,i,d)::c) h f:=⟨λ_=>e,g⟩
theorem Mg{i:Nat}{d:Bool}(g:(a.any λk=>match l[k]? with|some o=>BS o|none=>V)=V)(j:CC P l S (λm=>BD P l.toArray Q i (λn b=>(d=J->S b)/\GP P l Q S c n b) m f) a h):GP P l Q S ((a,i,d)::c) h f:=⟨λe=>(by rw[g]at e;cases e),j⟩
theorem Bt{i:Nat}{d:Bool}(b:BD P l.toArray Q i (λe a=>(d=J->S a)/\GP P l Q S c e a) h f):GP P l Q S (([],i,d)::c) h f:=⟨λg=>(by simp at g),b⟩
theorem De(a:Q Bk h f):GP P l Q S [] h f:=a
def FE(md:AA)(a:Array A3):List Nat->Array Bool->Bool
 |[],_=>J
 |i::c,b=>(O md a b).contains i&&C5 md a b i&&FE md a c (b.setIfInBounds i J)
def IJ(md:AA)(a:Array A3)(R:List Nat):List (List Nat×Nat×Bool)->Array Bool->Bool
 |[],b=>(O md a b).isEmpty
 |(c,i,d)::e,b=>FE md a c b&&B9 (O md a (BJ c b)=[i])&&(d||! Fk md a R i)&&! R.contains i&&c.all (λk=>R.contains k)&&IJ md a R e ((BJ c b).setIfInBounds i J)
def F5:List (List Nat×Nat×Bool)->Nat
 |[]=>0
 |(a,_,_)::b=>a.length+1+F5 b
theorem Qw(j:Z l.toArray=J)(m:∀c a x w,Q (A7 c) a w->Q (A7 c) x w)(K:A4->Prop)(e:Nat)(w:E)(L:Array Bool)
  (n:∀a,Dh md l.toArray L->K a->Jj P md l.toArray Q S R e L a w):
  ∀(b:List Nat) (d:Array Bool) (a:A4),(∀k∈b,k∈R)->((b.any λk=>match l[k]? with|some o=>BS o|none=>V)=J->S w)->Dh md l.toArray d->BJ b d=L->FE md l.toArray b d=J->CC P l S K b a->Jj P md l.toArray Q S R (b.length+e) d a w
 |[],d,a,_,_,f,g,_,h=>by
  have y:d=L:=g;subst y;rw[show[].length+e=e from lN _];exact n a f h
 |i::b,d,a,p,q,f,g,r,h=>by
  simp only[FE,jQ]at r;obtain⟨⟨z,A⟩,B⟩:=r;obtain⟨o,v,s,C,D⟩:=h
  have t:l.toArray[i]?=A5 o:=by simpa using s
  have u:i∈O md l.toArray d:=by simpa using z
  have F:BS o=J->S w:=λG=>q (by simp[s,G])
  have H:=Qw j m K e w L n b (d.setIfInBounds i J) (a.put o.dst v) (λk I=>p k (kT _ I)) (λM=>q (by rw[qu,M,ph])) (f.aV u) g B D;have:=Vy (P:=P) (S:=S) (R:=R) (p i Δ) t (BZ j) (λc a w h=>m c _ _ w h) (b.length+e) d a w f (B8 t A) u C F H;rw[show(i::b).length+e=b.length+e+1 by simp only[jT];omega];exact this
theorem QP(o:Z l.toArray=J)(p:∀c a q w,Q (A7 c) a w->Q (A7 c) q w):
  ∀(m:List (List Nat×Nat×Bool)) (b:Array Bool) (a:A4) (w:E),Dh md l.toArray b->IJ md l.toArray R m b=J->GP P l Q S m a w->Jj P md l.toArray Q S R (F5 m) b a w
 |[],b,a,w,_,e,h=>⟨by simpa[IJ]using e,h⟩
 |(f,i,d)::g,b,a,w,v,e,h=>by
  simp only[IJ,jQ,lO]at e;obtain⟨⟨⟨⟨⟨x,r⟩,y⟩,s⟩,z⟩,A⟩:=e;obtain⟨B,C⟩:=h;rw[show F5 ((f,i,d)::g)=f.length+(F5 g+1) by simp only[F5];omega];refine Qw o p _ (F5 g+1) w (BJ f b) ?_ f b a (λk D=>by simpa using lu.1 z k D) B v rfl x C;intro q F G;refine⟨λt=>(by rw[r]at t;cases t),λj n=>?_⟩;have H:=n;rw[r]at n
  obtain rfl:j=i:=by simpa using n
  refine BB (λI K u=>⟨⟨λL=>(by rw[L]at s;cases s),λ_ M=>u.1 (by simpa[M]using y)⟩,?_⟩) G;exact QP o p g _ I K (F.aV H) A u.2
def Iq:List (List Nat×Nat×Bool)->List Nat
 |[]=>[]
 |(a,_,_)::b=>a++Iq b
def JU(l:List A3)(a:List (List Nat×Nat×Bool)):Bool:=
 Z l.toArray&&IJ .any l.toArray (Iq a) a (Y l.toArray.size V)&&B9 (F5 a=l.toArray.size)
theorem Dc(S:E->Prop)(a:List (List Nat×Nat×Bool))(i:P.follows B1=J)(d:JU l a=J)
  (b:GP P l (Bs Q) S a h f.drew):(B4 g l.toArray J).wp P Q h f:=by
 simp only[JU,jQ,lO]at d;obtain⟨⟨k,m⟩,n⟩:=d;refine B3 (CB i (Re (S:=S) (R:=Iq a) _ _ _ _ ?_))
 have o:Dh .any l.toArray (Y l.toArray.size V):=λj p _ e=>(by rw[Bd]at e;cases e)
 have:=QP (P:=P) (Q:=Bs Q) (S:=S) (R:=Iq a) (md:=.any) k (λc h q f b=>b) a (Y l.toArray.size V) h f.drew o m b;rw[n]at this;exact this
end
end
theorem Am{a:Prop}(h:a)(k:a->q:=by(intro b;refine AE rfl (λK c=>?_);go_simp;revert c;revert K;exact b)):q:=k h
end
section
section
open Go
section
variable {F:Fence} {fn:Nat} {P:Program} {ops:Array Oper} {Q:Exit->Act->World->Prop} {md:Region.Mode} {S:World->Prop} {n:Nat}
def Fz(P:Bn)(ops:Array A3)(S:E->Prop)(o:A3)(v:A6)(a:A4):Prop:=B7 P ops S o v a/\∀w,o.about P w a.eval=CL
theorem Fz.wpOpIn{i:Nat}{v:A6}(l:F.round=CL)(m:ops[i]?=A5 b)(e:Fz P ops S b v h)
  (n:S f)(g:d (h.put b.dst v) f):BR F fn P ops Q i d h f:=by
 unfold BR;simp only[m]
 have j:∀a,b.about P f h.eval=A5 a->F.fn a:=λa k=>by rw[e.2 f]at k;cases k
 rcases e.1 with⟨c,o⟩|⟨c,rfl⟩
 ·simp only[c,qt,CE,l,B0,o f n,CK];exact⟨j,g⟩
 ·simp only[c,om,if_false];exact⟨j,g⟩
theorem Fz.gW(a:Fz P ops S b i h)(c:B5 s.eval b=B5 h.eval b)
  (d:A2 b (BL ops s.tmps)=A2 b (BL ops h.tmps))(e:∀w,b.about P w s.eval=b.about P w h.eval):Fz P ops S b i s:=
 ⟨a.1.of_same c d,λw=>by rw[e w];exact a.2 w⟩
theorem VF{j:A3}(A:F.round=CL)(D:ops[g]?=A5 j)(G:b.apart ops j=J)
  (H:∀s t,b.op≠.select s t)(I:∀s t,j.op≠.select s t)
  (v:∀c h f,Q (A7 c) (h.put b.dst i) f->Q (A7 c) h f)
  (k:Fz P ops S b i h)(a:BR F fn P ops Q g d (h.put b.dst i) f):
  BR F fn P ops Q g (λB w=>Fz P ops S b i B/\d (B.put b.dst i) w) h f:=by
 obtain⟨p,n,y⟩:=Oper.apart_spec G
 have o:∀(h:A4),Fz P ops S b i h->∀u,Fz P ops S b i (h.put j.dst u):=λh k u=>
  k.gW (CX b H h j.dst u y) (CV b h j.dst u y) (λf=>C3 b f h j.dst u y)
 have K:∀q,Fz P ops S b i {h with defers:=q::h.defers}:=λq=>k.gW rfl rfl (λ_=>rfl)
 unfold BR at*;simp only[D]at*;rw[CV j h b.dst i p,C3 j f h b.dst i p]at a
 split
 ·rename_i z
  simp only[z,qt]at a;unfold CE at*;rw[C3 j f h b.dst i p]at a;refine⟨a.1,?_⟩;have a:=a.2;rw[A,B0,CX j I h b.dst i p]at a;rw[A,B0];generalize(B5 h.eval j).run P f=r at*
  cases r with
  |ok x w=>
   cases x<;>simp only[CK]at a⊢
   case value u=>exact⟨o h k u,by rw[<-Bx h i u n];exact a⟩
   case skip=>exact⟨o h k _,by rw[<-Bx h i C2 n];exact a⟩
   case defer q=>
    refine⟨o _ (K q) _,?_⟩;rw[<-Bx _ i C2 n, <-Act.put_defers];exact a
   case enter L M=>
    refine⟨a.1,CallsIn.mono a.2 λe C m=>?_⟩
    cases e with
    |returned u=>exact⟨o h k u,by rw[<-Bx h i u n];exact m⟩
    |panicked c=>exact v _ _ _ m
    |outgrown=>exact m
   case row N M=>exact⟨a.1,RowsIn.mono a.2 λu C m=>⟨o h k u,by rw[<-Bx h i u n];exact m⟩⟩
   case round l L O R T=>
    refine⟨a.1,RoundIn.mono a.2 λe C m=>?_⟩
    cases e with
    |returned u=>exact⟨o h k u,by rw[<-Bx h i u n];exact m⟩
    |panicked c=>exact v _ _ _ m
    |outgrown=>exact m
  |halt x w=>
   cases x<;>simp only[CK]at a⊢
   case panic u=>exact v _ _ _ a
 ·rename_i z
  simp only[z]at a;exact⟨a.1,o h k _,by rw[<-Bx h i C2 n];exact a.2⟩
def eP(F:Fence)(fn:Nat)(P:Bn)(md:AA)(ops:Array A3)(Q:C1->A4->E->Prop)(S:E->Prop)(n:Nat):Nat->Array Bool->A4->E->Prop
 |0,b,a,w=>O md ops b=[]/\Q Bk a w
 |d+1,b,a,w=>(O md ops b=[]->Q Bk a w)/\∀i∈O md ops b,BR F fn P ops Q i (λe c=>(i<n->S c)/\eP F fn P md ops Q S n d (b.setIfInBounds i J) e c) a w
end
section
variable {F:Fence} {fn:Nat} {P:Program} {l:List Oper} {Q:Exit->Act->World->Prop} {md:Region.Mode} {S:World->Prop} {n:Nat}
def cu(P:Bn)(l:List A3)(S:E->Prop)(K:A4->Prop):List Nat->A4->Prop
 |[],a=>K a
 |i::b,a=>∃o v,l[i]?=A5 o/\Fz P l.toArray S o v a/\cu P l S K b (a.put o.dst v)
theorem Dx{i:Nat}(e:l[i]?=A5 b)
  (g:∀a:A4->E->Prop,(∀h f,d h f->a h f)->if A2 b (BL l.toArray h.tmps)=J then CE F fn P b h f a Q else(∀c,b.about P f h.eval=A5 c->F.fn c)/\a (h.put b.dst C2) f):BR F fn P l.toArray Q i d h f:=
 wpOpIn_step (by simpa using e) g
end
end
section
open Go
section
variable {F:Fence} {fn:Nat} {P:Program} {ops:Array Oper} {Q:Exit->Act->World->Prop} {md:Region.Mode} {S:World->Prop} {R:List Nat}
def Ja(F:Fence)(fn:Nat)(P:Bn)(md:AA)(ops:Array A3)(Q:C1->A4->E->Prop)(S:E->Prop)(R:List Nat):Nat->Array Bool->A4->E->Prop
 |0,b,a,w=>O md ops b=[]/\Q Bk a w
 |d+1,b,a,w=>(O md ops b=[]->Q Bk a w)/\∀i∈O md ops b,BR F fn P ops Q i (λe c=>((R.contains i=J->c=w)/\(R.contains i=V->Fk md ops R i=J->S c))/\Ja F fn P md ops Q S R d (b.setIfInBounds i J) e c) a w
theorem NP:∀(b:Nat) (c:Array Bool) (a:A4) (w:E),Ja F fn P md ops Q S R b c a w->wpAnyIn F fn P md ops Q b c a w
 |0,_,_,_,h=>h
 |b+1,_,_,_,h=>⟨h.1,λi d=>CA (λe f g=>NP b _ e f g.2) (h.2 i d)⟩
theorem Vd(C:F.round=CL){i:Nat}{v:A6}(K:i∈R)(u:ops[i]?=A5 b)(L:∀(j:Nat) (o:A3) m n,ops[j]?=A5 o->o.op≠.select m n)
  (Y:∀c a w,Q (A7 c) (a.put b.dst v) w->Q (A7 c) a w):
  ∀(p:Nat) (d:Array Bool) (a:A4) (w:E),Dh md ops d->
   (∀j g,ops[j]?=A5 g->j≠i->d.getD j J=V->(∀e∈g.after,Ax md e=J->e.on≠i)->b.apart ops g=J)->
   i∈O md ops d->Fz P ops (λw=>BS b=J->S w) b v a->(BS b=J->S w)->
   Ja F fn P md ops Q S R p (d.setIfInBounds i J) (a.put b.dst v) w->Ja F fn P md ops Q S R (p+1) d a w:=by
 have M:R.contains i=J:=by simpa using K
 intro p
 induction p with
 |zero=>
  intro d a w D _ l x y H;refine⟨λh=>(by rw[h]at l;cases l),λj q=>?_⟩
  by_cases f:j=i
  ·subst f;exact x.wpOpIn C u y ⟨⟨λ_=>rfl,λh=>by rw[M]at h;cases h⟩,H⟩
  ·have:=BA q f;rw[H.1]at this
   cases this
 |succ p Z=>
  intro d a w D N l x y H;refine⟨λh=>(by rw[h]at l;cases l),λj q=>?_⟩
  by_cases f:j=i
  ·subst f;exact x.wpOpIn C u y ⟨⟨λ_=>rfl,λh=>by rw[M]at h;cases h⟩,H⟩
  ·have r:=(BC.1 l).1;have z:=H.2 j (BA q f);obtain⟨T,g,A,U⟩:=BC.1 q
   have aa:∀e∈g.after,Ax md e=J->e.on≠i:=λe G I ab=>by
    have z:=U e G I;rw[ab,B6 r]at z
    cases z
   have hd:BS b=J->Fk md ops R j=J:=λB=>by
    unfold Fk;rw[oL];refine⟨i,K,?_⟩
    rw[Mt D r ops.size j (λo ho e G I=>by
     have:o=g:=jV (ho.symm.trans A);subst this
     exact U e G I),u]
    simp[qr f,B]
   have h2:=VF C A (N j g A f T aa) (λm n=>L i b m n u) (λm n=>L j g m n A) Y x z
   have af:∀k s,ops[k]?=A5 s->k≠i->(d.setIfInBounds j J).getD k J=V->
     (∀e∈s.after,Ax md e=J->e.on≠i)->b.apart ops s=J:=λk s hk ah r ai=>by
    refine N k s hk ah ?_ ai
    by_cases W:j=k
    ·subst W;exact T
    ·rw[BE J W]at r;exact r
   refine CA (λa' w' t=>⟨t.2.1,Z (d.setIfInBounds j J) a' w' (D.aV q) af (BA l (qr f)) t.1 (λB=>?_) ?_⟩) h2
   ·cases X:R.contains j
    ·exact t.2.1.2 X (hd B)
    ·rw[t.2.1.1 X];exact y B
   ·rw[nZ _ _ f];exact t.2.2
end
section
variable {F:Fence} {fn:Nat} {P:Program} {l:List Oper} {Q:Exit->Act->World->Prop} {md:Region.Mode} {S:World->Prop} {R:List Nat}
def Hl(P:Bn)(l:List A3)(S:E->Prop)(K:A4->Prop):List Nat->A4->Prop
 |[],a=>K a
 |i::b,a=>∃o v,l[i]?=A5 o/\Fz P l.toArray (λw=>BS o=J->S w) o v a/\Hl P l S K b (a.put o.dst v)
theorem FW(a:e h):Hl P l S e [] h:=a
theorem FV{i:Nat}{v:A6}(c:l[i]?=A5 b)(d:∀w,b.about P w h.eval=CL)(f:A2 b (BL l.toArray h.tmps)=J)(g:∀w,(BS b=J->S w)->(B5 h.eval b).run P w=.ok (.value v) w)
  (j:Hl P l S e a (h.put b.dst v)):Hl P l S e (i::a) h:=⟨b,v,c,⟨.inl ⟨f,g⟩,d⟩,j⟩
theorem Qj{i:Nat}(c:l[i]?=A5 b)(d:∀w,b.about P w h.eval=CL)(f:A2 b (BL l.toArray h.tmps)=V)
  (g:Hl P l S e a (h.put b.dst C2)):Hl P l S e (i::a) h:=⟨b,C2,c,⟨.inr ⟨f,rfl⟩,d⟩,g⟩
def Hm(F:Fence)(fn:Nat)(P:Bn)(l:List A3)(Q:C1->A4->E->Prop)(S:E->Prop):List (List Nat×Nat×Bool)->A4->E->Prop
 |[],a,w=>Q Bk a w
 |(b,i,d)::e,a,w=>((b.any λk=>match l[k]? with|some o=>BS o|none=>V)=J->S w)/\Hl P l S (λf=>BR F fn P l.toArray Q i (λg c=>(d=J->S c)/\Hm F fn P l Q S e g c) f w) b a
theorem FX{i:Nat}{d:Bool}(e:S f)(g:Hl P l S (λj=>BR F fn P l.toArray Q i (λk b=>(d=J->S b)/\Hm F fn P l Q S c k b) j f) a h):Hm F fn P l Q S ((a,i,d)::c) h f:=⟨λ_=>e,g⟩
theorem GF{i:Nat}{d:Bool}(b:BR F fn P l.toArray Q i (λe a=>(d=J->S a)/\Hm F fn P l Q S c e a) h f):Hm F fn P l Q S (([],i,d)::c) h f:=⟨λg=>(by simp at g),b⟩
theorem Gi(a:Q Bk h f):Hm F fn P l Q S [] h f:=a
theorem Qi(j:F.round=CL)(m:Z l.toArray=J)(n:∀c a y w,Q (A7 c) a w->Q (A7 c) y w)(K:A4->Prop)(e:Nat)(w:E)(L:Array Bool)
  (p:∀a,Dh md l.toArray L->K a->Ja F fn P md l.toArray Q S R e L a w):
  ∀(b:List Nat) (d:Array Bool) (a:A4),(∀k∈b,k∈R)->((b.any λk=>match l[k]? with|some o=>BS o|none=>V)=J->S w)->Dh md l.toArray d->BJ b d=L->FE md l.toArray b d=J->Hl P l S K b a->Ja F fn P md l.toArray Q S R (b.length+e) d a w
 |[],d,a,_,_,f,g,_,h=>by
  have z:d=L:=g;subst z;rw[show[].length+e=e from lN _];exact p a f h
 |i::b,d,a,q,r,f,g,s,h=>by
  simp only[FE,jQ]at s;obtain⟨⟨A,B⟩,C⟩:=s;obtain⟨o,v,t,D,G⟩:=h
  have u:l.toArray[i]?=A5 o:=by simpa using t
  have x:i∈O md l.toArray d:=by simpa using A
  have H:BS o=J->S w:=λI=>r (by simp[t,I])
  have M:=Qi j m n K e w L p b (d.setIfInBounds i J) (a.put o.dst v) (λk N=>q k (kT _ N)) (λT=>r (by rw[qu,T,ph])) (f.aV x) g C G;have:=Vd (F:=F) (fn:=fn) (P:=P) (S:=S) (R:=R) j (q i Δ) u (BZ m) (λc a w h=>n c _ _ w h) (b.length+e) d a w f (B8 u B) x D H M;rw[show(i::b).length+e=b.length+e+1 by simp only[jT];omega];exact this
theorem NM(o:F.round=CL)(p:Z l.toArray=J)(q:∀c a r w,Q (A7 c) a w->Q (A7 c) r w):
  ∀(m:List (List Nat×Nat×Bool)) (b:Array Bool) (a:A4) (w:E),Dh md l.toArray b->IJ md l.toArray R m b=J->Hm F fn P l Q S m a w->Ja F fn P md l.toArray Q S R (F5 m) b a w
 |[],b,a,w,_,e,h=>⟨by simpa[IJ]using e,h⟩
 |(f,i,d)::g,b,a,w,x,e,h=>by
  simp only[IJ,jQ,lO]at e;obtain⟨⟨⟨⟨⟨y,s⟩,z⟩,t⟩,A⟩,B⟩:=e;obtain⟨C,D⟩:=h;rw[show F5 ((f,i,d)::g)=f.length+(F5 g+1) by simp only[F5];omega];refine Qi o p q _ (F5 g+1) w (BJ f b) ?_ f b a (λk G=>by simpa using lu.1 A k G) C x rfl y D;intro r H I;refine⟨λu=>(by rw[s]at u;cases u),λj n=>?_⟩;have K:=n;rw[s]at n
  obtain rfl:j=i:=by simpa using n
  refine CA (λL M v=>⟨⟨λN=>(by rw[N]at t;cases t),λ_ O=>v.1 (by simpa[O]using z)⟩,?_⟩) I;exact NM o p q g _ L M (H.aV K) B v.2
theorem Ku(S:E->Prop)(a:List (List Nat×Nat×Bool))(i:F.round=CL)(k:P.follows B1=J)(d:JU l a=J)
  (b:Hm F fn P l (Bs Q) S a h f.drew):(B4 g l.toArray J).wpIn F fn P Q h f:=by
 simp only[JU,jQ,lO]at d;obtain⟨⟨m,n⟩,o⟩:=d;refine C0 NoPanic.imp (CR k (NP (S:=S) (R:=Iq a) _ _ _ _ ?_))
 have p:Dh .any l.toArray (Y l.toArray.size V):=λj q _ e=>(by rw[Bd]at e;cases e)
 have:=NM (F:=F) (fn:=fn) (P:=P) (Q:=Bs Q) (S:=S) (R:=Iq a) (md:=.any) i m (λc h r f b=>b) a (Y l.toArray.size V) h f.drew p n b;rw[o]at this;exact this
end
end
section
open Go
section
variable {F:Fence} {fn:Nat} {P:Program} {ops:Array Oper} {Q:Exit->Act->World->Prop} {md:Region.Mode}
def Nd(ops:Array A3):Bool:=ops.all λo=>match o.op with| .defer _=>V|_=>J
theorem Yw{i:Nat}(h:Nd ops=J)(a:ops[i]?=A5 b):∀c,b.op≠.defer c:=by
 intro c d;have:=py.1 h b (Array.mem_of_getElem? a);rw[d]at this
 cases this
theorem VE{i:Nat}{e:A4->E->Prop}(j:F.round=CL)(k:Nd ops=J)(l:∀h f,d h f->e h f)(a:BR F fn P ops Q i d h f):BR (F.inRound g) fn P ops Q i e h f:=by
 have a:=CA l a;unfold BR at*
 cases b:ops[i]? with
 |none=>rw[b]at a;exact a
 |some o=>
  rw[b]at a;simp only at a⊢
  split
  ·rename_i c
   rw[jP c]at a;unfold CE at*;rw[j,B0]at a;rw[Fence.inRound_round,Oper.semAt_some g _ _ (Yw k b)];exact a
  ·rename_i c
   rw[jN c]at a;exact a
theorem Qm(c:F.round=CL)(d:Nd ops=J):∀(b:Nat) (e:Array Bool) (a:A4) (w:E),wpAnyIn F fn P md ops Q b e a w->wpAnyIn (F.inRound g) fn P md ops Q b e a w
 |0,_,_,_,h=>h
 |b+1,_,_,_,h=>⟨h.1,λi f=>VE c d (λj k l=>Qm c d b _ j k l) (h.2 i f)⟩
end
theorem Kv{F:Fence}{k:Nat}{Q:C1->A4->E->Prop}{l:Nat}(S:E->Prop)(a:List (List Nat×Nat×Bool))(d:F.round=CL)(m:r.follows B1=J)(e:(Nd n.toArray&&JU n a)=J)
  (b:Hm F g r n (Bs Q) S a h f.drew):(B4 l n.toArray J).wpIn (F.inRound k) g r Q h f:=by
 simp only[JU,jQ,lO]at e;obtain⟨o,⟨p,q⟩,s⟩:=e;refine C0 NoPanic.imp (CR m (Qm d o _ _ _ _ (NP (S:=S) (R:=Iq a) _ _ _ _ ?_)))
 have t:Dh .any n.toArray (Y n.toArray.size V):=λj u _ i=>(by rw[Bd]at i;cases i)
 have:=NM (F:=F) (fn:=g) (P:=r) (Q:=Bs Q) (S:=S) (R:=Iq a) (md:=.any) d p (λc h v f b=>b) a (Y n.toArray.size V) h f.drew t q b;rw[s]at this;exact this
end
end
section
open Go
section
variable {P:Program} {ops:Array Oper} {Q:Exit->Act->World->Prop} {md:Region.Mode}
def DL(ops:Array A3)(j:Nat):Option Tmp:=match ops[j]? with|some o=>o.dst|none=>CL
def Dg(ops:Array A3)(b:Nat->A6)(L:List Nat)(a:A4):A4:=L.foldl (λa j=>a.put (DL ops j) (b j)) a
theorem Ql(b:Nat->A6)(L M:List Nat)(a:A4):Dg ops b (L++M) a=Dg ops b M (Dg ops b L a):=by simp[Dg]
theorem Qs{b c:Nat->A6}:∀(L:List Nat) (a:A4),(∀j∈L,b j=c j)->Dg ops b L a=Dg ops c L a
 |[],_,_=>rfl
 |j::L,a,h=>by
  simp only[Dg,List.foldl_cons];rw[h j Δ];exact Qs L _ (λk d=>h k (kT _ d))
theorem QS{vals:Nat->A6}(e:∀i j d,i≠j->DL ops i=A5 d->DL ops j≠A5 d)(h:a.Perm t)(b:A4):Dg ops vals a b=Dg ops vals t b:=by
 refine List.Perm.foldl_eq' h (λx _ y _ z=>?_) b
 by_cases c:x=y
 ·subst c;rfl
 ·exact Bx _ _ _ (λd f=>e x y d c f)
theorem QI(o:A3)(e:∀i b,o.op≠.select i b)(c:Nat->A6):∀(L:List Nat) (a:A4),(∀j∈L,∀d,DL ops j=A5 d->d∉o.looksAt ops)->B5 (Dg ops c L a).eval o=B5 a.eval o/\A2 o (BL ops (Dg ops c L a).tmps)=A2 o (BL ops a.tmps)
 |[],_,_=>⟨rfl,rfl⟩
 |j::L,a,h=>by
  have f:=QI o e c L (a.put (DL ops j) (c j)) (λk l=>h k (kT _ l));have g:=h j Δ;exact⟨f.1.trans (CX o e a _ _ g),f.2.trans (CV o a _ _ g)⟩
def EY(o:A3)(a:A4)(T:A6->E->Prop)(b:A4)(c:E):Prop:=∃v,b=a.put o.dst v/\T v c
theorem EY.mk(a:k i f):EY b h k (h.put b.dst i) f:=⟨i,rfl,a⟩
theorem Vp{d:Deferred}(a:({h with defers:=d::h.defers}:A4).put p i=h.put p u):False:=by
 have b:(({h with defers:=d::h.defers}:A4).put p i).defers=(h.put p u).defers:=by rw[a]
 have c:(({h with defers:=d::h.defers}:A4).put p i).defers.length=(h.put p u).defers.length:=by rw[b]
 cases p<;>simp[C4]at c
theorem dC(e:h.put p i=h.put p u)(f:s.tmps.size=h.tmps.size):s.put p i=s.put p u:=by
 cases p with
 |none=>rfl
 |some d=>
  by_cases a:d<h.tmps.size
  ·have b:((h.put (A5 d) i).tmps)[d]?=((h.put (A5 d) u).tmps)[d]?:=by rw[e]
   simp only[C4,Array.getElem?_setIfInBounds_self_of_lt a]at b;rw[jV b]
  ·simp only[C4]
   have c:s.tmps.size<=d:=by rw[f];exact Nat.not_lt.1 a
   rw[ox c,ox c]
theorem NT(b:Nat->A6):∀(L:List Nat) (a:A4),(Dg ops b L a).tmps.size=a.tmps.size
 |[],_=>rfl
 |j::L,a=>(NT b L (a.put (DL ops j) (b j))).trans (by cases DL ops j<;>simp[C4])
theorem af{i:Nat}(q:ops[i]?=A5 b)(t:s.tmps.size=h.tmps.size)(g:B5 s.eval b=B5 h.eval b)(w:A2 b (BL ops s.tmps)=A2 b (BL ops h.tmps))
  (p:∀c h y f,Q (A7 c) h f->Q (A7 c) y f)
  (a:BD P ops Q i (EY b h k) h f):BD P ops Q i (EY b s k) s f:=by
 have j:∀{u l},EY b h k (h.put b.dst u) l->EY b s k (s.put b.dst u) l:=λ⟨v,m,z⟩=>⟨v,dC m t,z⟩
 unfold BD at*;simp only[q]at*;rw[w]
 split
 ·rename_i o
  simp only[o,qt]at a
  rcases a with a|⟨A,B⟩
  case inr=>exact .inr ⟨by unfold Oper.asks at*;rw[g];exact A,B⟩
  refine .inl ?_;unfold Oper.wp at*;rw[g];generalize(B5 h.eval b).run P f=r at*
  cases r with
  |ok n l=>
   cases n<;>simp only[C6]at a⊢
   case value u=>exact j a
   case skip=>exact j a
   case defer d=>
    obtain⟨v,m,_⟩:=a;exact(Vp m).elim
   case enter F C=>
    refine Calls.mono a λe D g=>?_
    cases e with
    |returned u=>exact j g
    |panicked c=>exact p _ _ _ _ g
    |outgrown=>exact g
   case row G C=>exact Rows.mono a λu D g=>j g
  |halt x l=>
   cases x<;>simp only[C6]at a⊢
   case panic u=>exact p _ _ _ _ a
 ·rename_i o
  simp only[o]at a;exact j a
def Hv(ops:Array A3)(F:Nat->A6->E->Prop)(w:E)(K:A4->Prop):List Nat->A4->Prop
 |[],a=>K a
 |j::b,a=>∀v,F j v w->Hv ops F w K b (a.put (DL ops j) v)
theorem Oh{F:Nat->A6->E->Prop}{K:A4->Prop}(b:Nat->A6):∀(L:List Nat) (a:A4),(∀j∈L,F j (b j) f)->Hv ops F f K L a->K (Dg ops b L a)
 |[],_,_,h=>h
 |j::L,a,hF,h=>Oh b L (a.put (DL ops j) (b j)) (λk c=>hF k (kT _ c)) (h (b j) (hF j Δ))
def UN(md:AA)(ops:Array A3):Bool:=
 Z ops&&
 (B2 ops.size).all (λi=>match ops[i]? with
  |none=>J
  |some o=>o.after.all (λe=>! Ax md e||B9 (e.on<i))&&
   (B2 ops.size).all (λj=>i==j||((match DL ops j with
    |none=>J
    |some d=>!(o.dst==A5 d)&&(!(o.looksAt ops).contains d||FA md ops ops.size i j||FA md ops ops.size j i)))))
theorem jw{i:Nat}(h:UN md ops=J)(a:ops[i]?=A5 b):∀e∈b.after,Ax md e=J->e.on<i:=by
 simp only[UN,jQ,lu,lm]at h
 have d:i<ops.size:=by
  rcases mn i ops.size with h|h
  ·exact h
  ·rw[kV h]at a;cases a
 have c:=h.2 i d;rw[a]at c;simp only[jQ]at c;intro e f g;have j:=py.1 c.1 e f;simpa[g]using j
theorem Tp{d:Tmp}(h:DL ops g=A5 d):g<ops.size:=by
 rcases mn g ops.size with a|a
 ·exact a
 ·rw[DL,kV a]at h;cases h
theorem QO{n:Nat}{L:List Nat}(b:L.Nodup)(p:Nat->Bool)(a:∀j,p j=J->j<n/\j∈L):((B2 n).filter p++L.filter (λj=>! p j)).Perm L:=by
 have c:((B2 n).filter p).Perm (L.filter p):=by
  refine(mU (nI _ nw) (nI _ b)).2 (λj=>?_);simp only[nc,lm];exact⟨λh=>⟨(a j h.2).2,h.2⟩,λh=>⟨(a j h.2).1,h.2⟩⟩
 exact(c.append_right _).trans (List.filter_append_perm p L)
structure FO(md:AA)(ops:Array A3)(a:Array Bool)(L:List Nat):Prop where
 nd:L.Nodup
 a7:∀j,j∈L↔a.getD j V=J
 aQ:a.size=ops.size
 gs:Dh md ops a
theorem FO.lt(h:FO md ops j a)(c:g∈a):g<ops.size:=by
 have d:=(h.a7 g).1 c
 rcases mn g j.size with b|b
 ·rw[<-h.aQ];exact b
 ·simp[kV b]at d
theorem FO.add(h:FO md ops j a){i:Nat}(f:i∈O md ops j):FO md ops (j.setIfInBounds i J) (a++[i]):=by
 have g:=(BC.1 f).1
 have m:i<j.size:=by
  rcases mn i j.size with c|c
  ·exact c
  ·simp[kV c]at g
 have n:i∉a:=λo=>by
  have:=(h.a7 i).1 o;rw[B6 g]at this
  cases this
 refine⟨?_,λk=>?_,by simpa using h.aQ,h.gs.aV f⟩
 ·rw[List.nodup_append]
  exact⟨h.nd,Δ,λq p b l=>by
   simp only[j8]at l;subst l
   exact λe=>n (e▸p)⟩
 ·rw[kI,h.a7 k,j8]
  by_cases d:i=k
  ·subst d;simp[m]
  ·rw[BE V d];exact⟨λh=>h.elim id (λe=>absurd e.symm d),.inl⟩
theorem FO.eA(h:FO md ops j a)(l:a.length=ops.size):O md ops j=[]:=by
 refine List.eq_nil_iff_forall_not_mem.2 (λi d=>?_);have c:=h.add d
 have e:=QO (n:=ops.size) (L:=B2 ops.size) nw (λb=>(a++[i]).contains b) (λb f=>by
  have:b∈a++[i]:=by simpa using f
  exact⟨c.lt this,lm.2 (c.lt this)⟩)
 have g:((B2 ops.size).filter λb=>(a++[i]).contains b).Perm (a++[i]):=by
  refine(mU (nI _ nw) c.nd).2 (λb=>?_);simp only[nc,lm];exact⟨λh=>by simpa using h.2,λh=>⟨c.lt h,by simpa using h⟩⟩
 have k:=e.length_eq;rw[jI,g.length_eq,List.length_range,jI,lr]at k;omega
end
section
variable {P:Program} {l:List Oper} {Q:Exit->Act->World->Prop}
def JY(P:Bn)(l:List A3)(Q:C1->A4->E->Prop)(S:E->Prop)(R:E->E->Prop)(F:Nat->A6->E->Prop)(a:A4):Nat->List (List Nat)->List A3->Prop
 |k,c::e,o::f=>(∀w,S w->Hv l.toArray F w (λd=>BD P l.toArray (Bs Q) k (EY o d (λv b=>R w b/\S b/\F k v b)) d w) c a)/\JY P l Q S R F a (k+1) e f
 |_,_,_=>True
variable {S:World->Prop} {R:World->World->Prop} {F:Nat->Value->World->Prop} {a:Act}
theorem Ej{c:List Nat}{e:List (List Nat)}(h:∀w,S w->Hv l.toArray F w (λf=>BD P l.toArray (Bs Q) g (EY b f (λv d=>R w d/\S d/\F g v d)) f w) c a)(i:JY P l Q S R F a (g+1) e n):JY P l Q S R F a g (c::e) (b::n):=⟨h,i⟩
theorem V0:JY P l Q S R F a g [] []:=ki
theorem Rr:∀(e:List A3) (f:List (List Nat)) (k:Nat),JY P l Q S R F a k f e->∀i o c,e[i]?=A5 o->f[i]?=A5 c->∀w,S w->Hv l.toArray F w (λj=>BD P l.toArray (Bs Q) (k+i) (EY o j (λv g=>R w g/\S g/\F (k+i) v g)) j w) c a
 |[],_,_,_,i,o,c,b,_=>by simp at b
 |_::_,[],_,_,i,o,c,_,d=>by simp at d
 |m::e,n::f,k,h,0,o,c,b,d=>by
  simp only[List.getElem?_cons_zero,mK]at b d;subst b d;exact h.1
 |m::e,n::f,k,h,i+1,o,c,b,d=>by
  have:=Rr e f (k+1) h.2 i o c (by simpa using b) (by simpa using d)
  rwa[show k+1+i=k+(i+1) by omega]at this
theorem DU{c:List Nat}{a:A4}(d:l[g]?=A5 b)(h:∀v,F g v f->Hv l.toArray F f e c (a.put b.dst v)):Hv l.toArray F f e (g::c) a:=by
 have:DL l.toArray g=b.dst:=by simp[DL,d]
 intro v i;rw[this];exact h v i
theorem DZ{b:Array A3}{a:A4}(h:e a):Hv b F f e [] a:=h
theorem Fh{i:Nat}{a:A4}{v:A6}(d:l[i]?=A5 b)(g:A2 b (BL l.toArray a.tmps)=J)(h:(B5 a.eval b).run P f=.ok (.value v) f)(j:k v f):BD P l.toArray (Bs Q) i (EY b a k) a f:=
 YieldsIf.wpOp (S:=λc=>c=f) (by simpa using d) (.inl ⟨g,λc e=>by rw[e];exact h⟩) rfl (EY.mk j)
end
end
section
open Go
section
variable {P:Program} {ops:Array Oper} {Q:Exit->Act->World->Prop} {md:Region.Mode}
def Nz(D:Nat->Bool)(i:Nat):Nat->Bool:=λk=>k==i||D k
def Kk(a:Nat->A6)(i:Nat)(v:A6):Nat->A6:=λk=>if k=i then v else a k
end
section
variable {P:Program} {l:List Oper} {Q:Exit->Act->World->Prop}
variable {I:(Nat->Bool)->(Nat->Value)->World->Prop} {a:Act}
variable {F:Nat->Value->Prop} {G:(Nat->Bool)->(Nat->Value)->World->Prop}
theorem Wp{i:Nat}{a:A4}{U:A6->E->Prop}(d:∀v c,k v c->U v c)(h:BD P l.toArray (Bs Q) i (EY b a k) a f):BD P l.toArray (Bs Q) i (EY b a U) a f:=
 BB (λm c g=>by obtain⟨v,e,j⟩:=g;exact⟨v,e,d v c j⟩) h
end
end
section
open Go
section
variable {P:Program} {ops:Array Oper} {Q:Exit->Act->World->Prop} {md:Region.Mode} {R:List Nat}
def Iz(l f:Array Bool):Prop:=∀k,l.getD k V=J->f.getD k V=J
theorem Vs(h:Iz v j)(b:j.size=ops.size)(c:g∈O md ops v)(d:j.getD g V=V):g∈O md ops j:=by
 obtain⟨l,o,a,f⟩:=BC.1 c;exact BC.2 ⟨getD_in (by rw[b];exact(jR.1 a).1) d,o,a,λe i k=>h _ (f e i k)⟩
theorem SP.gb{q:E->Prop}(a:B7 P ops o b i h)(c:∀W,q W->o W):B7 P ops q b i h:=by
 rcases a with⟨d,e⟩|a
 ·exact .inl ⟨d,λW f=>e W (c W f)⟩
 ·exact .inr a
def Iw(P:Bn)(md:AA)(ops:Array A3)(Q:C1->A4->E->Prop)(R:List Nat):Nat->(E->Prop)->Array Bool->A4->E->Prop
 |0,_,b,a,w=>O md ops b=[]/\Q Bk a w
 |e+1,S,b,a,w=>(O md ops b=[]->Q Bk a w)/\∀i∈O md ops b,BD P ops Q i (λf d=>∃c:E->Prop,(∀W,c W->S W)/\((R.contains i=J->d=w/\c=S)/\(R.contains i=V->Fk md ops R i=J->c d))/\Iw P md ops Q R e c (b.setIfInBounds i J) f d) a w
theorem Od:∀(b:Nat) (S:E->Prop) (c:Array Bool) (a:A4) (w:E),Iw P md ops Q R b S c a w->wpAny P md ops Q b c a w
 |0,_,_,_,_,h=>h
 |b+1,_,_,_,_,h=>⟨h.1,λi d=>BB (λe f g=>by obtain⟨j,_,_,k⟩:=g;exact Od b j _ e f k) (h.2 i d)⟩
theorem Vz(exact:Bool){i:Nat}{L:A6}(aa:i∈R)(C:ops[i]?=A5 b)(ab:∀(d:Nat) (o:A3) t u,ops[d]?=A5 o->o.op≠.select t u)
  (hQ:∀c a w,Q (A7 c) (a.put b.dst L) w->Q (A7 c) a w)
  (am:exact=J->O md ops j=[g])(an:exact=J->j.size=ops.size)(ao:exact=J->BS b=J->FA md ops ops.size g i=J)
  (ap:exact=J->∀d,j.getD d V=J->v.getD d V=V->R.contains d=J):
  ∀(x:Nat) (S:E->Prop) (l:Array Bool) (a:A4) (w:E),Dh md ops l->(exact=J->BS b=J->Iz v l/\Iz l j)->
   (∀d n,ops[d]?=A5 n->d≠i->l.getD d J=V->(∀g∈n.after,Ax md g=J->g.on≠i)->b.apart ops n=J)->
   i∈O md ops l->B7 P ops (λW=>BS b=J->if exact=J then W=w else S W) b L a->(exact=V->BS b=J->S w)->
   Iw P md ops Q R x S (l.setIfInBounds i J) (a.put b.dst L) w->Iw P md ops Q R (x+1) S l a w:=by
 have ac:R.contains i=J:=by simpa using aa
 have ad:∀(S:E->Prop) (w:E),(exact=V->BS b=J->S w)->BS b=J->if exact=J then w=w else S w:=λS w q e=>by
  cases exact
  ·exact q rfl e
  ·exact rfl
 intro x
 induction x with
 |zero=>
  intro S l a w M N _ p D q H;refine⟨λh=>(by rw[h]at p;cases p),λd r=>?_⟩
  by_cases m:d=i
  ·subst m;exact D.wpOp C (ad S w q) ⟨S,λ_ h=>h,⟨λ_=>⟨rfl,rfl⟩,λh=>by rw[ac]at h;cases h⟩,H⟩
  ·have:=BA r m;rw[H.1]at this
   cases this
 |succ x ih=>
  intro S l a w M N ae p D q H;refine⟨λh=>(by rw[h]at p;cases p),λd r=>?_⟩
  by_cases m:d=i
  ·subst m;exact D.wpOp C (ad S w q) ⟨S,λ_ h=>h,⟨λ_=>⟨rfl,rfl⟩,λh=>by rw[ac]at h;cases h⟩,H⟩
  ·have y:=(BC.1 p).1;have F:=H.2 d (BA r m);obtain⟨T,n,G,af⟩:=BC.1 r
   have ar:∀g∈n.after,Ax md g=J->g.on≠i:=λg U X au=>by
    have F:=af g U X;rw[au,B6 y]at F
    cases F
   have z:FA md ops ops.size d i=V:=Mt M y ops.size d (λo ho g U X=>by
    have:o=n:=jV (ho.symm.trans G);subst this
    exact af g U X)
   have hd:BS b=J->Fk md ops R d=J:=λe=>by
    unfold Fk;rw[oL];refine⟨i,aa,?_⟩;rw[z,C];simp[qr m,e]
   have ag:exact=J->BS b=J->R.contains d=J/\j.getD d V=J:=λf e=>by
    obtain⟨Y,Z⟩:=N f e
    cases hf:j.getD d V
    ·have I:=Vs Z (an f) r hf;rw[am f]at I
     have ax:d=g:=by simpa using I
     subst ax;rw[ao f e]at z
     cases z
    ·refine⟨ap f d hf ?_,rfl⟩
     cases h0:v.getD d V
     ·rfl
     ·have:=Y d h0;rw[B6 T]at this
      cases this
   have I:=wpOp_putIf G (ae d n G m T ar) (λt u=>ab i b t u C) (λt u=>ab d n t u G) hQ D F
   have az:∀k A,ops[k]?=A5 A->k≠i->(l.setIfInBounds d J).getD k J=V->
     (∀g∈A.after,Ax md g=J->g.on≠i)->b.apart ops A=J:=λk A s aA y z=>by
    refine ae k A s aA ?_ z
    by_cases B:d=k
    ·subst B;exact T
    ·rw[BE J B]at y;exact y
   have aB:exact=J->BS b=J->Iz v (l.setIfInBounds d J)/\Iz (l.setIfInBounds d J) j:=λf e=>by
    obtain⟨Y,Z⟩:=N f e;refine⟨λk s=>BX (Y k s),λk s=>?_⟩
    by_cases B:d=k
    ·subst B;exact(ag f e).2
    ·rw[BE V B]at s;exact Z k s
   refine BB (λa' w' h3=>?_) I;obtain⟨aF,S',aj,K,aG⟩:=h3;refine⟨S',aj,K,ih S' (l.setIfInBounds d J) a' w' (M.aV r) aB az (BA p (qr m)) (SP.gb aF (λW hq e=>?_)) (λf e=>?_) ?_⟩
   ·have:=hq e
    cases f:exact
    ·rw[f]at this;exact aj W this
    ·rw[f]at this;rw[(K.1 (ag f e).1).1]at this;exact this
   ·cases ak:R.contains d
    ·exact K.2 ak (hd e)
    ·obtain⟨e1,e2⟩:=K.1 ak;rw[e1,e2];exact q f e
   ·rw[nZ _ _ m];exact aG
theorem Qq:∀(a:List Nat) (l:Array Bool),Iz l (BJ a l)
 |[],_=>λ_ h=>h
 |_::a,_=>λk h=>Qq a _ k (BX h)
theorem Gj:∀(a:List Nat) (l:Array Bool),(BJ a l).size=l.size
 |[],_=>rfl
 |i::a,l=>by rw[BJ,Gj a,mH]
theorem NX:∀(a:List Nat) (l:Array Bool) (j:Nat),(BJ a l).getD j V=J->l.getD j V=V->j∈a
 |[],l,j,h,b=>by
  rw[BJ,b]at h
  cases h
 |i::a,l,j,h,b=>by
  by_cases c:i=j
  ·subst c;exact mh
  ·exact kT _ (NX a _ j h (by rw[BE V c];exact b))
end
section
variable {P:Program} {l:List Oper} {Q:Exit->Act->World->Prop} {md:Region.Mode} {R:List Nat}
def GN(P:Bn)(l:List A3)(Q:C1->A4->E->Prop):List (List Nat×List Nat×Nat×Bool)->(E->Prop)->A4->E->Prop
 |[],_,a,w=>Q Bk a w
 |(c,f,i,d)::g,S,a,w=>((c.any λk=>match l[k]? with|some o=>BS o|none=>V)=J->S w)/\CC P l S (λh=>CC P l (λW=>W=w) (λj=>BD P l.toArray Q i (λm e=>∃b:E->Prop,(∀W,b W->S W)/\(d=J->b e)/\GN P l Q g b m e) j w) f h) c a
theorem JG{S:E->Prop}{i:Nat}{d:Bool}(e:S f)(g:CC P l S (λj=>CC P l (λW=>W=f) (λk=>BD P l.toArray Q i (λn c=>∃b:E->Prop,(∀W,b W->S W)/\(d=J->b c)/\GN P l Q m b n c) k f) t j) a h):GN P l Q ((a,t,i,d)::m) S h f:=⟨λ_=>e,g⟩
theorem Dw{S:E->Prop}{i:Nat}{d:Bool}(e:CC P l (λW=>W=f) (λg=>BD P l.toArray Q i (λj c=>∃b:E->Prop,(∀W,b W->S W)/\(d=J->b c)/\GN P l Q m b j c) g f) a h):GN P l Q (([],a,i,d)::m) S h f:=⟨λk=>(by simp at k),e⟩
theorem Fw{S:E->Prop}(a:Q Bk h f):GN P l Q [] S h f:=a
def Lt(md:AA)(a:Array A3)(R:List Nat):List (List Nat×List Nat×Nat×Bool)->Array Bool->Bool
 |[],b=>(O md a b).isEmpty
 |(c,e,i,d)::f,b=>FE md a c b&&FE md a e (BJ c b)&&B9 (O md a (BJ e (BJ c b))=[i])&&(d||! Fk md a R i)&&! R.contains i&&c.all (λk=>R.contains k)&&e.all (λk=>R.contains k&&((match a[k]? with|some o=>! BS o|none=>V)||FA md a a.size i k))&&Lt md a R f ((BJ e (BJ c b)).setIfInBounds i J)
def I8:List (List Nat×List Nat×Nat×Bool)->Nat
 |[]=>0
 |(a,b,_,_)::c=>a.length+(b.length+(I8 c+1))
def Mm:List (List Nat×List Nat×Nat×Bool)->List Nat
 |[]=>[]
 |(a,b,_,_)::c=>a++b++Mm c
def SW(l:List A3)(a:List (List Nat×List Nat×Nat×Bool)):Bool:=
 Z l.toArray&&Lt .any l.toArray (Mm a) a (Y l.toArray.size V)&&B9 (I8 a=l.toArray.size)
theorem JF(exact:Bool)(t:Z l.toArray=J)(u:∀c a H w,Q (A7 c) a w->Q (A7 c) H w)(K:A4->Prop)(f:Nat)(S:E->Prop)(w:E)(L n:Array Bool)(e:Nat)
  (x:exact=J->O md l.toArray L=[e])(y:exact=J->L.size=l.toArray.size)(z:exact=J->∀j,L.getD j V=J->n.getD j V=V->R.contains j=J)
  (A:∀a,Dh md l.toArray L->K a->Iw P md l.toArray Q R f S L a w):
  ∀(d:List Nat) (b:Array Bool) (a:A4),(∀k∈d,k∈R/\∀o,l[k]?=A5 o->exact=J->BS o=J->FA md l.toArray l.toArray.size e k=J)->(exact=V->(d.any λk=>match l[k]? with|some o=>BS o|none=>V)=J->S w)->Dh md l.toArray b->Iz n b->BJ d b=L->FE md l.toArray d b=J->CC P l (λW=>if exact=J then W=w else S W) K d a->Iw P md l.toArray Q R (d.length+f) S b a w
 |[],b,a,_,_,g,_,m,_,h=>by
  have I:b=L:=m;subst I;rw[show[].length+f=f from lN _];exact A a g h
 |i::d,b,a,p,B,g,C,m,D,h=>by
  simp only[FE,jQ]at D;obtain⟨⟨M,N⟩,T⟩:=D;obtain⟨o,v,q,U,X⟩:=h
  have F:l.toArray[i]?=A5 o:=by simpa using q
  have G:i∈O md l.toArray b:=by simpa using M
  have ih:=JF exact t u K f S w L n e x y z A d (b.setIfInBounds i J) (a.put o.dst v) (λk r=>p k (kT _ r)) (λs hq=>B s (by rw[qu,hq,ph])) (g.aV G) (λk r=>BX (C k r)) m T X
  have ac:Iz b L:=by rw[<-m];exact Qq (i::d) b
  have:=Vz (P:=P) (R:=R) exact (p i Δ).1 F (BZ t) (λc a w h=>u c _ _ w h) x y ((p i Δ).2 o q) z (d.length+f) S b a w g (λ_ _=>⟨C,ac⟩) (B8 F N) G U (λs hn=>B s (by simp[q,hn])) ih;rw[show(i::d).length+f=d.length+f+1 by simp only[jT];omega];exact this
theorem JE{S:E->Prop}(h:∀W,o W->S W):∀(b:List Nat) (a:A4),CC P l S e b a->CC P l o e b a
 |[],_,c=>c
 |i::b,a,c=>by
  obtain⟨d,v,f,g,j⟩:=c;exact⟨d,v,f,SP.gb g (λW k m=>h W (k m)),JE h b _ j⟩
theorem Qt(t:Z l.toArray=J)(u:∀c a m w,Q (A7 c) a w->Q (A7 c) m w):
  ∀(v:List (List Nat×List Nat×Nat×Bool)) (S:E->Prop) (b:Array Bool) (a:A4) (w:E),b.size=l.toArray.size->Dh md l.toArray b->Lt md l.toArray R v b=J->GN P l Q v S a w->Iw P md l.toArray Q R (I8 v) S b a w
 |[],S,b,a,w,_,_,r,h=>⟨by simpa[Lt]using r,h⟩
 |(g,f,i,d)::n,S,b,a,w,C,H,r,h=>by
  simp only[Lt,jQ,lO]at r;obtain⟨⟨⟨⟨⟨⟨⟨I,K⟩,x⟩,L⟩,D⟩,M⟩,N⟩,O⟩:=r;obtain⟨T,U⟩:=h;rw[show I8 ((g,f,i,d)::n)=g.length+(f.length+(I8 n+1))from rfl]
  have F:∀k∈f,k∈R/\∀o,l[k]?=A5 o->J=J->BS o=J->FA md l.toArray l.toArray.size i k=J:=λk y=>by
   have:=lu.1 N k y;simp only[jQ,mw]at this;refine⟨by simpa using this.1,λo X _ Y=>?_⟩;have G:=this.2
   have aa:l.toArray[k]?=A5 o:=by simpa using X
   rw[aa]at G;simpa[Y]using G
  refine JF V t u (λm=>CC P l (λW=>W=w) (λp=>BD P l.toArray Q i (λz q=>∃e:E->Prop,(∀W,e W->S W)/\(d=J->e q)/\GN P l Q n e z q) p w) f m) (f.length+(I8 n+1)) S w (BJ g b) b i (λh=>by cases h) (λh=>by cases h) (λh=>by cases h) ?_ g b a (λk y=>⟨by simpa using lu.1 M k y,λ_ _ h=>by cases h⟩) (λ_=>T) H (λ_ h=>h) rfl I (JE (λW h=>by simpa using h) g a U);intro m A hx;refine JF J t u (λp=>BD P l.toArray Q i (λz q=>∃e:E->Prop,(∀W,e W->S W)/\(d=J->e q)/\GN P l Q n e z q) p w) (I8 n+1) S w (BJ f (BJ g b)) (BJ g b) i (λ_=>x) (λ_=>by rw[Gj,Gj];exact C) (λ_ j h1 s=>by simpa using(F j (NX f _ j h1 s)).1) ?_ f (BJ g b) m F (λh=>by cases h) A (λ_ h=>h) rfl K (JE (λW h=>by simpa using h) f m hx);intro m A ad;refine⟨λs=>(by rw[x]at s;cases s),λj B=>?_⟩;have ae:=B;rw[x]at B
  obtain rfl:j=i:=by simpa using B
  refine BB (λp af hp=>?_) ad;obtain⟨e,ah,ai,aj⟩:=hp;exact⟨e,ah,⟨λhc=>(by rw[hc]at D;cases D),λ_ al=>ai (by simpa[al]using L)⟩,Qt t u n e _ p af (by rw[mH,Gj,Gj];exact C) (A.aV ae) O aj⟩
theorem FU(S:E->Prop)(a:List (List Nat×List Nat×Nat×Bool))(i:P.follows B1=J)(d:SW l a=J)
  (b:GN P l (Bs Q) a S h f.drew):(B4 g l.toArray J).wp P Q h f:=by
 simp only[SW,jQ,lO]at d;obtain⟨⟨k,m⟩,n⟩:=d;refine B3 (CB i (Od (R:=Mm a) _ S _ _ _ ?_))
 have o:Dh .any l.toArray (Y l.toArray.size V):=λj p _ e=>(by rw[Bd]at e;cases e)
 have:=Qt (P:=P) (Q:=Bs Q) (R:=Mm a) (md:=.any) k (λc h q f b=>b) a S (Y l.toArray.size V) h f.drew Δ o m b;rw[n]at this;exact this
end
end
section
open Go
inductive PT where
 |nil
 |am (qs xs:List Nat) (i:Nat) (d:Bool) (rest:PT)
 |bN (qs:List Nat) (i:Nat) (d:Bool) (rest:PT) (i':Nat) (d':Bool) (rest':PT)
def PT.aC:PT->Nat
 | .nil=>0
 | .am a b _ _ r=>a.length+(b.length+(r.aC+1))
 | .bN a _ _ r _ _ _=>a.length+(r.aC+1)
def PT.fG:PT->List Nat
 | .nil=>[]
 | .am a b _ _ r=>a++b++r.fG
 | .bN a _ _ r _ _ _=>a++r.fG
section
variable {P:Program} {l:List Oper} {Q:Exit->Act->World->Prop} {md:Region.Mode} {R:List Nat}
def EB(P:Bn)(l:List A3)(Q:C1->A4->E->Prop):PT->(E->Prop)->A4->E->Prop
 | .nil,_,a,w=>Q Bk a w
 | .am e j i d h,S,a,w=>((e.any λk=>match l[k]? with|some o=>BS o|none=>V)=J->S w)/\CC P l S (λg=>CC P l (λW=>W=w) (λm=>BD P l.toArray Q i (λf c=>∃b:E->Prop,(∀W,b W->S W)/\(d=J->b c)/\EB P l Q h b f c) m w) j g) e a
 | .bN e i d h n p q,S,a,w=>((e.any λk=>match l[k]? with|some o=>BS o|none=>V)=J->S w)/\CC P l S (λg=>
   BD P l.toArray Q i (λf c=>∃b:E->Prop,(∀W,b W->S W)/\(d=J->b c)/\EB P l Q h b f c) g w/\
   BD P l.toArray Q n (λf c=>∃b:E->Prop,(∀W,b W->S W)/\(p=J->b c)/\EB P l Q q b f c) g w) e a
theorem Dz{S:E->Prop}{i:Nat}{d:Bool}{c:PT}(g:S f)(j:CC P l S (λk=>CC P l (λW=>W=f) (λm=>BD P l.toArray Q i (λn e=>∃b:E->Prop,(∀W,b W->S W)/\(d=J->b e)/\EB P l Q c b n e) m f) t k) a h):EB P l Q (.am a t i d c) S h f:=⟨λ_=>g,j⟩
theorem Ap{S:E->Prop}{i:Nat}{d:Bool}{c:PT}(g:CC P l (λW=>W=f) (λj=>BD P l.toArray Q i (λk e=>∃b:E->Prop,(∀W,b W->S W)/\(d=J->b e)/\EB P l Q c b k e) j f) a h):EB P l Q (.am [] a i d c) S h f:=⟨λm=>(by simp at m),g⟩
theorem DK{S:E->Prop}{i:Nat}{d j:Bool}{k m:PT}(o:S f)(p:CC P l S (λn=>
   BD P l.toArray Q i (λe c=>∃b:E->Prop,(∀W,b W->S W)/\(d=J->b c)/\EB P l Q k b e c) n f/\
   BD P l.toArray Q g (λe c=>∃b:E->Prop,(∀W,b W->S W)/\(j=J->b c)/\EB P l Q m b e c) n f) a h):EB P l Q (.bN a i d k g j m) S h f:=⟨λ_=>o,p⟩
theorem AG{S:E->Prop}(a:Q Bk h f):EB P l Q .nil S h f:=a
def Iu(md:AA)(a:Array A3)(R:List Nat):PT->Array Bool->Bool
 | .nil,b=>(O md a b).isEmpty
 | .am c e i d f,b=>FE md a c b&&FE md a e (BJ c b)&&B9 (O md a (BJ e (BJ c b))=[i])&&(d||! Fk md a R i)&&! R.contains i&&c.all (λk=>R.contains k)&&e.all (λk=>R.contains k&&((match a[k]? with|some o=>! BS o|none=>V)||FA md a a.size i k))&&Iu md a R f ((BJ e (BJ c b)).setIfInBounds i J)
 | .bN c i d f g j h,b=>FE md a c b&&B9 (O md a (BJ c b)=[i,g])&&(d||! Fk md a R i)&&! R.contains i&&(j||! Fk md a R g)&&! R.contains g&&c.all (λk=>R.contains k)&&B9 (f.aC=h.aC)&&Iu md a R f ((BJ c b).setIfInBounds i J)&&Iu md a R h ((BJ c b).setIfInBounds g J)
def RK(l:List A3)(a:PT):Bool:=
 Z l.toArray&&Iu .any l.toArray a.fG a (Y l.toArray.size V)&&B9 (a.aC=l.toArray.size)
theorem Me(x:Z l.toArray=J)(y:∀c a n w,Q (A7 c) a w->Q (A7 c) n w):
  ∀(T:PT) (S:E->Prop) (f:Array Bool) (a:A4) (w:E),f.size=l.toArray.size->Dh md l.toArray f->Iu md l.toArray R T f=J->EB P l Q T S a w->Iw P md l.toArray Q R T.aC S f a w
 | .nil,S,f,a,w,_,_,s,h=>⟨by simpa[Iu]using s,h⟩
 | .am g q i d m,S,f,a,w,B,U,s,h=>by
  simp only[Iu,jQ,lO]at s;obtain⟨⟨⟨⟨⟨⟨⟨X,ak⟩,z⟩,Y⟩,C⟩,aa⟩,al⟩,ab⟩:=s;obtain⟨hS,ad⟩:=h;rw[show(PT.am g q i d m).aC=g.length+(q.length+(m.aC+1))from rfl]
  have ag:∀k∈q,k∈R/\∀o,l[k]?=A5 o->J=J->BS o=J->FA md l.toArray l.toArray.size i k=J:=λk D=>by
   have:=lu.1 al k D;simp only[jQ,mw]at this;refine⟨by simpa using this.1,λo ho _ hn=>?_⟩;have h2:=this.2
   have ao:l.toArray[k]?=A5 o:=by simpa using ho
   rw[ao]at h2;simpa[hn]using h2
  refine JF V x y (λn=>CC P l (λW=>W=w) (λr=>BD P l.toArray Q i (λt p=>∃b:E->Prop,(∀W,b W->S W)/\(d=J->b p)/\EB P l Q m b t p) r w) q n) (q.length+(m.aC+1)) S w (BJ g f) f i (λh=>by cases h) (λh=>by cases h) (λh=>by cases h) ?_ g f a (λk D=>⟨by simpa using lu.1 aa k D,λ_ _ h=>by cases h⟩) (λ_=>hS) U (λ_ h=>h) rfl X (JE (λW h=>by simpa using h) g a ad);intro n A hx;refine JF J x y (λr=>BD P l.toArray Q i (λt p=>∃b:E->Prop,(∀W,b W->S W)/\(d=J->b p)/\EB P l Q m b t p) r w) (m.aC+1) S w (BJ q (BJ g f)) (BJ g f) i (λ_=>z) (λ_=>by rw[Gj,Gj];exact B) (λ_ j h1 u=>by simpa using(ag j (NX q _ j h1 u)).1) ?_ q (BJ g f) n ag (λh=>by cases h) A (λ_ h=>h) rfl ak (JE (λW h=>by simpa using h) q n hx);intro n A N;refine⟨λu=>(by rw[z]at u;cases u),λj v=>?_⟩;have O:=v;rw[z]at v
  obtain rfl:j=i:=by simpa using v
  refine BB (λr F G=>?_) N;obtain⟨b,H,I,K⟩:=G;exact⟨b,H,⟨λL=>(by rw[L]at C;cases C),λ_ M=>I (by simpa[M]using Y)⟩,Me x y m b _ r F (by rw[mH,Gj,Gj];exact B) (A.aV O) ab K⟩
 | .bN g i d m i' d' af,S,f,a,w,B,U,s,h=>by
  simp only[Iu,jQ,lO]at s;obtain⟨⟨⟨⟨⟨⟨⟨⟨⟨X,z⟩,Y⟩,C⟩,ar⟩,aj⟩,aa⟩,au⟩,ab⟩,av⟩:=s;obtain⟨hS,ad⟩:=h;rw[show(PT.bN g i d m i' d' af).aC=g.length+(m.aC+1)from rfl]
  refine JF V x y (λn=>
   BD P l.toArray Q i (λt p=>∃b:E->Prop,(∀W,b W->S W)/\(d=J->b p)/\EB P l Q m b t p) n w/\
   BD P l.toArray Q i' (λt p=>∃b:E->Prop,(∀W,b W->S W)/\(d'=J->b p)/\EB P l Q af b t p) n w) (m.aC+1) S w (BJ g f) f i (λh=>by cases h) (λh=>by cases h) (λh=>by cases h) ?_ g f a (λk D=>⟨by simpa using lu.1 aa k D,λ_ _ h=>by cases h⟩) (λ_=>hS) U (λ_ h=>h) rfl X (JE (λW h=>by simpa using h) g a ad)
  intro n A N;refine⟨λu=>(by rw[z]at u;cases u),λj v=>?_⟩;have O:=v;rw[z]at v
  have aw:j=i\/j=i':=by simpa using v
  rcases aw with e|e
  ·subst e;refine BB (λr F G=>?_) N.1;obtain⟨b,H,I,K⟩:=G;exact⟨b,H,⟨λL=>(by rw[L]at C;cases C),λ_ M=>I (by simpa[M]using Y)⟩,Me x y m b _ r F (by rw[mH,Gj];exact B) (A.aV O) ab K⟩
  ·subst e;refine BB (λr F G=>?_) N.2;obtain⟨b,H,I,K⟩:=G;refine⟨b,H,⟨λL=>(by rw[L]at aj;cases aj),λ_ M=>I (by simpa[M]using ar)⟩,?_⟩;rw[au];exact Me x y af b _ r F (by rw[mH,Gj];exact B) (A.aV O) av K
theorem AS(S:E->Prop)(a:PT)(i:P.follows B1=J)(d:RK l a=J)
  (b:EB P l (Bs Q) a S h f.drew):(B4 g l.toArray J).wp P Q h f:=by
 simp only[RK,jQ,lO]at d;obtain⟨⟨k,m⟩,n⟩:=d;refine B3 (CB i (Od (R:=a.fG) _ S _ _ _ ?_))
 have o:Dh .any l.toArray (Y l.toArray.size V):=λj p _ e=>(by rw[Bd]at e;cases e)
 have:=Me (P:=P) (Q:=Bs Q) (R:=a.fG) (md:=.any) k (λc h q f b=>b) a S (Y l.toArray.size V) h f.drew Δ o m b;rw[n]at this;exact this
end
theorem Av{i:Nat}(c:q)(k:q->CC r n (λW=>W=f) e (i::a) h:=by(intro d;apply AC rfl Θ;(· intro g b;(try have b:=b rfl);(try dsimp only at b);(try subst b);go_simp;(try with_reducible rfl));(try simp only[Act.put,List.setIfInBounds_toArray,List.set_cons_zero,List.set_cons_succ]);exact d)):CC r n (λW=>W=f) e (i::a) h:=k c
theorem Aq{X:(E->Prop)->A4->E->Prop}{S:E->Prop}(c:∀h f,(∃a:E->Prop,(∀W,a W->S W)/\(V=J->a f)/\X a h f)->d h f)(b:q)(k:q->X S h f:=by(intro e;(try simp only[Act.put,List.setIfInBounds_toArray,List.set_cons_zero,List.set_cons_succ]);exact e)):d h f:=c _ _ ⟨S,λ_ b=>b,λg=>(by cases g),k b⟩
end
