/- Lemmas. -/
import Derived.Test.YtcedibmdelehdaaGreatDoorG03
import Derived.ChangeSame
import Derived.Deep.Fields
import Derived.Deep.Slices
import Derived.ProofKit
namespace Go.Proofs.YtcedibmdelehdaaGreatDoor
set_option maxRecDepth 100000
set_option maxHeartbeats 32000000
variable{f:Type}{h O:TypeId}{E:Value}{J:Nat}
section
open Go.RowKit Go.ChangeShapes Go.WideShapes Go.Deep
section
variable {H:Type} {enc:TypeId×Value->H} {P:Program} {w:World} {base:Nat} {spare:Nat->Bool} {held:Bool}
theorem Dd(a:f->List Value)(b:Nat)(c:∀x,(a x).length=b):∀(e:List f) (i j:Nat) (x:f),e[i]?=some x->j<b->(e.flatMap a)[i*b+j]?=(a x)[j]?
 |[],i,j,x,h,_=>by simp at h
 |y::g,0,j,x,h,d=>by
  simp at h;subst h;rw[lP,nO,lN,kL (by rw[c];exact d)]
 |y::g,i+1,j,x,h,d=>by
  have k:=Dd a b c g i j x (by simpa using h) d;rw[<-k,lP,kQ (by rw[c,qh];omega),c]
  congr 1
  rw[qh];omega
theorem KA(b:f->List Value)(c:Nat)(d:∀x,(b x).length=c)(a:List f):(a.flatMap b).length=a.length*c:=by
 induction a with
 |nil=>simp
 |cons y g e=>simp[e,d,qh,pj]
theorem Vf[Inhabited f](d:f->List Value)(v:f->Prop){Q:DataW H×List MemPlace}(b:Nat)(z:0<b)(R:P.underlying O=some (.slice h))(S:P.cellsOf h=b)(p:∀x,(d x).length=b)
  (T:∀n A y,DataW.trod enc P w base spare held n h A=some y->∃x,A=d x/\v x)
  (U:DataW.trod enc P w base spare held J O [E]=some Q):∃(g:List f) (a:Option Addr) (k:Nat),E=.slice a g.length k/\Ag w b E g.length (g.flatMap d)/\g.length<=k/\∀x∈g,v x:=by
 rcases open_slice R U with⟨l,_⟩|⟨a,e,k,m,n,D,Pl,l,hb,hl,hm,V,B,W⟩
 ·simp at l;subst l;exact⟨[],none,0,rfl,Ag.nil w b,Δ,Δ⟩
 ·simp at l;subst l
  have ah:e<=m:=by rw[V];split<;>omega
  have X:∀i,i<e->∃q:f,v q/\∀j,j<b->w.cell? (a.add (i*b+j))=(d q)[j]?:=by
   intro i ai;obtain⟨A,G,Y⟩:=W i Ω;obtain⟨q,rfl,o⟩:=T _ _ _ Y;rw[S]at G;obtain⟨_,aj,Z⟩:=World.cells?_some G;refine⟨q,o,λj r=>?_⟩;have:=Z j r
   rwa[add_add]at this
  obtain⟨q,o⟩:=choose_lt X;refine⟨(List.range e).map q,some a,k,Δ,⟨by rw[KA d b p],Γ,.inr ?_⟩,Γ,λx B=>?_⟩
  ·refine⟨a,k,Δ,λaa=>?_,λj u r=>?_⟩
   ·have C:0<e:=by
     simp at aa;omega
    have c:=(o 0 C).2 0 z;simp only[nO,lN,Addr.add,qt]at c
    have t:((d (q 0))[0]?).isSome=true:=by simp[p,z]
    rw[<-c]at t;unfold World.cell? at t
    cases F:a.spot with
    |none=>rfl
    |some s=>split at t<;>simp[F]at t
   ·have ab:j<e*b:=by
     have:=(jL.1 r).1;rw[KA d b p]at this;simpa using this
    have I:j/b<e:=nK (by rw[lp];exact ab);have K:j%b<b:=lA _ z
    have L:j/b*b+j%b=j:=by rw[lp];exact lE j b
    have M:=Dd d b p ((List.range e).map q) (j/b) (j%b) (q (j/b)) (by simp[I]) K;rw[L,r]at M;have c:=(o _ I).2 _ K;rw[L, <-M]at c;rw[<-c];unfold Addr.add
    split
    ·have N:a.spot=none:=by
      unfold World.cell? at c
      cases F:a.spot with
      |none=>rfl
      |some s=>
       have C:a.add j=a:=by unfold Addr.add;rw[jP ‹_›]
       rw[C]at c
       split at c<;>simp[F]at c
     obtain⟨ak,ao,am⟩:=a;simp at N;subst N
     subst_vars
     simp_all
    ·rfl
  ·simp at B;obtain⟨i,ac,rfl⟩:=B;exact(o i ac).1
theorem YO[Inhabited f](e:f->List Value)(g:f->Prop){r:Reach}{d:DataW H}{p:List MemPlace}(b:Nat)(l:0<b)(j:P.underlying h=some (.slice O))(m:P.cellsOf O=b)(o:∀x,(e x).length=b)
  (q:∀n k y,DataW.trod enc P w base spare held n O k=some y->∃x,k=e x/\g x)
  (s:Value.okWide P w r J h E)(t:DataW.Trod enc P w base spare held h E d p):∃(c:List f) (a:Option Addr) (i:Nat),E=.slice a c.length i/\Ag w b E c.length (c.flatMap e)/\c.length<=i/\∀x∈c,g x:=by
 obtain⟨v,z,i,rfl⟩:=okWide_slice j s;obtain⟨A,u⟩:=t;exact Vf e g b l j m o q u
end
end
section
open Go.RowKit Go.ChangeShapes Go.WideShapes
def Ar(a:List Nat):List Value:=a.map λx:Nat=>.int .u8 (x:Int)
theorem KG(a:List Nat)(k:Nat)(h:k<a.length):(Ar a)[k]?=some (.int .u8 ((a.getD k 0:Nat):Int)):=by simp[Ar,h,List.getD]
theorem Hh(a:List Nat):(Ar a).length=a.length:=by simp[Ar]
theorem Rj(a:List Nat)(b:∀x∈a,x<256)(k:Nat):a.getD k 0<256:=by
 rw[kH]
 cases e:a[k]? with
 |none=>simp
 |some x=>exact b x (kp e)
end
