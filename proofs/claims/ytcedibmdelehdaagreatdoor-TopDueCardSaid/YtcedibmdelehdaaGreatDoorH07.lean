/- Lemmas. -/
import Derived.Test.YtcedibmdelehdaaGreatDoorH05
import Derived.ChangeSame
import Derived.Deep.Fields
import Derived.Deep.Slices
import Derived.ProofKit
namespace Go.Proofs.YtcedibmdelehdaaGreatDoor
set_option maxRecDepth 100000
set_option maxHeartbeats 32000000
variable{h:Type}{E V:TypeId}{J:Value}{O:Nat}
section
open Go.RowKit Go.ChangeShapes Go.WideShapes Go.Deep
section
variable {H:Type} {enc:TypeId×Value->H} {P:Program} {w:World} {base:Nat} {spare:Nat->Bool} {held:Bool}
theorem Eh(b:h->List Value)(c:Nat)(d:∀x,(b x).length=c):∀(f:List h) (i j:Nat) (x:h),f[i]?=some x->j<c->(f.flatMap b)[i*c+j]?=(b x)[j]?
 |[],i,j,x,a,_=>by simp at a
 |y::g,0,j,x,a,e=>by
  simp at a;subst a;rw[mh,ox,mx,lj (by rw[d];exact e)]
 |y::g,i+1,j,x,a,e=>by
  have k:=Eh b c d g i j x (by simpa using a) e;rw[<-k,mh,lf (by rw[d,qJ];omega),d]
  congr 1
  rw[qJ];omega
theorem Kk(b:h->List Value)(c:Nat)(d:∀x,(b x).length=c)(a:List h):(a.flatMap b).length=a.length*c:=by
 induction a with
 |nil=>simp
 |cons y f e=>simp[e,d,qJ,qK]
theorem U6[Inhabited h](d:h->List Value)(t:h->Prop){N:DataW H×List MemPlace}(b:Nat)(v:0<b)(Q:P.underlying V=some (.slice E))(R:P.cellsOf E=b)(o:∀x,(d x).length=b)
  (S:∀n z y,DataW.trod enc P w base spare held n E z=some y->∃x,z=d x/\t x)
  (T:DataW.trod enc P w base spare held O V [J]=some N):∃(f:List h) (a:Option Addr) (g:Nat),J=.slice a f.length g/\Ai w b J f.length (f.flatMap d)/\f.length<=g/\∀x∈f,t x:=by
 rcases open_slice Q T with⟨k,_⟩|⟨a,e,g,m,n,D,Pl,k,hb,hl,hm,U,A,W⟩
 ·simp at k;subst k;exact⟨[],none,0,rfl,Ai.nil w b,Δ,Δ⟩
 ·simp at k;subst k
  have ah:e<=m:=by rw[U];split<;>omega
  have X:∀i,i<e->∃q:h,t q/\∀j,j<b->w.cell? (a.add (i*b+j))=(d q)[j]?:=by
   intro i ai;obtain⟨z,F,Y⟩:=W i Ω;obtain⟨q,rfl,l⟩:=S _ _ _ Y;rw[R]at F;obtain⟨_,aj,Z⟩:=World.cells?_some F;refine⟨q,l,λj p=>?_⟩;have:=Z j p
   rwa[add_add]at this
  obtain⟨q,l⟩:=choose_lt X;refine⟨(List.range e).map q,some a,g,Δ,⟨by rw[Kk d b o],Γ,.inr ?_⟩,Γ,λx A=>?_⟩
  ·refine⟨a,g,Δ,λaa=>?_,λj u p=>?_⟩
   ·have B:0<e:=by
     simp at aa;omega
    have c:=(l 0 B).2 0 v;simp only[ox,mx,Addr.add,qW]at c
    have r:((d (q 0))[0]?).isSome=true:=by simp[o,v]
    rw[<-c]at r;unfold World.cell? at r
    cases C:a.spot with
    |none=>rfl
    |some s=>split at r<;>simp[C]at r
   ·have ab:j<e*b:=by
     have:=(jX.1 p).1;rw[Kk d b o]at this;simpa using this
    have G:j/b<e:=oq (by rw[lM];exact ab);have I:j%b<b:=lT _ v
    have K:j/b*b+j%b=j:=by rw[lM];exact lW j b
    have L:=Eh d b o ((List.range e).map q) (j/b) (j%b) (q (j/b)) (by simp[G]) I;rw[K,p]at L;have c:=(l _ G).2 _ I;rw[K, <-L]at c;rw[<-c];unfold Addr.add
    split
    ·have M:a.spot=none:=by
      unfold World.cell? at c
      cases C:a.spot with
      |none=>rfl
      |some s=>
       have B:a.add j=a:=by unfold Addr.add;rw[ke ‹_›]
       rw[B]at c
       split at c<;>simp[C]at c
     obtain⟨ak,ao,am⟩:=a;simp at M;subst M
     subst_vars
     simp_all
    ·rfl
  ·simp at A;obtain⟨i,ac,rfl⟩:=A;exact(l i ac).1
theorem YD[Inhabited h](e:h->List Value)(f:h->Prop){r:Reach}{d:DataW H}{p:List MemPlace}(b:Nat)(k:0<b)(i:P.underlying E=some (.slice V))(l:P.cellsOf V=b)(m:∀x,(e x).length=b)
  (o:∀n j y,DataW.trod enc P w base spare held n V j=some y->∃x,j=e x/\f x)
  (q:Value.okWide P w r O E J)(s:DataW.Trod enc P w base spare held E J d p):∃(c:List h) (a:Option Addr) (g:Nat),J=.slice a c.length g/\Ai w b J c.length (c.flatMap e)/\c.length<=g/\∀x∈c,f x:=by
 obtain⟨u,v,g,rfl⟩:=okWide_slice i q;obtain⟨z,t⟩:=s;exact U6 e f b k i l m o t
end
end
section
open Go.RowKit Go.ChangeShapes Go.WideShapes
def Ao(a:List Nat):List Value:=a.map λx:Nat=>.int .u8 (x:Int)
theorem LX(a:List Nat)(k:Nat)(h:k<a.length):(Ao a)[k]?=some (.int .u8 ((a.getD k 0:Nat):Int)):=by simp[Ao,h,List.getD]
theorem GV(a:List Nat):(Ao a).length=a.length:=by simp[Ao]
theorem XE(a:List Nat)(b:∀x∈a,x<256)(k:Nat):a.getD k 0<256:=by
 rw[lp]
 cases e:a[k]? with
 |none=>simp
 |some x=>exact b x (kX e)
end
