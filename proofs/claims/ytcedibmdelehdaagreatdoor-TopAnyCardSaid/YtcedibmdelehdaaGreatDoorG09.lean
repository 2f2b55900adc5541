/- Lemmas. -/
import Derived.Test.YtcedibmdelehdaaGreatDoorG03
import Derived.LoopIn
import Derived.LoopNIn
import Derived.OwnWalkIn
import Derived.RangeFuncBound
import Derived.RangeFuncBox
import Derived.RangeFuncCalls
import Derived.RangeFuncLeaves
import Derived.RangeFuncNested
import Derived.Shelf.Abstract
import Derived.Shelf.RegionOpen
import Derived.TacticsInMore
namespace Go.Proofs.YtcedibmdelehdaaGreatDoor
set_option maxRecDepth 100000
set_option maxHeartbeats 32000000
open Go.Value renaming ownBlock->E
open Go renaming World->J,Value->O
variable{f c:J}{h Z d e:Nat}{V:List O}{Y:Type}{a:TypeId}{b:O}
section
open Go.RowKit Go.Shelf
def BM(n x:Nat)(w a:J):Prop:=∀k,k<n->k≠x->a.heap[k]?=w.heap[k]?
theorem BM.refl(n x:Nat)(w:J):BM n x w w:=λ_ _ _=>rfl
theorem BM.trans{A C:J}(c:BM h Z A f)(k:BM h Z f C):BM h Z A C:=λi a b=>(k i a b).trans (c i a b)
theorem BM.eL(b:h<=f.heap.size)(W:J)(l:Nat)(o a:Obj)(c:f.heap.size<=l)(_:W.heap[l]?=some o)(_:o.isCells=false)(_:o.isWalk=false):BM h Z W (W.putObj l a):=
 λk d _=>World.putObj_heap_other Ω
theorem BM.ap(a:BM h Z f c){p:Addr}(b:p.block<h)(d:p.block≠Z):c.cell? p=f.cell? p:=World.cell?_of_block (w:=f) (a p.block b d)
theorem Aa.fH(b:Aa f h a V)(e:BM Z d f c)(g:h<Z)(i:h≠d):Aa c h a V:=b.bb (e h g i)
theorem Ag.fH(k:Ag f d b e V)(l:BM h Z f c)(g:V≠[]->∀a,b.ownBlock=some a->a<h/\a≠Z):Ag c d b e V:=
 k.bb λi a j _=>l a (g i a j).1 (g i a j).2
theorem LZ(a:Below h f c):BM h Z f c:=λk b _=>a.block k b
def BU{α:Type}(f:Nat->α)(k:Nat):List α:=(List.range k).map f
theorem KS(f:Nat->Y)(k:Nat):BU f (k+1)=BU f k++[f k]:=by simp[BU,List.range_succ]
theorem EU(f:Nat->Y)(k:Nat):(BU f k).length=k:=by simp[BU]
theorem Ml(f:Nat->Y)(a:List Y)(k:Nat)(b:k<a.length):(BU f k++a.drop k).set k (f k)=BU f (k+1)++a.drop (k+1):=by
 rw[KS,List.set_append,EU,jN (Nat.lt_irrefl _),lJ,mY b,jY];simp
theorem SM{m:TypeId}{v:O}{k:Nat}{z:List O}{i:Obj}
  (t:Boxed c h a v)(u:a≠m)(n:c.ownsRow d m e v k z)(A:d<=c.heap.size)
  (w:f.ownsRow d m e b Z V)(q:(c.alloc i).grownBy f v.ownBlock):
  Boxed f h a v/\Boxed (f.setCell ⟨h,0,none⟩ b) h a b/\(f.setCell ⟨h,0,none⟩ b).ownsRow d m e b Z V/\KeepsOthers c (f.setCell ⟨h,0,none⟩ b)/\BM d h c (f.setCell ⟨h,0,none⟩ b)/\(∀Z,Z<=h->Z<=d->Below Z c (f.setCell ⟨h,0,none⟩ b)):=by
 have r:Boxed f h a v:=(t.alloc i).kept q (t.not_row u n);refine⟨r,r.set b,w.kept (grownBy_setCell' f h b) (.inr (r.not_row u w).symm),?_,?_,?_⟩
 ·refine((KeepsOthers.alloc c i).trans (KeepsOthers.of_grownBy q λj o l s=>?_)).trans (KeepsOthers.setCell _ _ _)
  rcases(n.alloc i).2 with⟨rfl,_⟩|⟨g,x,y,rfl,_,B,_⟩
  ·simp[E]at l
  ·obtain rfl:g=j:=by simpa[E]using l
   rw[B]at s;cases s;rfl
 ·intro j s C;rw[Below.heap_setCell _ _ _ _ C,q.block j Γ ?_,Below.heap_alloc _ _ _ Ω]
  rcases n.2 with⟨rfl,_⟩|⟨g,x,y,rfl,D,_,_⟩
  ·simp[E]
  ·simp[E];omega
 ·intro Z F G;refine(((Below.refl Z c).alloc (jM G A) i).grown q Γ λj l=>?_).setCell (p:=⟨h,0,none⟩) F b
  rcases n.2 with⟨rfl,_⟩|⟨g,x,y,rfl,D,_,_⟩
  ·simp[E]at l
  ·obtain rfl:g=j:=by simpa[E]using l
   omega
end
section
def Fu(n i:Nat):Nat:=n/256^i%256
theorem Uq(n i:Nat):Fu n i<256:=lA _ Ω
def At(n k:Nat):List Nat:=BU (Fu n) k
theorem AK(n k:Nat):(At n k).length=k:=EU _ _
theorem RY(n k:Nat):At n (k+1)=At n k++[Fu n k]:=KS _ _
theorem Es(n k:Nat):∀x∈At n k,x<256:=by
 intro x a;unfold At BU at a;rw[lB]at a;obtain⟨i,_,rfl⟩:=a;exact Uq n i
theorem Us(n k:Nat):n/256^k/256=n/256^(k+1):=by rw[nz,mg]
def DF:List Nat->Nat
 |[]=>0
 |b::l=>b+256*DF l
theorem Pe:∀(l:List Nat) (x:Nat),DF (l++[x])=DF l+x*256^l.length
 |[],x=>by simp[DF]
 |b::l,x=>by
  have:=Pe l x;simp only[ku,DF,jT,mg,this];rw[oq, <-Nat.mul_assoc x,lp (x*256^l.length) 256];omega
theorem OQ(n:Nat):∀k,DF (At n k)=n%256^k
 |0=>by simp[At,BU,DF,pN]
 |k+1=>by
  rw[RY,Pe,OQ n k,AK,mg,Nat.mod_mul,Fu,lp]
theorem Py:∀l:List Nat,(∀x∈l,x<256)->DF l<256^l.length
 |[],_=>by simp[DF]
 |b::l,h=>by
  have c:=Py l (λx a=>h x (by simp[a]));have d:=h b Δ;simp only[DF,jT,mg];omega
theorem dE(l:List Nat)(i:Nat)(h:i<l.length):DF (l.take (i+1))=DF (l.take i)+l.getD i 0*256^i:=by
 rw[lV h,Pe,jW,nf Ω];simp[List.getD,h]
def Fe(k:Int):Bool:=decide (k=1\/k=2\/k=4\/k=8)
theorem Uz(k:Nat)(h:k<=8):256^k<=18446744073709551616:=by
 rw[show(18446744073709551616:Nat)=256^8 from rfl];exact kR Ω h
end
