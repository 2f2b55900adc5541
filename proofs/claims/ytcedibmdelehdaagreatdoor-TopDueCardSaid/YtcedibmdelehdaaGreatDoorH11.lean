/- Lemmas. -/
import Derived.Test.YtcedibmdelehdaaGreatDoorH05
import Derived.LoopIn
import Derived.LoopNIn
import Derived.OwnWalkIn
import Derived.RangeFuncBound
import Derived.RangeFuncBox
import Derived.RangeFuncCalls
import Derived.RangeFuncLeaves
import Derived.RangeFuncNested
import Derived.Shelf.Abstract
import Derived.Shelf.RegionOpen
import Derived.TacticsInMore
namespace Go.Proofs.YtcedibmdelehdaaGreatDoor
set_option maxRecDepth 100000
set_option maxHeartbeats 32000000
open Go.Value renaming ownBlock->E
open Go renaming World->J,Value->O
variable{h d:J}{V a e f:Nat}{Y:List O}{Z:Type}{b:TypeId}{c:O}
section
open Go.RowKit Go.Shelf
def Bw(n x:Nat)(w a:J):Prop:=∀k,k<n->k≠x->a.heap[k]?=w.heap[k]?
theorem Bw.refl(n x:Nat)(w:J):Bw n x w w:=λ_ _ _=>rfl
theorem Bw.trans{A C:J}(d:Bw V a A h)(k:Bw V a h C):Bw V a A C:=λi b c=>(k i b c).trans (d i b c)
theorem Bw.eL(c:V<=h.heap.size)(W:J)(l:Nat)(o b:Obj)(d:h.heap.size<=l)(_:W.heap[l]?=some o)(_:o.isCells=false)(_:o.isWalk=false):Bw V a W (W.putObj l b):=
 λk e _=>World.putObj_heap_other Ω
theorem Bw.aq(b:Bw V a h d){p:Addr}(c:p.block<V)(e:p.block≠a):d.cell? p=h.cell? p:=World.cell?_of_block (w:=h) (b p.block c e)
theorem Aa.fK(c:Aa h V b Y)(f:Bw a e h d)(g:V<a)(i:V≠e):Aa d V b Y:=c.bg (f V g i)
theorem Ai.fK(k:Ai h e c f Y)(l:Bw V a h d)(g:Y≠[]->∀b,c.ownBlock=some b->b<V/\b≠a):Ai d e c f Y:=
 k.bg λi b j _=>l b (g i b j).1 (g i b j).2
theorem LB(b:Below V h d):Bw V a h d:=λk c _=>b.block k c
def Cx{α:Type}(f:Nat->α)(k:Nat):List α:=(List.range k).map f
theorem Kv(f:Nat->Z)(k:Nat):Cx f (k+1)=Cx f k++[f k]:=by simp[Cx,List.range_succ]
theorem GU(f:Nat->Z)(k:Nat):(Cx f k).length=k:=by simp[Cx]
theorem Xr(f:Nat->Z)(a:List Z)(k:Nat)(b:k<a.length):(Cx f k++a.drop k).set k (f k)=Cx f (k+1)++a.drop (k+1):=by
 rw[Kv,List.set_append,GU,j7 (Nat.lt_irrefl _),lU,nE b,ku];simp
theorem Ss{m:TypeId}{v:O}{k:Nat}{z:List O}{i:Obj}
  (t:Boxed d V b v)(u:b≠m)(n:d.ownsRow e m f v k z)(A:e<=d.heap.size)
  (w:h.ownsRow e m f c a Y)(q:(d.alloc i).grownBy h v.ownBlock):
  Boxed h V b v/\Boxed (h.setCell ⟨V,0,none⟩ c) V b c/\(h.setCell ⟨V,0,none⟩ c).ownsRow e m f c a Y/\KeepsOthers d (h.setCell ⟨V,0,none⟩ c)/\Bw e V d (h.setCell ⟨V,0,none⟩ c)/\(∀a,a<=V->a<=e->Below a d (h.setCell ⟨V,0,none⟩ c)):=by
 have r:Boxed h V b v:=(t.alloc i).kept q (t.not_row u n);refine⟨r,r.set c,w.kept (grownBy_setCell' h V c) (.inr (r.not_row u w).symm),?_,?_,?_⟩
 ·refine((KeepsOthers.alloc d i).trans (KeepsOthers.of_grownBy q λj o l s=>?_)).trans (KeepsOthers.setCell _ _ _)
  rcases(n.alloc i).2 with⟨rfl,_⟩|⟨g,x,y,rfl,_,B,_⟩
  ·simp[E]at l
  ·obtain rfl:g=j:=by simpa[E]using l
   rw[B]at s;cases s;rfl
 ·intro j s C;rw[Below.heap_setCell _ _ _ _ C,q.block j Γ ?_,Below.heap_alloc _ _ _ Ω]
  rcases n.2 with⟨rfl,_⟩|⟨g,x,y,rfl,D,_,_⟩
  ·simp[E]
  ·simp[E];omega
 ·intro a F G;refine(((Below.refl a d).alloc (j8 G A) i).grown q Γ λj l=>?_).setCell (p:=⟨V,0,none⟩) F c
  rcases n.2 with⟨rfl,_⟩|⟨g,x,y,rfl,D,_,_⟩
  ·simp[E]at l
  ·obtain rfl:g=j:=by simpa[E]using l
   omega
end
section
def ID(n i:Nat):Nat:=n/256^i%256
theorem gV(n i:Nat):ID n i<256:=lT _ Ω
def At(n k:Nat):List Nat:=Cx (ID n) k
theorem AI(n k:Nat):(At n k).length=k:=GU _ _
theorem YQ(n k:Nat):At n (k+1)=At n k++[ID n k]:=Kv _ _
theorem Ek(n k:Nat):∀x∈At n k,x<256:=by
 intro x a;unfold At Cx at a;rw[lP]at a;obtain⟨i,_,rfl⟩:=a;exact gV n i
theorem gZ(n k:Nat):n/256^k/256=n/256^(k+1):=by rw[n7,mX]
def Dn:List Nat->Nat
 |[]=>0
 |b::l=>b+256*Dn l
theorem OW:∀(l:List Nat) (x:Nat),Dn (l++[x])=Dn l+x*256^l.length
 |[],x=>by simp[Dn]
 |b::l,x=>by
  have:=OW l x;simp only[kO,Dn,kj,mX,this];rw[pk, <-Nat.mul_assoc x,lM (x*256^l.length) 256];omega
theorem OJ(n:Nat):∀k,Dn (At n k)=n%256^k
 |0=>by simp[At,Cx,Dn,qo]
 |k+1=>by
  rw[YQ,OW,OJ n k,AI,mX,Nat.mod_mul,ID,lM]
theorem Pq:∀l:List Nat,(∀x∈l,x<256)->Dn l<256^l.length
 |[],_=>by simp[Dn]
 |b::l,h=>by
  have c:=Pq l (λx a=>h x (by simp[a]));have d:=h b Δ;simp only[Dn,kj,mX];omega
theorem dj(l:List Nat)(i:Nat)(h:i<l.length):Dn (l.take (i+1))=Dn (l.take i)+l.getD i 0*256^i:=by
 rw[mz h,OW,kA,nJ Ω];simp[List.getD,h]
def E7(k:Int):Bool:=decide (k=1\/k=2\/k=4\/k=8)
theorem Un(k:Nat)(h:k<=8):256^k<=18446744073709551616:=by
 rw[show(18446744073709551616:Nat)=256^8 from rfl];exact lL Ω h
end
