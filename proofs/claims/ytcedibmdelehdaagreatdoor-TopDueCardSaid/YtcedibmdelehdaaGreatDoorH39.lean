/- Lemmas. -/
import Derived.Test.YtcedibmdelehdaaGreatDoorH02
import Derived.Test.YtcedibmdelehdaaGreatDoorH35
import Derived.Shelf.SlSortCmp.WholeK
namespace Go.Proofs.YtcedibmdelehdaaGreatDoor
set_option maxRecDepth 100000
set_option maxHeartbeats 32000000
open Go.Sort renaming ahead->E,putCells->O,putRow->Ax,flatK->A2
open Go renaming Value->J,World->AA
variable{h:AA}{V b:Nat}{Y:Array J}{Z:Array Obj}{a:TypeId}
section
open Go.RowKit Go.Shelf Go.Sort
instance:Inhabited Du:=⟨⟨0,0⟩⟩
def CD(l:List Du):List J:=l.flatMap EB
theorem Tq(l:List Du):(CD l).length=l.length*2:=by
 induction l with
 |nil=>rfl
 |cons x l a=>
  show(EB x++CD l).length=_;rw[jU,a,kj];show 2+_=_;omega
theorem OL:∀{l:List Du} {i:Nat} {x:Du},l[i]?=some x->(CD l)[i*2]?=some (.int .i64 x.n)/\(CD l)[i*2+1]?=some (.int .i64 x.aZ)
 |[],_,_,h=>by simp at h
 |y::l,0,x,h=>by
  obtain rfl:y=x:=kE h;exact⟨rfl,rfl⟩
 |y::l,i+1,x,h=>by
  have a:=OL (l:=l) (i:=i) (x:=x) (by simpa using h);show(EB y++CD l)[(i+1)*2]?=_/\(EB y++CD l)[(i+1)*2+1]?=_;rw[lf (by show 2<=_;omega),lf (by show 2<=_;omega)];rw[show(i+1)*2 - (EB y).length=i*2 by show(i+1)*2 - 2=_;omega,show(i+1)*2+1 - (EB y).length=i*2+1 by show(i+1)*2+1 - 2=_;omega];exact a
theorem Rx(l:List Du):(A2 EB 2 l.toArray).toList=CD l:=by
 refine lR λt=>?_
 by_cases a:t<l.length*2
 ·have b:t/2<l.length:=by omega
  obtain⟨x,c⟩:∃x,l[t/2]?=some x:=⟨_,jW b⟩
  have h:l.toArray[t/2]! =x:=by
   rw[pV l.toArray (t/2) (by simpa using b)];simpa using(jX.1 c).2
  obtain⟨d,f⟩:=OL c;have i:=get_flatK EB 2 l.toArray t (by simpa using a)
  have g:t<(A2 EB 2 l.toArray).size:=by simpa using a
  rw[mN,lO g, <-pV (A2 EB 2 l.toArray) t g,i,h]
  rcases Nat.mod_two_eq_zero_or_one t with e|e
  ·rw[show t/2*2=t by omega]at d;rw[e,d];rfl
  ·rw[show t/2*2+1=t by omega]at f;rw[e,f];rfl
 ·rw[lH Γ,lH (by rw[Tq];omega)]
theorem Ny(x y:Du):ltOf Jk x y=decide (x.aZ<y.aZ\/(x.aZ=y.aZ/\x.n<y.n)):=by
 unfold ltOf Jk Lm Gm
 by_cases a:x.aZ<y.aZ
 ·simp[a]
 ·by_cases c:y.aZ<x.aZ
  ·have:¬x.aZ=y.aZ:=by omega
   simp[a,c,this]
  ·have:x.aZ=y.aZ:=by omega
   by_cases b:x.n<y.n
   ·simp[this,b]
   ·by_cases d:y.n<x.n<;>simp[this,b,d]
theorem jk:SWO (ltOf Jk) where
 irrefl x:=by rw[Ny];simp
 trans x y z h1 h2:=by rw[Ny]at*;simp only[mb]at*;omega
 ntrans x y z h1 h2:=by rw[Ny]at*;simp only[nX]at*;omega
theorem UY{b:Array J}(d:h.heap[V]?=some (.cells b a (0,0)))(f:b.toList.take Y.size=Y.toList):Go.Sort.Holds id h V 0 Y:=by
 intro j c;refine⟨?_,by simp[World.frozen?,d]⟩
 have e:(b.toList.take Y.size)[j]?=Y.toList[j]?:=by rw[f]
 rw[nR c,mN,mN]at e;simp only[World.cell?,d,mx];simp only[Option.isSome_none,pd,if_false];rw[e,lO c,pV Y j c];rfl
theorem Vw{c:Nat×Nat}(F:Array J)(d:h.heap[V]?=some (.cells Y a c)):
  (grow (Ax id (E h b) V 0 F) Z).heap[V]?=some (.cells (O id 0 F Y) a c):=by
 have e:V<h.heap.size:=(kf.1 d).1;rw[heap_grow_old _ _ (by simpa using e)];simp[Ax,mapBlock,E,pz,d,onCells]
theorem UW(F:Array J):h.grownBy (grow (Ax id (E h b) V 0 F) Z) (some V):=by
 refine⟨rfl,rfl,rfl,Δ,λk a c=>?_⟩;rw[heap_grow_old _ _ (by simpa using a)]
 have:V≠k:=λe=>c (by rw[e])
 simp[Ax,mapBlock,E,pz,this]
theorem U4(a F:Array J)(h:F.size<=a.size):(O id 0 F a).toList.take F.size=F.toList:=by
 apply lR;intro j
 by_cases b:j<F.size
 ·rw[nR b,mN,mN];simp[O,b,show j<a.size by omega]
 ·rw[List.getElem?_take_eq_none Ω,lH Γ]
theorem ft:∀w,(isAgg 75).run Tryz.prog w=.ok true w:=Tryz.isAgg75
theorem gW:∀w,(Go.sizeOf 75).run Tryz.prog w=.ok 2 w:=Tryz.sizeOf75
theorem dk(a b c:Nat)(w:AA):CmpLays Tryz.prog 177 #[] EB 2 Jk a b c w:=λ_ _ _ _ x y=>Vk x y _
theorem Zp{l:List Du}(R:l.length<=1000)(S:0<l.length){v:J}(A:h.ownsRow V 75 2 v l.length (CD l)):
  Calls Tryz.prog 176 #[v,.func (.func 177) #[] #[]] h λe f=>e=.returned (.tuple #[])/\∃b,b.length=l.length/\(∀x,x∈b↔x∈l)/\(∀x,b[0]?=some x->∀y∈b,x.aZ<=y.aZ)/\
   f.ownsRow V 75 2 v l.length (CD b)/\h.grownBy f v.ownBlock:=by
 rcases A.2 with⟨_,T⟩|⟨g,o,U,rfl,B,i,C,D,p,E⟩
 ·omega
 have F:=(kf.1 i).1;have G:∀q h,(callFunc 177 q).run Tryz.prog h=.ok (.enter 177 q) h:=enters_of Tryz.func177 Φ rfl;have H:HoldsK EB 2 h g 0 l.toArray:=UY i (by rw[Rx,size_flatK];simpa using E);have r:=AnyQ.slices_SortFunc ja 2 ft gW EB (λ_=>rfl) (λx v s=>by simp[EB]at s;rcases s with rfl|rfl<;>rfl) Jk jk 177 #[] g 0 o l.toArray h G (dk g 0 l.toArray.size h) H F Γ;rw[show l.toArray.size=l.length by simp]at r;refine r.mono ?_;rintro e f ⟨rfl,a,n,W,⟨I,X,K⟩,L,rfl⟩
 have c:a.size=l.length:=by simpa using I
 have M:a.toList.Perm l:=by
  have d:(List.take l.length a.toList).Perm l:=by simpa using K
  rwa[lF (by simp[c])]at d
 refine⟨rfl,a.toList,by simpa using c,λx=>M.mem_iff,λx t y N=>?_,?_,UW _⟩
 ·obtain⟨j,k⟩:=mD N;have m:=(jX.1 k).1;rw[mZ]at m
  have u:a[0]! =x:=by
   rw[pV a 0 Ω];rw[mN,lO Ω]at t;exact kE t
  have w:a[j]! =y:=by
   rw[pV a j m];rw[mN,lO m]at k;exact kE k
  by_cases P:j=0
  ·subst P;rw[<-u, <-w];exact qS _
  ·have d:=L 0 j (jS _) Ω Ω;rw[u,w,Ny]at d;simp only[nX]at d;omega
 ·refine⟨by rw[Tq];simp[c],.inr ⟨g,o,_,rfl,B,Vw _ i,C,D,by simp[O,p],?_⟩⟩;have Q:(A2 EB 2 a).toList=CD a.toList:=Rx a.toList
  have z:(A2 EB 2 a).size=l.length*2:=by simp[c]
  rw[<-Q, <-z];exact U4 _ _ (by rw[z,p];omega)
end
