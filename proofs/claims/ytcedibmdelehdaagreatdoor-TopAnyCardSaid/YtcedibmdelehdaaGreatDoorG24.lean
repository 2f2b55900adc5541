/- Lemmas. -/
import Derived.Test.YtcedibmdelehdaaGreatDoorG20
import Derived.Deep.AppendSrc
import Derived.Laws.IdiomCopy
import Derived.Lib.AppendZerosOnto
import Derived.Lib.SliceRun
namespace Go.Proofs.YtcedibmdelehdaaGreatDoor
set_option maxRecDepth 100000
set_option maxHeartbeats 32000000
open Go.Builtin renaming zeroCells->J,append_->A5,nextslicecap->A7,copy_->Bs,clear_->BE
open Go.Proofs.Tryz renaming prog->O
open Go.Value renaming int->V,agg->AA,slice->A4
open Go.IntKind renaming i64->Ax,u64->BR
open Go.Region renaming wanted->A2
open Go renaming World->A3,run_storeCells_cells->A6,run_firstCells_some->Bk,Value->Bn,info_parts->Bx,TypeId->BA,run_underlying->BC,grownCap->BD,yielded->BL
open Option renaming some->Bd,none->BB
variable{f:Exit->Act->A3->Prop}{h:Act->A3->Prop}{E e:A3}{Y:Array Oper}{Z:Program}{a g i:Bn}{b:Oper}{c:Prop}{d:Act}
section
open Go Go.RowKit
theorem NK(k:A2 b (BL Y d.tmps)=true)(s x:Operand)(t j:BA)
  (l:b.op=.call {callee:=.builtin .append,args:=#[s,x],argTypes:=#[t,j]})(m:d.eval s=a)(n:d.eval x=g)
  (o:(A5 #[t,j] b.type #[a,g]).run Z E=.ok i e)(p:h (d.put b.dst i) e):if A2 b (BL Y d.tmps)=true then Oper.wp Z b d E h f else c:=by
 rw[jP k];unfold Oper.wp execOp;simp only[l,resolve,invoke,builtin,Sem.run_bind,Sem.run_pure,Result.andThen_ok,oN,pW,qe,m,n,o];exact p
theorem Qp(k:A2 b (BL Y d.tmps)=true)(s x:Operand)(t j:BA)
  (l:b.op=.call {callee:=.builtin .copy,args:=#[s,x],argTypes:=#[t,j]})(m:d.eval s=a)(n:d.eval x=g)
  (o:(Bs #[t,j] b.type #[a,g]).run Z E=.ok i e)(p:h (d.put b.dst i) e):if A2 b (BL Y d.tmps)=true then Oper.wp Z b d E h f else c:=by
 rw[jP k];unfold Oper.wp execOp;simp only[l,resolve,invoke,builtin,Sem.run_bind,Sem.run_pure,Result.andThen_ok,oN,pW,qe,m,n,o];exact p
abbrev tE:BA:=237
abbrev tS:BA:=158
def FJ:List Bn:=[V BR 0,V Ax 0,V Ax 0,V Ax 0]
theorem Oz{g:Nat}{a:List Bn}(b:Aa E g tE a){j:Nat}(c:j<a.length):(E.cell? ⟨g,j,BB⟩).isSome=true:=by
 rw[b.cell?,jK c];rfl
theorem Vh(w:A3)(f:BA)(g i c m:Nat)(a:Addr)(d:Nat)(k b:List Bn)(l:Aa w g tE k)(v:k.length=c*4)(o:i+m<=c)(p:b.length=m*4)(q:∀j u,b[j]?=Bd u->w.cell? (a.add j)=Bd u)(r:∀u∈b,u.oneCell'=true):
  (A5 #[tS,tS] f #[A4 (Bd ⟨g,0,BB⟩) i c,A4 (Bd a) m d]).run O w=.ok (A4 (Bd ⟨g,0,BB⟩) (i+m) c) (w.setCells g (i*4) b):=by
 obtain⟨n,s,x,e,y⟩:=Bx GM;have t:Src O n.size tS (A4 (Bd a) m d) m b w:=Src.ofSlice w kX a m d b (by rw[e];exact p) q r;have h:=run_append_room_src (P:=O) (w:=w) tS tS f tE n kX s g 0 i c _ m b t o (λj z=>by rw[e,lN];exact Oz l Ω) (λj _=>l.v _);rw[e,lN]at h;exact h
theorem Mj(w:A3)(i:BA)(g o d k n:Nat)(a:Addr)(c e:Nat)(f b:List Bn)(h:Aa w g tE f)(l:Nat.min c d=n)(y:o+n*4<=f.length)(m:b.length=n*4)(p:∀j u,b[j]?=Bd u->w.cell? (a.add j)=Bd u)(q:∀u∈b,u.oneCell'=true):
  (Bs #[tS,tS] i #[A4 (Bd ⟨g,o,BB⟩) d k,A4 (Bd a) c e]).run O w=.ok (goInt n) (w.setCells g o b):=by
 obtain⟨z,r,A,s,B⟩:=Bx GM;have t:=Bk (P:=O) (w:=w) 4 n a c e b m p;have v:=A6 (P:=O) g o b 0 w (λj C=>by rw[kU];exact Oz h Ω) (λj _=>by rw[kU];exact h.v _) q;have x:O.underlying tS=Bd (.slice tE):=kX;simp[Bs,BC x,Builtin.lenOf,sizeOf,typeInfo,r,s,l,t,v]
theorem Vo(w:A3)(e:BA)(g o c:Nat)(a:List Bn)(b:Aa w g tE a)(m:o+4<=a.length):
  (BE #[tS] e #[A4 (Bd ⟨g,o,BB⟩) 1 c]).run O w=.ok (.tuple #[]) (w.setCells g o FJ):=by
 obtain⟨n,f,h,p,q⟩:=Bx GM;have d:=A6 (P:=O) g o FJ 0 w (λj i=>by rw[kU];exact Oz b (by simp[FJ]at i;omega)) (λj _=>by rw[kU];exact b.v _) (by simp[FJ,Value.oneCell']);have k:O.underlying tS=Bd (.slice tE):=kX;have l:(J (AA #[V BR 0,V Ax 0,V Ax 0,V Ax 0]).cells 1).toList=FJ:=Φ;simp only[kU]at d;simp[BE,BC k,zeroValue,typeInfo,f,h,l,d]
theorem Vj(n:Nat):(J (AA #[V BR 0,V Ax 0,V Ax 0,V Ax 0]).cells n).size=n*4:=by simp[J,Value.cells]
theorem U7(w:A3)(m:BA)(g i c k:Nat)(a:List Bn)(s:Aa w g tE a)(B:i*4<=a.length)(b:0<k)(C:i+k<=1000)(t:c<i+k)(D:c<=255):
  ∃(d:Nat) (n:List Bn) (e:A3),(A5 #[tS,3] m #[A4 (Bd ⟨g,0,BB⟩) i c,V Ax k]).run O w=.ok (A4 (Bd ⟨w.heap.size,0,BB⟩) (i+k) d) e/\
   Aa e w.heap.size tE (a.take (i*4)++n)/\i+k<=d/\d<=maxLen/\(a.take (i*4)++n).length=d*4/\w.grownBy e BB:=by
 obtain⟨o,u,x,p,q⟩:=Bx GM
 have y:(Builtin.firstCells o.size i (A4 (Bd ⟨g,0,BB⟩) i c)).run O w.drew=.ok (a.take (i*4)).toArray w.drew:=by
  rw[p];refine Bk (P:=O) (w:=w.drew) 4 i ⟨g,0,BB⟩ i c (a.take (i*4)) (by rw[jW];omega) (λj v f=>?_)
  have z:j<i*4:=by have:=(jL.1 f).1;rw[jW]at this;omega
  rw[mE,jP z]at f;have l:=s.cU.ap f;unfold Addr.add
  by_cases b:j=0
  ·rw[jP b];rw[b]at l;exact l
  ·rw[jN b];simpa using l
 have E:A7 (i+k) c<=1000:=by
  unfold A7
  by_cases r:i+k>2*c
  ·rw[jP r];omega
  ·rw[jN r,jP (show c<256 by omega)];omega
 have h:=Lib.run_append_grow_zeros (P:=O) w tS 3 m tE o _ Ax Ax kX kj u x (Bd ⟨g,0,BB⟩) i c (a.take (i*4)) y k b (by rw[p];omega) t Ω (by rw[q];omega) (by rw[q];omega);refine⟨BD w (i+k) c tE,(J (AA #[V BR 0,V Ax 0,V Ax 0,V Ax 0]).cells k).toList++(J (AA #[V BR 0,V Ax 0,V Ax 0,V Ax 0]).cells (BD w (i+k) c tE - (i+k))).toList,_,h,?_,grownCap_ge _ _ _ _,grownCap_le_maxLen _ _ _ _ (by unfold maxLen;omega),?_,?_⟩
 ·have A:(a.take (i*4)).toArray++J (AA #[V BR 0,V Ax 0,V Ax 0,V Ax 0]).cells k++J (AA #[V BR 0,V Ax 0,V Ax 0,V Ax 0]).cells (BD w (i+k) c tE - (i+k))=(a.take (i*4)++((J (AA #[V BR 0,V Ax 0,V Ax 0,V Ax 0]).cells k).toList++(J (AA #[V BR 0,V Ax 0,V Ax 0,V Ax 0]).cells (BD w (i+k) c tE - (i+k))).toList)).toArray:=by
   apply Array.ext';simp
  rw[A];exact Aa.new w.drew tE _
 ·have F:=grownCap_ge w (i+k) c tE;simp only[jI,mO,Vj,jW];omega
 ·exact Ab (AZ w 1 BB) (World.grownBy_alloc _ _ BB)
end
