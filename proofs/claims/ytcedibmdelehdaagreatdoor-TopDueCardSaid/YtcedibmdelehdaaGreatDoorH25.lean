/- Lemmas. -/
import Derived.Test.YtcedibmdelehdaaGreatDoorH20
import Derived.Deep.AppendSrc
import Derived.Laws.IdiomCopy
import Derived.Lib.AppendZerosOnto
import Derived.Lib.SliceRun
namespace Go.Proofs.YtcedibmdelehdaaGreatDoor
set_option maxRecDepth 100000
set_option maxHeartbeats 32000000
open Go.Builtin renaming zeroCells->J,append_->Bd,nextslicecap->Bn,copy_->BB,clear_->BX
open Go.Proofs.Tryz renaming prog->O
open Go.Value renaming int->V,agg->AA,slice->A4
open Go.IntKind renaming i64->Ax,u64->B1
open Go.Region renaming wanted->A2
open Go renaming World->A3,run_storeCells_cells->Bk,run_firstCells_some->Bx,Value->BA,info_parts->BC,TypeId->BD,run_underlying->BL,grownCap->BR,yielded->B0
open Option renaming some->Bs,none->BE
variable{h:Exit->Act->A3->Prop}{E:Act->A3->Prop}{Y f:A3}{Z:Array Oper}{a:Program}{b g i:BA}{c:Oper}{d:Prop}{e:Act}
section
open Go Go.RowKit
theorem NB(k:A2 c (B0 Z e.tmps)=true)(s x:Operand)(t j:BD)
  (l:c.op=.call {callee:=.builtin .append,args:=#[s,x],argTypes:=#[t,j]})(m:e.eval s=b)(n:e.eval x=g)
  (o:(Bd #[t,j] c.type #[b,g]).run a Y=.ok i f)(p:E (e.put c.dst i) f):if A2 c (B0 Z e.tmps)=true then Oper.wp a c e Y E h else d:=by
 rw[ke k];unfold Oper.wp execOp;simp only[l,resolve,invoke,builtin,Sem.run_bind,Sem.run_pure,Result.andThen_ok,pD,qy,qH,m,n,o];exact p
theorem Qh(k:A2 c (B0 Z e.tmps)=true)(s x:Operand)(t j:BD)
  (l:c.op=.call {callee:=.builtin .copy,args:=#[s,x],argTypes:=#[t,j]})(m:e.eval s=b)(n:e.eval x=g)
  (o:(BB #[t,j] c.type #[b,g]).run a Y=.ok i f)(p:E (e.put c.dst i) f):if A2 c (B0 Z e.tmps)=true then Oper.wp a c e Y E h else d:=by
 rw[ke k];unfold Oper.wp execOp;simp only[l,resolve,invoke,builtin,Sem.run_bind,Sem.run_pure,Result.andThen_ok,pD,qy,qH,m,n,o];exact p
abbrev tE:BD:=237
abbrev tS:BD:=158
def FE:List BA:=[V B1 0,V Ax 0,V Ax 0,V Ax 0]
theorem Ol{g:Nat}{a:List BA}(b:Aa Y g tE a){j:Nat}(c:j<a.length):(Y.cell? ⟨g,j,BE⟩).isSome=true:=by
 rw[b.cell?,jW c];rfl
theorem U8(w:A3)(f:BD)(g i c m:Nat)(a:Addr)(d:Nat)(k b:List BA)(l:Aa w g tE k)(v:k.length=c*4)(o:i+m<=c)(p:b.length=m*4)(q:∀j u,b[j]?=Bs u->w.cell? (a.add j)=Bs u)(r:∀u∈b,u.oneCell'=true):
  (Bd #[tS,tS] f #[A4 (Bs ⟨g,0,BE⟩) i c,A4 (Bs a) m d]).run O w=.ok (A4 (Bs ⟨g,0,BE⟩) (i+m) c) (w.setCells g (i*4) b):=by
 obtain⟨n,s,x,e,y⟩:=BC Gy;have t:Src O n.size tS (A4 (Bs a) m d) m b w:=Src.ofSlice w lG a m d b (by rw[e];exact p) q r;have h:=run_append_room_src (P:=O) (w:=w) tS tS f tE n lG s g 0 i c _ m b t o (λj z=>by rw[e,mx];exact Ol l Ω) (λj _=>l.v _);rw[e,mx]at h;exact h
theorem LQ(w:A3)(i:BD)(g o d k n:Nat)(a:Addr)(c e:Nat)(f b:List BA)(h:Aa w g tE f)(l:Nat.min c d=n)(y:o+n*4<=f.length)(m:b.length=n*4)(p:∀j u,b[j]?=Bs u->w.cell? (a.add j)=Bs u)(q:∀u∈b,u.oneCell'=true):
  (BB #[tS,tS] i #[A4 (Bs ⟨g,o,BE⟩) d k,A4 (Bs a) c e]).run O w=.ok (goInt n) (w.setCells g o b):=by
 obtain⟨z,r,A,s,B⟩:=BC Gy;have t:=Bx (P:=O) (w:=w) 4 n a c e b m p;have v:=Bk (P:=O) g o b 0 w (λj C=>by rw[lD];exact Ol h Ω) (λj _=>by rw[lD];exact h.v _) q;have x:O.underlying tS=Bs (.slice tE):=lG;simp[BB,BL x,Builtin.lenOf,sizeOf,typeInfo,r,s,l,t,v]
theorem Vf(w:A3)(e:BD)(g o c:Nat)(a:List BA)(b:Aa w g tE a)(m:o+4<=a.length):
  (BX #[tS] e #[A4 (Bs ⟨g,o,BE⟩) 1 c]).run O w=.ok (.tuple #[]) (w.setCells g o FE):=by
 obtain⟨n,f,h,p,q⟩:=BC Gy;have d:=Bk (P:=O) g o FE 0 w (λj i=>by rw[lD];exact Ol b (by simp[FE]at i;omega)) (λj _=>by rw[lD];exact b.v _) (by simp[FE,Value.oneCell']);have k:O.underlying tS=Bs (.slice tE):=lG;have l:(J (AA #[V B1 0,V Ax 0,V Ax 0,V Ax 0]).cells 1).toList=FE:=Φ;simp only[lD]at d;simp[BX,BL k,zeroValue,typeInfo,f,h,l,d]
theorem Vb(n:Nat):(J (AA #[V B1 0,V Ax 0,V Ax 0,V Ax 0]).cells n).size=n*4:=by simp[J,Value.cells]
theorem UV(w:A3)(m:BD)(g i c k:Nat)(a:List BA)(s:Aa w g tE a)(B:i*4<=a.length)(b:0<k)(C:i+k<=1000)(t:c<i+k)(D:c<=255):
  ∃(d:Nat) (n:List BA) (e:A3),(Bd #[tS,3] m #[A4 (Bs ⟨g,0,BE⟩) i c,V Ax k]).run O w=.ok (A4 (Bs ⟨w.heap.size,0,BE⟩) (i+k) d) e/\
   Aa e w.heap.size tE (a.take (i*4)++n)/\i+k<=d/\d<=maxLen/\(a.take (i*4)++n).length=d*4/\w.grownBy e BE:=by
 obtain⟨o,u,x,p,q⟩:=BC Gy
 have y:(Builtin.firstCells o.size i (A4 (Bs ⟨g,0,BE⟩) i c)).run O w.drew=.ok (a.take (i*4)).toArray w.drew:=by
  rw[p];refine Bx (P:=O) (w:=w.drew) 4 i ⟨g,0,BE⟩ i c (a.take (i*4)) (by rw[kA];omega) (λj v f=>?_)
  have z:j<i*4:=by have:=(jX.1 f).1;rw[kA]at this;omega
  rw[ng,ke z]at f;have l:=s.cQ.aq f;unfold Addr.add
  by_cases b:j=0
  ·rw[ke b];rw[b]at l;exact l
  ·rw[j7 b];simpa using l
 have E:Bn (i+k) c<=1000:=by
  unfold Bn
  by_cases r:i+k>2*c
  ·rw[ke r];omega
  ·rw[j7 r,ke (show c<256 by omega)];omega
 have h:=Lib.run_append_grow_zeros (P:=O) w tS 3 m tE o _ Ax Ax lG kr u x (Bs ⟨g,0,BE⟩) i c (a.take (i*4)) y k b (by rw[p];omega) t Ω (by rw[q];omega) (by rw[q];omega);refine⟨BR w (i+k) c tE,(J (AA #[V B1 0,V Ax 0,V Ax 0,V Ax 0]).cells k).toList++(J (AA #[V B1 0,V Ax 0,V Ax 0,V Ax 0]).cells (BR w (i+k) c tE - (i+k))).toList,_,h,?_,grownCap_ge _ _ _ _,grownCap_le_maxLen _ _ _ _ (by unfold maxLen;omega),?_,?_⟩
 ·have A:(a.take (i*4)).toArray++J (AA #[V B1 0,V Ax 0,V Ax 0,V Ax 0]).cells k++J (AA #[V B1 0,V Ax 0,V Ax 0,V Ax 0]).cells (BR w (i+k) c tE - (i+k))=(a.take (i*4)++((J (AA #[V B1 0,V Ax 0,V Ax 0,V Ax 0]).cells k).toList++(J (AA #[V B1 0,V Ax 0,V Ax 0,V Ax 0]).cells (BR w (i+k) c tE - (i+k))).toList)).toArray:=by
   apply Array.ext';simp
  rw[A];exact Aa.new w.drew tE _
 ·have F:=grownCap_ge w (i+k) c tE;simp only[jU,mZ,Vb,kA];omega
 ·exact Ae (AS w 1 BE) (World.grownBy_alloc _ _ BE)
end
