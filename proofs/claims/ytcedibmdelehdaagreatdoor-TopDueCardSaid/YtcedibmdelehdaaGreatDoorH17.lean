/- Lemmas. -/
import Derived.Test.YtcedibmdelehdaaGreatDoorH07
import Derived.Test.YtcedibmdelehdaaGreatDoorH13
import Derived.OpenShut
namespace Go.Proofs.YtcedibmdelehdaaGreatDoor
set_option maxRecDepth 100000
set_option maxHeartbeats 32000000
open Go.IntKind renaming u64->E
open BitVec renaming ofNat->J
section
open Go.RowKit Go.WideShapes Go.ChangeShapes Go.ChangeAt
def Ay(x:BitVec 64)(b:Nat):Nat:=x.toNat/2^(64 - b)
theorem Ky(x:BitVec 64)(b:Nat)(h:b<=30):Ev x b=Ay x b:=by
 unfold Ev Ay
 by_cases a:b=0
 ·subst a;rw[ke Ω];have:=x.isLt;rw[nw (by simpa using this)];rfl
 ·rw[j7 Ω,show((64:Int) - b).toNat=64 - b by omega];unfold U
  norm_cast
theorem JL(x:BitVec 64)(b:Nat)(h:b<=64):Ay x b<2^b:=by
 unfold Ay;apply oq;rw[<-qR,show 64 - b+b=64 by omega];exact x.isLt
theorem Ox(x:BitVec 64)(b k:Nat)(h:b+k<=64):Ay x (b+k)/2^k=Ay x b:=by
 unfold Ay;rw[n7, <-qR]
 congr 2
 omega
section
variable {H:Type} {enc:TypeId×Value->H} {r:Reach} {b0:Nat}
end
end
section
open Go.RowKit
def hb(n:BitVec 64)(x:Nat):BitVec 64:=(n^^^J 64 x)*1099511628211#64
def Ik(n:BitVec 64)(a:List Nat):BitVec 64:=a.foldl hb n
def Lj(s:BitVec 64):BitVec 64:=s^^^14695981039346656037#64
def CM(s:BitVec 64)(a:List Nat):BitVec 64:=PY (Ik (Lj s) a+J 64 a.length)
theorem iv(x:Nat)(h:x<256):(x:Int)=U (J 64 x):=by
 unfold U;rw[pY];omega
theorem iN(n:BitVec 64)(x:Nat)(h:x<256):E.wrap (bits BinOp.xor E (U n) (x:Int)*1099511628211)=U (hb n x):=by
 rw[iv x h,Nc];exact Py _ 1099511628211#64
theorem iq(s:BitVec 64):bits BinOp.xor E (U s) 14695981039346656037=U (Lj s):=Nc s 14695981039346656037#64
theorem ah(n:BitVec 64)(x:Nat)(h:x<256)(w:World):
  Calls Tryz.prog 163 #[.int E (U n),.int .u8 (x:Int)] w λe a=>e=.returned (.int E (U (hb n x)))/\w=a:=by
 have b:=J2 n;have c:=Ld n;have e:=iN n x h
 go_enter Tryz.func163,Tryz.ntmps163
 go_wp2;go_ret;exact⟨rfl,rfl⟩
theorem ZI(a:List Nat)(k:Nat)(h:k<a.length):a.take (k+1)=a.take k++[a.getD k 0]:=by
 rw[qp,jW h,lp,jW h];rfl
theorem WS(n:BitVec 64)(a:List Nat)(k:Nat)(h:k<a.length):Ik n (a.take (k+1))=hb (Ik n (a.take k)) (a.getD k 0):=by
 rw[ZI a k h,Ik,qn];rfl
theorem cN(n:BitVec 64)(d:List Nat)(a:Option Addr)(c:Nat)(w:World)(j:∀x∈d,x<256)(g:Ai w 1 (.slice a d.length c) d.length (Ao d)):
  Calls Tryz.prog 162 #[.int E (U n),.slice a d.length c,.func (.func 163) #[] #[]] w λe p=>e=.returned (.int E (U (Ik n d)))/\w.grownBy p none:=by
 have q:=g.2.1;unfold maxLen at q;have r:=zh g;have t:=zh (XE d j);clear g j
 go_enter Tryz.func162,Tryz.ntmps162
 go_wp2
 go_loopw [0,11] (λs i wr=>∃k:Nat,k<=d.length/\i=.int .i64 k/\s=.int E (U (Ik n (d.take k)))/\w.grownBy wr none) (λ_ i _=>d.length - (intOf i).toNat)
 case atStart=>exact⟨0,Ω,rfl,rfl,by first|exact Bf _ _|exact World.grownBy_alloc _ _ _⟩
 case round=>
  obtain⟨k,A,rfl,rfl,f⟩:=hrel
  by_cases l:k<d.length
  ·obtain⟨b,o,rfl,m⟩:=r.o.aZ Ω;have h:=m k _ (LX d k l)
   have B:b<w.heap.size:=by
    by_cases u:b<w.heap.size
    ·exact u
    ·have:w.heap[b]?=none:=lI Ω;simp[World.cell?,this]at h
   have C:wr.cell? ⟨b,o+k,none⟩=some (.int .u8 ((d.getD k 0:Nat):Int)):=f.cell h Δ;have v:=zh (WS n d k l);have y:=zh f;have z:=t.o k;clear m h f;generalize d.getD k 0=x at*;go_wp2_with fail;refine(ah _ x z _).mono ?_;rintro e D ⟨rfl,rfl⟩;go_wp2
   go_roundw
   case rel=>exact⟨k+1,Ω,by go_num,by rw[v.o],y.o⟩
   case measure=>simp[intOf];omega
  ·obtain rfl:k=d.length:=by omega
   rw[mI];go_wp2;go_ret;exact⟨rfl,f⟩
theorem ZY(s:BitVec 64)(b:List Nat)(a:Option Addr)(c:Nat)(w:World)(f:∀x∈b,x<256)(d:Ai w 1 (.slice a b.length c) b.length (Ao b)):
  Calls Tryz.prog 108 #[.int E (U s),.slice a b.length c] w λe h=>e=.returned (.int E (U (CM s b)))/\w.grownBy h none:=by
 have i:=d.2.1;unfold maxLen at i;have n:=J2 s;have o:=Ld s;have p:=iq s;have j:=zh (cN (Lj s) b a c · f);have k:=zh d
 have g:(b.length:Int)=U (J 64 b.length):=by
  unfold U;rw[pY];omega
 have q:E.wrap (U (Ik (Lj s) b)+(b.length:Int))=U (Ik (Lj s) b+J 64 b.length):=by
  rw[g,iL]
 clear d f g
 go_enter Tryz.func108,Tryz.ntmps108
 go_wp2_with fail;refine(j.o _ k.o).mono ?_;rintro e r ⟨rfl,l⟩;go_wp2_with fail;refine(Vs _ _).mono ?_;rintro e t ⟨rfl,m⟩;go_wp2;go_ret;exact⟨rfl,Ae l m⟩
end
