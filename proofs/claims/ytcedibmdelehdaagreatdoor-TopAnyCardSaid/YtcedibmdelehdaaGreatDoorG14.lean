/- Lemmas. -/
import Derived.Test.YtcedibmdelehdaaGreatDoorG06
import Derived.Test.YtcedibmdelehdaaGreatDoorG09
import Derived.Laws.Rows
import Derived.Laws.Tables
import Derived.StillTailTactics
namespace Go.Proofs.YtcedibmdelehdaaGreatDoor
set_option maxRecDepth 100000
set_option maxHeartbeats 32000000
open Go.World renaming grownBy_alloc->E,size_alloc->O
open Go.Obj renaming cells->J
open Go.Value renaming bool->V,int->Bk,agg->Bn
open Go renaming wpList_store_row->Ax,wpList_load_row->AA,World->A4,results_cell_row->A5,bodyPost_ret->A7
open Option renaming none->A2,some->Bd
open List renaming replicate->A3
open Go.Proofs.Tryz renaming prog->A6
variable{f:List Bool}{h:A4}{Y:Nat}
section
open Go.RowKit
def AY(a:List Bool):Array Value:=(a.map V).toArray
theorem DY(a:List Bool):(AY a).size=a.length:=by simp[AY]
theorem MJ(a:List Bool):(AY a).all (·.oneCell')=true:=by simp[AY,Value.oneCell']
def Bl(w:A4)(b:Nat)(a:List Bool):Prop:=w.heap[b]?=Bd (J (AY a) 202 (0,0))
theorem Bl.y(a:Bl h Y f):Aa h Y 202 (f.map V):=a
def Bc(x:BitVec 64):List Bool:=(List.range 64).map x.getLsbD
theorem DW(x:BitVec 64):(Bc x).length=64:=by simp[Bc]
theorem Ip(x:BitVec 64)(i:Nat)(h:i<64):(Bc x)[i]?=Bd (x.getLsbD i):=by simp[Bc,h]
theorem Gs:(A6.info? 202).map (·.size)=Bd 64:=Φ
theorem TS(x:BitVec 64)(i:Nat):U (x>>>i)%2=if x.getLsbD i then 1 else 0:=by
 unfold U
 have h:x.getLsbD i=decide (x.toNat/2^i%2=1):=by
  rw[BitVec.getLsbD,Nat.testBit_eq_decide_div_mod_eq]
 rw[nj,mX,h];have a:x.toNat/2^i%2=0\/x.toNat/2^i%2=1:=Ω
 rcases a with a|a
 ·rw[jN (by simp[a])]
  exact_mod_cast a
 ·rw[jP (by simp[a])]
  exact_mod_cast a
theorem SX(x:BitVec 64)(i:Nat):U (x>>>i)/2=U (x>>>(i+1)):=by
 have:=Nk (x>>>i) 1;rw[show(2:Int)^1=2 from rfl]at this;rw[this, <-BitVec.shiftRight_add]
theorem Bl.aV(a:Bl h Y f)(k:Nat)(v:Bool):Bl (h.setCell ⟨Y,k,A2⟩ (V v)) Y (f.set k v):=by
 have:=a.y.setCell k (V v);rw[<-qg]at this;exact this
theorem Bl.aI{bs cs:List Bool}(a:Bl h Y bs):Bl (h.setRow Y (AY cs)) Y cs:=Go.setRow_heap h Y _ _ _ _ a
theorem Ma(w:A4)(b:Nat)(a:Array Value):w.grownBy (w.setRow b a) (Bd b):=
 ⟨rfl,rfl,rfl,by simp[World.setRow],λk _ c=>Go.setRow_other w b k a (λe=>c (by rw[e]))⟩
theorem Jy:A6.underlying 202=Bd (.array 64 4):=Φ
theorem ie(x:BitVec 64)(w:A4):
  Calls A6 104 #[Bk .u64 (U x)] w λe y=>e=.returned (Bn (AY (Bc x)))/\w.grownBy y A2:=by
 have F:=Ic x;have G:=IL x
 go_enter Tryz.func104,Tryz.ntmps104
 go_wp2
 change Code.wp _ _ _ _ ((w.alloc (J (AY (A3 64 false)) 202)).alloc (J (AY (A3 64 false)) 202))
 obtain⟨Z,g⟩:∃Z:List Bool,A3 64 false=Z:=⟨_,rfl⟩
 have o:Z.length=64:=by rw[<-g];simp
 rw[g];obtain⟨h,b⟩:=Af ((w.alloc (J (AY Z) 202)).alloc (J (AY Z) 202))
 have q:Bl h w.heap.size Z:=by rw[<-b];exact(Aa.new w 202 (Z.map V)).alloc _
 have r:Bl h (w.heap.size+1) Z:=by
  rw[<-b];have:=Aa.new (w.alloc (J (AY Z) 202)) 202 (Z.map V);rw[O]at this;exact this
 have s:w.grownBy h A2:=by rw[<-b];exact Ab (E w _ A2) (E _ _ A2)
 rw[b];have z:=zh q;have A:=zh r;have B:=zh s;clear b q r s g;have c:=zh o;clear o
 go_loopw [0,4] (λn i wr=>∃k:Nat,k<=64/\i=Bk .i64 k/\n=Bk .u64 (U (x>>>k))/\Bl wr (w.heap.size+1) (BU x.getLsbD k++Z.drop k)/\Bl wr w.heap.size Z/\w.grownBy wr A2) (λ_ i _=>64 - (intOf i).toNat)
 case atStart=>exact⟨0,Ω,rfl,Δ,by simpa[BU]using A.o,z.o,B.o⟩
 case round=>
  obtain⟨k,H,rfl,rfl,a,d,f⟩:=hrel;have I:=Ic (x>>>k);have K:=IL (x>>>k)
  by_cases C:k<64
  ·have t:∃v,wr.cell? ⟨w.heap.size+1,k,A2⟩=Bd v:=by
    have:=a.y.cell? k;rw[lh,jK (by simp[EU,c.o];omega)]at this;exact⟨_,this⟩
   obtain⟨v,t⟩:=t;have L:=a.y.v k
   have M:(U (x>>>k)%2==1)=x.getLsbD k:=by
    rw[TS]
    cases x.getLsbD k<;>rfl
   have N:=SX x k;have j:=(a.aV k (x.getLsbD k));rw[Ml _ _ _ (by rw[c.o];exact C)]at j;have D:=zh j;have l:=zh (d.y.fe (p:=⟨w.heap.size+1,k,A2⟩) Δ (V (x.getLsbD k)));have m:=zh (Br f (Ao wr ⟨w.heap.size+1,k,A2⟩ (V (x.getLsbD k))) Δ);clear j a d f;go_wp2
   go_roundw
   case rel=>exact⟨k+1,Ω,by go_num,rfl,D.o,l.o,m.o⟩
   case measure=>simp[intOf];omega
  ·obtain rfl:k=64:=by omega
   have e:BU x.getLsbD 64++Z.drop 64=Bc x:=by rw[lR (by rw[c.o];exact jF _),lw];rfl
   rw[e]at a;have l:=zh a;have u:=zh d;have m:=zh f;clear a d f e
   go_wp2_with (first
    |refine AA rfl _ _ rfl (w.heap.size+1) rfl _ _ _ _ l.o Jy rfl (by rw[DY,DW];exact Gs) ?_
    |refine Ax rfl _ _ _ rfl w.heap.size (AY (Bc x)) rfl rfl _ _ u.o (by rw[DY,DW];exact Gs) (by rw[DY,DY,DW,c.o]) (MJ _) ?_)
   refine A7 (A5 rfl _ _ w.heap.size _ _ _ _ rfl (u.o.aI (cs:=Bc x)) Jy rfl (by rw[DY,DW];exact Gs)) rfl ?_;exact⟨rfl,Br m.o (Ma _ _ _) (jF _)⟩
theorem K0(w:A4)(o:Obj):(w.alloc o).heap[w.heap.size]?=Bd o:=by
 show(w.heap.push _)[w.heap.size]?=_;simp
theorem PF(w:A4)(A B:Obj):((w.alloc A).alloc B).heap[w.heap.size]?=Bd A:=(Below.heap_alloc (w.alloc A) B w.heap.size Δ).trans (K0 w A)
theorem PI(w:A4)(A B C:Obj):(((w.alloc A).alloc B).alloc C).heap[w.heap.size+2]?=Bd C:=by
 have:=K0 ((w.alloc A).alloc B) C
 rwa[O,O]at this
def CN:List Bool:=A3 64 false
theorem J2:CN.length=64:=by simp[CN]
theorem Bl.at(a:Bl h Y f)(k:Nat)(v:Bool)(b:f[k]?=Bd v):h.cell? ⟨Y,k,A2⟩=Bd (V v):=
 a.y.ap (j:=k) (v:=V v) (by rw[lh,b];rfl)
end
section
open Go.RowKit
theorem V8(x:BitVec 64)(w:A4):
  Calls A6 102 #[Bn (AY (Bc x))] w λe o=>e=.returned (Bk .u64 (U x))/\w.grownBy o A2:=by
 go_enter Tryz.func102,Tryz.ntmps102
 go_wp2;obtain⟨f,b⟩:=Af (w.alloc (J (AY (Bc x)) 202))
 have g:Bl f w.heap.size (Bc x):=by rw[<-b];exact Aa.new w _ _
 have h:w.grownBy f A2:=by rw[<-b];exact E w _ A2
 rw[b];have p:=zh g;have q:=zh h;clear b g h
 go_loop [3,4] (λn i=>∃k:Nat,k<=64/\i=Bk .i64 ((k:Int) - 1)/\n=Bk .u64 (U (x>>>k))) (λ_ i=>(intOf i+1).toNat)
 case atStart=>exact⟨64,Ω,rfl,by rw[gy x 64 Ω];rfl⟩
 case round=>
  obtain⟨k,u,rfl,rfl⟩:=hrel
  cases k with
  |zero=>
   go_wp2;go_ret;exact⟨Δ,q.o⟩
  |succ j=>
   have l:=p.o.y.ap (j:=j) (v:=V (x.getLsbD j)) (by rw[lh,Ip x j Ω];rfl);have r:=TS x j;have s:=SX x j;have y:=Ic (x>>>(j+1));have m:=IL (x>>>j);have a:U (x>>>j)=U (x>>>(j+1))*2+if x.getLsbD j then 1 else 0:=Ω;rw[show(((j+1:Nat):Int) - 1)=(j:Int) by omega];clear r s
   cases c:x.getLsbD j
   ·rw[c]at a l;simp only[om,if_false,Int.add_zero]at a;have t:U (x>>>(j+1))*2<=18446744073709551615:=Ω;have d:=zh a;clear a c m;go_wp2
    go_round
    case rel=>exact⟨j,Ω,rfl,by rw[d.o]⟩
    case measure=>simp[intOf]
   ·rw[c]at a l;simp only[qt]at a;have t:U (x>>>(j+1))*2+1<=18446744073709551615:=Ω;have d:=zh a;clear a c m;go_wp2
    go_round
    case rel=>exact⟨j,Ω,rfl,by rw[d.o]⟩
    case measure=>simp[intOf]
end
section
open Go.RowKit
theorem Bl.alloc(a:Bl h Y f)(o:Obj):Bl (h.alloc o) Y f:=a.y.alloc o
theorem Bl.ey{a:A4}{g:Nat}(b:Bl h Y f)(c:h.grownBy a (Bd g))(d:Y≠g):Bl a Y f:=by
 have i:Y<h.heap.size:=(jR.1 b).1;exact(c.block Y i (by simpa using λe=>d e)).trans b
theorem Ug(p:Nat)(x:BitVec 64)(k:Nat)(_:k<64):(Cr p x).getLsbD k=(x.getLsbD k !=x.getLsbD (k+p)):=by
 unfold Cr;rw[BitVec.getLsbD_xor,pw,pj p k]
theorem gu(p:Nat)(x:BitVec 64)(b:p<=64):BU (Cr p x).getLsbD (64 - p)++(Bc x).drop (64 - p)=Bc (Cr p x):=by
 apply lQ;intro i
 by_cases h:i<64 - p
 ·rw[kL (by rw[EU];exact h),Ip _ _ Ω];simp[BU,h]
 ·rw[kQ (by rw[EU];omega),EU,lL]
  by_cases a:i<64
  ·rw[show 64 - p+(i - (64 - p))=i by omega,Ip _ _ a,Ip _ _ a,Ug p x i a,BitVec.getLsbD_of_ge x (i+p) Ω];simp
  ·rw[lF (by rw[DW];omega),lF (by rw[DW];omega)]
theorem cM(x:BitVec 64)(p:Nat)(K:1<=p)(L:p<=63)(w:A4):
  Calls A6 161 #[Bn (AY (Bc x)),Bk .i64 p] w λe F=>e=.returned (Bn (AY (Bc (Cr p x))))/\w.grownBy F A2:=by
 go_enter Tryz.func161,Tryz.ntmps161
 go_wp2_with (first
  |refine AA rfl _ _ rfl w.heap.size rfl 202 (AY (Bc x)) (0,0) _ (PF w _ _) Jy rfl (by rw[DY,DW];exact Gs) ?_
  |refine Ax rfl _ _ _ rfl (w.heap.size+2) (AY (Bc x)) rfl rfl 202 (AY CN) (PI w _ _ (J (AY CN) 202)) (by rw[DY,DW];exact Gs) (by rw[DY,DY,DW,J2]) (MJ _) ?_)
 change Code.wp _ _ _ _ ((((w.alloc (J (AY (Bc x)) 202)).alloc (J (AY CN) 202)).alloc (J (AY CN) 202)).setRow (w.heap.size+2) (AY (Bc x)))
 obtain⟨g,c⟩:=Af ((((w.alloc (J (AY (Bc x)) 202)).alloc (J (AY CN) 202)).alloc (J (AY CN) 202)).setRow (w.heap.size+2) (AY (Bc x)));have a:w.grownBy (((w.alloc (J (AY (Bc x)) 202)).alloc (J (AY CN) 202)).alloc (J (AY CN) 202)) A2:=Ab (Ab (E _ _ _) (E _ _ _)) (E _ _ _);have h:=Ma (((w.alloc (J (AY (Bc x)) 202)).alloc (J (AY CN) 202)).alloc (J (AY CN) 202)) (w.heap.size+2) (AY (Bc x))
 have q:Bl g (w.heap.size+2) (Bc x):=by
  rw[<-c];exact Bl.aI (cs:=Bc x) (bs:=CN) (PI w _ _ _)
 have r:Bl g w.heap.size (Bc x):=by
  rw[<-c];exact Bl.ey (Bl.alloc (PF w _ _) _) h Ω
 have s:Bl g (w.heap.size+1) CN:=by
  rw[<-c];refine Bl.ey (Bl.alloc ?_ _) h Ω;have:=K0 (w.alloc (J (AY (Bc x)) 202)) (J (AY CN) 202);rw[O]at this;exact this
 have t:w.grownBy g A2:=by rw[<-c];exact Br a h Ω
 rw[c];have m:=zh t;have n:=zh q;have G:=zh r;have H:=zh s;clear c t q r s a h;generalize AY (Bc x)=M
 go_loopw [6] (λi wr=>∃k:Nat,k+p<=64/\i=Bk .i64 k/\Bl wr w.heap.size (Bc x)/\Bl wr (w.heap.size+2) (BU (Cr p x).getLsbD k++(Bc x).drop k)/\Bl wr (w.heap.size+1) CN/\w.grownBy wr A2) (λi _=>64 - (intOf i).toNat)
 case atStart=>exact⟨0,Ω,rfl,G.o,by simpa[BU]using n.o,H.o,m.o⟩
 case round=>
  obtain⟨k,N,rfl,d,b,j,a⟩:=hrel
  by_cases I:k+p<64
  ·have P:=d.at k _ (Ip x k Ω);have Q:=d.at (k+p) _ (Ip x (k+p) I)
   have u:∃v,wr.cell? ⟨w.heap.size+2,k,A2⟩=Bd v:=by
    have:=b.y.cell? k;rw[lh,jK (by simp[EU,DW];omega)]at this;exact⟨_,this⟩
   obtain⟨v,u⟩:=u;have R:=b.y.v k;have o:=(b.aV k ((Cr p x).getLsbD k));rw[Ml _ _ _ (by rw[DW];omega)]at o;have l:=Ao wr ⟨w.heap.size+2,k,A2⟩ (V ((Cr p x).getLsbD k));have y:=zh o;have f:=zh (d.ey l Δ);have z:=zh (j.ey l Δ);have C:=zh (Br a l Δ);have D:=Ug p x k Ω;rw[D]at y f z C;have S:(k:Int)<64:=Ω;have T:=IntWalk.i64_in ((k:Int)+(p:Int)) Ω;have U:(0:Int)<=(k:Int)+(p:Int):=Ω;have W:((k:Int)+(p:Int)).toNat=k+p:=Ω;clear o d j b a l D;generalize x.getLsbD k=A at*;generalize x.getLsbD (k+p)=B at*;go_wp2
   go_still_tail 11,Φ
   go_wp2
   go_roundw
   case rel=>exact⟨k+1,Ω,by go_num,f.o,y.o,z.o,Ab C.o (AZ _ 1 _)⟩
   case measure=>simp[intOf];omega
  ·obtain rfl:k=64 - p:=by omega
   rw[gu p x Ω]at b;have n:=zh b;have f:=zh j;have m:=zh a;clear d j b a
   go_wp2_with (first
    |refine AA rfl _ _ rfl (w.heap.size+2) rfl _ _ _ _ n.o Jy rfl (by rw[DY,DW];exact Gs) ?_
    |refine Ax rfl _ _ _ rfl (w.heap.size+1) (AY (Bc (Cr p x))) rfl rfl _ _ f.o (by rw[DY,DW];exact Gs) (by rw[DY,DY,DW,J2]) (MJ _) ?_)
   refine A7 (A5 rfl _ _ (w.heap.size+1) _ _ _ _ rfl (f.o.aI (cs:=Bc (Cr p x))) Jy rfl (by rw[DY,DW];exact Gs)) rfl ?_;exact⟨rfl,Br m.o (Ma _ _ _) Ω⟩
theorem fQ(a b:BitVec 64)(k:Nat):(a^^^b).getLsbD k=(a.getLsbD k !=b.getLsbD k):=by
 rw[BitVec.getLsbD_xor]
theorem ZR(a b:BitVec 64)(w:A4):
  Calls A6 103 #[Bn (AY (Bc a)),Bn (AY (Bc b))] w λe H=>e=.returned (Bn (AY (Bc (a^^^b))))/\w.grownBy H A2:=by
 go_enter Tryz.func103,Tryz.ntmps103
 go_wp2_with fail
 change Code.wp _ _ _ _ ((((w.alloc (J (AY (Bc a)) 202)).alloc (J (AY (Bc b)) 202)).alloc (J (AY CN) 202)).alloc (J (AY CN) 202))
 obtain⟨f,c⟩:=Af ((((w.alloc (J (AY (Bc a)) 202)).alloc (J (AY (Bc b)) 202)).alloc (J (AY CN) 202)).alloc (J (AY CN) 202))
 have p:w.grownBy f A2:=by rw[<-c];exact Ab (Ab (Ab (E _ _ _) (E _ _ _)) (E _ _ _)) (E _ _ _)
 have q:Bl f w.heap.size (Bc a):=by
  rw[<-c];exact Bl.alloc (Bl.alloc (PF w _ _) _) _
 have r:Bl f (w.heap.size+1) (Bc b):=by
  rw[<-c];refine Bl.alloc (Bl.alloc ?_ _) _;have:=K0 (w.alloc (J (AY (Bc a)) 202)) (J (AY (Bc b)) 202);rw[O]at this;exact this
 have s:Bl f (w.heap.size+2) CN:=by
  rw[<-c];exact Bl.alloc (PI w _ _ _) _
 have t:Bl f (w.heap.size+3) CN:=by
  rw[<-c];have:=K0 (((w.alloc (J (AY (Bc a)) 202)).alloc (J (AY (Bc b)) 202)).alloc (J (AY CN) 202)) (J (AY CN) 202);rw[O,O,O]at this;exact this
 rw[c];have I:=zh p;have K:=zh q;have L:=zh r;have M:=zh s;have N:=zh t;clear c p q r s t;generalize AY (Bc a)=Q;generalize AY (Bc b)=R
 go_loopw [6] (λi wr=>∃k:Nat,k<=64/\i=Bk .i64 k/\Bl wr w.heap.size (Bc a)/\Bl wr (w.heap.size+1) (Bc b)/\Bl wr (w.heap.size+3) (BU (a^^^b).getLsbD k++CN.drop k)/\Bl wr (w.heap.size+2) CN/\w.grownBy wr A2) (λi _=>64 - (intOf i).toNat)
 case atStart=>exact⟨0,Ω,rfl,K.o,L.o,by simpa[BU]using N.o,M.o,I.o⟩
 case round=>
  obtain⟨k,S,rfl,h,j,d,l,m⟩:=hrel
  by_cases u:k<64
  ·have T:=h.at k _ (Ip a k u);have U:=j.at k _ (Ip b k u)
   have x:∃v,wr.cell? ⟨w.heap.size+3,k,A2⟩=Bd v:=by
    have:=d.y.cell? k;rw[lh,jK (by simp[EU,J2];omega)]at this;exact⟨_,this⟩
   obtain⟨v,x⟩:=x;have W:=d.y.v k;have o:=(d.aV k ((a^^^b).getLsbD k));rw[Ml _ _ _ (by rw[J2];omega)]at o;have g:=Ao wr ⟨w.heap.size+3,k,A2⟩ (V ((a^^^b).getLsbD k));have y:=zh o;have z:=zh (h.ey g Δ);have n:=zh (j.ey g Δ);have C:=zh (l.ey g Δ);have D:=zh (Br m g Δ);have F:=fQ a b k;rw[F]at y z n C D;have X:(k:Int)<64:=Ω;clear o h j d l m g F;generalize a.getLsbD k=A at*;generalize b.getLsbD k=B at*;go_wp2
   go_still_tail 9,Φ
   go_wp2
   go_roundw
   case rel=>exact⟨k+1,Ω,by go_num,z.o,n.o,y.o,C.o,Ab D.o (AZ _ 1 _)⟩
   case measure=>simp[intOf];omega
  ·obtain rfl:k=64:=by omega
   have e:BU (a^^^b).getLsbD 64++CN.drop 64=Bc (a^^^b):=by rw[lR (by rw[J2];exact jF _),lw];rfl
   rw[e]at d;have n:=zh d;have G:=zh l;have P:=zh m;clear h j d l m e
   go_wp2_with (first
    |refine AA rfl _ _ rfl (w.heap.size+3) rfl _ _ _ _ n.o Jy rfl (by rw[DY,DW];exact Gs) ?_
    |refine Ax rfl _ _ _ rfl (w.heap.size+2) (AY (Bc (a^^^b))) rfl rfl _ _ G.o (by rw[DY,DW];exact Gs) (by rw[DY,DY,DW,J2]) (MJ _) ?_)
   refine A7 (A5 rfl _ _ (w.heap.size+2) _ _ _ _ rfl (G.o.aI (cs:=Bc (a^^^b))) Jy rfl (by rw[DY,DW];exact Gs)) rfl ?_;exact⟨rfl,Br P.o (Ma _ _ _) Ω⟩
theorem je(x:BitVec 64):IntKind.u64.wrap (U x*13787848793156543929)=U (x*c1):=J7 x c1
theorem jo(x:BitVec 64):IntKind.u64.wrap (U x*10723151780598845931)=U (x*c2):=J7 x c2
theorem fc(x:BitVec 64):Cr 31 (Cr 27 (Cr 30 x*c1)*c2)=Ks x:=by unfold Ks;rw[BitVec.mul_one]
end
