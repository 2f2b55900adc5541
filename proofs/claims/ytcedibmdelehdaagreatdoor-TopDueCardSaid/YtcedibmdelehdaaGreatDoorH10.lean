/- Lemmas. -/
import Derived.Test.YtcedibmdelehdaaGreatDoorH00
import Derived.Test.YtcedibmdelehdaaGreatDoorH07
import Derived.Laws.Closers25b
import Derived.Test.YtcedibmdelehdaaGreatDoorProg
import Derived.WalkLawsBesides
import Derived.WalkSpells
namespace Go.Proofs.YtcedibmdelehdaaGreatDoor
set_option maxRecDepth 100000
set_option maxHeartbeats 32000000
open Go.IntKind renaming u32->E
open Go.Proofs.Tryz renaming prog->J,underlying414->O
section
open Go.RowKit
def iJ(n:Int):Int:=bits BinOp.xor E (n/2) (E.wrap (2197175160*bits BinOp.and E n 1))
def GO(i:Int):Nat->Int
 |0=>i
 |k+1=>iJ (GO i k)
def Hi(i:Nat):Int:=GO i 8
def Bq(k:Nat):List Value:=(List.range 256).map λj=>.int E (if j<k then Hi j else 0)
theorem Hz(k:Nat):(Bq k).length=256:=by simp[Bq]
theorem KA(k j:Nat)(h:j<256):(Bq k)[j]?=some (.int E (if j<k then Hi j else 0)):=by simp[Bq,h]
theorem eM(k:Nat)(h:k<256):(Bq k).set k (.int E (Hi k))=Bq (k+1):=by
 apply lR;intro j;rw[mW]
 by_cases e:k=j
 ·subst e;rw[ke rfl,Hz,ke h,KA _ _ h,ke Ω]
 ·rw[j7 e]
  by_cases a:j<256
  ·rw[KA _ _ a,KA _ _ a]
   by_cases b:j<k
   ·rw[ke b,ke Ω]
   ·rw[j7 b,j7 Ω]
  ·rw[lH (by rw[Hz];omega),lH (by rw[Hz];omega)]
theorem TP:(J.info? 414).map (·.size)=some 256:=Φ
theorem SR:Tryz.zeroCells414=(Bq 0).toArray:=Φ
theorem Pe(a b:Int):0<=bits BinOp.xor E a b/\bits BinOp.xor E a b<=4294967295:=bits_within BinOp.xor E a b
theorem gG(i:Nat)(a:i<256):∀k,0<=GO i k/\GO i k<=4294967295
 |0=>by simp only[GO];omega
 |k+1=>Pe _ _
theorem Zg(w:World):
  Calls J 296 #[] w λe C=>e=.returned (.agg (Bq 256).toArray)/\w.grownBy C none:=by
 go_enter Tryz.func296,Tryz.ntmps296
 go_wp2;rw[SR];obtain⟨l,g⟩:=Ag ((w.alloc (.cells (Bq 0).toArray 414)).alloc (.cells (Bq 0).toArray 414))
 have b:Aa l w.heap.size 414 (Bq 0):=by rw[<-g];exact(Aa.new _ _ _).alloc _
 have a:Aa l (w.heap.size+1) 414 (Bq 0):=by rw[<-g, <-World.size_alloc w (.cells (Bq 0).toArray 414)];exact Aa.new _ _ _
 have D:w.grownBy l none:=by rw[<-g];exact Ae (World.grownBy_alloc _ _ none) (World.grownBy_alloc _ _ none)
 rw[g];clear g
 go_loopw [5] (λi wr=>∃k:Nat,k<=256/\i=.int .i64 k/\w.grownBy wr none/\Aa wr w.heap.size 414 (Bq 0)/\Aa wr (w.heap.size+1) 414 (Bq k)) (λi _=>256 - (intOf i).toNat)
 case atStart=>exact⟨0,Ω,rfl,D,b,a⟩
 case round=>
  obtain⟨k,c,rfl,f,b,a⟩:=hrel
  rcases pX c with c|rfl
  ·go_wp2
   go_loopw [10,3] (λj n wr=>∃q:Nat,q<=8/\j=.int .i64 q/\n=.int E (GO k q)/\w.grownBy wr none/\Aa wr w.heap.size 414 (Bq 0)/\Aa wr (w.heap.size+1) 414 (Bq k)) (λj _ _=>8 - (intOf j).toNat)
   case atStart=>exact⟨0,Ω,rfl,rfl,f,b,a⟩
   case round=>
    obtain⟨q,r,rfl,rfl,f,b,a⟩:=hrel;have L:=gG k c q;generalize s:GO k q=n at*;have m:=zh s;clear s
    rcases pX r with r|rfl
    ·go_wp2
     go_roundw
     case rel=>exact⟨q+1,Ω,Δ,by rw[GO,m.o];rfl,f,b,a⟩
     case measure=>simp[intOf];omega
    ·have M:=a.aq (j:=k) (KA k k c);have N:=a.v k;go_wp2
     go_roundw
     case rel=>
      refine⟨k+1,Ω,Δ,Ac.grown f (S:=λj=>j=w.heap.size+1) (Ac.of (An _ _ _) (λj e=>by cases e;rfl)) (λj e=>Ω),b.eH Δ _,?_⟩;have:=a.setCell k (.int E n);rw[<-m.o,show GO (k:Int) 8=Hi k from rfl,eM k c]at this;rw[<-m.o,show GO (k:Int) 8=Hi k from rfl];exact this
     case measure=>simp[intOf];omega
  ·have h:(J.info? 414).map (·.size)=some (Bq 256).toArray.size:=by rw[TP];simp[Hz]
   have t:(Bq 256).toArray.all (·.oneCell')=true:=by
    simp only[List.all_toArray,lQ,Bq,lP];rintro u ⟨j,_,rfl⟩;rfl
   have x:(wr.setRow w.heap.size (Bq 256).toArray).heap[w.heap.size]?=some (.cells (Bq 256).toArray 414 (0,0)):=setRow_heap _ _ _ _ _ _ b;have F:=zh f;have y:wr.heap[w.heap.size]?=some (.cells (Bq 0).toArray 414 (0,0)):=b;have z:wr.heap[w.heap.size+1]?=some (.cells (Bq 256).toArray 414 (0,0)):=a;have G:=zh y;have A:=zh z;have B:=zh x
   have H:(Bq 0).toArray.size=(Bq 256).toArray.size:=by simp[Hz]
   clear b a f x y z;obtain⟨d,o⟩:=Ag ((Bq 256).toArray);rw[o]at h t H A B;have I:=zh o;clear o;go_wp2;refine wp_load_row 414 (.tmp 1) rfl (w.heap.size+1) rfl _ d _ _ A.o O rfl h ?_
   have Q:d.size=256:=by
    rw[TP]at h;simpa using h.symm
   have R:(storeCells ⟨w.heap.size,0,none⟩ d.toList).run J wr=.ok () (wr.setRow w.heap.size d):=by
    have:=run_storeCells_from (P:=J) w.heap.size 414 d.toList 0 (Bq 0).toArray wr G.o (by simp[Hz];omega) (λv K=>(Array.all_eq_true_iff_forall_mem.1 t) v (by simpa using K));simpa using this
   go_wp2;refine bodyPost_ret (v:=.agg d) (results_cell_row (p:=0) (ty:=414) rfl _ _ w.heap.size _ d _ _ rfl B.o O rfl h) rfl ⟨by rw[I.o],?_⟩;refine Ac.grown F.o (S:=λj=>j=w.heap.size) ⟨rfl,rfl,rfl,Δ,λk _ c=>setRow_other _ _ _ _ c⟩ (λj e=>Ω)
end
