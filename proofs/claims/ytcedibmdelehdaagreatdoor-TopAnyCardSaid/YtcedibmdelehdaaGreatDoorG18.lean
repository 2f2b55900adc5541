/- Lemmas. -/
import Derived.Test.YtcedibmdelehdaaGreatDoorG14
import Derived.Test.YtcedibmdelehdaaGreatDoorG16
import Derived.Deep.RegionWith
import Derived.WalkSmall
namespace Go.Proofs.YtcedibmdelehdaaGreatDoor
set_option maxRecDepth 100000
set_option maxHeartbeats 32000000
open Go.Proofs.Tryz renaming prog->E
open Go.Ending renaming returned->J
open BitVec renaming ofNat->O
open Option renaming none->Ax
open Go.IntKind renaming u64->AA
open Go renaming Calls->A2,World->A4
open Go.Value renaming int->A3,agg->A5
section
open Go.RowKit
def RB(x:BitVec 64):Array Value:=AY (Bc x)
theorem JA(x:BitVec 64)(w:A4):A2 E 104 #[A3 AA (U x)] w λe a=>e=J (A5 (RB x))/\w.grownBy a Ax:=ie x w
theorem PJ(x:BitVec 64)(p:Nat)(a:1<=p)(b:p<=63)(w:A4):A2 E 161 #[A5 (RB x),A3 .i64 p] w λe c=>e=J (A5 (RB (Cr p x)))/\w.grownBy c Ax:=cM x p a b w
theorem iJ(x:BitVec 64)(w:A4):A2 E 161 #[A5 (RB x),A3 .i64 30] w λe a=>e=J (A5 (RB (Cr 30 x)))/\w.grownBy a Ax:=PJ x 30 Ω Ω w
theorem ii(x:BitVec 64)(w:A4):A2 E 161 #[A5 (RB x),A3 .i64 27] w λe a=>e=J (A5 (RB (Cr 27 x)))/\w.grownBy a Ax:=PJ x 27 Ω Ω w
theorem iE(x:BitVec 64)(w:A4):A2 E 161 #[A5 (RB x),A3 .i64 31] w λe a=>e=J (A5 (RB (Cr 31 x)))/\w.grownBy a Ax:=PJ x 31 Ω Ω w
theorem Le(x:BitVec 64)(w:A4):A2 E 102 #[A5 (RB x)] w λe a=>e=J (A3 AA (U x))/\w.grownBy a Ax:=V8 x w
theorem Uy(a b:BitVec 64)(w:A4):A2 E 103 #[A5 (RB a),A5 (RB b)] w λe c=>e=J (A5 (RB (a^^^b)))/\w.grownBy c Ax:=ZR a b w
attribute [irreducible] RB
theorem Vk(x:BitVec 64)(w:A4):
  A2 E 105 #[A3 AA (U x)] w λe a=>e=J (A3 AA (U (Ks x)))/\w.grownBy a Ax:=by
 have e:=fc x;rw[<-e];clear e;have l:=je (Cr 30 x);have m:=jo (Cr 27 (Cr 30 x*c1))
 go_enter Tryz.func105,Tryz.ntmps105
 go_wp2_with fail
 refine(JA _ _).mono ?_;rintro e n ⟨rfl,b⟩
 go_wp2_with fail
 refine(iJ _ _).mono ?_;rintro e o ⟨rfl,c⟩
 go_wp2_with fail
 refine(Le _ _).mono ?_;rintro e p ⟨rfl,d⟩
 go_wp2_with fail
 refine(JA _ _).mono ?_;rintro e q ⟨rfl,f⟩
 go_wp2_with fail
 refine(ii _ _).mono ?_;rintro e r ⟨rfl,g⟩
 go_wp2_with fail
 refine(Le _ _).mono ?_;rintro e s ⟨rfl,h⟩
 go_wp2_with fail
 refine(JA _ _).mono ?_;rintro e t ⟨rfl,i⟩
 go_wp2_with fail
 refine(iE _ _).mono ?_;rintro e u ⟨rfl,j⟩
 go_wp2_with fail
 refine(Le _ _).mono ?_;rintro e v ⟨rfl,k⟩
 go_wp2;go_ret;exact⟨rfl,Ab (Ab (Ab b (Ab c d)) (Ab f (Ab g h))) (Ab i (Ab j k))⟩
theorem jg(n:BitVec 64)(x:Nat):AA.wrap (U (n^^^O 64 x)*1099511628211)=U (hb n x):=J7 _ 1099511628211#64
theorem fJ(s:BitVec 64):s^^^14695981039346656037#64=Gw s:=rfl
theorem Xv(n:BitVec 64)(a:List Nat):FH n (a.take 0)=n:=rfl
attribute [local irreducible] Calls
theorem Pk{w wr a b:A4}(h:w.grownBy wr Ax)(g:a.grownBy b Ax)(e:a=wr\/∃n,a=wr.drewN n:=by first|exact .inl rfl|exact .inr ⟨1,rfl⟩):w.grownBy b Ax:=by
 rcases e with rfl|⟨n,rfl⟩
 ·exact Ab h g
 ·exact Ab (Ab h (AZ _ n _)) g
theorem RW(s:BitVec 64)(d:List Nat)(a:Option Addr)(c:Nat)(w:A4)(t:∀x∈d,x<256)(m:Ag w 1 (.slice a d.length c) d.length (Ar d)):
  A2 E 56 #[A3 AA (U s),.slice a d.length c] w λe h=>e=J (A3 AA (U (Co s d)))/\w.grownBy h Ax:=by
 have F:=m.2.1;unfold maxLen at F
 have G:Hd (∀W,A2 E 104 #[A3 AA 14695981039346656037] W λe h=>e=J (A5 (RB 14695981039346656037#64))/\W.grownBy h Ax):=zh λW=>JA 14695981039346656037#64 W
 have S:Hd (∀x:Nat,x<256->∀W,A2 E 104 #[A3 AA (x:Int)] W λe h=>e=J (A5 (RB (O 64 x)))/\W.grownBy h Ax):=zh λx l W=>by
  rw[UF x l];exact JA _ W
 have H:=zh m;have I:=zh (Rj d t)
 have u:(d.length:Int)=U (O 64 d.length):=by
  unfold U;rw[mS];omega
 have p:AA.wrap (U (FH (Gw s) d)+(d.length:Int))=U (FH (Gw s) d+O 64 d.length):=by
  rw[u,UL]
 have K:=zh p;clear m t u p
 go_enter Tryz.func56,Tryz.ntmps56
 go_wp2_with fail
 refine(JA _ _).mono ?_;rintro e T ⟨rfl,v⟩
 go_wp2_with fail
 refine(G.o _).mono ?_;rintro e V ⟨rfl,y⟩
 go_wp2_with fail
 refine(Uy _ _ _).mono ?_;rintro e X ⟨rfl,z⟩
 go_wp2_with fail
 refine(Le _ _).mono ?_;rintro e Y ⟨rfl,A⟩
 have L:=zh (Ab (Ab v y) (Ab z A));clear v y z A;rw[fJ];go_wp2
 go_loopw [5,6] (λq i wr=>∃k:Nat,k<=d.length/\i=A3 .i64 k/\q=A3 AA (U (FH (Gw s) (d.take k)))/\w.grownBy wr Ax) (λ_ i _=>d.length - (intOf i).toNat)
 case atStart=>exact⟨0,Ω,rfl,by rw[Xv],L.o⟩
 case round=>
  obtain⟨k,Z,rfl,rfl,j⟩:=hrel
  by_cases B:k<d.length
  ·obtain⟨b,o,rfl,C⟩:=H.o.bA Ω;have l:=C k _ (KG d k B);have r:wr.cell? ⟨b,o+k,Ax⟩=some (A3 .u8 ((d.getD k 0:Nat):Int)):=j.cell l Δ;have M:=zh (QX (Gw s) d k B);have f:=zh j;have N:=I.o k
   have aa:b<wr.heap.size:=by
    by_cases P:b<wr.heap.size
    ·exact P
    ·have:wr.heap[b]?=Ax:=kV Ω;simp[World.cell?,this]at r
   have Q:=zh r;have ab:wr.drew.cell? ⟨b,o+k,Ax⟩=some (A3 .u8 ((d.getD k 0:Nat):Int)):=r;clear C l j;generalize d.getD k 0=x at*;generalize FH (Gw s) (d.take k)=n at*;have ac:=ik x;have ad:=jg n x;clear N;go_wp2_with fail
   go_region_with (first
    |(go_at_call 104;refine(JA _ _).mono ?_;rintro e D ⟨rfl,g⟩;replace f:=zh (Pk f.o g);try have ae:=g.cell Q.o Δ)
    |(go_at_call 103;refine(Uy _ _ _).mono ?_;rintro e D ⟨rfl,g⟩;replace f:=zh (Pk f.o g))
    |(go_at_call 102;refine(Le _ _).mono ?_;rintro e D ⟨rfl,g⟩;replace f:=zh (Pk f.o g)))
   all_goals
    go_wp2
    go_roundw
    case rel=>exact⟨k+1,Ω,by go_num,by rw[M.o],f.o⟩
    case measure=>simp[intOf];omega
  ·obtain rfl:k=d.length:=by omega
   rw[lS];have f:=zh j;have p:=K.o;clear j;go_wp2_with fail
   refine(Vk _ _).mono ?_;rintro e w5 ⟨rfl,R⟩
   go_wp2;go_ret;exact⟨rfl,Ab f.o R⟩
end
