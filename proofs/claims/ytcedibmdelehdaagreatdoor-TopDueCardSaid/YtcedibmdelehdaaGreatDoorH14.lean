/- Lemmas. -/
import Derived.Test.YtcedibmdelehdaaGreatDoorH06
import Derived.Test.YtcedibmdelehdaaGreatDoorH07
namespace Go.Proofs.YtcedibmdelehdaaGreatDoor
set_option maxRecDepth 100000
set_option maxHeartbeats 32000000
open Go.Value renaming int->E,slice->O
open List renaming replicate->J
section
open Go.RowKit
theorem cU:(Tryz.prog.info? 22).map (λi=>(i.zero,i.size,i.bytes))=some (some (E .u64 0),1,8):=Φ
theorem Vc(n:Nat):madeCells (E .u64 0).cells n=(J n (E .u64 0)).toArray:=by
 apply Array.ext
 ·simp[madeCells]
 ·intro i a b;simp[madeCells,Value.cells,qo]
def Ij(m:Nat):List (BitVec 64):=J m 0#64
theorem V7(m:Nat):ET (Ij m)=J m (E .u64 0):=by
 simp[ET,Ij];exact .inr rfl
theorem dh(m j:Nat):tk (Ij m) j=false:=by
 unfold tk wd Ij;rw[lp,nV]
 split<;>simp
theorem eH(n:Nat)(w:World)(p:1<=n)(q:n<=65536)(b:EO w)(r:0<w.heap.size):
  Calls Tryz.prog 131 #[E .i64 n] w λe c=>∃B g,e=.returned (.pointer (some ⟨B,0,none⟩))/\SF c B g n 0 (λ_=>false)/\w.heap.size<=B/\w.heap.size<=g/\w.grownBy c none:=by
 obtain⟨s,t,u,d,v⟩:=info_parts cU;have A:¬(n:Int)<1:=Ω;have C:¬(65536:Int)<n:=Ω;obtain⟨m,f⟩:=Ag ((n+63)/64);have h:((n:Int)+64 - 1)/64=(m:Int):=Ω;have D:m<=1024:=Ω
 have F:∀W:World,(Instr.makeSlice 309 (E .i64 (((n:Int)+64 - 1)/64)) (E .i64 (((n:Int)+64 - 1)/64))).run Tryz.prog W=.ok (O (some ⟨W.heap.size,0,none⟩) m m) (W.alloc (.cells (ET (Ij m)).toArray 22)):=by
  intro W;rw[h,V7];have:=run_makeSlice (P:=Tryz.prog) W 309 22 s (E .u64 0) Tryz.underlying309 t u .i64 .i64 m m Ω Ω (by rw[d];omega) (by rw[v];omega) Ω;rw[this,d];rw[show(madeCells (E .u64 0).cells ((m:Int).toNat*1))=(J m (E .u64 0)).toArray from by rw[km,mL];exact Vc _];simp
 have x:=zh f;have y:=zh b;have j:=zh (dh m)
 have k:(Ij m).length=m:=by simp[Ij]
 clear f h b;generalize Ij m=a at*;have l:=zh k;clear k
 go_enter Tryz.func131,Tryz.ntmps131
 go_wp2;go_ret
 have z:Aa ((w.alloc (.cells (ET a).toArray 22)).alloc (.cells #[E .i64 n,E .i64 0,O (some ⟨w.heap.size,0,none⟩) m m] 311)) (w.heap.size+1) 311 [E .i64 n,E .i64 0,O (some ⟨w.heap.size,0,none⟩) m m]:=by
  have:=Aa.new (w.alloc (.cells (ET a).toArray 22)) 311 [E .i64 n,E .i64 0,O (some ⟨w.heap.size,0,none⟩) m m]
  rwa[World.size_alloc]at this
 have o:w.grownBy ((w.alloc (.cells (ET a).toArray 22)).alloc (.cells #[E .i64 n,E .i64 0,O (some ⟨w.heap.size,0,none⟩) m m] 311)) none:=Ae (World.grownBy_alloc _ _ none) (World.grownBy_alloc _ _ none);refine⟨w.heap.size+1,rfl,w.heap.size,⟨m,a,⟨by rw[l.o];exact z,⟨[],?_⟩,Ω,y.o.bg (o.block _ r Δ),Ω,Ω,by rw[l.o,x.o],p,q,Ω,λi _=>j.o i,Δ⟩,j.o⟩,Ω,jS _,o⟩;rw[lX];exact(Aa.new w 22 (ET a)).alloc _
end
