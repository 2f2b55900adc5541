/- Lemmas. -/
import Derived.Test.YtcedibmdelehdaaGreatDoorH05
import Derived.Lib.SliceRun
import Derived.StillTailTactics
import Derived.Test.YtcedibmdelehdaaGreatDoorProg
import Derived.WalkLawsBesides
import Derived.WalkSpells
namespace Go.Proofs.YtcedibmdelehdaaGreatDoor
set_option maxRecDepth 100000
set_option maxHeartbeats 32000000
open Go.Value renaming int->E,pointer->Bn,slice->Bx
open List renaming replicate->J
open Go.IntWalk renaming i64_in->O
open Go.Proofs.Tryz renaming prog->Ax,ntmps160->A2,func160->A3,ntmps96->Bk,func96->Bs
open Go.IntKind renaming i64->AA
open Option renaming some->A4,none->Bd
section
open Go.RowKit
theorem bG:(Ax.info? 3).map (λi=>(i.zero,i.size,i.bytes))=A4 (A4 (E AA 0),1,8):=Φ
def J0(k:Int)(n:Nat):Bool:=decide (0<=k/\k<n)
theorem TJ(b:Nat)(a:Option Addr)(n c:Nat)(k:Int)(w:World)(_g:n<=maxLen)(i:w.cell? ⟨b,0,Bd⟩=A4 (Bx a n c)):
  Calls Ax 160 #[Bn (A4 ⟨b,0,Bd⟩),E AA k] w λe h=>e=.returned (.bool (J0 k n))/\w=h:=by
 unfold maxLen at _g
 by_cases d:0<=k
 ·by_cases f:k<n
  ·go_enter A3,A2
   go_wp2;go_ret;exact⟨by simp[J0,d,f],rfl⟩
  ·go_enter A3,A2
   go_wp2;go_ret;exact⟨by simp[J0,d,f],rfl⟩
 ·go_enter A3,A2
  go_wp2;go_ret;exact⟨by simp[J0];omega,rfl⟩
theorem U9(n:Nat):madeCells (E AA 0).cells n=(J n (E AA 0)).toArray:=by
 apply Array.ext
 ·simp[madeCells]
 ·intro i a b;simp[madeCells,Value.cells,qo]
theorem dA(n:Nat)(w:World)(h:1<=n/\n<=64):
  Calls Ax 31 #[E AA n] w λe b=>e=.returned (Bn (A4 ⟨w.heap.size+1,0,Bd⟩))/\
   b=(w.alloc (.cells (J n (E AA 0)).toArray 3)).alloc (.cells #[Bx (A4 ⟨w.heap.size,0,Bd⟩) n n] 147):=by
 have i:¬(n:Int)<1:=Ω;have j:¬(64:Int)<n:=Ω;obtain⟨c,d,f,a,g⟩:=info_parts bG
 have k:∀W:World,(Instr.makeSlice 145 (E AA n) (E AA n)).run Ax W=.ok (Bx (A4 ⟨W.heap.size,0,Bd⟩) n n) (W.alloc (.cells (J n (E AA 0)).toArray 3)):=by
  intro W;have:=run_makeSlice (P:=Ax) W 145 3 c (E AA 0) mO d f AA AA n n Ω Ω (by rw[a];omega) (by rw[g];omega) Ω;rw[this,a];rw[show(madeCells (E AA 0).cells ((n:Int).toNat*1))=(J n (E AA 0)).toArray from by rw[km,mL];exact U9 n];simp
 go_enter Tryz.func31,Tryz.ntmps31
 go_wp2;go_ret;exact⟨rfl,rfl⟩
def Jl(v x:Int):Int:=if v+x<=1152921504606846976 then v+x else 1152921504606846976
theorem cJ(b:Nat)(a:Nat)(n c:Nat)(k:Nat)(x v:Int)(w:World)(g:n<=maxLen)(h:w.cell? ⟨b,0,Bd⟩=A4 (Bx (A4 ⟨a,0,Bd⟩) n c))(j:k<n)
  (p:w.cell? ⟨a,k,Bd⟩=A4 (E AA v))(q:w.frozen? ⟨a,k,Bd⟩=false)(r:0<=v)(s:v<=1152921504606846976)(t:0<=x)(u:x<=9223372036854775807):
  Calls Ax 96 #[Bn (A4 ⟨b,0,Bd⟩),E AA k,E AA x] w λe f=>e=.returned (E AA 0)/\
   f=(w.setCell ⟨a,k,Bd⟩ (E AA (Jl v x))).drew:=by
 have y:J0 k n=true:=by simp[J0,j]
 by_cases i:v+x<=1152921504606846976
 ·have d:Jl v x=v+x:=ke i;have l:x<=1152921504606846976 - v:=Ω;have m:=O (1152921504606846976 - v) Ω;have o:=O (v+x) Ω;rw[d];clear d
  go_enter Bs,Bk
  go_wp2_with (go_at_call 160;refine(TJ _ _ _ _ _ _ g h).mono ?_;rintro e f ⟨rfl,rfl⟩)
  go_still_tail 19,Φ
  go_wp2;go_ret;exact⟨rfl,rfl⟩
 ·have d:Jl v x=v+(1152921504606846976 - v):=(j7 i).trans Ω;have l:1152921504606846976 - v<x:=Ω;have m:=O (1152921504606846976 - v) Ω;have o:=O (v+(1152921504606846976 - v)) Ω;rw[d];clear d
  go_enter Bs,Bk
  go_wp2_with (go_at_call 160;refine(TJ _ _ _ _ _ _ g h).mono ?_;rintro e f ⟨rfl,rfl⟩)
  go_still_tail 19,Φ
  go_wp2;go_ret;exact⟨rfl,rfl⟩
end
