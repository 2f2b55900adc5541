/- Lemmas. -/
import Derived.Test.YtcedibmdelehdaaGreatDoorG03
import Derived.Lib.SliceRun
import Derived.StillTailTactics
import Derived.Test.YtcedibmdelehdaaGreatDoorProg
import Derived.WalkLawsBesides
import Derived.WalkSpells
namespace Go.Proofs.YtcedibmdelehdaaGreatDoor
set_option maxRecDepth 100000
set_option maxHeartbeats 32000000
open Go.Value renaming int->E,pointer->A7,slice->Bk
open List renaming replicate->J
open Go.IntWalk renaming i64_in->O
open Go.Proofs.Tryz renaming prog->Ax,ntmps160->A2,func160->A3,ntmps96->A6,func96->Bd
open Go.IntKind renaming i64->AA
open Option renaming some->A4,none->A5
section
open Go.RowKit
theorem bW:(Ax.info? 3).map (λi=>(i.zero,i.size,i.bytes))=A4 (A4 (E AA 0),1,8):=Φ
def Kj(k:Int)(n:Nat):Bool:=decide (0<=k/\k<n)
theorem TY(b:Nat)(a:Option Addr)(n c:Nat)(k:Int)(w:World)(_g:n<=maxLen)(i:w.cell? ⟨b,0,A5⟩=A4 (Bk a n c)):
  Calls Ax 160 #[A7 (A4 ⟨b,0,A5⟩),E AA k] w λe h=>e=.returned (.bool (Kj k n))/\w=h:=by
 unfold maxLen at _g
 by_cases d:0<=k
 ·by_cases f:k<n
  ·go_enter A3,A2
   go_wp2;go_ret;exact⟨by simp[Kj,d,f],rfl⟩
  ·go_enter A3,A2
   go_wp2;go_ret;exact⟨by simp[Kj,d,f],rfl⟩
 ·go_enter A3,A2
  go_wp2;go_ret;exact⟨by simp[Kj];omega,rfl⟩
theorem Vi(n:Nat):madeCells (E AA 0).cells n=(J n (E AA 0)).toArray:=by
 apply Array.ext
 ·simp[madeCells]
 ·intro i a b;simp[madeCells,Value.cells,pN]
theorem dJ(n:Nat)(w:World)(h:1<=n/\n<=64):
  Calls Ax 31 #[E AA n] w λe b=>e=.returned (A7 (A4 ⟨w.heap.size+1,0,A5⟩))/\
   b=(w.alloc (.cells (J n (E AA 0)).toArray 3)).alloc (.cells #[Bk (A4 ⟨w.heap.size,0,A5⟩) n n] 147):=by
 have i:¬(n:Int)<1:=Ω;have j:¬(64:Int)<n:=Ω;obtain⟨c,d,f,a,g⟩:=info_parts bW
 have k:∀W:World,(Instr.makeSlice 145 (E AA n) (E AA n)).run Ax W=.ok (Bk (A4 ⟨W.heap.size,0,A5⟩) n n) (W.alloc (.cells (J n (E AA 0)).toArray 3)):=by
  intro W;have:=run_makeSlice (P:=Ax) W 145 3 c (E AA 0) mA d f AA AA n n Ω Ω (by rw[a];omega) (by rw[g];omega) Ω;rw[this,a];rw[show(madeCells (E AA 0).cells ((n:Int).toNat*1))=(J n (E AA 0)).toArray from by rw[jS,mj];exact Vi n];simp
 go_enter Tryz.func31,Tryz.ntmps31
 go_wp2;go_ret;exact⟨rfl,rfl⟩
def Jz(v x:Int):Int:=if v+x<=1152921504606846976 then v+x else 1152921504606846976
theorem cZ(b:Nat)(a:Nat)(n c:Nat)(k:Nat)(x v:Int)(w:World)(g:n<=maxLen)(h:w.cell? ⟨b,0,A5⟩=A4 (Bk (A4 ⟨a,0,A5⟩) n c))(j:k<n)
  (p:w.cell? ⟨a,k,A5⟩=A4 (E AA v))(q:w.frozen? ⟨a,k,A5⟩=false)(r:0<=v)(s:v<=1152921504606846976)(t:0<=x)(u:x<=9223372036854775807):
  Calls Ax 96 #[A7 (A4 ⟨b,0,A5⟩),E AA k,E AA x] w λe f=>e=.returned (E AA 0)/\
   f=(w.setCell ⟨a,k,A5⟩ (E AA (Jz v x))).drew:=by
 have y:Kj k n=true:=by simp[Kj,j]
 by_cases i:v+x<=1152921504606846976
 ·have d:Jz v x=v+x:=jP i;have l:x<=1152921504606846976 - v:=Ω;have m:=O (1152921504606846976 - v) Ω;have o:=O (v+x) Ω;rw[d];clear d
  go_enter Bd,A6
  go_wp2_with (go_at_call 160;refine(TY _ _ _ _ _ _ g h).mono ?_;rintro e f ⟨rfl,rfl⟩)
  go_still_tail 19,Φ
  go_wp2;go_ret;exact⟨rfl,rfl⟩
 ·have d:Jz v x=v+(1152921504606846976 - v):=(jN i).trans Ω;have l:1152921504606846976 - v<x:=Ω;have m:=O (1152921504606846976 - v) Ω;have o:=O (v+(1152921504606846976 - v)) Ω;rw[d];clear d
  go_enter Bd,A6
  go_wp2_with (go_at_call 160;refine(TY _ _ _ _ _ _ g h).mono ?_;rintro e f ⟨rfl,rfl⟩)
  go_still_tail 19,Φ
  go_wp2;go_ret;exact⟨rfl,rfl⟩
end
