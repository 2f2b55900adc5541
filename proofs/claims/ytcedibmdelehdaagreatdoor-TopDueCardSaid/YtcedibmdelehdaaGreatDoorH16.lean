/- Lemmas. -/
import Derived.Test.YtcedibmdelehdaaGreatDoorH15
import Derived.Laws.BytesArg
import Derived.Lib.Bytes
import Derived.Shelf.Bytes.SlSmallAll
namespace Go.Proofs.YtcedibmdelehdaaGreatDoor
set_option maxRecDepth 100000
set_option maxHeartbeats 32000000
section
open Go.RowKit
def Fo(a:List Nat):ByteArray:=strOfNums (a.map λx:Nat=>(x:Int))
theorem Mi(a:List Nat):(Fo a).toList=a.map λx=>UInt8.ofNat x:=by
 rw[Fo,Lib.strOfNums_toList];simp[Lib.bytesOf]
theorem aM(a:List Nat):((Fo a).toList==(Fo a).toList)=true:=Δ
theorem KD{d:List Nat}{a:Option Addr}{c:Nat}{W:World}(f:Ai W 1 (.slice a d.length c) d.length (Ao d)):
  (convert 64 9 (.slice a d.length c)).run Tryz.prog W=.ok (.string (Fo d)) W:=by
 by_cases g:d.length=0
 ·have h:=kV g;subst h;exact Go.Proofs.run_convert_bytes_zero W 64 5 mc np a c 9 nt
 ·obtain⟨b,o,rfl,j⟩:=f.aZ Ω;refine run_convert_bytes_arg W 64 5 mc np b o d.length c (d.map λx:Nat=>(x:Int)) Δ (λi e=>?_) 9 nt;rw[j i _ (LX d i e)];simp[List.getD,e]
end
