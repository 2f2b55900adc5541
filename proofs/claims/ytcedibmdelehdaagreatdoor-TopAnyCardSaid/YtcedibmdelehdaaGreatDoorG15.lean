/- Lemmas. -/
import Derived.Test.YtcedibmdelehdaaGreatDoorG13
import Derived.Laws.BytesArg
import Derived.Lib.Bytes
import Derived.Shelf.Bytes.SlSmallAll
namespace Go.Proofs.YtcedibmdelehdaaGreatDoor
set_option maxRecDepth 100000
set_option maxHeartbeats 32000000
section
open Go.RowKit
def Di(a:List Nat):ByteArray:=strOfNums (a.map λx:Nat=>(x:Int))
theorem I0(a:List Nat):(Di a).size=a.length:=by rw[Di,strOfNums_size,mx]
theorem KM(a:List Nat):(Di a).toList=a.map λx=>UInt8.ofNat x:=by
 rw[Di,Lib.strOfNums_toList];simp[Lib.bytesOf]
theorem aU(a:List Nat):((Di a).toList==(Di a).toList)=true:=Δ
theorem Jc{d:List Nat}{a:Option Addr}{c:Nat}{W:World}(f:Ag W 1 (.slice a d.length c) d.length (Ar d)):
  (convert 64 9 (.slice a d.length c)).run Tryz.prog W=.ok (.string (Di d)) W:=by
 by_cases g:d.length=0
 ·have h:=km g;subst h;exact Go.Proofs.run_convert_bytes_zero W 64 5 kY nt a c 9 nu
 ·obtain⟨b,o,rfl,j⟩:=f.bA Ω;refine run_convert_bytes_arg W 64 5 kY nt b o d.length c (d.map λx:Nat=>(x:Int)) Δ (λi e=>?_) 9 nu;rw[j i _ (KG d i e)];simp[List.getD,e]
end
