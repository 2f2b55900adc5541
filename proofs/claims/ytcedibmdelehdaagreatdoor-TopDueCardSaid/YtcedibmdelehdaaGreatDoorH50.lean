/- Lemmas. -/
import Derived.Test.YtcedibmdelehdaaGreatDoorH49
namespace Go.Proofs.YtcedibmdelehdaaGreatDoor
set_option maxRecDepth 100000
set_option maxHeartbeats 32000000
section
open Go Go.RowKit Go.WideShapes Go.ChangeShapes Go.ChangeAt
section
variable {H:Type} {enc:TypeId×Value->H} {r:Reach} {b0:Nat}
theorem Wp(w:World)(f:EO w)(g:0<w.heap.size){b:Value}{h:DataW H}{i:List MemPlace}(j:Value.okWide Tryz.prog w r b0 25 b)
  (k:DataW.Trod enc Tryz.prog w 0 (λ_=>true) true 25 b h i):
  Calls Tryz.prog 4 #[b] w λe d=>e=.returned (.bool true)/\Below w.heap.size w d:=by
 obtain⟨l,a,c,rfl,m,_,n⟩:=Zf w j k
 exact(Wu l l.length rfl a c w f g m n).mono λe d ⟨o,p⟩=>⟨o,Ft p⟩
end
end
