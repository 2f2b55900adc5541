/- Lemmas. -/
import Derived.Test.YtcedibmdelehdaaGreatDoorG48
import Derived.Test.YtcedibmdelehdaaGreatDoorG50
namespace Go.Proofs.YtcedibmdelehdaaGreatDoor
set_option maxRecDepth 100000
set_option maxHeartbeats 32000000
section
open Go Go.RowKit Go.WideShapes Go.ChangeShapes Go.ChangeAt
section
variable {H:Type} {enc:TypeId×Value->H} {r:Reach} {b0:Nat}
theorem VM(w:World)(g:ET w)(h:0<w.heap.size){b d:Value}{i j:DataW H}{k m:List MemPlace}(n:Value.okWide Tryz.prog w r b0 24 b)(o:Value.okWide Tryz.prog w r b0 25 d)
  (p:DataW.Trod enc Tryz.prog w 0 (λ_=>true) true 24 b i k)(q:DataW.Trod enc Tryz.prog w 0 (λ_=>true) true 25 d j m):
  Calls Tryz.prog 3 #[b,d] w λe f=>e=.returned (.bool true)/\Below w.heap.size w f:=by
 obtain⟨t,u,v,x,y,z,A,s,rfl,_⟩:=Yo w n p;obtain⟨l,a,c,rfl,B,_,C⟩:=Zq w o q
 exact(VY t u v x y z A s l l.length rfl a c w g h B C).mono λe f ⟨D,E⟩=>⟨D,Fv E⟩
end
end
