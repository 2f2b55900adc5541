/- An argument that is a byte. -/
import Derived.Test.YtbjpjnkaaiajlaaProg
import Derived.Test.YtbjpjnkaaiajlaaBv
import Derived.Test.YtbjpjnkaaiajlaaOpen
import Derived.OpenShut
namespace Go.Proofs.Ytbjpjnkaaiajlaa
open Go.RowKit Go.WideShapes Go.ChangeShapes Go.ChangeAt
variable {H : Type} {enc : TypeId × Value → H} {r : Reach} {b0 : Nat}

set_option maxRecDepth 100000 in
theorem arg_u8 (w : World) {v0 : Value} {d0 : DataW H} {p0 : List MemPlace} (k0 : Value.okWide Try.prog w r b0 5 v0) (h0 : DataW.Trod enc Try.prog w 0 (fun _ => true) true 5 v0 d0 p0) : ∃ x : Nat, v0 = .int .u8 x ∧ x ≤ 255 := by
  obtain ⟨x, rfl, rfl, rfl, wx⟩ := open_int Try.underlying5 k0 h0
  have hb := bounds_u8 wx
  obtain ⟨n, rfl⟩ := Int.eq_ofNat_of_zero_le hb.1
  exact ⟨n, rfl, by omega⟩

end Go.Proofs.Ytbjpjnkaaiajlaa
