/- An argument that is an int. -/
import Derived.Test.YtddpjfmogjcimaaProg
import Derived.Test.YtddpjfmogjcimaaBv
import Derived.Test.YtddpjfmogjcimaaOpen
import Derived.OpenShut
namespace Go.Proofs.Ytddpjfmogjcimaa
open Go.RowKit Go.WideShapes Go.ChangeShapes Go.ChangeAt
variable {H : Type} {enc : TypeId × Value → H} {r : Reach} {b0 : Nat}

set_option maxRecDepth 100000 in
theorem arg_int (w : World) {v0 : Value} {d0 : DataW H} {p0 : List MemPlace} (k0 : Value.okWide Try.prog w r b0 3 v0) (h0 : DataW.Trod enc Try.prog w 0 (fun _ => true) true 3 v0 d0 p0) : ∃ x : Int, v0 = .int .i64 x ∧ -9223372036854775808 ≤ x ∧ x ≤ 9223372036854775807 := by
  obtain ⟨x, rfl, rfl, rfl, wx⟩ := open_int Try.underlying3 k0 h0
  have hb := bounds_i64 wx
  exact ⟨x, rfl, hb.1, hb.2⟩

end Go.Proofs.Ytddpjfmogjcimaa
