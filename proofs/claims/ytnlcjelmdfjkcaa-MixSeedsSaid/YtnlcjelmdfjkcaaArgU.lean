/- An argument that is a number of 64 bits. -/
import Derived.Test.YtnlcjelmdfjkcaaProg
import Derived.Test.YtnlcjelmdfjkcaaBv
import Derived.Test.YtnlcjelmdfjkcaaOpen
import Derived.OpenShut
namespace Go.Proofs.Ytnlcjelmdfjkcaa
open Go.RowKit Go.WideShapes Go.ChangeShapes Go.ChangeAt
variable {H : Type} {enc : TypeId × Value → H} {r : Reach} {b0 : Nat}

theorem arg_u64 (w : World) {v0 : Value} {d0 : DataW H} {p0 : List MemPlace} (k0 : Value.okWide Try.prog w r b0 26 v0) (h0 : DataW.Trod enc Try.prog w 0 (fun _ => true) true 26 v0 d0 p0) : ∃ x : BitVec 64, v0 = .int .u64 (U x) := by
  obtain ⟨x, rfl, rfl, rfl, wx⟩ := open_int Try.underlying26 k0 h0
  have hb := bounds_u64 wx
  obtain ⟨y, rfl⟩ := U_ex x hb.1 hb.2
  exact ⟨y, rfl⟩

end Go.Proofs.Ytnlcjelmdfjkcaa
