/- Layer 3: WireNumbers' walk at its arguments. -/
import Derived.Test.YtmmkfchijafjeaaWNums
namespace Go.Proofs.Ytmmkfchijafjeaa
open Go.RowKit Go.WideShapes Go.ChangeShapes Go.ChangeAt

section
variable {H : Type} {enc : TypeId × Value → H} {r : Reach} {b0 : Nat}
theorem wireNumbers_walk (w : World) {v0 v1 v2 : Value} {d0 d1 d2 : DataW H} {p0 p1 p2 : List MemPlace} (k0 : Value.okWide Try.prog w r b0 26 v0) (k1 : Value.okWide Try.prog w r b0 3 v1) (k2 : Value.okWide Try.prog w r b0 5 v2)
    (h0 : DataW.Trod enc Try.prog w 0 (fun _ => true) true 26 v0 d0 p0) (h1 : DataW.Trod enc Try.prog w 0 (fun _ => true) true 3 v1 d1 p1) (h2 : DataW.Trod enc Try.prog w 0 (fun _ => true) true 5 v2 d2 p2) :
    Calls Try.prog 8 #[v0, v1, v2] w fun e w' => e = .returned (.bool true) ∧ Below w.heap.size w w' := by
  obtain ⟨xs, a, c, rfl, hr, hc, hs⟩ := arg_bytesC w k0 h0
  obtain ⟨k, rfl, _⟩ := arg_int w k1 h1
  obtain ⟨m, rfl, hm⟩ := arg_u8 w k2 h2
  exact wireNumbers_walk0 xs a c k m w hm hc hs hr
end

end Go.Proofs.Ytmmkfchijafjeaa
