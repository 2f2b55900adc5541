/- Layer 3: WireBack's walk at its arguments. -/
import Derived.Test.YtmmkfchijafjeaaWBack
import Derived.Test.YtmmkfchijafjeaaArgI
namespace Go.Proofs.Ytmmkfchijafjeaa
open Go.RowKit Go.WideShapes Go.ChangeShapes Go.ChangeAt

section
variable {H : Type} {enc : TypeId × Value → H} {r : Reach} {b0 : Nat}
theorem wireBack_walk (w : World) {v0 v1 : Value} {d0 d1 : DataW H} {p0 p1 : List MemPlace} (k0 : Value.okWide Try.prog w r b0 3 v0) (k1 : Value.okWide Try.prog w r b0 22 v1)
    (h0 : DataW.Trod enc Try.prog w 0 (fun _ => true) true 3 v0 d0 p0) (h1 : DataW.Trod enc Try.prog w 0 (fun _ => true) true 22 v1 d1 p1) :
    Calls Try.prog 6 #[v0, v1] w fun e w' => e = .returned (.bool true) ∧ Below w.heap.size w w' := by
  obtain ⟨x, rfl, _, hx⟩ := arg_int w k0 h0
  obtain ⟨l, a, c, rfl, hr, hg⟩ := arg_acts w k1 h1
  exact wireBack_walk0 x l a c w hx hr hg
end

end Go.Proofs.Ytmmkfchijafjeaa
