/- Layer 3: WireLimits' walk at its arguments. -/
import Derived.Test.YtmmkfchijafjeaaWLim
import Derived.Test.YtmmkfchijafjeaaArgI
namespace Go.Proofs.Ytmmkfchijafjeaa
open Go.RowKit Go.WideShapes Go.ChangeShapes Go.ChangeAt

section
variable {H : Type} {enc : TypeId × Value → H} {r : Reach} {b0 : Nat}
theorem arg_u16 (w : World) {v0 : Value} {d0 : DataW H} {p0 : List MemPlace} (k0 : Value.okWide Try.prog w r b0 39 v0) (h0 : DataW.Trod enc Try.prog w 0 (fun _ => true) true 39 v0 d0 p0) : ∃ x : Nat, v0 = .int .u16 x ∧ x < 65536 := by
  obtain ⟨x, rfl, rfl, rfl, wx⟩ := open_int Try.underlying39 k0 h0
  have hb := bounds_u16 wx
  exact ⟨x.toNat, by rw [Int.toNat_of_nonneg hb.1], by omega⟩
theorem wireLimits_walk (w : World) {v0 v1 : Value} {d0 d1 : DataW H} {p0 p1 : List MemPlace} (k0 : Value.okWide Try.prog w r b0 39 v0) (k1 : Value.okWide Try.prog w r b0 22 v1)
    (h0 : DataW.Trod enc Try.prog w 0 (fun _ => true) true 39 v0 d0 p0) (h1 : DataW.Trod enc Try.prog w 0 (fun _ => true) true 22 v1 d1 p1) :
    Calls Try.prog 4 #[v0, v1] w fun e w' => e = .returned (.bool true) ∧ Below w.heap.size w w' := by
  obtain ⟨x, rfl, hx⟩ := arg_u16 w k0 h0
  obtain ⟨l, a, c, rfl, hr, hg⟩ := arg_acts w k1 h1
  exact wireLimits_walk0 x l a c w hx hr hg
end

end Go.Proofs.Ytmmkfchijafjeaa
