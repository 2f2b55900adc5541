/- Arguments that are arrays of two numbers. -/
import Derived.Test.YtnlcjelmdfjkcaaProg
import Derived.Test.YtnlcjelmdfjkcaaBv
import Derived.Test.YtnlcjelmdfjkcaaOpen
import Derived.OpenShut
namespace Go.Proofs.Ytnlcjelmdfjkcaa
open Go.RowKit Go.WideShapes Go.ChangeShapes Go.ChangeAt
variable {H : Type} {enc : TypeId × Value → H} {r : Reach} {b0 : Nat}

theorem okWide_array {P : Program} {w : World} {base n : Nat} {t e : TypeId} {v : Value} (ht : P.underlying t = some (.array n e)) (h : Value.okWide P w r base t v) : ∃ cs, v = .agg cs := by
  simp only [Value.okWide, ht] at h
  obtain ⟨cs, h1, _⟩ := h
  exact ⟨cs, h1⟩
theorem arg_two64 (w : World) {v0 : Value} {d0 : DataW H} {p0 : List MemPlace} (k0 : Value.okWide Try.prog w r b0 34 v0) (h0 : DataW.Trod enc Try.prog w 0 (fun _ => true) true 34 v0 d0 p0) : ∃ x y : BitVec 64, v0 = .agg #[.int .u64 (U x), .int .u64 (U y)] := by
  obtain ⟨cs, rfl⟩ := okWide_array Try.underlying34 k0
  obtain ⟨fuel, hf⟩ := h0
  obtain ⟨⟨x, y⟩, hc, w1, w2⟩ := el_pair Try.underlying34 Try.underlying26 (by kernel_rfl) (by kernel_rfl) _ _ _ hf
  have b1 := bounds_u64 w1
  have b2 := bounds_u64 w2
  obtain ⟨x', rfl⟩ := U_ex x b1.1 b1.2
  obtain ⟨y', rfl⟩ := U_ex y b2.1 b2.2
  exact ⟨x', y', congrArg Value.agg (Array.ext' hc)⟩
theorem arg_two8 (w : World) {v0 : Value} {d0 : DataW H} {p0 : List MemPlace} (k0 : Value.okWide Try.prog w r b0 35 v0) (h0 : DataW.Trod enc Try.prog w 0 (fun _ => true) true 35 v0 d0 p0) : ∃ x y : Nat, v0 = .agg #[.int .u8 (x : Int), .int .u8 (y : Int)] ∧ x < 256 ∧ y < 256 := by
  obtain ⟨cs, rfl⟩ := okWide_array Try.underlying35 k0
  obtain ⟨fuel, hf⟩ := h0
  obtain ⟨⟨x, y⟩, hc, w1, w2⟩ := el_pair Try.underlying35 Try.underlying5 (by kernel_rfl) (by kernel_rfl) _ _ _ hf
  have b1 := bounds_u8 w1
  have b2 := bounds_u8 w2
  obtain ⟨x', rfl⟩ := Int.eq_ofNat_of_zero_le b1.1
  obtain ⟨y', rfl⟩ := Int.eq_ofNat_of_zero_le b2.1
  exact ⟨x', y', congrArg Value.agg (Array.ext' hc), by omega, by omega⟩

end Go.Proofs.Ytnlcjelmdfjkcaa
