/- An argument that is a row of bytes, with its capacity. -/
import Derived.Test.YtbjpjnkaaiajlaaArgBs
namespace Go.Proofs.Ytbjpjnkaaiajlaa
open Go.RowKit Go.WideShapes Go.ChangeShapes Go.ChangeAt

section
variable {H : Type} {enc : TypeId × Value → H} {r : Reach} {b0 : Nat}
set_option maxRecDepth 100000 in
theorem arg_bytesC (w : World) {v0 : Value} {d0 : DataW H} {p0 : List MemPlace} (k0 : Value.okWide Try.prog w r b0 24 v0) (h0 : DataW.Trod enc Try.prog w 0 (fun _ => true) true 24 v0 d0 p0) :
    ∃ (xs : List Nat) (a : Option Addr) (c : Nat), v0 = .slice a xs.length c ∧ Rds w 1 (.slice a xs.length c) xs.length (bytesV xs) ∧ xs.length ≤ c ∧ ∀ x ∈ xs, x < 256 := by
  obtain ⟨xs, a, cap, rfl, hr, hc, hg⟩ := arg_slice (fun x : Nat => [Value.int .u8 (x : Int)]) (fun x => x < 256) 1 (by omega) Try.underlying24 (by kernel_rfl) (fun _ => rfl) (fun n cs' y h => by
    obtain ⟨x, e, wf⟩ := el_int Try.underlying5 n cs' y h
    have hb := bounds_u8 wf
    obtain ⟨m, rfl⟩ := Int.eq_ofNat_of_zero_le hb.1
    exact ⟨m, e, by omega⟩) k0 h0
  exact ⟨xs, a, cap, rfl, by rw [← bytesV_flat]; exact hr, hc, hg⟩
end


end Go.Proofs.Ytbjpjnkaaiajlaa
