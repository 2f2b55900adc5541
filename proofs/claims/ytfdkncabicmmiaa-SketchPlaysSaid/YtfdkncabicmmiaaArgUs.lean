/- An argument that is a row of numbers of 64 bits. -/
import Derived.Test.YtfdkncabicmmiaaArgU
namespace Go.Proofs.Ytfdkncabicmmiaa
open Go.RowKit Go.WideShapes Go.ChangeShapes Go.ChangeAt

def u64sV (xs : List (BitVec 64)) : List Value := xs.map fun x => .int .u64 (U x)
theorem u64sV_get (xs : List (BitVec 64)) (k : Nat) (h : k < xs.length) : (u64sV xs)[k]? = some (.int .u64 (U (xs.getD k 0))) := by
  simp [u64sV, h, List.getD]
theorem u64sV_flat : ∀ xs : List (BitVec 64), xs.flatMap (fun x : BitVec 64 => [Value.int .u64 (U x)]) = u64sV xs
  | [] => rfl
  | x :: xs => by rw [List.flatMap_cons, u64sV_flat xs]; rfl
section
variable {H : Type} {enc : TypeId × Value → H} {r : Reach} {b0 : Nat}
set_option maxRecDepth 100000 in
theorem arg_u64s (w : World) {v0 : Value} {d0 : DataW H} {p0 : List MemPlace} (k0 : Value.okWide Try.prog w r b0 22 v0) (h0 : DataW.Trod enc Try.prog w 0 (fun _ => true) true 22 v0 d0 p0) :
    ∃ (xs : List (BitVec 64)) (a : Option Addr) (c : Nat), v0 = .slice a xs.length c ∧ Rds w 1 (.slice a xs.length c) xs.length (u64sV xs) := by
  obtain ⟨xs, a, cap, rfl, hr, _, _⟩ := arg_slice (fun x : BitVec 64 => [Value.int .u64 (U x)]) (fun _ => True) 1 (by omega) Try.underlying22 (by kernel_rfl) (fun _ => rfl) (fun n cs' y h => by
    obtain ⟨x, e, wf⟩ := el_int Try.underlying26 n cs' y h
    have hb := bounds_u64 wf
    obtain ⟨m, rfl⟩ := U_ex x hb.1 hb.2
    exact ⟨m, e, trivial⟩) k0 h0
  refine ⟨xs, a, cap, rfl, ?_⟩
  rw [← u64sV_flat]
  exact hr
end

end Go.Proofs.Ytfdkncabicmmiaa
