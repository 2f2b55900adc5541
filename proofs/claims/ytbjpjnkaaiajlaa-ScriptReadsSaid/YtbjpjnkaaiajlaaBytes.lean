/- Slices of bytes: what they read as; one that comes in. -/
import Derived.Test.YtbjpjnkaaiajlaaOpen
namespace Go.Proofs.Ytbjpjnkaaiajlaa
open Go.RowKit Go.ChangeShapes Go.WideShapes

/-- The cells of a row of bytes. -/
def bytesV (xs : List Nat) : List Value := xs.map fun x : Nat => .int .u8 (x : Int)
theorem bytesV_get (xs : List Nat) (k : Nat) (h : k < xs.length) : (bytesV xs)[k]? = some (.int .u8 ((xs.getD k 0 : Nat) : Int)) := by simp [bytesV, h, List.getD]
theorem bytesV_len (xs : List Nat) : (bytesV xs).length = xs.length := by simp [bytesV]
theorem getD_small (xs : List Nat) (hg : ∀ x ∈ xs, x < 256) (k : Nat) : xs.getD k 0 < 256 := by
  rw [List.getD_eq_getElem?_getD]
  cases e : xs[k]? with
  | none => simp
  | some x => exact hg x (List.mem_of_getElem? e)


theorem bytesV_flat (xs : List Nat) : xs.flatMap (fun x : Nat => [Value.int .u8 (x : Int)]) = bytesV xs := by
  induction xs with
  | nil => rfl
  | cons x xs ih => simp [bytesV, List.flatMap_cons] at ih ⊢; exact ih

end Go.Proofs.Ytbjpjnkaaiajlaa
