/- Bytes as strings. -/
import Derived.Test.YtbjpjnkaaiajlaaWireN
import Derived.Laws.BytesArg
import Derived.Lib.Bytes
import Derived.Shelf.Bytes.SlSmallAll
namespace Go.Proofs.Ytbjpjnkaaiajlaa
open Go.RowKit

/-- The string of bytes. -/
def strN (xs : List Nat) : ByteArray := strOfNums (xs.map fun x : Nat => (x : Int))
theorem strN_size (xs : List Nat) : (strN xs).size = xs.length := by rw [strN, strOfNums_size, List.length_map]
theorem strN_list (xs : List Nat) : (strN xs).toList = xs.map fun x => UInt8.ofNat x := by
  rw [strN, Lib.strOfNums_toList]
  simp [Lib.bytesOf]
theorem strN_beq (xs : List Nat) : ((strN xs).toList == (strN xs).toList) = true := by simp

/-- 'string(b)'. -/
theorem conv_rds {xs : List Nat} {a : Option Addr} {c : Nat} {W : World} (hr : Rds W 1 (.slice a xs.length c) xs.length (bytesV xs)) :
    (convert 24 9 (.slice a xs.length c)).run Try.prog W = .ok (.string (strN xs)) W := by
  by_cases h0 : xs.length = 0
  · have hx := List.eq_nil_of_length_eq_zero h0
    subst hx
    exact Go.Proofs.run_convert_bytes_zero W 24 5 Try.underlying24 Try.underlying5 a c 9 Try.underlying9
  · obtain ⟨b, o, rfl, hc⟩ := hr.at' (by omega)
    refine run_convert_bytes_arg W 24 5 Try.underlying24 Try.underlying5 b o xs.length c (xs.map fun x : Nat => (x : Int)) (by simp) (fun i hi => ?_) 9 Try.underlying9
    rw [hc i _ (bytesV_get xs i hi)]
    simp [List.getD, hi]

end Go.Proofs.Ytbjpjnkaaiajlaa
