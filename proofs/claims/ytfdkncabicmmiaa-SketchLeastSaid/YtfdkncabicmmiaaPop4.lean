/- math/bits.OnesCount64. -/
import Derived.Test.YtfdkncabicmmiaaPop3
namespace Go.Proofs.Ytfdkncabicmmiaa
open Go.RowKit
theorem and127 (x : Nat) (hx : x < 9223372036854775808) : bits BinOp.and IntKind.i64 (x : Int) 127 = ((x % 128 : Nat) : Int) := by
  show IntKind.i64.wrap ((BitVec.ofInt 64 (x : Int) &&& BitVec.ofInt 64 127).toNat : Int) = _
  have h1 : (BitVec.ofInt 64 (x : Int)).toNat = x := by
    rw [BitVec.ofInt_natCast, BitVec.toNat_ofNat]
    exact Nat.mod_eq_of_lt (by omega)
  have h2 : (BitVec.ofInt 64 127).toNat = 127 := by decide
  have h3 := Nat.and_two_pow_sub_one_eq_mod x 7
  rw [BitVec.toNat_and, h1, h2]
  have h4 : x &&& 127 = x % 128 := h3
  rw [h4, IntKind.wrap_i64]
  omega
set_option maxHeartbeats 1000000 in
theorem ones_core (x x1 x2 x3 x4 x5 x6 r : Nat) (w : World) (k1 : IntKind.u64.wrap (bits BinOp.and IntKind.u64 ((x : Int) / 2) 6148914691236517205 + bits BinOp.and IntKind.u64 (x : Int) 6148914691236517205) = (x1 : Int))
    (k2 : IntKind.u64.wrap (bits BinOp.and IntKind.u64 ((x1 : Int) / 4) 3689348814741910323 + bits BinOp.and IntKind.u64 (x1 : Int) 3689348814741910323) = (x2 : Int))
    (k3 : bits BinOp.and IntKind.u64 (IntKind.u64.wrap ((x2 : Int) / 16 + (x2 : Int))) 1085102592571150095 = (x3 : Int))
    (k4 : IntKind.u64.wrap ((x3 : Int) + (x3 : Int) / 256) = (x4 : Int)) (k5 : IntKind.u64.wrap ((x4 : Int) + (x4 : Int) / 65536) = (x5 : Int)) (k6 : IntKind.u64.wrap ((x5 : Int) + (x5 : Int) / 4294967296) = (x6 : Int))
    (k7 : IntKind.i64.wrap (x6 : Int) = (x6 : Int)) (k8 : bits BinOp.and IntKind.i64 (x6 : Int) 127 = (r : Int)) :
    Calls Try.prog 38 #[.int .u64 x] w fun e w' => e = .returned (.int .i64 r) ∧ w = w' := by
  go_enter Try.func38, Try.ntmps38
  go_wp2
  go_ret
  exact ⟨rfl, rfl⟩
theorem ones_any (x : Nat) (hx : x < 18446744073709551616) (w : World) :
    Calls Try.prog 38 #[.int .u64 x] w fun e w' => e = .returned (.int .i64 (pc 64 x : Nat)) ∧ w = w' := by
  obtain ⟨x1, x2, x3, x4, x5, x6, h1, h2, h3, h4, h5, h6, l1, l2, l2b, l3, l4, l5, l6, hr⟩ := ones_math x hx
  refine ones_core x x1 x2 x3 x4 x5 x6 (pc 64 x) w ?_ ?_ ?_ ?_ ?_ ?_ ?_ ?_
  · have e1 := bits_and_u64_nat (x / 2) 6148914691236517205 (by omega) (by omega)
    have e2 := bits_and_u64_nat x 6148914691236517205 hx (by omega)
    have e3 : ((x / 2 : Nat) : Int) = (x : Int) / 2 := by omega
    rw [e3] at e1
    rw [show (6148914691236517205 : Int) = ((6148914691236517205 : Nat) : Int) from rfl, e1, e2, IntKind.wrap_u64]
    omega
  · have e1 := bits_and_u64_nat (x1 / 4) 3689348814741910323 (by omega) (by omega)
    have e2 := bits_and_u64_nat x1 3689348814741910323 l1 (by omega)
    have e3 : ((x1 / 4 : Nat) : Int) = (x1 : Int) / 4 := by omega
    rw [e3] at e1
    rw [show (3689348814741910323 : Int) = ((3689348814741910323 : Nat) : Int) from rfl, e1, e2, IntKind.wrap_u64]
    omega
  · have e1 := bits_and_u64_nat (x2 / 16 + x2) 1085102592571150095 l2b (by omega)
    have e3 : IntKind.u64.wrap ((x2 : Int) / 16 + (x2 : Int)) = ((x2 / 16 + x2 : Nat) : Int) := by rw [IntKind.wrap_u64]; omega
    rw [e3, show (1085102592571150095 : Int) = ((1085102592571150095 : Nat) : Int) from rfl, e1, h3]
  · rw [IntKind.wrap_u64]; omega
  · rw [IntKind.wrap_u64]; omega
  · rw [IntKind.wrap_u64]; omega
  · rw [IntKind.wrap_i64]; omega
  · rw [and127 x6 l6, hr]

end Go.Proofs.Ytfdkncabicmmiaa
