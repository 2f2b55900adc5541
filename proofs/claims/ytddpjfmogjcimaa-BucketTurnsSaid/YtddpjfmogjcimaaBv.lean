/- Numbers of 64 bits: how the walk spells them, and what a scramble undoes. -/
import Derived.WalkKit
import Derived.PlainAid
namespace Go.Proofs.Ytddpjfmogjcimaa
open Go.RowKit

/-- A number of 64 bits as the model holds it. -/
def U (x : BitVec 64) : Int := (x.toNat : Int)
theorem U_lo (x : BitVec 64) : 0 ≤ U x := by unfold U; omega
theorem U_hi (x : BitVec 64) : U x ≤ 18446744073709551615 := by unfold U; have := x.isLt; omega
theorem U_of (n : Int) (h0 : 0 ≤ n) (h1 : n ≤ 18446744073709551615) : U (BitVec.ofNat 64 n.toNat) = n := by
  unfold U
  rw [BitVec.toNat_ofNat]
  omega
theorem U_ex (n : Int) (h0 : 0 ≤ n) (h1 : n ≤ 18446744073709551615) : ∃ x, n = U x := ⟨_, (U_of n h0 h1).symm⟩
theorem U_inj {a b : BitVec 64} (h : U a = U b) : a = b := by
  unfold U at h
  exact BitVec.eq_of_toNat_eq (by omega)
theorem U_wrap (n : Nat) : IntKind.u64.wrap (n : Int) = U (BitVec.ofNat 64 n) := by
  unfold U
  rw [IntKind.wrap_u64, BitVec.toNat_ofNat]
  omega
theorem U_mul (a b : BitVec 64) : IntKind.u64.wrap (U a * U b) = U (a * b) := by
  unfold U
  rw [IntKind.wrap_u64, BitVec.toNat_mul, ← Int.natCast_mul]
  omega
theorem U_add (a b : BitVec 64) : IntKind.u64.wrap (U a + U b) = U (a + b) := by
  unfold U
  rw [IntKind.wrap_u64, BitVec.toNat_add]
  omega
theorem U_sub (a b : BitVec 64) : IntKind.u64.wrap (U a - U b) = U (a - b) := by
  unfold U
  rw [IntKind.wrap_u64, BitVec.toNat_sub]
  have := b.isLt
  omega
theorem U_xor (a b : BitVec 64) : bits BinOp.xor IntKind.u64 (U a) (U b) = U (a ^^^ b) := by
  unfold U
  rw [bits_xor_u64_nat _ _ a.isLt b.isLt, BitVec.toNat_xor]
theorem U_shr (a : BitVec 64) (s : Nat) : U a / 2 ^ s = U (a >>> s) := by
  unfold U
  rw [BitVec.toNat_ushiftRight, Nat.shiftRight_eq_div_pow]
  norm_cast
theorem U_eq (a b : BitVec 64) : (U a == U b) = (a == b) := by
  rw [Bool.eq_iff_iff]
  simp only [beq_iff_eq]
  exact ⟨U_inj, fun h => by rw [h]⟩

/-- One step of a scramble undone, where three times the shift is beyond all bits. -/
theorem U_back (a : BitVec 64) : BitVec.ofInt 64 (U a) = a := by
  unfold U
  rw [BitVec.ofInt_natCast]
  simp
theorem U_nowrap (a : BitVec 64) : IntKind.u64.wrap (U a) = U a := by
  have := a.isLt
  rw [IntKind.wrap_u64]
  unfold U
  omega
theorem U_and (a b : BitVec 64) : bits BinOp.and IntKind.u64 (U a) (U b) = U (a &&& b) := by
  show IntKind.u64.wrap ((BitVec.ofInt 64 (U a) &&& BitVec.ofInt 64 (U b)).toNat : Int) = _
  rw [U_back, U_back]
  exact U_nowrap _
theorem U_or (a b : BitVec 64) : bits BinOp.or IntKind.u64 (U a) (U b) = U (a ||| b) := by
  show IntKind.u64.wrap ((BitVec.ofInt 64 (U a) ||| BitVec.ofInt 64 (U b)).toNat : Int) = _
  rw [U_back, U_back]
  exact U_nowrap _
theorem U_andNot (a b : BitVec 64) : bits BinOp.andNot IntKind.u64 (U a) (U b) = U (a &&& ~~~b) := by
  show IntKind.u64.wrap ((BitVec.ofInt 64 (U a) &&& ~~~(BitVec.ofInt 64 (U b))).toNat : Int) = _
  rw [U_back, U_back]
  exact U_nowrap _
theorem U_one_shl (s : Nat) (hs : s < 64) : IntKind.u64.wrap (1 * 2 ^ s) = U (1#64 <<< s) := by
  unfold U
  rw [BitVec.toNat_shiftLeft, IntKind.wrap_u64, Int.one_mul]
  have h : 2 ^ s < 2 ^ 64 := Nat.pow_lt_pow_right (by omega) hs
  have e : ((2 : Int) ^ s) = ((2 ^ s : Nat) : Int) := by push_cast; rfl
  rw [e]
  simp [Nat.shiftLeft_eq]
theorem U_lsb (x : BitVec 64) (s : Nat) : (bits BinOp.and IntKind.u64 (U (x >>> s)) 1 == 1) = x.getLsbD s := by
  have e1 : (1 : Int) = U 1#64 := rfl
  rw [e1, U_and, U_eq]
  have h : x.getLsbD s = (x >>> s).getLsbD 0 := by rw [BitVec.getLsbD_ushiftRight, Nat.add_zero]
  rw [h]
  generalize x >>> s = y
  rw [Bool.eq_iff_iff, beq_iff_eq, ← BitVec.toNat_inj, BitVec.toNat_and]
  show y.toNat &&& 1 = 1 ↔ y.toNat.testBit 0 = true
  rw [Nat.and_one_is_mod, Nat.testBit_zero, decide_eq_true_iff]

def fwd (d : Nat) (x : BitVec 64) : BitVec 64 := x ^^^ (x >>> d)
def bwd (d : Nat) (x : BitVec 64) : BitVec 64 := x ^^^ ((x ^^^ (x >>> d)) >>> d)

theorem shr_far (x : BitVec 64) (n : Nat) (h : 64 ≤ n) : x >>> n = 0#64 := by
  apply BitVec.eq_of_toNat_eq
  rw [BitVec.toNat_ushiftRight, Nat.shiftRight_eq_div_pow]
  have hx := x.isLt
  have : 2 ^ 64 ≤ 2 ^ n := Nat.pow_le_pow_right (by omega) h
  rw [Nat.div_eq_of_lt (by omega)]
  rfl

theorem bwd_fwd (d : Nat) (hd : 22 ≤ d) (x : BitVec 64) : bwd d (fwd d x) = x := by
  unfold bwd fwd
  apply BitVec.eq_of_getLsbD_eq
  intro i hi
  have h3 : x.getLsbD (d + (d + (d + i))) = false := BitVec.getLsbD_of_ge x _ (by omega)
  simp only [BitVec.getLsbD_xor, BitVec.getLsbD_ushiftRight, h3]
  cases x.getLsbD i <;> cases x.getLsbD (d + i) <;> cases x.getLsbD (d + (d + i)) <;> rfl

theorem fwd_bwd (d : Nat) (hd : 22 ≤ d) (x : BitVec 64) : fwd d (bwd d x) = x := by
  unfold bwd fwd
  apply BitVec.eq_of_getLsbD_eq
  intro i hi
  have h3 : x.getLsbD (d + (d + (d + i))) = false := BitVec.getLsbD_of_ge x _ (by omega)
  simp only [BitVec.getLsbD_xor, BitVec.getLsbD_ushiftRight, h3]
  cases x.getLsbD i <;> cases x.getLsbD (d + i) <;> cases x.getLsbD (d + (d + i)) <;> rfl

def c1 : BitVec 64 := 13787848793156543929#64
def c2 : BitVec 64 := 10723151780598845931#64
/-- A number scrambled. -/
def scr (x : BitVec 64) : BitVec 64 := fwd 31 (fwd 27 (fwd 30 x * c1) * c2) * 1#64
def invs (f : BitVec 64) : Nat → BitVec 64
  | 0 => f
  | k + 1 => invs f k * (2#64 - f * invs f k)
def inv (f : BitVec 64) : BitVec 64 := invs f 5
def uns (x : BitVec 64) : BitVec 64 := bwd 30 (bwd 27 (bwd 31 (x * inv 1#64) * inv c2) * inv c1)

theorem inv_c1 : c1 * inv c1 = 1#64 := by decide +kernel
theorem inv_c2 : c2 * inv c2 = 1#64 := by decide +kernel
theorem inv_1 : inv 1#64 = 1#64 := by decide +kernel

theorem uns_scr (x : BitVec 64) : uns (scr x) = x := by
  unfold uns scr
  rw [inv_1, BitVec.mul_one, BitVec.mul_one, bwd_fwd 31 (by omega), BitVec.mul_assoc, inv_c2, BitVec.mul_one, bwd_fwd 27 (by omega), BitVec.mul_assoc, inv_c1, BitVec.mul_one, bwd_fwd 30 (by omega)]
theorem scr_uns (x : BitVec 64) : scr (uns x) = x := by
  unfold uns scr
  rw [inv_1, BitVec.mul_one, BitVec.mul_one, fwd_bwd 30 (by omega), BitVec.mul_assoc, BitVec.mul_comm (inv c1), inv_c1, BitVec.mul_one, fwd_bwd 27 (by omega), BitVec.mul_assoc, BitVec.mul_comm (inv c2), inv_c2, BitVec.mul_one, fwd_bwd 31 (by omega)]
theorem scr_inj {a b : BitVec 64} (h : scr a = scr b) : a = b := by rw [← uns_scr a, h, uns_scr]

end Go.Proofs.Ytddpjfmogjcimaa
