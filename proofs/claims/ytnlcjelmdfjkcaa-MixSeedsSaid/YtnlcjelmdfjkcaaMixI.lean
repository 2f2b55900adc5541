/- The hash: no two seeds, no two last bytes have one. -/
import Derived.Test.YtnlcjelmdfjkcaaMixHash
namespace Go.Proofs.Ytnlcjelmdfjkcaa
open Go.RowKit

theorem inv_p : 1099511628211#64 * inv 1099511628211#64 = 1#64 := by decide +kernel
theorem mul_p_inj {a b : BitVec 64} (h : a * 1099511628211#64 = b * 1099511628211#64) : a = b := by
  have h2 : a * 1099511628211#64 * inv 1099511628211#64 = b * 1099511628211#64 * inv 1099511628211#64 := by rw [h]
  rwa [BitVec.mul_assoc, BitVec.mul_assoc, inv_p, BitVec.mul_one, BitVec.mul_one] at h2
theorem xor_inj_r {a b c : BitVec 64} (h : a ^^^ c = b ^^^ c) : a = b := by
  have h2 : a ^^^ c ^^^ c = b ^^^ c ^^^ c := by rw [h]
  rwa [BitVec.xor_assoc, BitVec.xor_assoc, BitVec.xor_self, BitVec.xor_zero, BitVec.xor_zero] at h2
theorem xor_inj_l {a b c : BitVec 64} (h : c ^^^ a = c ^^^ b) : a = b := by
  rw [BitVec.xor_comm c a, BitVec.xor_comm c b] at h
  exact xor_inj_r h
theorem hb_inj {n m : BitVec 64} {x : Nat} (h : hb n x = hb m x) : n = m := xor_inj_r (mul_p_inj h)
theorem hb_inj2 {n : BitVec 64} {x y : Nat} (hx : x < 256) (hy : y < 256) (h : hb n x = hb n y) : x = y := by
  have h2 := xor_inj_l (mul_p_inj h)
  have h3 := congrArg BitVec.toNat h2
  simp only [BitVec.toNat_ofNat] at h3
  omega
theorem foldB_inj : ∀ (xs : List Nat) {n m : BitVec 64}, foldB n xs = foldB m xs → n = m
  | [], _, _, h => h
  | x :: xs, _, _, h => hb_inj (foldB_inj xs h)
theorem hashB_seed (s t : BitVec 64) (xs : List Nat) : (U (hashB s xs) == U (hashB t xs)) = (U s == U t) := by
  rw [Bool.eq_iff_iff, beq_iff_eq, beq_iff_eq]
  refine ⟨fun h => ?_, fun h => by rw [U_inj h]⟩
  have h2 := scr_inj (U_inj h)
  have h3 : foldB (begB s) xs = foldB (begB t) xs := by
    have := congrArg (· - BitVec.ofNat 64 xs.length) h2
    simpa [BitVec.add_sub_cancel] using this
  rw [xor_inj_r (foldB_inj xs h3)]
theorem hashB_last (s : BitVec 64) (xs : List Nat) (x y : Nat) (hx : x < 256) (hy : y < 256) : (U (hashB s (xs ++ [x])) == U (hashB s (xs ++ [y]))) = ((x : Int) == (y : Int)) := by
  rw [Bool.eq_iff_iff, beq_iff_eq, beq_iff_eq]
  refine ⟨fun h => ?_, fun h => by rw [Int.ofNat_inj.1 h]⟩
  have h2 := scr_inj (U_inj h)
  have h3 : foldB (begB s) (xs ++ [x]) = foldB (begB s) (xs ++ [y]) := by
    have := congrArg (· - BitVec.ofNat 64 (xs ++ [x]).length) h2
    simp only [List.length_append, List.length_singleton] at this
    simpa [BitVec.add_sub_cancel] using this
  rw [foldB, List.foldl_append, foldB, List.foldl_append] at h3
  rw [hb_inj2 hx hy (show hb (List.foldl hb (begB s) xs) x = hb (List.foldl hb (begB s) xs) y from h3)]

end Go.Proofs.Ytnlcjelmdfjkcaa
