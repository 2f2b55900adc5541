/- Counts side by side. -/
import Derived.Test.YtfdkncabicmmiaaPop
namespace Go.Proofs.Ytfdkncabicmmiaa
open Go.RowKit
theorem dig8 (x : Nat) : digB 8 x = [x % 256, x / 256 % 256, x / 256 / 256 % 256, x / 256 / 256 / 256 % 256, x / 256 / 256 / 256 / 256 % 256, x / 256 / 256 / 256 / 256 / 256 % 256, x / 256 / 256 / 256 / 256 / 256 / 256 % 256, x / 256 / 256 / 256 / 256 / 256 / 256 / 256 % 256] := rfl
theorem quo_at (a r : Nat) (h : a < 256) : (a + 256 * r) / 256 = r := by omega
theorem quo_at2 (a b r : Nat) (ha : a ≤ 16) (hb : b ≤ 16) : (a + 256 * b + 65536 * r) / 65536 = r := by omega
theorem quo_at4 (a b r : Nat) (ha : a ≤ 20000) (hb : b ≤ 20000) : (a + 65536 * b + 4294967296 * r) / 4294967296 = r := by omega
theorem nest (b c r2 r3 : Nat) (h2 : r2 = c + 256 * r3) : b + 256 * r2 + r2 = (b + c) + 256 * (r2 + r3) := by omega
/-- The bytes' counts, summed side by side. -/
theorem sum8 (a b c d e f g h : Nat) (ha : a ≤ 8) (hb : b ≤ 8) (hc : c ≤ 8) (hd : d ≤ 8) (he : e ≤ 8) (hf : f ≤ 8) (hg : g ≤ 8) (hh : h ≤ 8) :
    ∃ y4 y5 y6, valB [a, b, c, d, e, f, g, h] + valB [a, b, c, d, e, f, g, h] / 256 = y4 ∧ y4 + y4 / 65536 = y5 ∧ y5 + y5 / 4294967296 = y6 ∧ y4 < 18446744073709551616 ∧ y5 < 18446744073709551616 ∧ y6 < 9223372036854775808 ∧ y6 % 128 = a + b + c + d + e + f + g + h ∧ valB [a, b, c, d, e, f, g, h] < 18446744073709551616 := by
  obtain ⟨r7, h7⟩ : ∃ r7, r7 = h + 256 * 0 := ⟨_, rfl⟩
  obtain ⟨r6, h6⟩ : ∃ r6, r6 = g + 256 * r7 := ⟨_, rfl⟩
  obtain ⟨r5, h5⟩ : ∃ r5, r5 = f + 256 * r6 := ⟨_, rfl⟩
  obtain ⟨r4, h4⟩ : ∃ r4, r4 = e + 256 * r5 := ⟨_, rfl⟩
  obtain ⟨r3, h3⟩ : ∃ r3, r3 = d + 256 * r4 := ⟨_, rfl⟩
  obtain ⟨r2, h2⟩ : ∃ r2, r2 = c + 256 * r3 := ⟨_, rfl⟩
  obtain ⟨r1, h1⟩ : ∃ r1, r1 = b + 256 * r2 := ⟨_, rfl⟩
  have e1 : valB [a, b, c, d, e, f, g, h] = a + 256 * r1 := by simp only [valB, h1, h2, h3, h4, h5, h6, h7]
  rw [e1, quo_at a r1 (by omega)]
  have b7 : r7 ≤ 8 := by omega
  have b6 : r6 ≤ 2056 := by omega
  have b5 : r5 ≤ 526344 := by omega
  have b4 : r4 ≤ 134744072 := by omega
  have b3 : r3 ≤ 34494482440 := by omega
  have b2 : r2 ≤ 8830587504648 := by omega
  have b1 : r1 ≤ 2260630401189896 := by omega
  obtain ⟨t3, k3⟩ : ∃ t3, t3 = r6 + r7 := ⟨_, rfl⟩
  obtain ⟨t2, k2⟩ : ∃ t2, t2 = r4 + r5 := ⟨_, rfl⟩
  obtain ⟨t1, k1⟩ : ∃ t1, t1 = r2 + r3 := ⟨_, rfl⟩
  have x4 : a + 256 * r1 + r1 = (a + b) + 256 * (b + c) + 65536 * t1 := by rw [k1]; clear h4 h5 h6 h7 k2 k3 b3 b4 b5 b6 b7; omega
  have x1 : t1 = (c + d) + 256 * (d + e) + 65536 * t2 := by rw [k1, k2]; clear h1 h5 h6 h7 b1 b2 b5 b6 b7; omega
  have x2 : t2 = (e + f) + 256 * (f + g) + 65536 * t3 := by rw [k2, k3]; clear h1 h2 h3 h7 b1 b2 b3; omega
  have x3 : t3 = (g + h) + 256 * h := by rw [k3]; clear h1 h2 h3 h4 h5 b1 b2 b3 b4; omega
  have c3 : t3 ≤ 2064 := by omega
  have c2 : t2 ≤ 135270416 := by omega
  have c1 : t1 ≤ 8865081987088 := by omega
  refine ⟨_, _, _, rfl, rfl, rfl, ?_⟩
  rw [x4]
  rw [quo_at2 (a + b) (b + c) t1 (by omega) (by omega)]
  have x5 : (a + b) + 256 * (b + c) + 65536 * t1 + t1 = ((a + b + c + d) + 256 * (b + c + d + e)) + 65536 * ((c + d + e + f) + 256 * (d + e + f + g)) + 4294967296 * (t2 + t3) := by clear h1 h2 h3 h4 h5 h6 h7 k1 k2 k3 b1 b2 b3 b4 b5 b6 b7 x4; omega
  rw [x5, quo_at4 _ _ (t2 + t3) (by omega) (by omega)]
  clear h1 h2 h3 h4 h5 h6 h7 k1 k2 k3 b2 b3 b4 b5 b6 b7 x4 x5
  refine ⟨by omega, by omega, by omega, ?_, by omega⟩
  have x6 : ((a + b + c + d) + 256 * (b + c + d + e)) + 65536 * ((c + d + e + f) + 256 * (d + e + f + g)) + 4294967296 * (t2 + t3) + (t2 + t3) = (a + b + c + d + e + f + g + h) + 128 * (2 * (b + c + d + e) + 512 * ((c + d + e + f) + 256 * (d + e + f + g)) + 33554432 * (t2 + t3) + 2 * (f + g) + 512 * t3 + 2 * h) := by omega
  rw [x6, Nat.add_mul_mod_self_left, Nat.mod_eq_of_lt (by omega)]
theorem valB_lt : ∀ bs : List Nat, (∀ b ∈ bs, b < 256) → valB bs < 256 ^ bs.length
  | [], _ => by simp [valB]
  | b :: bs, h => by
    have h1 := valB_lt bs (fun c hc => h c (by simp [hc]))
    have h2 := h b (by simp)
    simp only [valB, List.length_cons, Nat.pow_succ]
    omega
theorem valB_68 : ∀ bs : List Nat, (∀ b ∈ bs, b ≤ 68) → 255 * valB bs + 68 ≤ 68 * 256 ^ bs.length
  | [], _ => by simp [valB]
  | b :: bs, h => by
    have h1 := valB_68 bs (fun c hc => h c (by simp [hc]))
    have h2 := h b (by simp)
    simp only [valB, List.length_cons, Nat.pow_succ]
    omega

end Go.Proofs.Ytfdkncabicmmiaa
