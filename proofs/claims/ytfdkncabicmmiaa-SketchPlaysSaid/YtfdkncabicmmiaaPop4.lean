/- math/bits.OnesCount64: how many bits are 1. Counts side by side. The arithmetic of OnesCount64. math/bits.OnesCount64. -/
import Derived.Test.YtfdkncabicmmiaaProg
import Derived.WalkKit
import Derived.WalkSpells
import Derived.WalkLawsBesides
import Derived.Lib.Hide
import Derived.Deep.RegionHeld3
import Derived.Deep.AppendLies
import Derived.Deep.DrawnRows
import Derived.Deep.DeepFit
import Derived.Test.YtfdkncabicmmiaaBv
import Derived.Test.YtfdkncabicmmiaaMem
import Derived.Laws.Bits64b
namespace Go.Proofs.Ytfdkncabicmmiaa
section
open Go.RowKit

def valB : List Nat → Nat
  | [] => 0
  | b :: l => b + 256 * valB l
def digB : Nat → Nat → List Nat
  | 0, _ => []
  | n + 1, x => x % 256 :: digB n (x / 256)
theorem digB_len : ∀ n x, (digB n x).length = n
  | 0, _ => rfl
  | n + 1, x => by simp [digB, digB_len n]
theorem digB_small : ∀ n x, ∀ b ∈ digB n x, b < 256
  | 0, _ => by simp [digB]
  | n + 1, x => by
    intro b hb
    simp only [digB, List.mem_cons] at hb
    rcases hb with rfl | hb
    · exact Nat.mod_lt _ (by omega)
    · exact digB_small n _ b hb
theorem valB_dig : ∀ n x, x < 256 ^ n → valB (digB n x) = x
  | 0, x, h => by simp at h; simp [digB, valB, h]
  | n + 1, x, h => by
    have := valB_dig n (x / 256) (by rw [Nat.pow_succ] at h; omega)
    simp only [digB, valB, this]
    omega
theorem and_split (lo m hi M : Nat) (h1 : lo < 256) (h2 : m < 256) : (lo + 256 * hi) &&& (m + 256 * M) = (lo &&& m) + 256 * (hi &&& M) := by
  apply Nat.eq_of_testBit_eq
  intro j
  have e : (256 : Nat) = 2 ^ 8 := by decide
  have h3 : lo &&& m < 2 ^ 8 := Nat.and_lt_two_pow _ (by omega)
  rw [Nat.testBit_and, Nat.add_comm lo, Nat.add_comm m, Nat.add_comm (lo &&& m), e, Nat.testBit_two_pow_mul_add hi (by omega) j, Nat.testBit_two_pow_mul_add M (by omega) j, Nat.testBit_two_pow_mul_add (hi &&& M) h3 j]
  split
  · rw [Nat.testBit_and]
  · rw [Nat.testBit_and]
def maskB (m : Nat) (n : Nat) : Nat := valB (List.replicate n m)
theorem maskB_succ (m n : Nat) : maskB m (n + 1) = m + 256 * maskB m n := by simp [maskB, List.replicate_succ, valB]
def g1 (b : Nat) : Nat := ((b / 2) &&& 85) + (b &&& 85)
def g2 (b : Nat) : Nat := ((b / 4) &&& 51) + (b &&& 51)
def g3 (b : Nat) : Nat := (b / 16 + b) &&& 15
theorem g1_mask : ∀ lo, lo < 256 → ∀ r, r < 2 → (lo / 2 + r * 128) &&& 85 = (lo / 2) &&& 85 := by decide +kernel
theorem g2_mask : ∀ lo, lo < 256 → ∀ r, r < 4 → (lo / 4 + r * 64) &&& 51 = (lo / 4) &&& 51 := by decide +kernel
theorem g1_lt : ∀ lo, lo < 256 → g1 lo < 256 := by decide +kernel
theorem g21_lt : ∀ lo, lo < 256 → g2 (g1 lo) ≤ 68 ∧ g2 (g1 lo) % 16 ≤ 4 := by decide +kernel
theorem g3_mask : ∀ b, b < 69 → ∀ r, r < 5 → (b / 16 + r * 16 + b) &&& 15 = g3 b := by decide +kernel
theorem step1 : ∀ bs : List Nat, (∀ b ∈ bs, b < 256) → ((valB bs / 2) &&& maskB 85 bs.length) + (valB bs &&& maskB 85 bs.length) = valB (bs.map g1)
  | [], _ => by simp [valB, maskB]
  | b :: bs, h => by
    have hb := h b (by simp)
    have ih := step1 bs (fun c hc => h c (by simp [hc]))
    have e : (b + 256 * valB bs) / 2 = (b / 2 + valB bs % 2 * 128) + 256 * (valB bs / 2) := by omega
    simp only [valB, List.length_cons, maskB_succ, List.map_cons]
    rw [e, and_split _ _ _ _ (by omega) (by omega), and_split _ _ _ _ hb (by omega), g1_mask b hb _ (by omega), ← ih]
    unfold g1
    omega
theorem step2 : ∀ bs : List Nat, (∀ b ∈ bs, b < 256) → ((valB bs / 4) &&& maskB 51 bs.length) + (valB bs &&& maskB 51 bs.length) = valB (bs.map g2)
  | [], _ => by simp [valB, maskB]
  | b :: bs, h => by
    have hb := h b (by simp)
    have ih := step2 bs (fun c hc => h c (by simp [hc]))
    have e : (b + 256 * valB bs) / 4 = (b / 4 + valB bs % 4 * 64) + 256 * (valB bs / 4) := by omega
    simp only [valB, List.length_cons, maskB_succ, List.map_cons]
    rw [e, and_split _ _ _ _ (by omega) (by omega), and_split _ _ _ _ hb (by omega), g2_mask b hb _ (by omega), ← ih]
    unfold g2
    omega
theorem valB_mod (bs : List Nat) (h : ∀ b ∈ bs, b ≤ 68 ∧ b % 16 ≤ 4) : valB bs % 16 ≤ 4 := by
  cases bs with
  | nil => simp [valB]
  | cons b bs =>
    have := (h b (by simp)).2
    simp only [valB]
    omega
theorem step3 : ∀ bs : List Nat, (∀ b ∈ bs, b ≤ 68 ∧ b % 16 ≤ 4) → (valB bs / 16 + valB bs) &&& maskB 15 bs.length = valB (bs.map g3)
  | [], _ => by simp [valB, maskB]
  | b :: bs, h => by
    have hb := h b (by simp)
    have hr := valB_mod bs (fun c hc => h c (by simp [hc]))
    have ih := step3 bs (fun c hc => h c (by simp [hc]))
    have e : (b + 256 * valB bs) / 16 + (b + 256 * valB bs) = (b / 16 + valB bs % 16 * 16 + b) + 256 * (valB bs / 16 + valB bs) := by omega
    simp only [valB, List.length_cons, maskB_succ, List.map_cons]
    rw [e, and_split _ _ _ _ (by omega) (by omega), g3_mask b (by omega) _ (by omega), ih]

/-- How many of the low k bits are 1. -/
def pc : Nat → Nat → Nat
  | 0, _ => 0
  | k + 1, x => x % 2 + pc k (x / 2)
theorem pc_filter : ∀ k x, ((List.range k).filter x.testBit).length = pc k x
  | 0, _ => rfl
  | k + 1, x => by
    have ih := pc_filter k (x / 2)
    have e : (List.range k).filter (x.testBit ∘ Nat.succ) = (List.range k).filter (x / 2).testBit := by
      congr 1
      funext i
      exact Nat.testBit_succ x i
    rw [List.range_succ_eq_map, List.filter_cons, List.filter_map, e]
    unfold pc
    rcases Nat.mod_two_eq_zero_or_one x with h | h
    · rw [if_neg (by rw [Nat.testBit_zero]; simp [h]), List.length_map, ih]
      omega
    · rw [if_pos (by rw [Nat.testBit_zero]; simp [h]), List.length_cons, List.length_map, ih]
      omega
theorem pc_succ (k x : Nat) : pc (k + 1) x = x % 2 + pc k (x / 2) := rfl
theorem pc_byte (k lo hi : Nat) : ∀ j, lo < 2 ^ j → pc (j + k) (lo + 2 ^ j * hi) = pc j lo + pc k hi := by
  intro j
  induction j generalizing lo with
  | zero =>
    intro h
    have : lo = 0 := by omega
    subst this
    simp [pc]
  | succ j ih =>
    intro h
    rw [show j + 1 + k = (j + k) + 1 by omega, pc_succ, pc_succ]
    have e1 : (lo + 2 ^ (j + 1) * hi) % 2 = lo % 2 := by rw [Nat.pow_succ, Nat.mul_right_comm]; omega
    have e2 : (lo + 2 ^ (j + 1) * hi) / 2 = lo / 2 + 2 ^ j * hi := by rw [Nat.pow_succ, Nat.mul_right_comm]; omega
    rw [e1, e2, ih (lo / 2) (by rw [Nat.pow_succ] at h; omega)]
    omega
def sumB (bs : List Nat) : Nat := bs.foldr (· + ·) 0
theorem pc_dig : ∀ n x, pc (8 * n) x = sumB ((digB n x).map (pc 8))
  | 0, _ => rfl
  | n + 1, x => by
    have := pc_byte (8 * n) (x % 256) (x / 256) 8 (by omega)
    rw [show 8 * (n + 1) = 8 + 8 * n by omega]
    have e : x % 256 + 2 ^ 8 * (x / 256) = x := by omega
    rw [e] at this
    rw [this, pc_dig n (x / 256)]
    simp [digB, sumB]
theorem g_pc : ∀ b, b < 256 → g3 (g2 (g1 b)) = pc 8 b := by decide +kernel
theorem pc_le : ∀ b, b < 256 → pc 8 b ≤ 8 := by decide +kernel
end

section
open Go.RowKit
theorem dig8 (x : Nat) : digB 8 x = [x % 256, x / 256 % 256, x / 256 / 256 % 256, x / 256 / 256 / 256 % 256, x / 256 / 256 / 256 / 256 % 256, x / 256 / 256 / 256 / 256 / 256 % 256, x / 256 / 256 / 256 / 256 / 256 / 256 % 256, x / 256 / 256 / 256 / 256 / 256 / 256 / 256 % 256] := rfl
theorem quo_at (a r : Nat) (h : a < 256) : (a + 256 * r) / 256 = r := by omega
theorem quo_at2 (a b r : Nat) (ha : a ≤ 16) (hb : b ≤ 16) : (a + 256 * b + 65536 * r) / 65536 = r := by omega
theorem quo_at4 (a b r : Nat) (ha : a ≤ 20000) (hb : b ≤ 20000) : (a + 65536 * b + 4294967296 * r) / 4294967296 = r := by omega
theorem nest (b c r2 r3 : Nat) (h2 : r2 = c + 256 * r3) : b + 256 * r2 + r2 = (b + c) + 256 * (r2 + r3) := by omega
/-- The bytes' counts, summed side by side. -/
theorem sum8 (a b c d e f g h : Nat) (ha : a ≤ 8) (hb : b ≤ 8) (hc : c ≤ 8) (hd : d ≤ 8) (he : e ≤ 8) (hf : f ≤ 8) (hg : g ≤ 8) (hh : h ≤ 8) :
    ∃ y4 y5 y6, valB [a, b, c, d, e, f, g, h] + valB [a, b, c, d, e, f, g, h] / 256 = y4 ∧ y4 + y4 / 65536 = y5 ∧ y5 + y5 / 4294967296 = y6 ∧ y4 < 18446744073709551616 ∧ y5 < 18446744073709551616 ∧ y6 < 9223372036854775808 ∧ y6 % 128 = a + b + c + d + e + f + g + h ∧ valB [a, b, c, d, e, f, g, h] < 18446744073709551616 := by
  obtain ⟨r7, h7⟩ : ∃ r7, r7 = h + 256 * 0 := ⟨_, rfl⟩
  obtain ⟨r6, h6⟩ : ∃ r6, r6 = g + 256 * r7 := ⟨_, rfl⟩
  obtain ⟨r5, h5⟩ : ∃ r5, r5 = f + 256 * r6 := ⟨_, rfl⟩
  obtain ⟨r4, h4⟩ : ∃ r4, r4 = e + 256 * r5 := ⟨_, rfl⟩
  obtain ⟨r3, h3⟩ : ∃ r3, r3 = d + 256 * r4 := ⟨_, rfl⟩
  obtain ⟨r2, h2⟩ : ∃ r2, r2 = c + 256 * r3 := ⟨_, rfl⟩
  obtain ⟨r1, h1⟩ : ∃ r1, r1 = b + 256 * r2 := ⟨_, rfl⟩
  have e1 : valB [a, b, c, d, e, f, g, h] = a + 256 * r1 := by simp only [valB, h1, h2, h3, h4, h5, h6, h7]
  rw [e1, quo_at a r1 (by omega)]
  have b7 : r7 ≤ 8 := by omega
  have b6 : r6 ≤ 2056 := by omega
  have b5 : r5 ≤ 526344 := by omega
  have b4 : r4 ≤ 134744072 := by omega
  have b3 : r3 ≤ 34494482440 := by omega
  have b2 : r2 ≤ 8830587504648 := by omega
  have b1 : r1 ≤ 2260630401189896 := by omega
  obtain ⟨t3, k3⟩ : ∃ t3, t3 = r6 + r7 := ⟨_, rfl⟩
  obtain ⟨t2, k2⟩ : ∃ t2, t2 = r4 + r5 := ⟨_, rfl⟩
  obtain ⟨t1, k1⟩ : ∃ t1, t1 = r2 + r3 := ⟨_, rfl⟩
  have x4 : a + 256 * r1 + r1 = (a + b) + 256 * (b + c) + 65536 * t1 := by rw [k1]; clear h4 h5 h6 h7 k2 k3 b3 b4 b5 b6 b7; omega
  have x1 : t1 = (c + d) + 256 * (d + e) + 65536 * t2 := by rw [k1, k2]; clear h1 h5 h6 h7 b1 b2 b5 b6 b7; omega
  have x2 : t2 = (e + f) + 256 * (f + g) + 65536 * t3 := by rw [k2, k3]; clear h1 h2 h3 h7 b1 b2 b3; omega
  have x3 : t3 = (g + h) + 256 * h := by rw [k3]; clear h1 h2 h3 h4 h5 b1 b2 b3 b4; omega
  have c3 : t3 ≤ 2064 := by omega
  have c2 : t2 ≤ 135270416 := by omega
  have c1 : t1 ≤ 8865081987088 := by omega
  refine ⟨_, _, _, rfl, rfl, rfl, ?_⟩
  rw [x4]
  rw [quo_at2 (a + b) (b + c) t1 (by omega) (by omega)]
  have x5 : (a + b) + 256 * (b + c) + 65536 * t1 + t1 = ((a + b + c + d) + 256 * (b + c + d + e)) + 65536 * ((c + d + e + f) + 256 * (d + e + f + g)) + 4294967296 * (t2 + t3) := by clear h1 h2 h3 h4 h5 h6 h7 k1 k2 k3 b1 b2 b3 b4 b5 b6 b7 x4; omega
  rw [x5, quo_at4 _ _ (t2 + t3) (by omega) (by omega)]
  clear h1 h2 h3 h4 h5 h6 h7 k1 k2 k3 b2 b3 b4 b5 b6 b7 x4 x5
  refine ⟨by omega, by omega, by omega, ?_, by omega⟩
  have x6 : ((a + b + c + d) + 256 * (b + c + d + e)) + 65536 * ((c + d + e + f) + 256 * (d + e + f + g)) + 4294967296 * (t2 + t3) + (t2 + t3) = (a + b + c + d + e + f + g + h) + 128 * (2 * (b + c + d + e) + 512 * ((c + d + e + f) + 256 * (d + e + f + g)) + 33554432 * (t2 + t3) + 2 * (f + g) + 512 * t3 + 2 * h) := by omega
  rw [x6, Nat.add_mul_mod_self_left, Nat.mod_eq_of_lt (by omega)]
theorem valB_lt : ∀ bs : List Nat, (∀ b ∈ bs, b < 256) → valB bs < 256 ^ bs.length
  | [], _ => by simp [valB]
  | b :: bs, h => by
    have h1 := valB_lt bs (fun c hc => h c (by simp [hc]))
    have h2 := h b (by simp)
    simp only [valB, List.length_cons, Nat.pow_succ]
    omega
theorem valB_68 : ∀ bs : List Nat, (∀ b ∈ bs, b ≤ 68) → 255 * valB bs + 68 ≤ 68 * 256 ^ bs.length
  | [], _ => by simp [valB]
  | b :: bs, h => by
    have h1 := valB_68 bs (fun c hc => h c (by simp [hc]))
    have h2 := h b (by simp)
    simp only [valB, List.length_cons, Nat.pow_succ]
    omega
end

section
open Go.RowKit
theorem sumB8 (a b c d e f g h : Nat) : a + b + c + d + e + f + g + h = sumB [a, b, c, d, e, f, g, h] := by
  simp only [sumB, List.foldr]
  omega
theorem eight {α : Type} (bs : List α) (hl : bs.length = 8) : ∃ a b c d e f g h, bs = [a, b, c, d, e, f, g, h] := by
  match bs, hl with
  | [a, b, c, d, e, f, g, h], _ => exact ⟨a, b, c, d, e, f, g, h, rfl⟩
theorem ones_math (x : Nat) (hx : x < 18446744073709551616) : ∃ x1 x2 x3 x4 x5 x6,
    ((x / 2) &&& 6148914691236517205) + (x &&& 6148914691236517205) = x1 ∧ ((x1 / 4) &&& 3689348814741910323) + (x1 &&& 3689348814741910323) = x2 ∧ (x2 / 16 + x2) &&& 1085102592571150095 = x3 ∧ x3 + x3 / 256 = x4 ∧ x4 + x4 / 65536 = x5 ∧ x5 + x5 / 4294967296 = x6 ∧
    x1 < 18446744073709551616 ∧ x2 < 18446744073709551616 ∧ x2 / 16 + x2 < 18446744073709551616 ∧ x3 < 18446744073709551616 ∧ x4 < 18446744073709551616 ∧ x5 < 18446744073709551616 ∧ x6 < 9223372036854775808 ∧ x6 % 128 = pc 64 x := by
  have hd : digB 8 x = digB 8 x := rfl
  have hl := digB_len 8 x
  have hs := digB_small 8 x
  have hv := valB_dig 8 x (by rw [show (256 : Nat) ^ 8 = 18446744073709551616 by decide]; exact hx)
  have hp := pc_dig 8 x
  rw [show 8 * 8 = 64 from rfl] at hp
  obtain ⟨P, hP⟩ : ∃ P, pc 64 x = P := ⟨_, rfl⟩
  rw [hP] at hp ⊢
  clear hP
  generalize digB 8 x = bs at *
  have s1 := step1 bs hs
  have hs1 : ∀ b ∈ bs.map g1, b < 256 := fun b hb => by
    obtain ⟨c, hc, rfl⟩ := List.mem_map.1 hb
    exact g1_lt c (hs c hc)
  have s2 := step2 (bs.map g1) hs1
  have hs2 : ∀ b ∈ (bs.map g1).map g2, b ≤ 68 ∧ b % 16 ≤ 4 := fun b hb => by
    obtain ⟨c1, hc1, rfl⟩ := List.mem_map.1 hb
    obtain ⟨c2, hc2, rfl⟩ := List.mem_map.1 hc1
    exact g21_lt c2 (hs c2 hc2)
  have s3 := step3 ((bs.map g1).map g2) hs2
  have e3 : ((bs.map g1).map g2).map g3 = bs.map (pc 8) := by
    rw [List.map_map, List.map_map]
    exact List.map_congr_left (fun b hb => g_pc b (hs b hb))
  have l1 := valB_lt (bs.map g1) hs1
  have l2 := valB_lt ((bs.map g1).map g2) (fun b hb => by have := (hs2 b hb).1; omega)
  have l2c := valB_68 ((bs.map g1).map g2) (fun b hb => (hs2 b hb).1)
  rw [e3] at s3
  simp only [List.length_map] at s2 s3 l1 l2 l2c
  rw [hl] at s1 s2 s3 l1 l2 l2c
  rw [show (256 : Nat) ^ 8 = 18446744073709551616 by decide] at l1 l2 l2c
  have l2b : valB ((bs.map g1).map g2) / 16 + valB ((bs.map g1).map g2) < 18446744073709551616 := by omega
  have m1 : maskB 85 8 = 6148914691236517205 := by decide +kernel
  have m2 : maskB 51 8 = 3689348814741910323 := by decide +kernel
  have m3 : maskB 15 8 = 1085102592571150095 := by decide +kernel
  rw [m1, hv] at s1
  rw [m2] at s2
  rw [m3] at s3
  generalize valB (bs.map g1) = x1 at *
  generalize valB ((bs.map g1).map g2) = x2 at *
  obtain ⟨a, b, c, d, e, f, g, h, rfl⟩ := eight bs hl
  obtain ⟨y4, y5, y6, k4, k5, k6, q4, q5, q6, q7, q3⟩ := sum8 (pc 8 a) (pc 8 b) (pc 8 c) (pc 8 d) (pc 8 e) (pc 8 f) (pc 8 g) (pc 8 h) (pc_le a (hs a (by simp))) (pc_le b (hs b (by simp))) (pc_le c (hs c (by simp))) (pc_le d (hs d (by simp))) (pc_le e (hs e (by simp))) (pc_le f (hs f (by simp))) (pc_le g (hs g (by simp))) (pc_le h (hs h (by simp)))
  have hp2 : y6 % 128 = P := by
    rw [q7, hp]
    exact sumB8 _ _ _ _ _ _ _ _
  have s3' : (x2 / 16 + x2) &&& 1085102592571150095 = valB [pc 8 a, pc 8 b, pc 8 c, pc 8 d, pc 8 e, pc 8 f, pc 8 g, pc 8 h] := s3
  generalize valB [pc 8 a, pc 8 b, pc 8 c, pc 8 d, pc 8 e, pc 8 f, pc 8 g, pc 8 h] = x3 at *
  exact ⟨x1, x2, x3, y4, y5, y6, s1, s2, s3', k4, k5, k6, l1, l2, l2b, q3, q4, q5, q6, hp2⟩
end

section
open Go.RowKit
theorem and127 (x : Nat) (hx : x < 9223372036854775808) : bits BinOp.and IntKind.i64 (x : Int) 127 = ((x % 128 : Nat) : Int) := by
  show IntKind.i64.wrap ((BitVec.ofInt 64 (x : Int) &&& BitVec.ofInt 64 127).toNat : Int) = _
  have h1 : (BitVec.ofInt 64 (x : Int)).toNat = x := by
    rw [BitVec.ofInt_natCast, BitVec.toNat_ofNat]
    exact Nat.mod_eq_of_lt (by omega)
  have h2 : (BitVec.ofInt 64 127).toNat = 127 := by decide
  have h3 := Nat.and_two_pow_sub_one_eq_mod x 7
  rw [BitVec.toNat_and, h1, h2]
  have h4 : x &&& 127 = x % 128 := h3
  rw [h4, IntKind.wrap_i64]
  omega
set_option maxHeartbeats 1000000 in
theorem ones_core (x x1 x2 x3 x4 x5 x6 r : Nat) (w : World) (k1 : IntKind.u64.wrap (bits BinOp.and IntKind.u64 ((x : Int) / 2) 6148914691236517205 + bits BinOp.and IntKind.u64 (x : Int) 6148914691236517205) = (x1 : Int))
    (k2 : IntKind.u64.wrap (bits BinOp.and IntKind.u64 ((x1 : Int) / 4) 3689348814741910323 + bits BinOp.and IntKind.u64 (x1 : Int) 3689348814741910323) = (x2 : Int))
    (k3 : bits BinOp.and IntKind.u64 (IntKind.u64.wrap ((x2 : Int) / 16 + (x2 : Int))) 1085102592571150095 = (x3 : Int))
    (k4 : IntKind.u64.wrap ((x3 : Int) + (x3 : Int) / 256) = (x4 : Int)) (k5 : IntKind.u64.wrap ((x4 : Int) + (x4 : Int) / 65536) = (x5 : Int)) (k6 : IntKind.u64.wrap ((x5 : Int) + (x5 : Int) / 4294967296) = (x6 : Int))
    (k7 : IntKind.i64.wrap (x6 : Int) = (x6 : Int)) (k8 : bits BinOp.and IntKind.i64 (x6 : Int) 127 = (r : Int)) :
    Calls Try.prog 38 #[.int .u64 x] w fun e w' => e = .returned (.int .i64 r) ∧ w = w' := by
  go_enter Try.func38, Try.ntmps38
  go_wp2
  go_ret
  exact ⟨rfl, rfl⟩
theorem ones_any (x : Nat) (hx : x < 18446744073709551616) (w : World) :
    Calls Try.prog 38 #[.int .u64 x] w fun e w' => e = .returned (.int .i64 (pc 64 x : Nat)) ∧ w = w' := by
  obtain ⟨x1, x2, x3, x4, x5, x6, h1, h2, h3, h4, h5, h6, l1, l2, l2b, l3, l4, l5, l6, hr⟩ := ones_math x hx
  refine ones_core x x1 x2 x3 x4 x5 x6 (pc 64 x) w ?_ ?_ ?_ ?_ ?_ ?_ ?_ ?_
  · have e1 := bits_and_u64_nat (x / 2) 6148914691236517205 (by omega) (by omega)
    have e2 := bits_and_u64_nat x 6148914691236517205 hx (by omega)
    have e3 : ((x / 2 : Nat) : Int) = (x : Int) / 2 := by omega
    rw [e3] at e1
    rw [show (6148914691236517205 : Int) = ((6148914691236517205 : Nat) : Int) from rfl, e1, e2, IntKind.wrap_u64]
    omega
  · have e1 := bits_and_u64_nat (x1 / 4) 3689348814741910323 (by omega) (by omega)
    have e2 := bits_and_u64_nat x1 3689348814741910323 l1 (by omega)
    have e3 : ((x1 / 4 : Nat) : Int) = (x1 : Int) / 4 := by omega
    rw [e3] at e1
    rw [show (3689348814741910323 : Int) = ((3689348814741910323 : Nat) : Int) from rfl, e1, e2, IntKind.wrap_u64]
    omega
  · have e1 := bits_and_u64_nat (x2 / 16 + x2) 1085102592571150095 l2b (by omega)
    have e3 : IntKind.u64.wrap ((x2 : Int) / 16 + (x2 : Int)) = ((x2 / 16 + x2 : Nat) : Int) := by rw [IntKind.wrap_u64]; omega
    rw [e3, show (1085102592571150095 : Int) = ((1085102592571150095 : Nat) : Int) from rfl, e1, h3]
  · rw [IntKind.wrap_u64]; omega
  · rw [IntKind.wrap_u64]; omega
  · rw [IntKind.wrap_u64]; omega
  · rw [IntKind.wrap_i64]; omega
  · rw [and127 x6 l6, hr]
end

end Go.Proofs.Ytfdkncabicmmiaa
