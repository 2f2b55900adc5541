/- math/bits.OnesCount64: how many bits are 1. -/
import Derived.Test.YtfdkncabicmmiaaProg
import Derived.WalkKit
import Derived.WalkSpells
import Derived.WalkLawsBesides
import Derived.Lib.Hide
import Derived.Deep.RegionHeld3
import Derived.Deep.AppendLies
import Derived.Deep.DrawnRows
import Derived.Deep.DeepFit
import Derived.Test.YtfdkncabicmmiaaBv
import Derived.Test.YtfdkncabicmmiaaMem
import Derived.Laws.Bits64b
namespace Go.Proofs.Ytfdkncabicmmiaa
open Go.RowKit

def valB : List Nat → Nat
  | [] => 0
  | b :: l => b + 256 * valB l
def digB : Nat → Nat → List Nat
  | 0, _ => []
  | n + 1, x => x % 256 :: digB n (x / 256)
theorem digB_len : ∀ n x, (digB n x).length = n
  | 0, _ => rfl
  | n + 1, x => by simp [digB, digB_len n]
theorem digB_small : ∀ n x, ∀ b ∈ digB n x, b < 256
  | 0, _ => by simp [digB]
  | n + 1, x => by
    intro b hb
    simp only [digB, List.mem_cons] at hb
    rcases hb with rfl | hb
    · exact Nat.mod_lt _ (by omega)
    · exact digB_small n _ b hb
theorem valB_dig : ∀ n x, x < 256 ^ n → valB (digB n x) = x
  | 0, x, h => by simp at h; simp [digB, valB, h]
  | n + 1, x, h => by
    have := valB_dig n (x / 256) (by rw [Nat.pow_succ] at h; omega)
    simp only [digB, valB, this]
    omega
theorem and_split (lo m hi M : Nat) (h1 : lo < 256) (h2 : m < 256) : (lo + 256 * hi) &&& (m + 256 * M) = (lo &&& m) + 256 * (hi &&& M) := by
  apply Nat.eq_of_testBit_eq
  intro j
  have e : (256 : Nat) = 2 ^ 8 := by decide
  have h3 : lo &&& m < 2 ^ 8 := Nat.and_lt_two_pow _ (by omega)
  rw [Nat.testBit_and, Nat.add_comm lo, Nat.add_comm m, Nat.add_comm (lo &&& m), e, Nat.testBit_two_pow_mul_add hi (by omega) j, Nat.testBit_two_pow_mul_add M (by omega) j, Nat.testBit_two_pow_mul_add (hi &&& M) h3 j]
  split
  · rw [Nat.testBit_and]
  · rw [Nat.testBit_and]
def maskB (m : Nat) (n : Nat) : Nat := valB (List.replicate n m)
theorem maskB_succ (m n : Nat) : maskB m (n + 1) = m + 256 * maskB m n := by simp [maskB, List.replicate_succ, valB]
def g1 (b : Nat) : Nat := ((b / 2) &&& 85) + (b &&& 85)
def g2 (b : Nat) : Nat := ((b / 4) &&& 51) + (b &&& 51)
def g3 (b : Nat) : Nat := (b / 16 + b) &&& 15
theorem g1_mask : ∀ lo, lo < 256 → ∀ r, r < 2 → (lo / 2 + r * 128) &&& 85 = (lo / 2) &&& 85 := by decide +kernel
theorem g2_mask : ∀ lo, lo < 256 → ∀ r, r < 4 → (lo / 4 + r * 64) &&& 51 = (lo / 4) &&& 51 := by decide +kernel
theorem g1_lt : ∀ lo, lo < 256 → g1 lo < 256 := by decide +kernel
theorem g21_lt : ∀ lo, lo < 256 → g2 (g1 lo) ≤ 68 ∧ g2 (g1 lo) % 16 ≤ 4 := by decide +kernel
theorem g3_mask : ∀ b, b < 69 → ∀ r, r < 5 → (b / 16 + r * 16 + b) &&& 15 = g3 b := by decide +kernel
theorem step1 : ∀ bs : List Nat, (∀ b ∈ bs, b < 256) → ((valB bs / 2) &&& maskB 85 bs.length) + (valB bs &&& maskB 85 bs.length) = valB (bs.map g1)
  | [], _ => by simp [valB, maskB]
  | b :: bs, h => by
    have hb := h b (by simp)
    have ih := step1 bs (fun c hc => h c (by simp [hc]))
    have e : (b + 256 * valB bs) / 2 = (b / 2 + valB bs % 2 * 128) + 256 * (valB bs / 2) := by omega
    simp only [valB, List.length_cons, maskB_succ, List.map_cons]
    rw [e, and_split _ _ _ _ (by omega) (by omega), and_split _ _ _ _ hb (by omega), g1_mask b hb _ (by omega), ← ih]
    unfold g1
    omega
theorem step2 : ∀ bs : List Nat, (∀ b ∈ bs, b < 256) → ((valB bs / 4) &&& maskB 51 bs.length) + (valB bs &&& maskB 51 bs.length) = valB (bs.map g2)
  | [], _ => by simp [valB, maskB]
  | b :: bs, h => by
    have hb := h b (by simp)
    have ih := step2 bs (fun c hc => h c (by simp [hc]))
    have e : (b + 256 * valB bs) / 4 = (b / 4 + valB bs % 4 * 64) + 256 * (valB bs / 4) := by omega
    simp only [valB, List.length_cons, maskB_succ, List.map_cons]
    rw [e, and_split _ _ _ _ (by omega) (by omega), and_split _ _ _ _ hb (by omega), g2_mask b hb _ (by omega), ← ih]
    unfold g2
    omega
theorem valB_mod (bs : List Nat) (h : ∀ b ∈ bs, b ≤ 68 ∧ b % 16 ≤ 4) : valB bs % 16 ≤ 4 := by
  cases bs with
  | nil => simp [valB]
  | cons b bs =>
    have := (h b (by simp)).2
    simp only [valB]
    omega
theorem step3 : ∀ bs : List Nat, (∀ b ∈ bs, b ≤ 68 ∧ b % 16 ≤ 4) → (valB bs / 16 + valB bs) &&& maskB 15 bs.length = valB (bs.map g3)
  | [], _ => by simp [valB, maskB]
  | b :: bs, h => by
    have hb := h b (by simp)
    have hr := valB_mod bs (fun c hc => h c (by simp [hc]))
    have ih := step3 bs (fun c hc => h c (by simp [hc]))
    have e : (b + 256 * valB bs) / 16 + (b + 256 * valB bs) = (b / 16 + valB bs % 16 * 16 + b) + 256 * (valB bs / 16 + valB bs) := by omega
    simp only [valB, List.length_cons, maskB_succ, List.map_cons]
    rw [e, and_split _ _ _ _ (by omega) (by omega), g3_mask b (by omega) _ (by omega), ih]

/-- How many of the low k bits are 1. -/
def pc : Nat → Nat → Nat
  | 0, _ => 0
  | k + 1, x => x % 2 + pc k (x / 2)
theorem pc_filter : ∀ k x, ((List.range k).filter x.testBit).length = pc k x
  | 0, _ => rfl
  | k + 1, x => by
    have ih := pc_filter k (x / 2)
    have e : (List.range k).filter (x.testBit ∘ Nat.succ) = (List.range k).filter (x / 2).testBit := by
      congr 1
      funext i
      exact Nat.testBit_succ x i
    rw [List.range_succ_eq_map, List.filter_cons, List.filter_map, e]
    unfold pc
    rcases Nat.mod_two_eq_zero_or_one x with h | h
    · rw [if_neg (by rw [Nat.testBit_zero]; simp [h]), List.length_map, ih]
      omega
    · rw [if_pos (by rw [Nat.testBit_zero]; simp [h]), List.length_cons, List.length_map, ih]
      omega
theorem pc_succ (k x : Nat) : pc (k + 1) x = x % 2 + pc k (x / 2) := rfl
theorem pc_byte (k lo hi : Nat) : ∀ j, lo < 2 ^ j → pc (j + k) (lo + 2 ^ j * hi) = pc j lo + pc k hi := by
  intro j
  induction j generalizing lo with
  | zero =>
    intro h
    have : lo = 0 := by omega
    subst this
    simp [pc]
  | succ j ih =>
    intro h
    rw [show j + 1 + k = (j + k) + 1 by omega, pc_succ, pc_succ]
    have e1 : (lo + 2 ^ (j + 1) * hi) % 2 = lo % 2 := by rw [Nat.pow_succ, Nat.mul_right_comm]; omega
    have e2 : (lo + 2 ^ (j + 1) * hi) / 2 = lo / 2 + 2 ^ j * hi := by rw [Nat.pow_succ, Nat.mul_right_comm]; omega
    rw [e1, e2, ih (lo / 2) (by rw [Nat.pow_succ] at h; omega)]
    omega
def sumB (bs : List Nat) : Nat := bs.foldr (· + ·) 0
theorem pc_dig : ∀ n x, pc (8 * n) x = sumB ((digB n x).map (pc 8))
  | 0, _ => rfl
  | n + 1, x => by
    have := pc_byte (8 * n) (x % 256) (x / 256) 8 (by omega)
    rw [show 8 * (n + 1) = 8 + 8 * n by omega]
    have e : x % 256 + 2 ^ 8 * (x / 256) = x := by omega
    rw [e] at this
    rw [this, pc_dig n (x / 256)]
    simp [digB, sumB]
theorem g_pc : ∀ b, b < 256 → g3 (g2 (g1 b)) = pc 8 b := by decide +kernel
theorem pc_le : ∀ b, b < 256 → pc 8 b ≤ 8 := by decide +kernel

end Go.Proofs.Ytfdkncabicmmiaa
