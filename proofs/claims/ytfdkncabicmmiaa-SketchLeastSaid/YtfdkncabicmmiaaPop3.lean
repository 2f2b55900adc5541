/- The arithmetic of OnesCount64. -/
import Derived.Test.YtfdkncabicmmiaaPop2
namespace Go.Proofs.Ytfdkncabicmmiaa
open Go.RowKit
theorem sumB8 (a b c d e f g h : Nat) : a + b + c + d + e + f + g + h = sumB [a, b, c, d, e, f, g, h] := by
  simp only [sumB, List.foldr]
  omega
theorem eight {α : Type} (bs : List α) (hl : bs.length = 8) : ∃ a b c d e f g h, bs = [a, b, c, d, e, f, g, h] := by
  match bs, hl with
  | [a, b, c, d, e, f, g, h], _ => exact ⟨a, b, c, d, e, f, g, h, rfl⟩
theorem ones_math (x : Nat) (hx : x < 18446744073709551616) : ∃ x1 x2 x3 x4 x5 x6,
    ((x / 2) &&& 6148914691236517205) + (x &&& 6148914691236517205) = x1 ∧ ((x1 / 4) &&& 3689348814741910323) + (x1 &&& 3689348814741910323) = x2 ∧ (x2 / 16 + x2) &&& 1085102592571150095 = x3 ∧ x3 + x3 / 256 = x4 ∧ x4 + x4 / 65536 = x5 ∧ x5 + x5 / 4294967296 = x6 ∧
    x1 < 18446744073709551616 ∧ x2 < 18446744073709551616 ∧ x2 / 16 + x2 < 18446744073709551616 ∧ x3 < 18446744073709551616 ∧ x4 < 18446744073709551616 ∧ x5 < 18446744073709551616 ∧ x6 < 9223372036854775808 ∧ x6 % 128 = pc 64 x := by
  have hd : digB 8 x = digB 8 x := rfl
  have hl := digB_len 8 x
  have hs := digB_small 8 x
  have hv := valB_dig 8 x (by rw [show (256 : Nat) ^ 8 = 18446744073709551616 by decide]; exact hx)
  have hp := pc_dig 8 x
  rw [show 8 * 8 = 64 from rfl] at hp
  obtain ⟨P, hP⟩ : ∃ P, pc 64 x = P := ⟨_, rfl⟩
  rw [hP] at hp ⊢
  clear hP
  generalize digB 8 x = bs at *
  have s1 := step1 bs hs
  have hs1 : ∀ b ∈ bs.map g1, b < 256 := fun b hb => by
    obtain ⟨c, hc, rfl⟩ := List.mem_map.1 hb
    exact g1_lt c (hs c hc)
  have s2 := step2 (bs.map g1) hs1
  have hs2 : ∀ b ∈ (bs.map g1).map g2, b ≤ 68 ∧ b % 16 ≤ 4 := fun b hb => by
    obtain ⟨c1, hc1, rfl⟩ := List.mem_map.1 hb
    obtain ⟨c2, hc2, rfl⟩ := List.mem_map.1 hc1
    exact g21_lt c2 (hs c2 hc2)
  have s3 := step3 ((bs.map g1).map g2) hs2
  have e3 : ((bs.map g1).map g2).map g3 = bs.map (pc 8) := by
    rw [List.map_map, List.map_map]
    exact List.map_congr_left (fun b hb => g_pc b (hs b hb))
  have l1 := valB_lt (bs.map g1) hs1
  have l2 := valB_lt ((bs.map g1).map g2) (fun b hb => by have := (hs2 b hb).1; omega)
  have l2c := valB_68 ((bs.map g1).map g2) (fun b hb => (hs2 b hb).1)
  rw [e3] at s3
  simp only [List.length_map] at s2 s3 l1 l2 l2c
  rw [hl] at s1 s2 s3 l1 l2 l2c
  rw [show (256 : Nat) ^ 8 = 18446744073709551616 by decide] at l1 l2 l2c
  have l2b : valB ((bs.map g1).map g2) / 16 + valB ((bs.map g1).map g2) < 18446744073709551616 := by omega
  have m1 : maskB 85 8 = 6148914691236517205 := by decide +kernel
  have m2 : maskB 51 8 = 3689348814741910323 := by decide +kernel
  have m3 : maskB 15 8 = 1085102592571150095 := by decide +kernel
  rw [m1, hv] at s1
  rw [m2] at s2
  rw [m3] at s3
  generalize valB (bs.map g1) = x1 at *
  generalize valB ((bs.map g1).map g2) = x2 at *
  obtain ⟨a, b, c, d, e, f, g, h, rfl⟩ := eight bs hl
  obtain ⟨y4, y5, y6, k4, k5, k6, q4, q5, q6, q7, q3⟩ := sum8 (pc 8 a) (pc 8 b) (pc 8 c) (pc 8 d) (pc 8 e) (pc 8 f) (pc 8 g) (pc 8 h) (pc_le a (hs a (by simp))) (pc_le b (hs b (by simp))) (pc_le c (hs c (by simp))) (pc_le d (hs d (by simp))) (pc_le e (hs e (by simp))) (pc_le f (hs f (by simp))) (pc_le g (hs g (by simp))) (pc_le h (hs h (by simp)))
  have hp2 : y6 % 128 = P := by
    rw [q7, hp]
    exact sumB8 _ _ _ _ _ _ _ _
  have s3' : (x2 / 16 + x2) &&& 1085102592571150095 = valB [pc 8 a, pc 8 b, pc 8 c, pc 8 d, pc 8 e, pc 8 f, pc 8 g, pc 8 h] := s3
  generalize valB [pc 8 a, pc 8 b, pc 8 c, pc 8 d, pc 8 e, pc 8 f, pc 8 g, pc 8 h] = x3 at *
  exact ⟨x1, x2, x3, y4, y5, y6, s1, s2, s3', k4, k5, k6, l1, l2, l2b, q3, q4, q5, q6, hp2⟩


end Go.Proofs.Ytfdkncabicmmiaa
