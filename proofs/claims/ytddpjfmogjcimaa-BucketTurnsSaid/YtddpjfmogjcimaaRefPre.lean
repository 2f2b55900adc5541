/- The reference's prefix. -/
import Derived.Test.YtddpjfmogjcimaaRefOf
namespace Go.Proofs.Ytddpjfmogjcimaa
open Go.RowKit

theorem top_next (x : BitVec 64) (i : Nat) (h : i < 64) : U (x >>> (64 - (i + 1))) = U (x >>> (64 - i)) * 2 + if x.getLsbD (63 - i) then 1 else 0 := by
  have h1 := shr_bit x (63 - i)
  have h2 := shr_next x (63 - i)
  rw [show 63 - i + 1 = 64 - i by omega] at h2
  rw [show 64 - (i + 1) = 63 - i by omega]
  omega
theorem top_zero (x : BitVec 64) : U (x >>> (64 - 0)) = 0 := by rw [shr_far x (64 - 0) (by omega)]; rfl

theorem top_small (x : BitVec 64) (i : Nat) (h : i ≤ 30) : U (x >>> (64 - i)) < 1073741824 := by
  rw [← U_shr]
  have := U_hi x
  have h2 : (2 : Int) ^ 34 ≤ 2 ^ (64 - i) := by exact_mod_cast Nat.pow_le_pow_right (by omega) (by omega)
  have h3 : (0 : Int) < 2 ^ (64 - i) := by omega
  rw [Int.ediv_lt_iff_lt_mul h3]
  omega

theorem rprefix_no (x : BitVec 64) (b : Int) (w : World) (hb : b < 1 ∨ 30 < b) :
    Calls Try.prog 31 #[.int .u64 (U x), .int .i64 b] w fun e w' => e = .returned (.int .i64 0) ∧ w.grownBy w' none := by
  rcases hb with hb | hb
  · go_enter Try.func31, Try.ntmps31
    go_wp2
    go_ret
    exact ⟨rfl, grownBy_refl _ _⟩
  · have hb1 : 1 ≤ b := by omega
    go_enter Try.func31, Try.ntmps31
    go_wp2
    go_ret
    exact ⟨rfl, grownBy_refl _ _⟩

set_option maxRecDepth 100000 in
set_option maxHeartbeats 4000000 in
theorem rprefix_yes (x : BitVec 64) (b : Nat) (w : World) (hb1 : 1 ≤ b) (hb2 : b ≤ 30) :
    Calls Try.prog 31 #[.int .u64 (U x), .int .i64 b] w fun e w' => e = .returned (.int .i64 (U (x >>> (64 - b)))) ∧ w.grownBy w' none := by
  go_enter Try.func31, Try.ntmps31
  go_wp2_with fail
  refine (of_any _ _).mono ?_; rintro e w1 ⟨rfl, g1⟩
  go_wp2_with (first
    | refine wpList_store_row rfl _ _ _ rfl w1.heap.size (rowB (bitsL x)) rfl rfl 95 (rowB Z64) (new_heap w1 (.cells (rowB Z64) 95)) (by rw [rowB_size, bitsL_len]; exact infoB) (by rw [rowB_size, rowB_size, bitsL_len, Z64_len]) (rowB_one _) ?_)
  change Code.wp _ _ _ _ ((w1.alloc (.cells (rowB Z64) 95)).setRow w1.heap.size (rowB (bitsL x)))
  obtain ⟨w2, hw2⟩ : ∃ w2, (w1.alloc (.cells (rowB Z64) 95)).setRow w1.heap.size (rowB (bitsL x)) = w2 := ⟨_, rfl⟩
  have hB : BBlk w2 w1.heap.size (bitsL x) := by
    rw [← hw2]
    exact BBlk.row (cs := bitsL x) (bs := Z64) (new_heap w1 _)
  have hg : w.grownBy w2 none := by
    rw [← hw2]
    exact grownBy_base2 (grownBy_trans g1 (World.grownBy_alloc _ _ _)) (grownBy_setRow _ _ _) g1.size
  rw [hw2]
  have HB := Lib.hid hB
  have HG := Lib.hid hg
  clear hw2 hB hg g1
  generalize rowB (bitsL x) = R0
  go_loop [6, 7] (fun q i => ∃ k : Nat, k ≤ b ∧ i = .int .i64 k ∧ q = .int .i64 (U (x >>> (64 - k)))) (fun _ i => b - (intOf i).toNat)
  case atStart => exact ⟨0, by omega, rfl, by rw [top_zero]⟩
  case round =>
    obtain ⟨k, hk, rfl, rfl⟩ := hrel
    have h0 := U_lo (x >>> (64 - k))
    have h1 := top_small x k (by omega)
    by_cases hlt : k < b
    · have hcell := HB.out.at (63 - k) _ (bitsL_get x (63 - k) (by omega))
      have hn := top_next x k (by omega)
      have hi : (63 : Int) - (k : Int) = ((63 - k : Nat) : Int) := by omega
      cases hbit : x.getLsbD (63 - k)
      · rw [hbit] at hn hcell
        simp only [Bool.false_eq_true, if_false, Int.add_zero] at hn
        have HN := Lib.hid hn
        clear hn hbit
        go_wp2
        go_round
        case rel => exact ⟨k + 1, by omega, by go_num, by rw [HN.out]⟩
        case measure => simp [intOf]; omega
      · rw [hbit] at hn hcell
        simp only [if_true] at hn
        have HN := Lib.hid hn
        clear hn hbit
        go_wp2
        go_round
        case rel => exact ⟨k + 1, by omega, by go_num, by rw [HN.out]⟩
        case measure => simp [intOf]; omega
    · obtain rfl : k = b := by omega
      go_wp2
      go_ret
      exact ⟨rfl, HG.out⟩

/-- The reference's prefix is the program's. -/
theorem rprefix_any (x : BitVec 64) (b : Int) (w : World) :
    Calls Try.prog 31 #[.int .u64 (U x), .int .i64 b] w fun e w' => e = .returned (.int .i64 (pre x b)) ∧ w.grownBy w' none := by
  by_cases hb : b < 1 ∨ 30 < b
  · rw [show pre x b = 0 from if_pos hb]
    exact rprefix_no x b w hb
  · obtain ⟨n, rfl⟩ := Int.eq_ofNat_of_zero_le (show 0 ≤ b by omega)
    have e : pre x (n : Int) = U (x >>> (64 - n)) := by
      rw [show pre x (n : Int) = U x / 2 ^ (64 - (n : Int)).toNat from if_neg hb, U_shr]
      congr 2
      omega
    rw [e]
    exact rprefix_yes x n w (by omega) (by omega)

end Go.Proofs.Ytddpjfmogjcimaa
