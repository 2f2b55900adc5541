/- Layer 2: the reference's slots. -/
import Derived.Test.YtnlcjelmdfjkcaaMixA
namespace Go.Proofs.Ytnlcjelmdfjkcaa
open Go.RowKit Go.WideShapes Go.ChangeShapes Go.ChangeAt

/-- The numbers below k whose part by low is p. -/
def refS (p low : Nat) : Nat → List Int
  | 0 => []
  | k + 1 => refS p low k ++ if k / low = p then [(k : Int)] else []

theorem refS_len (p low : Nat) : ∀ k, (refS p low k).length ≤ k
  | 0 => by simp [refS]
  | k + 1 => by
    have := refS_len p low k
    simp only [refS, List.length_append]
    split <;> simp <;> omega

theorem refS_closed (p low : Nat) (hl : 1 ≤ low) : ∀ k, refS p low k = (List.range (min (k - p * low) low)).map fun i => ((p * low + i : Nat) : Int)
  | 0 => by simp [refS]
  | k + 1 => by
    have ih := refS_closed p low hl k
    rw [refS, ih]
    by_cases h : k / low = p
    · rw [if_pos h]
      have h1 : p * low ≤ k := by rw [← h]; exact Nat.div_mul_le_self k low
      have h2 : k < p * low + low := by
        have := Nat.lt_div_mul_add (a := k) (b := low) (by omega)
        rw [h] at this
        exact this
      have e1 : min (k - p * low) low = k - p * low := by omega
      have e2 : min (k + 1 - p * low) low = (k - p * low) + 1 := by omega
      rw [e1, e2, List.range_succ, List.map_append]
      congr 1
      simp
      omega
    · rw [if_neg h, List.append_nil]
      congr 2
      by_cases h1 : k < p * low
      · omega
      · have h2 : p * low + low ≤ k := by
          have hge : p ≤ k / low := (Nat.le_div_iff_mul_le (by omega)).2 (by omega)
          have : p + 1 ≤ k / low := by omega
          have := (Nat.le_div_iff_mul_le (by omega)).1 this
          rw [Nat.add_mul] at this
          omega
        omega

theorem refS_slots (p b d : Nat) (hb : b ≤ d) (hd : d ≤ 20) : refS p (2 ^ (d - b)) (2 ^ d) = slotsL p b d := by
  have hl : 1 ≤ 2 ^ (d - b) := Nat.one_le_two_pow
  rw [refS_closed _ _ hl]
  have e : 2 ^ d = 2 ^ b * 2 ^ (d - b) := by rw [← Nat.pow_add]; congr 1; omega
  unfold slotsL
  have hdb : ((d : Int) - b).toNat = d - b := by omega
  by_cases hp : p < 2 ^ b
  · rw [if_pos ⟨by omega, by omega, by omega, by omega, by rw [Int.toNat_natCast]; exact_mod_cast hp⟩, hdb]
    have h1 : p * 2 ^ (d - b) + 2 ^ (d - b) ≤ 2 ^ d := by
      rw [e]
      have : (p + 1) * 2 ^ (d - b) ≤ 2 ^ b * 2 ^ (d - b) := Nat.mul_le_mul_right _ hp
      rw [Nat.add_mul] at this
      omega
    rw [show min (2 ^ d - p * 2 ^ (d - b)) (2 ^ (d - b)) = 2 ^ (d - b) by omega]
    unfold upto
    apply List.map_congr_left
    intro i _
    unfold slotF
    rw [hdb]
    norm_cast
  · rw [if_neg (fun h => hp (by have := h.2.2.2.2; rw [Int.toNat_natCast] at this; exact_mod_cast this))]
    have h1 : 2 ^ d ≤ p * 2 ^ (d - b) := by rw [e]; exact Nat.mul_le_mul_right _ (by omega)
    rw [show min (2 ^ d - p * 2 ^ (d - b)) (2 ^ (d - b)) = 0 by omega]
    rfl

theorem rslots_no (p b d : Int) (w : World) (h : b < 0 ∨ d < b ∨ 20 < d ∨ p < 0) :
    Calls Try.prog 9 #[.int .i64 p, .int .i64 b, .int .i64 d] w fun e w' => e = .returned (.slice none 0 0) ∧ w = w' := by
  have hcase : (b < 0) ∨ (¬ b < 0 ∧ d < b) ∨ (¬ b < 0 ∧ ¬ d < b ∧ 20 < d) ∨ (¬ b < 0 ∧ ¬ d < b ∧ ¬ 20 < d ∧ p < 0) := by omega
  clear h
  rcases hcase with c1 | ⟨c1, c2⟩ | ⟨c1, c2, c3⟩ | ⟨c1, c2, c3, c4⟩
  · go_enter Try.func9, Try.ntmps9
    go_wp2
    go_ret
    exact ⟨rfl, rfl⟩
  · go_enter Try.func9, Try.ntmps9
    go_wp2
    go_ret
    exact ⟨rfl, rfl⟩
  · go_enter Try.func9, Try.ntmps9
    go_wp2
    go_ret
    exact ⟨rfl, rfl⟩
  · go_enter Try.func9, Try.ntmps9
    go_wp2
    go_ret
    exact ⟨rfl, rfl⟩

set_option maxHeartbeats 1000000 in
theorem rslots_yes (p b d : Nat) (w : World) (hb : b ≤ d) (hd : d ≤ 20) (hp : (p : Int) ≤ 9223372036854775807) :
    Calls Try.prog 9 #[.int .i64 p, .int .i64 b, .int .i64 d] w fun e w' => ∃ v, e = .returned v ∧ w'.ownsRow w.heap.size 3 1 v (slotsL p b d).length ((slotsL p b d).map (Value.int .i64)) ∧ w.grownBy w' none := by
  obtain ⟨i0, hi, hz0, hz1, hz2⟩ := info_parts infoInt
  have d1 : decide ((b : Int) < 0) = false := by simp
  have d2 : decide (d < b) = false := by simp; omega
  have d3 : decide ((20 : Int) < (d : Int)) = false := by simp; omega
  have d4 : decide ((p : Int) < 0) = false := by simp
  go_enter Try.func9, Try.ntmps9
  go_wp2
  go_loop [8, 9, 10] (fun a l i => ∃ k m n : Nat, k ≤ d ∧ i = .int .i64 k ∧ a = .int .i64 m ∧ l = .int .i64 n ∧ m = 2 ^ k ∧ n = 2 ^ (min k (d - b))) (fun _ _ i => d - (intOf i).toNat)
  case atStart => exact ⟨0, 1, 1, by omega, rfl, rfl, rfl, rfl, by simp⟩
  case round =>
    obtain ⟨k, m, n, hk, rfl, rfl, rfl, hm, hn⟩ := hrel
    have hm1 : m ≤ 1048576 := by rw [hm, show (1048576 : Nat) = 2 ^ 20 from rfl]; exact Nat.pow_le_pow_right (by omega) (by omega)
    have hn1 : n ≤ 1048576 := by rw [hn, show (1048576 : Nat) = 2 ^ 20 from rfl]; exact Nat.pow_le_pow_right (by omega) (by omega)
    have hn0 : 1 ≤ n := by rw [hn]; exact Nat.one_le_two_pow
    have HM := Lib.hid hm
    have HN := Lib.hid hn
    clear hm hn
    by_cases hlt : k < d
    · by_cases hlow : k < d - b
      · have hlow' : (k : Int) < d - b := by omega
        go_wp2
        go_round
        case rel => exact ⟨k + 1, m * 2, n * 2, by omega, by go_num, by go_num, by go_num, by rw [HM.out, Nat.pow_succ], by rw [HN.out, show min k (d - b) = k by omega, show min (k + 1) (d - b) = k + 1 by omega, Nat.pow_succ]⟩
        case measure => simp [intOf]; omega
      · have hlow' : ¬ (k : Int) < d - b := by omega
        go_wp2
        go_round
        case rel => exact ⟨k + 1, m * 2, n, by omega, by go_num, by go_num, rfl, by rw [HM.out, Nat.pow_succ], by rw [HN.out, show min k (d - b) = d - b by omega, show min (k + 1) (d - b) = d - b by omega]⟩
        case measure => simp [intOf]; omega
    · obtain rfl : k = d := by omega
      go_wp2
      go_loopw [7, 11] (fun o i wr => ∃ j : Nat, j ≤ m ∧ i = .int .i64 j ∧ wr.ownsRow w.heap.size 3 1 o (refS p n j).length ((refS p n j).map (Value.int .i64)) ∧ w.grownBy wr none) (fun _ i _ => m - (intOf i).toNat)
      case atStart => exact ⟨0, by omega, rfl, World.ownsRow_nil _ _ _ _, grownBy_refl _ _⟩
      case round =>
        obtain ⟨j, hj, rfl, ho, hg⟩ := hrel
        have hlen := refS_len p n j
        by_cases hjm : j < m
        · obtain ⟨q, hqd⟩ : ∃ q : Nat, j / n = q := ⟨_, rfl⟩
          have hqi : (j : Int) / (n : Int) = q := by rw [← hqd]; norm_cast
          have hqb : q ≤ j := by rw [← hqd]; exact Nat.div_le_self _ _
          have hq1 : IntKind.i64.wrap ((j : Int).tdiv (n : Int)) = (q : Int) := by
            rw [IntWalk.i64_quo _ _ ⟨by omega, by omega, by omega⟩]
            exact hqi
          have hq2 : wrap64 ((j : Int) / (n : Int)) = (q : Int) := by
            rw [hqi]
            exact IntWalk.wrap64_in _ (by omega)
          have HQD := Lib.hid hqd
          clear hqi hqd
          by_cases hq : q = p
          · have hqs := hq.symm
            subst hqs
            have hq : j / n = p := HQD.out
            have e : refS p n (j + 1) = refS p n j ++ [(j : Int)] := by rw [refS, if_pos hq]
            have E := Lib.hid e
            have HO := Lib.hid ho
            have hgs := hg.size
            have HG := Lib.hid hg
            clear hq e ho hg
            go_wp2_with (at_builtin; refine wpList_append_own _ rfl _ _ 22 rfl w.heap.size 3 i0 (.int .i64 0) 1 8 Try.underlying22 hi hz0 hz1 hz2 rfl (by decide) _ _ _ rfl (HO.out.alloc _) ⟨wr.heap.size, 0, none⟩ 1 1 [.int .i64 j] rfl rfl (cell_one_new _ _ _) (by simp [Value.oneCell']) (by unfold maxLen; omega) (by omega) (by simp; omega) ?_; intro v' w1 hown' hgrow _; have HO' := Lib.hid hown'; have HG' := Lib.hid hgrow; clear hown' hgrow)
            go_roundw
            case rel => exact ⟨j + 1, by omega, by go_num, by rw [E.out]; simpa using HO'.out, grownBy_own HG.out HO.out (Nat.le_refl _) HG'.out⟩
            case measure => simp [intOf]; omega
          · have hb1 : ((q : Int) == (p : Int)) = false := by rw [beq_eq_false_iff_ne]; exact_mod_cast hq
            have hb2 : (q == p) = false := by rw [beq_eq_false_iff_ne]; exact hq
            have hq : ¬ j / n = p := by rw [HQD.out]; exact hq
            have e : refS p n (j + 1) = refS p n j := by rw [refS, if_neg hq, List.append_nil]
            have E := Lib.hid e
            have HO := Lib.hid ho
            clear hq e ho
            go_wp2
            go_roundw
            case rel => exact ⟨j + 1, by omega, by go_num, by rw [E.out]; exact HO.out, hg⟩
            case measure => simp [intOf]; omega
        · obtain rfl : j = m := by omega
          have e : refS p n j = slotsL p b k := by rw [HM.out, HN.out, show min k (k - b) = k - b by omega]; exact refS_slots p b k hb hd
          have E := Lib.hid e
          have HO := Lib.hid ho
          clear e ho
          go_wp2
          go_ret
          exact ⟨_, rfl, by rw [← E.out]; exact HO.out, hg⟩

end Go.Proofs.Ytnlcjelmdfjkcaa
