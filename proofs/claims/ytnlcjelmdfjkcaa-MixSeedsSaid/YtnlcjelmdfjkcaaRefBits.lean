/- The reference's numbers as rows of bits. -/
import Derived.Test.YtnlcjelmdfjkcaaMix
import Derived.Test.YtnlcjelmdfjkcaaRefOf
namespace Go.Proofs.Ytnlcjelmdfjkcaa
open Go.RowKit

theorem number_any (x : BitVec 64) (w : World) :
    Calls Try.prog 22 #[.agg (rowB (bitsL x))] w fun e w' => e = .returned (.int .u64 (U x)) ∧ w.grownBy w' none := by
  go_enter Try.func22, Try.ntmps22
  go_wp2
  obtain ⟨w1, hw1⟩ : ∃ w1, w.alloc (Obj.cells (rowB (bitsL x)) 45) = w1 := ⟨_, rfl⟩
  have hB : BBlk w1 w.heap.size (bitsL x) := by rw [← hw1]; exact Blk.new w _ _
  have hG : w.grownBy w1 none := by rw [← hw1]; exact World.grownBy_alloc w _ none
  rw [hw1]
  have HB := Lib.hid hB
  have HG := Lib.hid hG
  clear hw1 hB hG
  go_loop [3, 4] (fun n i => ∃ k : Nat, k ≤ 64 ∧ i = .int .i64 ((k : Int) - 1) ∧ n = .int .u64 (U (x >>> k))) (fun _ i => (intOf i + 1).toNat)
  case atStart => exact ⟨64, by omega, rfl, by rw [shr_far x 64 (by omega)]; rfl⟩
  case round =>
    obtain ⟨k, hk, rfl, rfl⟩ := hrel
    cases k with
    | zero =>
      go_wp2
      go_ret
      exact ⟨by simp, HG.out⟩
    | succ j =>
      have hcell := HB.out.blk.cell (j := j) (v := .bool (x.getLsbD j)) (by rw [List.getElem?_map, bitsL_get x j (by omega)]; rfl)
      have h1 := shr_bit x j
      have h2 := shr_next x j
      have h3 := U_lo (x >>> (j + 1))
      have h4 := U_hi (x >>> j)
      have hq : U (x >>> j) = U (x >>> (j + 1)) * 2 + if x.getLsbD j then 1 else 0 := by omega
      rw [show (((j + 1 : Nat) : Int) - 1) = (j : Int) by omega]
      clear h1 h2
      cases hbit : x.getLsbD j
      · rw [hbit] at hq hcell
        simp only [Bool.false_eq_true, if_false, Int.add_zero] at hq
        have hb : U (x >>> (j + 1)) * 2 ≤ 18446744073709551615 := by omega
        have HQ := Lib.hid hq
        clear hq hbit h4
        go_wp2
        go_round
        case rel => exact ⟨j, by omega, rfl, by rw [HQ.out]⟩
        case measure => simp [intOf]
      · rw [hbit] at hq hcell
        simp only [if_true] at hq
        have hb : U (x >>> (j + 1)) * 2 + 1 ≤ 18446744073709551615 := by omega
        have HQ := Lib.hid hq
        clear hq hbit h4
        go_wp2
        go_round
        case rel => exact ⟨j, by omega, rfl, by rw [HQ.out]⟩
        case measure => simp [intOf]

end Go.Proofs.Ytnlcjelmdfjkcaa
