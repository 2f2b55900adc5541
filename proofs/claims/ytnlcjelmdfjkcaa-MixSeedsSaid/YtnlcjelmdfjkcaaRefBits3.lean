/- The reference's rows of bits held apart; its scramble. -/
import Derived.Test.YtnlcjelmdfjkcaaRefBits2
namespace Go.Proofs.Ytnlcjelmdfjkcaa
open Go.RowKit

theorem xor_bit (a b : BitVec 64) (k : Nat) : (a ^^^ b).getLsbD k = (a.getLsbD k != b.getLsbD k) := by
  rw [BitVec.getLsbD_xor]

set_option maxRecDepth 100000 in
set_option maxHeartbeats 4000000 in
theorem apart_any (a b : BitVec 64) (w : World) :
    Calls Try.prog 27 #[.agg (rowB (bitsL a)), .agg (rowB (bitsL b))] w fun e w' => e = .returned (.agg (rowB (bitsL (a ^^^ b)))) ∧ w.grownBy w' none := by
  go_enter Try.func27, Try.ntmps27
  go_wp2_with fail
  change Code.wp _ _ _ _ ((((w.alloc (.cells (rowB (bitsL a)) 45)).alloc (.cells (rowB (bitsL b)) 45)).alloc (.cells (rowB Z64) 45)).alloc (.cells (rowB Z64) 45))
  obtain ⟨w2, hw2⟩ : ∃ w2, (((w.alloc (.cells (rowB (bitsL a)) 45)).alloc (.cells (rowB (bitsL b)) 45)).alloc (.cells (rowB Z64) 45)).alloc (.cells (rowB Z64) 45) = w2 := ⟨_, rfl⟩
  have hg2 : w.grownBy w2 none := by rw [← hw2]; exact grownBy_trans (grownBy_trans (grownBy_trans (World.grownBy_alloc _ _ _) (World.grownBy_alloc _ _ _)) (World.grownBy_alloc _ _ _)) (World.grownBy_alloc _ _ _)
  have hA : BBlk w2 w.heap.size (bitsL a) := by
    rw [← hw2]
    exact BBlk.alloc (BBlk.alloc (heap2 w _ _) _) _
  have hB : BBlk w2 (w.heap.size + 1) (bitsL b) := by
    rw [← hw2]
    refine BBlk.alloc (BBlk.alloc ?_ _) _
    have := new_heap (w.alloc (.cells (rowB (bitsL a)) 45)) (.cells (rowB (bitsL b)) 45)
    rw [World.size_alloc] at this
    exact this
  have hZ : BBlk w2 (w.heap.size + 2) Z64 := by
    rw [← hw2]
    exact BBlk.alloc (heap3 w _ _ _) _
  have hY : BBlk w2 (w.heap.size + 3) Z64 := by
    rw [← hw2]
    have := new_heap (((w.alloc (.cells (rowB (bitsL a)) 45)).alloc (.cells (rowB (bitsL b)) 45)).alloc (.cells (rowB Z64) 45)) (.cells (rowB Z64) 45)
    rw [World.size_alloc, World.size_alloc, World.size_alloc] at this
    exact this
  rw [hw2]
  have HG := Lib.hid hg2
  have HA := Lib.hid hA
  have HB := Lib.hid hB
  have HZ := Lib.hid hZ
  have HY := Lib.hid hY
  clear hw2 hg2 hA hB hZ hY
  generalize rowB (bitsL a) = R0
  generalize rowB (bitsL b) = R1
  go_loopw [6] (fun i wr => ∃ k : Nat, k ≤ 64 ∧ i = .int .i64 k ∧ BBlk wr w.heap.size (bitsL a) ∧ BBlk wr (w.heap.size + 1) (bitsL b) ∧ BBlk wr (w.heap.size + 3) (upto (a ^^^ b).getLsbD k ++ Z64.drop k) ∧ BBlk wr (w.heap.size + 2) Z64 ∧ w.grownBy wr none) (fun i _ => 64 - (intOf i).toNat)
  case atStart => exact ⟨0, by omega, rfl, HA.out, HB.out, by simpa [upto] using HY.out, HZ.out, HG.out⟩
  case round =>
    obtain ⟨k, hk, rfl, ha, hb, hc, hz, hg⟩ := hrel
    by_cases hlt : k < 64
    · have hx := ha.at k _ (bitsL_get a k hlt)
      have hy := hb.at k _ (bitsL_get b k hlt)
      have hcell : ∃ v, wr.cell? ⟨w.heap.size + 3, k, none⟩ = some v := by
        have := hc.blk.cell? k
        rw [List.getElem?_map, List.getElem?_eq_getElem (by simp [upto_length, Z64_len]; omega)] at this
        exact ⟨_, this⟩
      obtain ⟨v, hcell⟩ := hcell
      have hfz := hc.blk.frozen k
      have hset := (hc.set k ((a ^^^ b).getLsbD k))
      rw [set_upto_g _ _ _ (by rw [Z64_len]; omega)] at hset
      have hg3 := grownBy_setCell wr ⟨w.heap.size + 3, k, none⟩ (.bool ((a ^^^ b).getLsbD k))
      have HSET := Lib.hid hset
      have HA2 := Lib.hid (ha.other hg3 (by simp))
      have HB2 := Lib.hid (hb.other hg3 (by simp))
      have HZ2 := Lib.hid (hz.other hg3 (by simp))
      have HG3 := Lib.hid (grownBy_base2 hg hg3 (by simp))
      have hbit := xor_bit a b k
      rw [hbit] at HSET HA2 HB2 HZ2 HG3
      have hk64 : (k : Int) < 64 := by omega
      clear hset ha hb hc hz hg hg3 hbit
      generalize a.getLsbD k = A at *
      generalize b.getLsbD k = B at *
      go_wp2
      go_still_tail 9, (by kernel_rfl)
      go_wp2
      go_roundw
      case rel => exact ⟨k + 1, by omega, by go_num, HA2.out, HB2.out, HSET.out, HZ2.out, grownBy_trans HG3.out (grownBy_drewN _ 1 _)⟩
      case measure => simp [intOf]; omega
    · obtain rfl : k = 64 := by omega
      have e : upto (a ^^^ b).getLsbD 64 ++ Z64.drop 64 = bitsL (a ^^^ b) := by rw [List.drop_eq_nil_of_le (by rw [Z64_len]; exact Nat.le_refl _), List.append_nil]; rfl
      rw [e] at hc
      have HB2 := Lib.hid hc
      have HB3 := Lib.hid hz
      have HG2 := Lib.hid hg
      clear ha hb hc hz hg e
      go_wp2_with (first
        | refine wpList_load_row rfl _ _ rfl (w.heap.size + 3) rfl _ _ _ _ HB2.out undB rfl (by rw [rowB_size, bitsL_len]; exact infoB) ?_
        | refine wpList_store_row rfl _ _ _ rfl (w.heap.size + 2) (rowB (bitsL (a ^^^ b))) rfl rfl _ _ HB3.out (by rw [rowB_size, bitsL_len]; exact infoB) (by rw [rowB_size, rowB_size, bitsL_len, Z64_len]) (rowB_one _) ?_)
      refine bodyPost_ret (results_cell_row rfl _ _ (w.heap.size + 2) _ _ _ _ rfl (HB3.out.row (cs := bitsL (a ^^^ b))) undB rfl (by rw [rowB_size, bitsL_len]; exact infoB)) rfl ?_
      exact ⟨rfl, grownBy_base2 HG2.out (grownBy_setRow _ _ _) (by omega)⟩

theorem U_c1 (x : BitVec 64) : IntKind.u64.wrap (U x * 13787848793156543929) = U (x * c1) := U_mul x c1
theorem U_c2 (x : BitVec 64) : IntKind.u64.wrap (U x * 10723151780598845931) = U (x * c2) := U_mul x c2

theorem scr_ref (x : BitVec 64) : fwd 31 (fwd 27 (fwd 30 x * c1) * c2) = scr x := by unfold scr; rw [BitVec.mul_one]

end Go.Proofs.Ytnlcjelmdfjkcaa
