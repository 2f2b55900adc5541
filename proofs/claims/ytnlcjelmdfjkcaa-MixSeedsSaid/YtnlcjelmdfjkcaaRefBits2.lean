/- The reference's rows of bits: moved down, held apart. -/
import Derived.Test.YtnlcjelmdfjkcaaRefBits
namespace Go.Proofs.Ytnlcjelmdfjkcaa
open Go.RowKit

theorem BBlk.alloc {w : World} {b : Nat} {bs : List Bool} (h : BBlk w b bs) (o : Obj) : BBlk (w.alloc o) b bs := h.blk.alloc o
theorem BBlk.other {w w' : World} {b g : Nat} {bs : List Bool} (h : BBlk w b bs) (hg : w.grownBy w' (some g)) (hne : b ≠ g) : BBlk w' b bs := by
  have hlt : b < w.heap.size := (Array.getElem?_eq_some_iff.1 h).1
  exact (hg.block b hlt (by simpa using fun e => hne e)).trans h
theorem fwd_bit (p : Nat) (x : BitVec 64) (k : Nat) (hk : k < 64) : (fwd p x).getLsbD k = (x.getLsbD k != x.getLsbD (k + p)) := by
  unfold fwd
  rw [BitVec.getLsbD_xor, BitVec.getLsbD_ushiftRight, Nat.add_comm p k]
theorem fwd_row (p : Nat) (x : BitVec 64) (hp : p ≤ 64) : upto (fwd p x).getLsbD (64 - p) ++ (bitsL x).drop (64 - p) = bitsL (fwd p x) := by
  apply List.ext_getElem?
  intro i
  by_cases h : i < 64 - p
  · rw [List.getElem?_append_left (by rw [upto_length]; exact h), bitsL_get _ _ (by omega)]
    simp [upto, h]
  · rw [List.getElem?_append_right (by rw [upto_length]; omega), upto_length, List.getElem?_drop]
    by_cases h2 : i < 64
    · rw [show 64 - p + (i - (64 - p)) = i by omega, bitsL_get _ _ h2, bitsL_get _ _ h2, fwd_bit p x i h2, BitVec.getLsbD_of_ge x (i + p) (by omega)]
      simp
    · rw [List.getElem?_eq_none (by rw [bitsL_len]; omega), List.getElem?_eq_none (by rw [bitsL_len]; omega)]

set_option maxRecDepth 100000 in
set_option maxHeartbeats 4000000 in
theorem down_any (x : BitVec 64) (p : Nat) (hp0 : 1 ≤ p) (hp : p ≤ 63) (w : World) :
    Calls Try.prog 23 #[.agg (rowB (bitsL x)), .int .i64 p] w fun e w' => e = .returned (.agg (rowB (bitsL (fwd p x)))) ∧ w.grownBy w' none := by
  go_enter Try.func23, Try.ntmps23
  go_wp2_with (first
    | refine wpList_load_row rfl _ _ rfl w.heap.size rfl 45 (rowB (bitsL x)) (0, 0) _ (heap2 w _ _) undB rfl (by rw [rowB_size, bitsL_len]; exact infoB) ?_
    | refine wpList_store_row rfl _ _ _ rfl (w.heap.size + 2) (rowB (bitsL x)) rfl rfl 45 (rowB Z64) (heap3 w _ _ (.cells (rowB Z64) 45)) (by rw [rowB_size, bitsL_len]; exact infoB) (by rw [rowB_size, rowB_size, bitsL_len, Z64_len]) (rowB_one _) ?_)
  change Code.wp _ _ _ _ ((((w.alloc (.cells (rowB (bitsL x)) 45)).alloc (.cells (rowB Z64) 45)).alloc (.cells (rowB Z64) 45)).setRow (w.heap.size + 2) (rowB (bitsL x)))
  obtain ⟨w2, hw2⟩ : ∃ w2, (((w.alloc (.cells (rowB (bitsL x)) 45)).alloc (.cells (rowB Z64) 45)).alloc (.cells (rowB Z64) 45)).setRow (w.heap.size + 2) (rowB (bitsL x)) = w2 := ⟨_, rfl⟩
  have hg : w.grownBy (((w.alloc (.cells (rowB (bitsL x)) 45)).alloc (.cells (rowB Z64) 45)).alloc (.cells (rowB Z64) 45)) none := grownBy_trans (grownBy_trans (World.grownBy_alloc _ _ _) (World.grownBy_alloc _ _ _)) (World.grownBy_alloc _ _ _)
  have hsr := grownBy_setRow (((w.alloc (.cells (rowB (bitsL x)) 45)).alloc (.cells (rowB Z64) 45)).alloc (.cells (rowB Z64) 45)) (w.heap.size + 2) (rowB (bitsL x))
  have hB2 : BBlk w2 (w.heap.size + 2) (bitsL x) := by
    rw [← hw2]
    exact BBlk.row (cs := bitsL x) (bs := Z64) (heap3 w _ _ _)
  have hB20 : BBlk w2 w.heap.size (bitsL x) := by
    rw [← hw2]
    exact BBlk.other (BBlk.alloc (heap2 w _ _) _) hsr (by omega)
  have hB21 : BBlk w2 (w.heap.size + 1) Z64 := by
    rw [← hw2]
    refine BBlk.other (BBlk.alloc ?_ _) hsr (by omega)
    have := new_heap (w.alloc (.cells (rowB (bitsL x)) 45)) (.cells (rowB Z64) 45)
    rw [World.size_alloc] at this
    exact this
  have hg2 : w.grownBy w2 none := by rw [← hw2]; exact grownBy_base2 hg hsr (by omega)
  rw [hw2]
  have HG2 := Lib.hid hg2
  have HB2 := Lib.hid hB2
  have HB20 := Lib.hid hB20
  have HB21 := Lib.hid hB21
  clear hw2 hg2 hB2 hB20 hB21 hg hsr
  generalize rowB (bitsL x) = R0
  go_loopw [6] (fun i wr => ∃ k : Nat, k + p ≤ 64 ∧ i = .int .i64 k ∧ BBlk wr w.heap.size (bitsL x) ∧ BBlk wr (w.heap.size + 2) (upto (fwd p x).getLsbD k ++ (bitsL x).drop k) ∧ BBlk wr (w.heap.size + 1) Z64 ∧ w.grownBy wr none) (fun i _ => 64 - (intOf i).toNat)
  case atStart => exact ⟨0, by omega, rfl, HB20.out, by simpa [upto] using HB2.out, HB21.out, HG2.out⟩
  case round =>
    obtain ⟨k, hk, rfl, hb0, hb2, hb1, hg⟩ := hrel
    by_cases hlt : k + p < 64
    · have hx := hb0.at k _ (bitsL_get x k (by omega))
      have hy := hb0.at (k + p) _ (bitsL_get x (k + p) hlt)
      have hcell : ∃ v, wr.cell? ⟨w.heap.size + 2, k, none⟩ = some v := by
        have := hb2.blk.cell? k
        rw [List.getElem?_map, List.getElem?_eq_getElem (by simp [upto_length, bitsL_len]; omega)] at this
        exact ⟨_, this⟩
      obtain ⟨v, hcell⟩ := hcell
      have hfz := hb2.blk.frozen k
      have hset := (hb2.set k ((fwd p x).getLsbD k))
      rw [set_upto_g _ _ _ (by rw [bitsL_len]; omega)] at hset
      have hg3 := grownBy_setCell wr ⟨w.heap.size + 2, k, none⟩ (.bool ((fwd p x).getLsbD k))
      have HSET := Lib.hid hset
      have HB3 := Lib.hid (hb0.other hg3 (by simp))
      have HB4 := Lib.hid (hb1.other hg3 (by simp))
      have HG3 := Lib.hid (grownBy_base2 hg hg3 (by simp))
      have hbit := fwd_bit p x k (by omega)
      rw [hbit] at HSET HB3 HB4 HG3
      have hk64 : (k : Int) < 64 := by omega
      have hkw := IntWalk.i64_in ((k : Int) + (p : Int)) (by omega)
      have hkp0 : (0 : Int) ≤ (k : Int) + (p : Int) := by omega
      have hkp1 : ((k : Int) + (p : Int)).toNat = k + p := by omega
      clear hset hb0 hb1 hb2 hg hg3 hbit
      generalize x.getLsbD k = A at *
      generalize x.getLsbD (k + p) = B at *
      go_wp2
      go_still_tail 11, (by kernel_rfl)
      go_wp2
      go_roundw
      case rel => exact ⟨k + 1, by omega, by go_num, HB3.out, HSET.out, HB4.out, grownBy_trans HG3.out (grownBy_drewN _ 1 _)⟩
      case measure => simp [intOf]; omega
    · obtain rfl : k = 64 - p := by omega
      rw [fwd_row p x (by omega)] at hb2
      have HB2 := Lib.hid hb2
      have HB3 := Lib.hid hb1
      have HG2 := Lib.hid hg
      clear hb0 hb1 hb2 hg
      go_wp2_with (first
        | refine wpList_load_row rfl _ _ rfl (w.heap.size + 2) rfl _ _ _ _ HB2.out undB rfl (by rw [rowB_size, bitsL_len]; exact infoB) ?_
        | refine wpList_store_row rfl _ _ _ rfl (w.heap.size + 1) (rowB (bitsL (fwd p x))) rfl rfl _ _ HB3.out (by rw [rowB_size, bitsL_len]; exact infoB) (by rw [rowB_size, rowB_size, bitsL_len, Z64_len]) (rowB_one _) ?_)
      refine bodyPost_ret (results_cell_row rfl _ _ (w.heap.size + 1) _ _ _ _ rfl (HB3.out.row (cs := bitsL (fwd p x))) undB rfl (by rw [rowB_size, bitsL_len]; exact infoB)) rfl ?_
      exact ⟨rfl, grownBy_base2 HG2.out (grownBy_setRow _ _ _) (by omega)⟩

end Go.Proofs.Ytnlcjelmdfjkcaa
