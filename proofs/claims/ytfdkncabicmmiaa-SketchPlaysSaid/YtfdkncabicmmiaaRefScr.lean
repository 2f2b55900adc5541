/- A number as a row of bits. The reference's numbers as rows of bits. The reference's rows of bits: moved down, held apart. The reference's scramble (where its apart and the hash are not there). -/
import Derived.Test.YtfdkncabicmmiaaScr
import Derived.WalkSpells
import Derived.WalkLawsBesides
import Derived.Lib.Hide
import Derived.Laws.Rows
import Derived.Laws.Tables
import Derived.StillTailTactics
import Derived.Test.YtfdkncabicmmiaaIter
import Derived.Deep.RegionWith
import Derived.WalkSmall
namespace Go.Proofs.Ytfdkncabicmmiaa
section
open Go.RowKit

/-- A row of bits in memory. -/
def rowB (bs : List Bool) : Array Value := (bs.map Value.bool).toArray
theorem rowB_size (bs : List Bool) : (rowB bs).size = bs.length := by simp [rowB]
theorem rowB_one (bs : List Bool) : (rowB bs).all (·.oneCell') = true := by simp [rowB, Value.oneCell']
def BBlk (w : World) (b : Nat) (bs : List Bool) : Prop := w.heap[b]? = some (.cells (rowB bs) 86 (0, 0))
theorem BBlk.blk {w : World} {b : Nat} {bs : List Bool} (h : BBlk w b bs) : Blk w b 86 (bs.map Value.bool) := h
/-- The bits of a number, the lowest first. -/
def bitsL (x : BitVec 64) : List Bool := (List.range 64).map x.getLsbD
theorem bitsL_len (x : BitVec 64) : (bitsL x).length = 64 := by simp [bitsL]
theorem bitsL_get (x : BitVec 64) (i : Nat) (h : i < 64) : (bitsL x)[i]? = some (x.getLsbD i) := by simp [bitsL, h]

theorem infoB : (Try.prog.info? 86).map (·.size) = some 64 := by kernel_rfl

theorem shr_bit (x : BitVec 64) (i : Nat) : U (x >>> i) % 2 = if x.getLsbD i then 1 else 0 := by
  unfold U
  have h : x.getLsbD i = decide (x.toNat / 2 ^ i % 2 = 1) := by
    rw [BitVec.getLsbD, Nat.testBit_eq_decide_div_mod_eq]
  rw [BitVec.toNat_ushiftRight, Nat.shiftRight_eq_div_pow, h]
  have h2 : x.toNat / 2 ^ i % 2 = 0 ∨ x.toNat / 2 ^ i % 2 = 1 := by omega
  rcases h2 with h2 | h2
  · rw [if_neg (by simp [h2])]
    exact_mod_cast h2
  · rw [if_pos (by simp [h2])]
    exact_mod_cast h2
theorem shr_next (x : BitVec 64) (i : Nat) : U (x >>> i) / 2 = U (x >>> (i + 1)) := by
  have := U_shr (x >>> i) 1
  rw [show (2 : Int) ^ 1 = 2 from rfl] at this
  rw [this, ← BitVec.shiftRight_add]

theorem BBlk.set {w : World} {b : Nat} {bs : List Bool} (h : BBlk w b bs) (k : Nat) (v : Bool) : BBlk (w.setCell ⟨b, k, none⟩ (.bool v)) b (bs.set k v) := by
  have := h.blk.setCell k (.bool v)
  rw [← List.map_set] at this
  exact this
theorem BBlk.row {w : World} {b : Nat} {bs cs : List Bool} (h : BBlk w b bs) : BBlk (w.setRow b (rowB cs)) b cs := Go.setRow_heap w b _ _ _ _ h
theorem grownBy_setRow (w : World) (b : Nat) (cs : Array Value) : w.grownBy (w.setRow b cs) (some b) :=
  ⟨rfl, rfl, rfl, by simp [World.setRow], fun k _ hk => Go.setRow_other w b k cs (fun e => hk (by rw [e]))⟩
theorem undB : Try.prog.underlying 86 = some (.array 64 4) := by kernel_rfl

set_option maxRecDepth 100000 in
theorem of_any (x : BitVec 64) (w : World) :
    Calls Try.prog 50 #[.int .u64 (U x)] w fun e w' => e = .returned (.agg (rowB (bitsL x))) ∧ w.grownBy w' none := by
  have hx0 := U_lo x
  have hx1 := U_hi x
  go_enter Try.func50, Try.ntmps50
  go_wp2
  change Code.wp _ _ _ _ ((w.alloc (.cells (rowB (List.replicate 64 false)) 86)).alloc (.cells (rowB (List.replicate 64 false)) 86))
  obtain ⟨Z, hZ⟩ : ∃ Z : List Bool, List.replicate 64 false = Z := ⟨_, rfl⟩
  have hZl : Z.length = 64 := by rw [← hZ]; simp
  rw [hZ]
  obtain ⟨w1, hw1⟩ : ∃ w1, (w.alloc (.cells (rowB Z) 86)).alloc (.cells (rowB Z) 86) = w1 := ⟨_, rfl⟩
  have hB0 : BBlk w1 w.heap.size Z := by rw [← hw1]; exact (Blk.new w 86 (Z.map Value.bool)).alloc _
  have hB1 : BBlk w1 (w.heap.size + 1) Z := by
    rw [← hw1]
    have := Blk.new (w.alloc (.cells (rowB Z) 86)) 86 (Z.map Value.bool)
    rw [World.size_alloc] at this
    exact this
  have hG : w.grownBy w1 none := by rw [← hw1]; exact grownBy_trans (World.grownBy_alloc w _ none) (World.grownBy_alloc _ _ none)
  rw [hw1]
  have HB0 := Lib.hid hB0
  have HB1 := Lib.hid hB1
  have HG := Lib.hid hG
  clear hw1 hB0 hB1 hG hZ
  have HZL := Lib.hid hZl
  clear hZl
  go_loopw [0, 4] (fun n i wr => ∃ k : Nat, k ≤ 64 ∧ i = .int .i64 k ∧ n = .int .u64 (U (x >>> k)) ∧ BBlk wr (w.heap.size + 1) (upto x.getLsbD k ++ Z.drop k) ∧ BBlk wr w.heap.size Z ∧ w.grownBy wr none) (fun _ i _ => 64 - (intOf i).toNat)
  case atStart => exact ⟨0, by omega, rfl, by simp, by simpa [upto] using HB1.out, HB0.out, HG.out⟩
  case round =>
    obtain ⟨k, hk, rfl, rfl, hb1, hb0, hg⟩ := hrel
    have h0 := U_lo (x >>> k)
    have h1 := U_hi (x >>> k)
    by_cases hlt : k < 64
    · have hcell : ∃ v, wr.cell? ⟨w.heap.size + 1, k, none⟩ = some v := by
        have := hb1.blk.cell? k
        rw [List.getElem?_map, List.getElem?_eq_getElem (by simp [upto_length, HZL.out]; omega)] at this
        exact ⟨_, this⟩
      obtain ⟨v, hcell⟩ := hcell
      have hfz := hb1.blk.frozen k
      have hbit : (U (x >>> k) % 2 == 1) = x.getLsbD k := by
        rw [shr_bit]
        cases x.getLsbD k <;> rfl
      have hnx := shr_next x k
      have hset := (hb1.set k (x.getLsbD k))
      rw [set_upto_g _ _ _ (by rw [HZL.out]; exact hlt)] at hset
      have HSET := Lib.hid hset
      have HB2 := Lib.hid (hb0.blk.setCell_other (p := ⟨w.heap.size + 1, k, none⟩) (by simp) (.bool (x.getLsbD k)))
      have HG2 := Lib.hid (grownBy_base2 hg (grownBy_setCell wr ⟨w.heap.size + 1, k, none⟩ (.bool (x.getLsbD k))) (by simp))
      clear hset hb1 hb0 hg
      go_wp2
      go_roundw
      case rel => exact ⟨k + 1, by omega, by go_num, rfl, HSET.out, HB2.out, HG2.out⟩
      case measure => simp [intOf]; omega
    · obtain rfl : k = 64 := by omega
      have e : upto x.getLsbD 64 ++ Z.drop 64 = bitsL x := by rw [List.drop_eq_nil_of_le (by rw [HZL.out]; exact Nat.le_refl _), List.append_nil]; rfl
      rw [e] at hb1
      have HB2 := Lib.hid hb1
      have HB3 := Lib.hid hb0
      have HG2 := Lib.hid hg
      clear hb1 hb0 hg e
      go_wp2_with (first
        | refine wpList_load_row rfl _ _ rfl (w.heap.size + 1) rfl _ _ _ _ HB2.out undB rfl (by rw [rowB_size, bitsL_len]; exact infoB) ?_
        | refine wpList_store_row rfl _ _ _ rfl w.heap.size (rowB (bitsL x)) rfl rfl _ _ HB3.out (by rw [rowB_size, bitsL_len]; exact infoB) (by rw [rowB_size, rowB_size, bitsL_len, HZL.out]) (rowB_one _) ?_)
      refine bodyPost_ret (results_cell_row rfl _ _ w.heap.size _ _ _ _ rfl (HB3.out.row (cs := bitsL x)) undB rfl (by rw [rowB_size, bitsL_len]; exact infoB)) rfl ?_
      exact ⟨rfl, grownBy_base2 HG2.out (grownBy_setRow _ _ _) (Nat.le_refl _)⟩

theorem new_heap (w : World) (o : Obj) : (w.alloc o).heap[w.heap.size]? = some o := by
  show (w.heap.push _)[w.heap.size]? = _
  simp
theorem heap2 (w : World) (A B : Obj) : ((w.alloc A).alloc B).heap[w.heap.size]? = some A := (Below.heap_alloc (w.alloc A) B w.heap.size (by simp)).trans (new_heap w A)
theorem heap3 (w : World) (A B C : Obj) : (((w.alloc A).alloc B).alloc C).heap[w.heap.size + 2]? = some C := by
  have := new_heap ((w.alloc A).alloc B) C
  rwa [World.size_alloc, World.size_alloc] at this
def Z64 : List Bool := List.replicate 64 false
theorem Z64_len : Z64.length = 64 := by simp [Z64]
theorem BBlk.at {w : World} {b : Nat} {bs : List Bool} (h : BBlk w b bs) (k : Nat) (v : Bool) (hv : bs[k]? = some v) : w.cell? ⟨b, k, none⟩ = some (.bool v) :=
  h.blk.cell (j := k) (v := .bool v) (by rw [List.getElem?_map, hv]; rfl)
end

section
open Go.RowKit

theorem bnumber_any (x : BitVec 64) (w : World) :
    Calls Try.prog 48 #[.agg (rowB (bitsL x))] w fun e w' => e = .returned (.int .u64 (U x)) ∧ w.grownBy w' none := by
  go_enter Try.func48, Try.ntmps48
  go_wp2
  obtain ⟨w1, hw1⟩ : ∃ w1, w.alloc (Obj.cells (rowB (bitsL x)) 86) = w1 := ⟨_, rfl⟩
  have hB : BBlk w1 w.heap.size (bitsL x) := by rw [← hw1]; exact Blk.new w _ _
  have hG : w.grownBy w1 none := by rw [← hw1]; exact World.grownBy_alloc w _ none
  rw [hw1]
  have HB := Lib.hid hB
  have HG := Lib.hid hG
  clear hw1 hB hG
  go_loop [3, 4] (fun n i => ∃ k : Nat, k ≤ 64 ∧ i = .int .i64 ((k : Int) - 1) ∧ n = .int .u64 (U (x >>> k))) (fun _ i => (intOf i + 1).toNat)
  case atStart => exact ⟨64, by omega, rfl, by rw [shr_far x 64 (by omega)]; rfl⟩
  case round =>
    obtain ⟨k, hk, rfl, rfl⟩ := hrel
    cases k with
    | zero =>
      go_wp2
      go_ret
      exact ⟨by simp, HG.out⟩
    | succ j =>
      have hcell := HB.out.blk.cell (j := j) (v := .bool (x.getLsbD j)) (by rw [List.getElem?_map, bitsL_get x j (by omega)]; rfl)
      have h1 := shr_bit x j
      have h2 := shr_next x j
      have h3 := U_lo (x >>> (j + 1))
      have h4 := U_hi (x >>> j)
      have hq : U (x >>> j) = U (x >>> (j + 1)) * 2 + if x.getLsbD j then 1 else 0 := by omega
      rw [show (((j + 1 : Nat) : Int) - 1) = (j : Int) by omega]
      clear h1 h2
      cases hbit : x.getLsbD j
      · rw [hbit] at hq hcell
        simp only [Bool.false_eq_true, if_false, Int.add_zero] at hq
        have hb : U (x >>> (j + 1)) * 2 ≤ 18446744073709551615 := by omega
        have HQ := Lib.hid hq
        clear hq hbit h4
        go_wp2
        go_round
        case rel => exact ⟨j, by omega, rfl, by rw [HQ.out]⟩
        case measure => simp [intOf]
      · rw [hbit] at hq hcell
        simp only [if_true] at hq
        have hb : U (x >>> (j + 1)) * 2 + 1 ≤ 18446744073709551615 := by omega
        have HQ := Lib.hid hq
        clear hq hbit h4
        go_wp2
        go_round
        case rel => exact ⟨j, by omega, rfl, by rw [HQ.out]⟩
        case measure => simp [intOf]
end

section
open Go.RowKit

theorem BBlk.alloc {w : World} {b : Nat} {bs : List Bool} (h : BBlk w b bs) (o : Obj) : BBlk (w.alloc o) b bs := h.blk.alloc o
theorem BBlk.other {w w' : World} {b g : Nat} {bs : List Bool} (h : BBlk w b bs) (hg : w.grownBy w' (some g)) (hne : b ≠ g) : BBlk w' b bs := by
  have hlt : b < w.heap.size := (Array.getElem?_eq_some_iff.1 h).1
  exact (hg.block b hlt (by simpa using fun e => hne e)).trans h
theorem fwd_bit (p : Nat) (x : BitVec 64) (k : Nat) (hk : k < 64) : (fwd p x).getLsbD k = (x.getLsbD k != x.getLsbD (k + p)) := by
  unfold fwd
  rw [BitVec.getLsbD_xor, BitVec.getLsbD_ushiftRight, Nat.add_comm p k]
theorem fwd_row (p : Nat) (x : BitVec 64) (hp : p ≤ 64) : upto (fwd p x).getLsbD (64 - p) ++ (bitsL x).drop (64 - p) = bitsL (fwd p x) := by
  apply List.ext_getElem?
  intro i
  by_cases h : i < 64 - p
  · rw [List.getElem?_append_left (by rw [upto_length]; exact h), bitsL_get _ _ (by omega)]
    simp [upto, h]
  · rw [List.getElem?_append_right (by rw [upto_length]; omega), upto_length, List.getElem?_drop]
    by_cases h2 : i < 64
    · rw [show 64 - p + (i - (64 - p)) = i by omega, bitsL_get _ _ h2, bitsL_get _ _ h2, fwd_bit p x i h2, BitVec.getLsbD_of_ge x (i + p) (by omega)]
      simp
    · rw [List.getElem?_eq_none (by rw [bitsL_len]; omega), List.getElem?_eq_none (by rw [bitsL_len]; omega)]

set_option maxRecDepth 100000 in
set_option maxHeartbeats 4000000 in
theorem down_any (x : BitVec 64) (p : Nat) (hp0 : 1 ≤ p) (hp : p ≤ 63) (w : World) :
    Calls Try.prog 49 #[.agg (rowB (bitsL x)), .int .i64 p] w fun e w' => e = .returned (.agg (rowB (bitsL (fwd p x)))) ∧ w.grownBy w' none := by
  go_enter Try.func49, Try.ntmps49
  go_wp2_with (first
    | refine wpList_load_row rfl _ _ rfl w.heap.size rfl 86 (rowB (bitsL x)) (0, 0) _ (heap2 w _ _) undB rfl (by rw [rowB_size, bitsL_len]; exact infoB) ?_
    | refine wpList_store_row rfl _ _ _ rfl (w.heap.size + 2) (rowB (bitsL x)) rfl rfl 86 (rowB Z64) (heap3 w _ _ (.cells (rowB Z64) 86)) (by rw [rowB_size, bitsL_len]; exact infoB) (by rw [rowB_size, rowB_size, bitsL_len, Z64_len]) (rowB_one _) ?_)
  change Code.wp _ _ _ _ ((((w.alloc (.cells (rowB (bitsL x)) 86)).alloc (.cells (rowB Z64) 86)).alloc (.cells (rowB Z64) 86)).setRow (w.heap.size + 2) (rowB (bitsL x)))
  obtain ⟨w2, hw2⟩ : ∃ w2, (((w.alloc (.cells (rowB (bitsL x)) 86)).alloc (.cells (rowB Z64) 86)).alloc (.cells (rowB Z64) 86)).setRow (w.heap.size + 2) (rowB (bitsL x)) = w2 := ⟨_, rfl⟩
  have hg : w.grownBy (((w.alloc (.cells (rowB (bitsL x)) 86)).alloc (.cells (rowB Z64) 86)).alloc (.cells (rowB Z64) 86)) none := grownBy_trans (grownBy_trans (World.grownBy_alloc _ _ _) (World.grownBy_alloc _ _ _)) (World.grownBy_alloc _ _ _)
  have hsr := grownBy_setRow (((w.alloc (.cells (rowB (bitsL x)) 86)).alloc (.cells (rowB Z64) 86)).alloc (.cells (rowB Z64) 86)) (w.heap.size + 2) (rowB (bitsL x))
  have hB2 : BBlk w2 (w.heap.size + 2) (bitsL x) := by
    rw [← hw2]
    exact BBlk.row (cs := bitsL x) (bs := Z64) (heap3 w _ _ _)
  have hB20 : BBlk w2 w.heap.size (bitsL x) := by
    rw [← hw2]
    exact BBlk.other (BBlk.alloc (heap2 w _ _) _) hsr (by omega)
  have hB21 : BBlk w2 (w.heap.size + 1) Z64 := by
    rw [← hw2]
    refine BBlk.other (BBlk.alloc ?_ _) hsr (by omega)
    have := new_heap (w.alloc (.cells (rowB (bitsL x)) 86)) (.cells (rowB Z64) 86)
    rw [World.size_alloc] at this
    exact this
  have hg2 : w.grownBy w2 none := by rw [← hw2]; exact grownBy_base2 hg hsr (by omega)
  rw [hw2]
  have HG2 := Lib.hid hg2
  have HB2 := Lib.hid hB2
  have HB20 := Lib.hid hB20
  have HB21 := Lib.hid hB21
  clear hw2 hg2 hB2 hB20 hB21 hg hsr
  generalize rowB (bitsL x) = R0
  go_loopw [6] (fun i wr => ∃ k : Nat, k + p ≤ 64 ∧ i = .int .i64 k ∧ BBlk wr w.heap.size (bitsL x) ∧ BBlk wr (w.heap.size + 2) (upto (fwd p x).getLsbD k ++ (bitsL x).drop k) ∧ BBlk wr (w.heap.size + 1) Z64 ∧ w.grownBy wr none) (fun i _ => 64 - (intOf i).toNat)
  case atStart => exact ⟨0, by omega, rfl, HB20.out, by simpa [upto] using HB2.out, HB21.out, HG2.out⟩
  case round =>
    obtain ⟨k, hk, rfl, hb0, hb2, hb1, hg⟩ := hrel
    by_cases hlt : k + p < 64
    · have hx := hb0.at k _ (bitsL_get x k (by omega))
      have hy := hb0.at (k + p) _ (bitsL_get x (k + p) hlt)
      have hcell : ∃ v, wr.cell? ⟨w.heap.size + 2, k, none⟩ = some v := by
        have := hb2.blk.cell? k
        rw [List.getElem?_map, List.getElem?_eq_getElem (by simp [upto_length, bitsL_len]; omega)] at this
        exact ⟨_, this⟩
      obtain ⟨v, hcell⟩ := hcell
      have hfz := hb2.blk.frozen k
      have hset := (hb2.set k ((fwd p x).getLsbD k))
      rw [set_upto_g _ _ _ (by rw [bitsL_len]; omega)] at hset
      have hg3 := grownBy_setCell wr ⟨w.heap.size + 2, k, none⟩ (.bool ((fwd p x).getLsbD k))
      have HSET := Lib.hid hset
      have HB3 := Lib.hid (hb0.other hg3 (by simp))
      have HB4 := Lib.hid (hb1.other hg3 (by simp))
      have HG3 := Lib.hid (grownBy_base2 hg hg3 (by simp))
      have hbit := fwd_bit p x k (by omega)
      rw [hbit] at HSET HB3 HB4 HG3
      have hk64 : (k : Int) < 64 := by omega
      have hkw := IntWalk.i64_in ((k : Int) + (p : Int)) (by omega)
      have hkp0 : (0 : Int) ≤ (k : Int) + (p : Int) := by omega
      have hkp1 : ((k : Int) + (p : Int)).toNat = k + p := by omega
      clear hset hb0 hb1 hb2 hg hg3 hbit
      generalize x.getLsbD k = A at *
      generalize x.getLsbD (k + p) = B at *
      go_wp2
      go_still_tail 11, (by kernel_rfl)
      go_wp2
      go_roundw
      case rel => exact ⟨k + 1, by omega, by go_num, HB3.out, HSET.out, HB4.out, grownBy_trans HG3.out (grownBy_drewN _ 1 _)⟩
      case measure => simp [intOf]; omega
    · obtain rfl : k = 64 - p := by omega
      rw [fwd_row p x (by omega)] at hb2
      have HB2 := Lib.hid hb2
      have HB3 := Lib.hid hb1
      have HG2 := Lib.hid hg
      clear hb0 hb1 hb2 hg
      go_wp2_with (first
        | refine wpList_load_row rfl _ _ rfl (w.heap.size + 2) rfl _ _ _ _ HB2.out undB rfl (by rw [rowB_size, bitsL_len]; exact infoB) ?_
        | refine wpList_store_row rfl _ _ _ rfl (w.heap.size + 1) (rowB (bitsL (fwd p x))) rfl rfl _ _ HB3.out (by rw [rowB_size, bitsL_len]; exact infoB) (by rw [rowB_size, rowB_size, bitsL_len, Z64_len]) (rowB_one _) ?_)
      refine bodyPost_ret (results_cell_row rfl _ _ (w.heap.size + 1) _ _ _ _ rfl (HB3.out.row (cs := bitsL (fwd p x))) undB rfl (by rw [rowB_size, bitsL_len]; exact infoB)) rfl ?_
      exact ⟨rfl, grownBy_base2 HG2.out (grownBy_setRow _ _ _) (by omega)⟩
end

section
open Go.RowKit

theorem U_c1 (x : BitVec 64) : IntKind.u64.wrap (U x * 13787848793156543929) = U (x * c1) := U_mul x c1
theorem U_c2 (x : BitVec 64) : IntKind.u64.wrap (U x * 10723151780598845931) = U (x * c2) := U_mul x c2

theorem scr_ref (x : BitVec 64) : fwd 31 (fwd 27 (fwd 30 x * c1) * c2) = scr x := by unfold scr; rw [BitVec.mul_one]

def RB (x : BitVec 64) : Array Value := rowB (bitsL x)
theorem ofR (x : BitVec 64) (w : World) : Calls Try.prog 50 #[.int .u64 (U x)] w fun e w' => e = .returned (.agg (RB x)) ∧ w.grownBy w' none := of_any x w
theorem downR (x : BitVec 64) (p : Nat) (hp0 : 1 ≤ p) (hp : p ≤ 63) (w : World) : Calls Try.prog 49 #[.agg (RB x), .int .i64 p] w fun e w' => e = .returned (.agg (RB (fwd p x))) ∧ w.grownBy w' none := down_any x p hp0 hp w
theorem down30 (x : BitVec 64) (w : World) : Calls Try.prog 49 #[.agg (RB x), .int .i64 30] w fun e w' => e = .returned (.agg (RB (fwd 30 x))) ∧ w.grownBy w' none := downR x 30 (by omega) (by omega) w
theorem down27 (x : BitVec 64) (w : World) : Calls Try.prog 49 #[.agg (RB x), .int .i64 27] w fun e w' => e = .returned (.agg (RB (fwd 27 x))) ∧ w.grownBy w' none := downR x 27 (by omega) (by omega) w
theorem down31 (x : BitVec 64) (w : World) : Calls Try.prog 49 #[.agg (RB x), .int .i64 31] w fun e w' => e = .returned (.agg (RB (fwd 31 x))) ∧ w.grownBy w' none := downR x 31 (by omega) (by omega) w
theorem numberR (x : BitVec 64) (w : World) : Calls Try.prog 48 #[.agg (RB x)] w fun e w' => e = .returned (.int .u64 (U x)) ∧ w.grownBy w' none := bnumber_any x w
attribute [irreducible] RB


set_option maxHeartbeats 4000000 in
theorem rscramble_any (x : BitVec 64) (w : World) :
    Calls Try.prog 46 #[.int .u64 (U x)] w fun e w' => e = .returned (.int .u64 (U (scr x))) ∧ w.grownBy w' none := by
  have e := scr_ref x
  rw [← e]
  clear e
  have h0 := U_c1 (fwd 30 x)
  have h1 := U_c2 (fwd 27 (fwd 30 x * c1))
  go_enter Try.func46, Try.ntmps46
  go_wp2_with fail
  refine (ofR _ _).mono ?_; rintro e w1 ⟨rfl, g1⟩
  go_wp2_with fail
  refine (down30 _ _).mono ?_; rintro e w2 ⟨rfl, g2⟩
  go_wp2_with fail
  refine (numberR _ _).mono ?_; rintro e w3 ⟨rfl, g3⟩
  go_wp2_with fail
  refine (ofR _ _).mono ?_; rintro e w4 ⟨rfl, g4⟩
  go_wp2_with fail
  refine (down27 _ _).mono ?_; rintro e w5 ⟨rfl, g5⟩
  go_wp2_with fail
  refine (numberR _ _).mono ?_; rintro e w6 ⟨rfl, g6⟩
  go_wp2_with fail
  refine (ofR _ _).mono ?_; rintro e w7 ⟨rfl, g7⟩
  go_wp2_with fail
  refine (down31 _ _).mono ?_; rintro e w8 ⟨rfl, g8⟩
  go_wp2_with fail
  refine (numberR _ _).mono ?_; rintro e w9 ⟨rfl, g9⟩
  go_wp2
  go_ret
  exact ⟨rfl, grownBy_trans (grownBy_trans (grownBy_trans g1 (grownBy_trans g2 g3)) (grownBy_trans g4 (grownBy_trans g5 g6))) (grownBy_trans g7 (grownBy_trans g8 g9))⟩
end

end Go.Proofs.Ytfdkncabicmmiaa
