/- A number as a row of bits. -/
import Derived.Test.YtddpjfmogjcimaaPreW
import Derived.Laws.Rows
import Derived.Laws.Tables
import Derived.StillTailTactics
import Derived.Test.YtddpjfmogjcimaaIter
namespace Go.Proofs.Ytddpjfmogjcimaa
open Go.RowKit

/-- A row of bits in memory. -/
def rowB (bs : List Bool) : Array Value := (bs.map Value.bool).toArray
theorem rowB_size (bs : List Bool) : (rowB bs).size = bs.length := by simp [rowB]
theorem rowB_one (bs : List Bool) : (rowB bs).all (·.oneCell') = true := by simp [rowB, Value.oneCell']
def BBlk (w : World) (b : Nat) (bs : List Bool) : Prop := w.heap[b]? = some (.cells (rowB bs) 95 (0, 0))
theorem BBlk.blk {w : World} {b : Nat} {bs : List Bool} (h : BBlk w b bs) : Blk w b 95 (bs.map Value.bool) := h
/-- The bits of a number, the lowest first. -/
def bitsL (x : BitVec 64) : List Bool := (List.range 64).map x.getLsbD
theorem bitsL_len (x : BitVec 64) : (bitsL x).length = 64 := by simp [bitsL]
theorem bitsL_get (x : BitVec 64) (i : Nat) (h : i < 64) : (bitsL x)[i]? = some (x.getLsbD i) := by simp [bitsL, h]

theorem infoB : (Try.prog.info? 95).map (·.size) = some 64 := by kernel_rfl

theorem shr_bit (x : BitVec 64) (i : Nat) : U (x >>> i) % 2 = if x.getLsbD i then 1 else 0 := by
  unfold U
  have h : x.getLsbD i = decide (x.toNat / 2 ^ i % 2 = 1) := by
    rw [BitVec.getLsbD, Nat.testBit_eq_decide_div_mod_eq]
  rw [BitVec.toNat_ushiftRight, Nat.shiftRight_eq_div_pow, h]
  have h2 : x.toNat / 2 ^ i % 2 = 0 ∨ x.toNat / 2 ^ i % 2 = 1 := by omega
  rcases h2 with h2 | h2
  · rw [if_neg (by simp [h2])]
    exact_mod_cast h2
  · rw [if_pos (by simp [h2])]
    exact_mod_cast h2
theorem shr_next (x : BitVec 64) (i : Nat) : U (x >>> i) / 2 = U (x >>> (i + 1)) := by
  have := U_shr (x >>> i) 1
  rw [show (2 : Int) ^ 1 = 2 from rfl] at this
  rw [this, ← BitVec.shiftRight_add]

theorem BBlk.set {w : World} {b : Nat} {bs : List Bool} (h : BBlk w b bs) (k : Nat) (v : Bool) : BBlk (w.setCell ⟨b, k, none⟩ (.bool v)) b (bs.set k v) := by
  have := h.blk.setCell k (.bool v)
  rw [← List.map_set] at this
  exact this
theorem BBlk.row {w : World} {b : Nat} {bs cs : List Bool} (h : BBlk w b bs) : BBlk (w.setRow b (rowB cs)) b cs := Go.setRow_heap w b _ _ _ _ h
theorem grownBy_setRow (w : World) (b : Nat) (cs : Array Value) : w.grownBy (w.setRow b cs) (some b) :=
  ⟨rfl, rfl, rfl, by simp [World.setRow], fun k _ hk => Go.setRow_other w b k cs (fun e => hk (by rw [e]))⟩
theorem undB : Try.prog.underlying 95 = some (.array 64 4) := by kernel_rfl

set_option maxRecDepth 100000 in
theorem of_any (x : BitVec 64) (w : World) :
    Calls Try.prog 56 #[.int .u64 (U x)] w fun e w' => e = .returned (.agg (rowB (bitsL x))) ∧ w.grownBy w' none := by
  have hx0 := U_lo x
  have hx1 := U_hi x
  go_enter Try.func56, Try.ntmps56
  go_wp2
  change Code.wp _ _ _ _ ((w.alloc (.cells (rowB (List.replicate 64 false)) 95)).alloc (.cells (rowB (List.replicate 64 false)) 95))
  obtain ⟨Z, hZ⟩ : ∃ Z : List Bool, List.replicate 64 false = Z := ⟨_, rfl⟩
  have hZl : Z.length = 64 := by rw [← hZ]; simp
  rw [hZ]
  obtain ⟨w1, hw1⟩ : ∃ w1, (w.alloc (.cells (rowB Z) 95)).alloc (.cells (rowB Z) 95) = w1 := ⟨_, rfl⟩
  have hB0 : BBlk w1 w.heap.size Z := by rw [← hw1]; exact (Blk.new w 95 (Z.map Value.bool)).alloc _
  have hB1 : BBlk w1 (w.heap.size + 1) Z := by
    rw [← hw1]
    have := Blk.new (w.alloc (.cells (rowB Z) 95)) 95 (Z.map Value.bool)
    rw [World.size_alloc] at this
    exact this
  have hG : w.grownBy w1 none := by rw [← hw1]; exact grownBy_trans (World.grownBy_alloc w _ none) (World.grownBy_alloc _ _ none)
  rw [hw1]
  have HB0 := Lib.hid hB0
  have HB1 := Lib.hid hB1
  have HG := Lib.hid hG
  clear hw1 hB0 hB1 hG hZ
  have HZL := Lib.hid hZl
  clear hZl
  go_loopw [0, 4] (fun n i wr => ∃ k : Nat, k ≤ 64 ∧ i = .int .i64 k ∧ n = .int .u64 (U (x >>> k)) ∧ BBlk wr (w.heap.size + 1) (upto x.getLsbD k ++ Z.drop k) ∧ BBlk wr w.heap.size Z ∧ w.grownBy wr none) (fun _ i _ => 64 - (intOf i).toNat)
  case atStart => exact ⟨0, by omega, rfl, by simp, by simpa [upto] using HB1.out, HB0.out, HG.out⟩
  case round =>
    obtain ⟨k, hk, rfl, rfl, hb1, hb0, hg⟩ := hrel
    have h0 := U_lo (x >>> k)
    have h1 := U_hi (x >>> k)
    by_cases hlt : k < 64
    · have hcell : ∃ v, wr.cell? ⟨w.heap.size + 1, k, none⟩ = some v := by
        have := hb1.blk.cell? k
        rw [List.getElem?_map, List.getElem?_eq_getElem (by simp [upto_length, HZL.out]; omega)] at this
        exact ⟨_, this⟩
      obtain ⟨v, hcell⟩ := hcell
      have hfz := hb1.blk.frozen k
      have hbit : (U (x >>> k) % 2 == 1) = x.getLsbD k := by
        rw [shr_bit]
        cases x.getLsbD k <;> rfl
      have hnx := shr_next x k
      have hset := (hb1.set k (x.getLsbD k))
      rw [set_upto_g _ _ _ (by rw [HZL.out]; exact hlt)] at hset
      have HSET := Lib.hid hset
      have HB2 := Lib.hid (hb0.blk.setCell_other (p := ⟨w.heap.size + 1, k, none⟩) (by simp) (.bool (x.getLsbD k)))
      have HG2 := Lib.hid (grownBy_base2 hg (grownBy_setCell wr ⟨w.heap.size + 1, k, none⟩ (.bool (x.getLsbD k))) (by simp))
      clear hset hb1 hb0 hg
      go_wp2
      go_roundw
      case rel => exact ⟨k + 1, by omega, by go_num, rfl, HSET.out, HB2.out, HG2.out⟩
      case measure => simp [intOf]; omega
    · obtain rfl : k = 64 := by omega
      have e : upto x.getLsbD 64 ++ Z.drop 64 = bitsL x := by rw [List.drop_eq_nil_of_le (by rw [HZL.out]; exact Nat.le_refl _), List.append_nil]; rfl
      rw [e] at hb1
      have HB2 := Lib.hid hb1
      have HB3 := Lib.hid hb0
      have HG2 := Lib.hid hg
      clear hb1 hb0 hg e
      go_wp2_with (first
        | refine wpList_load_row rfl _ _ rfl (w.heap.size + 1) rfl _ _ _ _ HB2.out undB rfl (by rw [rowB_size, bitsL_len]; exact infoB) ?_
        | refine wpList_store_row rfl _ _ _ rfl w.heap.size (rowB (bitsL x)) rfl rfl _ _ HB3.out (by rw [rowB_size, bitsL_len]; exact infoB) (by rw [rowB_size, rowB_size, bitsL_len, HZL.out]) (rowB_one _) ?_)
      refine bodyPost_ret (results_cell_row rfl _ _ w.heap.size _ _ _ _ rfl (HB3.out.row (cs := bitsL x)) undB rfl (by rw [rowB_size, bitsL_len]; exact infoB)) rfl ?_
      exact ⟨rfl, grownBy_base2 HG2.out (grownBy_setRow _ _ _) (Nat.le_refl _)⟩

theorem new_heap (w : World) (o : Obj) : (w.alloc o).heap[w.heap.size]? = some o := by
  show (w.heap.push _)[w.heap.size]? = _
  simp
theorem heap2 (w : World) (A B : Obj) : ((w.alloc A).alloc B).heap[w.heap.size]? = some A := (Below.heap_alloc (w.alloc A) B w.heap.size (by simp)).trans (new_heap w A)
theorem heap3 (w : World) (A B C : Obj) : (((w.alloc A).alloc B).alloc C).heap[w.heap.size + 2]? = some C := by
  have := new_heap ((w.alloc A).alloc B) C
  rwa [World.size_alloc, World.size_alloc] at this
def Z64 : List Bool := List.replicate 64 false
theorem Z64_len : Z64.length = 64 := by simp [Z64]
theorem BBlk.at {w : World} {b : Nat} {bs : List Bool} (h : BBlk w b bs) (k : Nat) (v : Bool) (hv : bs[k]? = some v) : w.cell? ⟨b, k, none⟩ = some (.bool v) :=
  h.blk.cell (j := k) (v := .bool v) (by rw [List.getElem?_map, hv]; rfl)


end Go.Proofs.Ytddpjfmogjcimaa
