/- package bits: New; what a set that is not there tells; the example. -/
import Derived.Test.YtjbfnnfbdjjjbaaDoorSetTake
import Derived.Test.YtjbfnnfbdjjjbaaDoorOpen
namespace Go.Proofs.YtjbfnnfbdjjjbaaDoor
open Go.RowKit

theorem infoWord : (Tryd.prog.info? 54).map (fun i => (i.zero, i.size, i.bytes)) = some (some (.int .u64 0), 1, 8) := by kernel_rfl
theorem madeWords_one (n : Nat) : madeCells (Value.int .u64 0).cells n = (List.replicate n (Value.int .u64 0)).toArray := by
  apply Array.ext
  · simp [madeCells]
  · intro i h1 h2
    simp [madeCells, Value.cells, Nat.mod_one]
def zeroW (m : Nat) : List (BitVec 64) := List.replicate m 0#64
theorem zeroW_cells (m : Nat) : wordsV (zeroW m) = List.replicate m (Value.int .u64 0) := by
  simp [wordsV, zeroW]
  exact .inr rfl
theorem zeroW_tk (m j : Nat) : tk (zeroW m) j = false := by
  unfold tk wd zeroW
  rw [List.getD_eq_getElem?_getD, List.getElem?_replicate]
  split <;> simp

theorem snew_no (n : Int) (w : World) (h : n < 1 ∨ 65536 < n) :
    Calls Tryd.prog 7 #[.int .i64 n] w fun e w' => e = .returned (.pointer none) ∧ w = w' := by
  rcases (show n < 1 ∨ (¬ n < 1 ∧ 65536 < n) by omega) with h1 | ⟨h1, h2⟩
  all_goals
    go_enter Tryd.func7, Tryd.ntmps7
    go_wp2
    go_ret
    exact ⟨rfl, rfl⟩
theorem snew_any (n : Nat) (w : World) (h1 : 1 ≤ n) (h2 : n ≤ 65536) (hT : Tab w) (hG : 0 < w.heap.size) :
    Calls Tryd.prog 7 #[.int .i64 n] w fun e w' => ∃ B g, e = .returned (.pointer (some ⟨B, 0, none⟩)) ∧ SF w' B g n 0 (fun _ => false) ∧ w.heap.size ≤ B ∧ w.heap.size ≤ g ∧ w.grownBy w' none := by
  obtain ⟨i0, hi, hz0, hz1, hz2⟩ := info_parts infoWord
  have hn1 : ¬ (n : Int) < 1 := by omega
  have hn2 : ¬ (65536 : Int) < n := by omega
  obtain ⟨m, hm⟩ : ∃ m, (n + 63) / 64 = m := ⟨_, rfl⟩
  have em : ((n : Int) + 64 - 1) / 64 = (m : Int) := by omega
  have hm1 : m ≤ 1024 := by omega
  have hmk : ∀ W : World, (Instr.makeSlice 50 (.int .i64 (((n : Int) + 64 - 1) / 64)) (.int .i64 (((n : Int) + 64 - 1) / 64))).run Tryd.prog W = .ok (.slice (some ⟨W.heap.size, 0, none⟩) m m) (W.alloc (.cells (wordsV (zeroW m)).toArray 54)) := by
    intro W
    rw [em, zeroW_cells]
    have := run_makeSlice (P := Tryd.prog) W 50 54 i0 (.int .u64 0) Tryd.underlying50 hi hz0 .i64 .i64 m m (by omega) (by omega) (by rw [hz1]; omega) (by rw [hz2]; omega) (by omega)
    rw [this, hz1]
    rw [show (madeCells (Value.int .u64 0).cells ((m : Int).toNat * 1)) = (List.replicate m (Value.int .u64 0)).toArray from by rw [Int.toNat_natCast, Nat.mul_one]; exact madeWords_one _]
    simp
  have HM := Lib.hid hm
  have HTT := Lib.hid hT
  have HLL := Lib.hid (zeroW_tk m)
  have hzl : (zeroW m).length = m := by simp [zeroW]
  clear hm em hT
  generalize zeroW m = ws at *
  have HZ := Lib.hid hzl
  clear hzl
  go_enter Tryd.func7, Tryd.ntmps7
  go_wp2
  go_ret
  have hb : Blk ((w.alloc (.cells (wordsV ws).toArray 54)).alloc (.cells #[.int .i64 n, .int .i64 0, .slice (some ⟨w.heap.size, 0, none⟩) m m] 52)) (w.heap.size + 1) 52 [.int .i64 n, .int .i64 0, .slice (some ⟨w.heap.size, 0, none⟩) m m] := by
    have := Blk.new (w.alloc (.cells (wordsV ws).toArray 54)) 52 [.int .i64 n, .int .i64 0, .slice (some ⟨w.heap.size, 0, none⟩) m m]
    rwa [World.size_alloc] at this
  have hgr : w.grownBy ((w.alloc (.cells (wordsV ws).toArray 54)).alloc (.cells #[.int .i64 n, .int .i64 0, .slice (some ⟨w.heap.size, 0, none⟩) m m] 52)) none := grownBy_trans (World.grownBy_alloc _ _ none) (World.grownBy_alloc _ _ none)
  refine ⟨w.heap.size + 1, rfl, w.heap.size, ⟨m, ws, ⟨by rw [HZ.out]; exact hb, ⟨[], ?_⟩, by omega, HTT.out.same (hgr.block _ hG (by simp)), by omega, by omega, by rw [HZ.out, HM.out], h1, h2, by omega, fun i _ => HLL.out i, by simp⟩, HLL.out⟩, by omega, Nat.le_refl _, hgr⟩
  rw [List.append_nil]
  exact (Blk.new w 54 (wordsV ws)).alloc _

theorem count_nil (w : World) :
    Calls Tryd.prog 10 #[.pointer none] w fun e w' => e = .returned (.int .i64 0) ∧ w = w' := by
  go_enter Tryd.func10, Tryd.ntmps10
  go_wp2
  go_ret
  exact ⟨rfl, rfl⟩
theorem room_nil (w : World) :
    Calls Tryd.prog 15 #[.pointer none] w fun e w' => e = .returned (.int .i64 0) ∧ w = w' := by
  go_enter Tryd.func15, Tryd.ntmps15
  go_wp2
  go_ret
  exact ⟨rfl, rfl⟩
theorem room_any (B g n hand : Nat) (f : Nat → Bool) (w : World) (h : SF w B g n hand f) :
    Calls Tryd.prog 15 #[.pointer (some ⟨B, 0, none⟩)] w fun e w' => e = .returned (.int .i64 n) ∧ w = w' := by
  obtain ⟨c, ws, hs, hf⟩ := h
  have k0 := hs.blk.cell (j := 0) rfl
  clear hs hf
  go_enter Tryd.func15, Tryd.ntmps15
  go_wp2
  go_ret
  exact ⟨rfl, rfl⟩
theorem copy_nil (w : World) :
    Calls Tryd.prog 20 #[.pointer none] w fun e w' => e = .returned (.pointer none) ∧ w = w' := by
  go_enter Tryd.func20, Tryd.ntmps20
  go_wp2
  go_ret
  exact ⟨rfl, rfl⟩
theorem all_nil (w : World) :
    Calls Tryd.prog 13 #[.pointer none] w fun e w' => e = .returned (.slice none 0 0) ∧ w.grownBy w' none := by
  go_enter Tryd.func13, Tryd.ntmps13
  go_wp2_with fail
  go_ret
  exact ⟨rfl, World.grownBy_alloc _ _ none⟩

/- The example. -/
theorem took_is {n hand : Nat} {f : Nat → Bool} {i : Nat} (h : Took n hand f i) (k : Nat) (hk : k < n) (hf : f k = false) (hl : hand ≤ k) (hb : ∀ j, hand ≤ j → j < k → f j = true) : i = k := by
  obtain ⟨h1, h2, h3⟩ := h
  rcases h3 with ⟨h3, h4⟩ | ⟨h3, h4, h5⟩
  · rcases Nat.lt_trichotomy i k with h | h | h
    · rw [hb i h3 h] at h2
      cases h2
    · exact h
    · rw [h4 k hl h] at hf
      cases hf
  · rw [h4 k hl hk] at hf
    cases hf
set_option maxHeartbeats 1000000 in
theorem sawake_any (w : World) (hT : Tab w) (hG : 0 < w.heap.size) :
    Calls Tryd.prog 11 #[] w fun e w' => e = .returned (.bool true) ∧ w.grownBy w' none := by
  have HTT := Lib.hid hT
  have HNEW := Lib.hid (snew_any 3 w (by omega) (by omega) hT hG)
  clear hT
  go_enter Tryd.func11, Tryd.ntmps11
  go_wp2_with fail
  refine HNEW.out.mono ?_
  rintro e w1 ⟨B, g, rfl, s1, hB, hg, g1⟩
  go_wp2_with fail
  refine (take_any B g 3 0 _ w1 s1).mono ?_
  rintro e w2 (⟨rfl, rfl, hall⟩ | ⟨i, rfl, ht, s2, t2⟩)
  · cases hall 0 (by omega)
  obtain rfl := took_is ht 0 (by omega) rfl (by omega) (fun j h1 h2 => by omega)
  clear ht s1
  go_wp2_with fail
  refine (take_any B g 3 1 _ w2 s2).mono ?_
  rintro e w3 (⟨rfl, rfl, hall⟩ | ⟨i, rfl, ht, s3, t3⟩)
  · cases hall 1 (by omega)
  obtain rfl := took_is ht 1 (by omega) rfl (by omega) (fun j h1 h2 => by omega)
  clear ht s2
  go_wp2_with fail
  refine (clear_any B g 3 2 _ 0 w3 s3).mono ?_
  rintro e w4 ⟨rfl, s4, t4⟩
  clear s3
  go_wp2_with fail
  refine (take_any B g 3 2 _ w4 s4).mono ?_
  rintro e w5 (⟨rfl, rfl, hall⟩ | ⟨i, rfl, ht, s5, t5⟩)
  · cases hall 2 (by omega)
  obtain rfl := took_is ht 2 (by omega) rfl (by omega) (fun j h1 h2 => by omega)
  clear ht s4
  go_wp2_with fail
  refine (take_any B g 3 0 _ w5 s5).mono ?_
  rintro e w6 (⟨rfl, rfl, hall⟩ | ⟨i, rfl, ht, s6, t6⟩)
  · cases hall 0 (by omega)
  obtain rfl := took_is ht 0 (by omega) rfl (by omega) (fun j h1 h2 => by omega)
  clear ht s5
  go_wp2_with fail
  refine (take_any B g 3 1 _ w6 s6).mono ?_
  rintro e w7 (⟨rfl, rfl, hall⟩ | ⟨i, rfl, ht, s7, t7⟩)
  · have HG := Lib.hid ((((((t2.trans t3).trans t4).trans t5).trans t6).grown g1 (fun k hk => by rcases hk with rfl | rfl <;> assumption)))
    clear hall s6 t2 t3 t4 t5 t6 g1
    go_wp2_with fail
    go_ret
    exact ⟨rfl, HG.out⟩
  · obtain ⟨k1, k2, _⟩ := ht
    rcases (show i = 0 ∨ i = 1 ∨ i = 2 by omega) with rfl | rfl | rfl <;> cases k2

end Go.Proofs.YtjbfnnfbdjjjbaaDoor
