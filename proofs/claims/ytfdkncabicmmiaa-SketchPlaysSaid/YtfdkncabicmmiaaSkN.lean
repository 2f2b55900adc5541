/- package sketch: New. -/
import Derived.Test.YtfdkncabicmmiaaSk
import Derived.Test.YtfdkncabicmmiaaPlan2
namespace Go.Proofs.Ytfdkncabicmmiaa
open Go.RowKit

theorem infoU8 : (Try.prog.info? 5).map (fun i => (i.zero, i.size, i.bytes)) = some (some (.int .u8 0), 1, 1) := by kernel_rfl
theorem madeU8_one (n : Nat) : madeCells (Value.int .u8 0).cells n = (List.replicate n (Value.int .u8 0)).toArray := by
  apply Array.ext
  · simp [madeCells]
  · intro i h1 h2
    simp [madeCells, Value.cells, Nat.mod_one]
def pow2B (m : Nat) : Bool := decide (2 ≤ m) && (decide (m ≤ 4096) && (pc 64 m == 1))
theorem pow2_pc : ∀ k, k ≤ 12 → pc 64 (2 ^ k) = 1 := by decide +kernel
theorem pow2_tab : (List.range 4097).all (fun m => !pow2B m || (List.range 12).any (fun k => m == 2 ^ (k + 1))) = true := by decide +kernel
theorem pow2_iff (m : Nat) : pow2B m = true ↔ Pow2 m := by
  constructor
  · intro h
    have hm : m ≤ 4096 := by
      unfold pow2B at h
      simp at h
      exact h.2.1
    have h1 := List.all_eq_true.1 pow2_tab m (by rw [List.mem_range]; omega)
    rw [h] at h1
    simp only [Bool.not_true, Bool.false_or, List.any_eq_true] at h1
    obtain ⟨k, hk, e⟩ := h1
    rw [List.mem_range] at hk
    exact ⟨k + 1, by omega, by omega, by simpa using e⟩
  · intro h
    have hl := pow2_le h
    obtain ⟨k, h1, h2, rfl⟩ := h
    unfold pow2B
    rw [decide_eq_true hl.1, decide_eq_true hl.2, pow2_pc k h2]
    rfl

theorem knew_no (n : Int) (w : World) (h : ∀ m : Nat, n = m → ¬ Pow2 m) :
    Calls Try.prog 8 #[.int .i64 n] w fun e w' => e = .returned (.pointer none) ∧ w = w' := by
  by_cases h1 : n < 2
  · clear h
    go_enter Try.func8, Try.ntmps8
    go_wp2_with fail
    go_ret
    exact ⟨rfl, rfl⟩
  by_cases h2 : 4096 < n
  · clear h
    go_enter Try.func8, Try.ntmps8
    go_wp2_with fail
    go_ret
    exact ⟨rfl, rfl⟩
  obtain ⟨m, rfl⟩ := Int.eq_ofNat_of_zero_le (show 0 ≤ n by omega)
  have hp : (((pc 64 m : Nat) : Int) != 1) = true := by
    have hn := mt (pow2_iff m).1 (h m rfl)
    unfold pow2B at hn
    rw [decide_eq_true (show 2 ≤ m by omega), decide_eq_true (show m ≤ 4096 by omega)] at hn
    have : pc 64 m ≠ 1 := by simpa using hn
    have : ((pc 64 m : Nat) : Int) ≠ 1 := by omega
    simpa using this
  have hw : IntKind.u64.wrap (m : Int) = m := IntWalk.u64_in _ ⟨by omega, by omega⟩
  have H := Lib.hid (onesc_any m (by omega) w)
  generalize pc 64 m = p at *
  clear h
  go_enter Try.func8, Try.ntmps8
  go_wp2_with fail
  refine H.out.mono ?_
  rintro e w' ⟨rfl, rfl⟩
  go_wp2_with fail
  go_ret
  exact ⟨rfl, rfl⟩

def hdrP (m k : Nat) (g : Nat → Nat) : List Value := [.int .i64 m, .int .i64 (0 : Nat), if 0 < k then slV (g 0) m else .slice none 0 0, if 1 < k then slV (g 1) m else .slice none 0 0, if 2 < k then slV (g 2) m else .slice none 0 0, if 3 < k then slV (g 3) m else .slice none 0 0]
def rowZ (m : Nat) : List Value := rowV m (fun _ => 0) 0
theorem rowZ_eq (m i : Nat) : rowV m (fun _ => 0) i = rowZ m := rfl
theorem hdrP_step (m k n : Nat) (g : Nat → Nat) (hk : k < 4) : (hdrP m k g).set (2 + k) (slV n m) = hdrP m (k + 1) (fun i => if i = k then n else g i) := by
  rcases (show k = 0 ∨ k = 1 ∨ k = 2 ∨ k = 3 by omega) with rfl | rfl | rfl | rfl <;> simp [hdrP]
/-- New under way: k rows are there. -/
structure KP (w wr : World) (m k : Nat) (g : Nat → Nat) : Prop where
  gr : w.grownBy wr none
  blk : Blk wr w.heap.size 55 (hdrP m k g)
  row : ∀ i, i < k → Blk wr (g i) 5 (rowZ m)
  gt : ∀ i, i < k → w.heap.size < g i
  inj : ∀ i j, i < k → j < k → g i = g j → i = j
theorem KP.later {w wr wr' : World} {m k : Nat} {g : Nat → Nat} (h : KP w wr m k g) (hg : wr.grownBy wr' none) : KP w wr' m k g :=
  ⟨grownBy_trans h.gr hg, h.blk.grown hg (by simp), fun i hi => (h.row i hi).grown hg (by simp), h.gt, h.inj⟩
theorem KP.step {w wr : World} {m k : Nat} {g : Nat → Nat} (h : KP w wr m k g) (hk : k < 4) {W1 : World} (n : Nat) (hn : ∀ i, i < k → g i < n) (hn0 : w.heap.size < n) (h1 : KP w W1 m k g) (hb : Blk W1 n 5 (rowZ m)) :
    KP w (W1.setCell ⟨w.heap.size, 2 + k, none⟩ (slV n m)) m (k + 1) (fun i => if i = k then n else g i) := by
  have hs := grownBy_setCell W1 ⟨w.heap.size, 2 + k, none⟩ (slV n m)
  refine ⟨grownBy_base2 h1.gr hs (Nat.le_refl _), ?_, fun i hi => ?_, fun i hi => ?_, fun i j hi hj => ?_⟩
  · rw [← hdrP_step m k n g hk]
    exact h1.blk.setCell (2 + k) _
  · by_cases e : i = k
    · simp only [e, if_true]
      exact hb.grown hs (by simp; omega)
    · simp only [e, if_false]
      have := h1.gt i (by omega)
      exact (h1.row i (by omega)).grown hs (by simp; omega)
  · by_cases e : i = k
    · simp only [e, if_true]; exact hn0
    · simp only [e, if_false]; exact h1.gt i (by omega)
  · by_cases e : i = k <;> by_cases e' : j = k
    · omega
    · simp only [e, e', if_true, if_false]
      intro h'
      have := hn j (by omega)
      omega
    · simp only [e, e', if_true, if_false]
      intro h'
      have := hn i (by omega)
      omega
    · simp only [e, e', if_false]
      exact h1.inj i j (by omega) (by omega)
theorem KP.done {w wr : World} {m : Nat} {g : Nat → Nat} (h : KP w wr m 4 g) (hp : Pow2 m) : SK wr w.heap.size g m 0 (fun _ => 0) := by
  have := pow2_le hp
  exact ⟨h.blk, fun i hi => h.row i hi, fun i hi => by have := h.gt i hi; omega, h.inj, fun _ => by omega, hp, by omega⟩
set_option maxHeartbeats 1000000 in
theorem knew_any (m : Nat) (hp : Pow2 m) (w : World) :
    Calls Try.prog 8 #[.int .i64 m] w fun e w' => ∃ B g, e = .returned (.pointer (some ⟨B, 0, none⟩)) ∧ SK w' B g m 0 (fun _ => 0) ∧ w.heap.size ≤ B ∧ (∀ i, i < 4 → w.heap.size ≤ g i) ∧ w.grownBy w' none := by
  have hl := pow2_le hp
  have h1 : ¬ (m : Int) < 2 := by omega
  have h2 : ¬ (4096 : Int) < m := by omega
  have hpc : (((pc 64 m : Nat) : Int) != 1) = false := by
    have := (pow2_iff m).2 hp
    unfold pow2B at this
    simp at this
    rw [this.2.2]
    rfl
  have hw : IntKind.u64.wrap (m : Int) = m := IntWalk.u64_in _ ⟨by omega, by omega⟩
  have H := Lib.hid (onesc_any m (by omega) w)
  generalize pc 64 m = p at *
  obtain ⟨i0, hi, hz0, hz1, hz2⟩ := info_parts infoU8
  have hmk : ∀ W : World, (Instr.makeSlice 32 (.int .i64 m) (.int .i64 m)).run Try.prog W = .ok (slV W.heap.size m) (W.alloc (.cells (rowZ m).toArray 5)) := by
    intro W
    have := run_makeSlice (P := Try.prog) W 32 5 i0 (.int .u8 0) Try.underlying32 hi hz0 .i64 .i64 m m (by omega) (by omega) (by rw [hz1]; omega) (by rw [hz2]; omega) (by omega)
    rw [this, hz1]
    rw [show (madeCells (Value.int .u8 0).cells ((m : Int).toNat * 1)) = (List.replicate m (Value.int .u8 0)).toArray from by rw [Int.toNat_natCast, Nat.mul_one]; exact madeU8_one _]
    rw [show rowZ m = List.replicate m (Value.int .u8 0) from by
      apply List.ext_getElem
      · simp [rowZ, rowV]
      · intro i h1 h2
        simp [rowZ, rowV, u8V]]
    simp [slV]
  have HP := Lib.hid hp
  have hat : KP w (w.alloc (.cells (hdrP m 0 (fun _ => 0)).toArray 55)) m 0 (fun _ => 0) :=
    ⟨World.grownBy_alloc _ _ none, Blk.new _ _ _, fun i hi => by omega, fun i hi => by omega, fun i j hi => by omega⟩
  have HAT := Lib.hid hat
  clear hp hi hz0 hz1 hz2 hat
  go_enter Try.func8, Try.ntmps8
  go_wp2_with fail
  refine H.out.mono ?_
  rintro e w' ⟨rfl, rfl⟩
  go_wp2_with fail
  go_loopw [20] (fun i wr => ∃ (k : Nat) (g : Nat → Nat), k ≤ 4 ∧ i = .int .i64 k ∧ KP w wr m k g) (fun i _ => 4 - (intOf i).toNat)
  case atStart => exact ⟨0, fun _ => 0, by omega, rfl, HAT.out⟩
  case round =>
    obtain ⟨k, g, hk, rfl, hK⟩ := hrel
    have HK := Lib.hid hK
    clear hK
    by_cases hlt : k < 4
    · go_wp2_with fail
      refine wp_region_planD (fun w' => KP w w' m k g) [([0, 1, 2, 4, 5], 3, true), ([6], 7, false)] (by kernel_rfl) (by kernel_rfl) ?_
      refine wpPlanD_seg (HK.out.later (grownBy_drewN _ 1 none)) ?_
      repeat (apply wpReadD_step rfl (by rfl); (· intro wS hSw; (try have hSw := hSw rfl); (try dsimp only at hSw); go_simp; (try with_reducible rfl)); try simp only [Act.put, List.setIfInBounds_toArray, List.set_cons_zero, List.set_cons_succ])
      refine wpReadD_nil ?_
      refine wpOp_list rfl (fun K hK => ?_)
      go_simp
      have g1 : wr.grownBy ((wr.alloc (.cells (rowZ m).toArray 5)).drew) none := grownBy_trans (World.grownBy_alloc wr _ none) (grownBy_drewN _ 1 none)
      have b1 : Blk ((wr.alloc (.cells (rowZ m).toArray 5)).drew) wr.heap.size 5 (rowZ m) := (Blk.new wr _ _).drew
      obtain ⟨nb, hnb⟩ : ∃ nb, wr.heap.size = nb := ⟨_, rfl⟩
      have hln : ∀ i, i < k → g i < nb := fun i hi => by rw [← hnb]; exact (HK.out.row i hi).lt
      have hB : w.heap.size < nb := by rw [← hnb]; exact HK.out.blk.lt
      rw [hnb] at b1 ⊢
      generalize (wr.alloc (.cells (rowZ m).toArray 5)).drew = W1 at *
      have K1 := Lib.hid (HK.out.later g1)
      refine hK _ _ ⟨fun _ => K1.out, ?_⟩
      have B1 := Lib.hid b1
      have KK := Lib.hid HK.out
      have HS := Lib.hid (KK.out.step hlt nb hln hB K1.out b1)
      clear hK K b1 g1 hnb hln hB HK KK
      have hc := K1.out.blk.cell (j := 2 + k) (v := (.slice none 0 0)) (by rcases (show k = 0 ∨ k = 1 ∨ k = 2 ∨ k = 3 by omega) with rfl | rfl | rfl | rfl <;> rfl)
      have hf := K1.out.blk.frozen (2 + k)
      clear B1
      try simp only [Act.put, List.setIfInBounds_toArray, List.set_cons_zero, List.set_cons_succ]
      refine wpPlanD_seg K1.out ?_
      clear K1
      repeat (apply wpReadD_step rfl (by rfl); (· intro wS hSw; (try have hSw := hSw rfl); (try dsimp only at hSw); go_simp; (try with_reducible rfl)); try simp only [Act.put, List.setIfInBounds_toArray, List.set_cons_zero, List.set_cons_succ])
      refine wpReadD_nil ?_
      refine wpOp_list rfl (fun K hK => ?_)
      simp only [slV]
      go_simp
      refine hK _ _ ⟨fun hf => (by cases hf), ?_⟩
      clear hK K
      refine wpPlanD_nil (NoPanic.normal ?_)
      go_wp2_with fail
      go_roundw
      case rel => exact ⟨k + 1, _, by omega, by go_num, HS.out⟩
      case measure => simp [intOf]; omega
    · obtain rfl : k = 4 := by omega
      go_wp2_with fail
      go_ret
      exact ⟨_, _, rfl, HK.out.done HP.out, Nat.le_refl _, fun i hi => Nat.le_of_lt (HK.out.gt i hi), HK.out.gr⟩

end Go.Proofs.Ytfdkncabicmmiaa
