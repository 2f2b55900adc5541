/- package sketch: Halve. -/
import Derived.Test.YtfdkncabicmmiaaSkG
namespace Go.Proofs.Ytfdkncabicmmiaa
open Go.RowKit Go.Shelf

/-- One count set. -/
def updC (C : Nat → Nat) (n v : Nat) : Nat → Nat := fun x => if x = n then v else C x
theorem at_inj {m i j i' j' : Nat} (hj : j < m) (hj' : j' < m) (h : i * m + j = i' * m + j') : i = i' ∧ j = j' := by
  have h1 : (i * m + j) / m = i := by rw [Nat.mul_comm, Nat.mul_add_div (by omega), Nat.div_eq_of_lt hj, Nat.add_zero]
  have h2 : (i' * m + j') / m = i' := by rw [Nat.mul_comm, Nat.mul_add_div (by omega), Nat.div_eq_of_lt hj', Nat.add_zero]
  have : i = i' := by rw [← h1, ← h2, h]
  subst this
  exact ⟨rfl, by omega⟩
theorem rowV_put (m : Nat) (C : Nat → Nat) (i j v : Nat) (h : j < m) : (rowV m C i).set j (u8V v) = rowV m (updC C (i * m + j) v) i := by
  apply List.ext_getElem
  · simp [rowV]
  · intro k h1 h2
    have hk : k < m := by simpa [rowV] using h2
    rw [List.getElem_set]
    by_cases e : j = k
    · subst e
      simp [rowV, updC]
    · simp only [e, if_false]
      have : i * m + k ≠ i * m + j := by omega
      have e2 : k ≠ j := fun h => e h.symm
      simp [rowV, updC, e2]
theorem rowV_other (m : Nat) (C : Nat → Nat) (i i' j v : Nat) (h : j < m) (hi : i' ≠ i) : rowV m (updC C (i * m + j) v) i' = rowV m C i' := by
  unfold rowV
  refine List.map_congr_left fun k hk => ?_
  rw [List.mem_range] at hk
  have : i' * m + k ≠ i * m + j := fun e => hi (at_inj hk h e).1
  simp [updC, this]
theorem SK.put {w : World} {B : Nat} {g : Nat → Nat} {m age : Nat} {C : Nat → Nat} (h : SK w B g m age C) (i j v : Nat) (hi : i < 4) (hj : j < m) (hv : v ≤ 15) : SK (w.setCell ⟨g i, j, none⟩ (u8V v)) B g m age (updC C (i * m + j) v) := by
  refine ⟨h.blk.setCell_other (h.ne i hi).symm _, fun k hk => ?_, h.ne, h.inj, fun k => ?_, h.pow, h.ag⟩
  · by_cases e : k = i
    · subst e
      rw [← rowV_put m C k j v hj]
      exact (h.row k hk).setCell j _
    · rw [rowV_other m C i k j v hj e]
      exact (h.row k hk).setCell_other (p := ⟨g i, j, none⟩) (fun e' => e (h.inj k i hk hi e')) _
  · unfold updC
    split
    · exact hv
    · exact h.le k
theorem SK.aged {w : World} {B : Nat} {g : Nat → Nat} {m age : Nat} {C : Nat → Nat} (h : SK w B g m age C) (a : Nat) (ha : a ≤ 10 * m) : SK (w.setCell ⟨B, 1, none⟩ (.int .i64 a)) B g m a C :=
  ⟨h.blk.setCell 1 _, fun i hi => (h.row i hi).setCell_other (p := ⟨B, 1, none⟩) (h.ne i hi) _, h.ne, h.inj, h.le, h.pow, ha⟩

/-- The first N counts halved. -/
def hvC (C : Nat → Nat) (N : Nat) : Nat → Nat := fun x => if x < N then C x / 2 else C x
theorem hvC_step (C : Nat → Nat) (N : Nat) : updC (hvC C N) N (C N / 2) = hvC C (N + 1) := by
  funext x
  unfold updC hvC
  by_cases e : x = N
  · subst e; simp
  · simp only [e, if_false]
    by_cases h : x < N
    · rw [if_pos h, if_pos (by omega)]
    · rw [if_neg h, if_neg (by omega)]
theorem hvC_zero (C : Nat → Nat) : hvC C 0 = C := by funext x; simp [hvC]
theorem hvC_at (C : Nat → Nat) (N : Nat) : hvC C N N = C N := by simp [hvC]
/-- All counts halved. -/
def halfC (C : Nat → Nat) : Nat → Nat := fun x => C x / 2

set_option maxHeartbeats 2000000 in
theorem halve_any (B : Nat) (g : Nat → Nat) (m age : Nat) (C : Nat → Nat) (w : World) (h : SK w B g m age C) :
    Calls Try.prog 13 #[.pointer (some ⟨B, 0, none⟩)] w fun e w' => (∃ v, e = .returned v) ∧ SK w' B g m 0 (halfC C) ∧ Touch (KOwn B g) w w' := by
  have hl := pow2_le h.pow
  have HS := Lib.hid h
  have c2 := h.blk.cell (j := 2) rfl
  have c3 := h.blk.cell (j := 3) rfl
  have c4 := h.blk.cell (j := 4) rfl
  have c5 := h.blk.cell (j := 5) rfl
  clear h
  go_enter Try.func13, Try.ntmps13
  go_wp2
  go_loopw [11] (fun i wr => ∃ k : Nat, k ≤ 4 ∧ i = .int .i64 k ∧ SK wr B g m age (hvC C (k * m)) ∧ Touch (KOwn B g) w wr) (fun i _ => 4 - (intOf i).toNat)
  case atStart => exact ⟨0, by omega, rfl, by rw [Nat.zero_mul, hvC_zero]; exact HS.out, Touch.refl _ _⟩
  case round =>
    obtain ⟨k, hk, rfl, hK, hT⟩ := hrel
    have HK := Lib.hid hK
    have HT := Lib.hid hT
    clear hK hT
    by_cases hlt : k < 4
    · have hidx : ∀ W : World, (Instr.index 53 (.agg #[slV (g 0) m, slV (g 1) m, slV (g 2) m, slV (g 3) m]) (.int .i64 (k : Int))).run Try.prog W = .ok (.slice (some ⟨g k, 0, none⟩) m m) W := by
        intro W
        rcases (show k = 0 ∨ k = 1 ∨ k = 2 ∨ k = 3 by omega) with rfl | rfl | rfl | rfl <;> kernel_rfl
      clear c2 c3 c4 c5
      go_wp2
      clear hidx
      generalize hwo : wr = wo at *
      clear hwo
      go_loopw [16] (fun i wr => ∃ j : Nat, j ≤ m ∧ i = .int .i64 j ∧ SK wr B g m age (hvC C (k * m + j)) ∧ Touch (KOwn B g) w wr) (fun i _ => m - (intOf i).toNat)
      case atStart => exact ⟨0, by omega, rfl, HK.out, HT.out⟩
      case round =>
        clear HK HT
        obtain ⟨j, hj, rfl, hK, hT⟩ := hrel
        have HK := Lib.hid hK
        have HT := Lib.hid hT
        clear hK hT
        by_cases hjt : j < m
        · have hb := HS.out.le (k * m + j)
          have k1 := (HK.out.row k hlt).cell (rowV_at m _ k j hjt)
          have f1 := (HK.out.row k hlt).frozen j
          rw [hvC_at] at k1
          have HK1 := Lib.hid (HK.out.put k j (C (k * m + j) / 2) hlt hjt (by omega))
          have HT1 := Lib.hid (HT.out.trans (Touch.of (grownBy_setCell wr ⟨g k, j, none⟩ (u8V (C (k * m + j) / 2))) (fun q e => .inr ⟨k, hlt, by cases e; rfl⟩)))
          have e1 : ((C (k * m + j) / 2 : Nat) : Int) = (C (k * m + j) : Int) / 2 := by omega
          rw [hvC_step] at HK1
          unfold u8V at k1 HK1 HT1
          rw [e1] at HK1 HT1
          clear e1
          generalize C (k * m + j) = cv at *
          go_wp2
          go_roundw
          case rel => exact ⟨j + 1, by omega, by go_num, HK1.out, HT1.out⟩
          case measure => simp [intOf]; omega
        · obtain rfl : j = m := by omega
          go_wp2
          go_roundw
          case rel => exact ⟨k + 1, by omega, by go_num, by rw [Nat.succ_mul]; exact HK.out, HT.out⟩
          case measure => simp [intOf]; omega
    · obtain rfl : k = 4 := by omega
      have HS1 := Lib.hid ((HK.out.aged 0 (by omega)).as (C' := halfC C) (fun x hx => if_pos hx) (fun x => by have := HS.out.le x; unfold halfC; omega))
      have HT1 := Lib.hid (HT.out.trans (Touch.of (grownBy_setCell wr ⟨B, 1, none⟩ (.int .i64 (0 : Nat))) (fun j e => .inl (by cases e; rfl))))
      have k1 := HK.out.blk.cell (j := 1) rfl
      have f1 := HK.out.blk.frozen 1
      go_wp2
      go_end0
      exact ⟨⟨_, rfl⟩, HS1.out, HT1.out⟩

end Go.Proofs.Ytfdkncabicmmiaa
