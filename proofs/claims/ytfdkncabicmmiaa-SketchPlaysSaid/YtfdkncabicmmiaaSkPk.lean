/- package sketch: Pack. -/
import Derived.Test.YtfdkncabicmmiaaSkM
import Derived.Test.YtfdkncabicmmiaaPW
namespace Go.Proofs.Ytfdkncabicmmiaa
open Go.RowKit Go.Shelf

/-- A pair of counts as a byte; a sketch's bytes up to some pair. -/
def twoC (C : Nat → Nat) (j : Nat) : Nat := C (2 * j) + 16 * C (2 * j + 1)
def packK (m age : Nat) (C : Nat → Nat) (N : Nat) : List Nat := (numB m 2 ++ numB age 4) ++ (List.range N).map (twoC C)
def packS (m age : Nat) (C : Nat → Nat) : List Nat := packK m age C (2 * m)
theorem packK_len (m age : Nat) (C : Nat → Nat) (N : Nat) : (packK m age C N).length = 6 + N := by simp [packK, numB_len]; omega
theorem packK_zero (m age : Nat) (C : Nat → Nat) : packK m age C 0 = numB m 2 ++ numB age 4 := by simp [packK]
theorem twoC_lt {C : Nat → Nat} (h : ∀ k, C k ≤ 15) (j : Nat) : twoC C j < 256 := by
  have := h (2 * j)
  have := h (2 * j + 1)
  unfold twoC
  omega
theorem numB_one {x : Nat} (h : x < 256) : numB x 1 = [x] := by
  simp [numB, upto, byN, Nat.mod_eq_of_lt h]
theorem packK_next {m age : Nat} {C : Nat → Nat} (h : ∀ k, C k ≤ 15) (N : Nat) : packK m age C (N + 1) = packK m age C N ++ numB (twoC C N) 1 := by
  rw [numB_one (twoC_lt h N)]
  simp [packK, List.range_succ]
theorem packS_small {m age : Nat} {C : Nat → Nat} (h : ∀ k, C k ≤ 15) : ∀ x ∈ packS m age C, x < 256 := by
  intro x hx
  unfold packS packK at hx
  simp only [List.mem_append, List.mem_map] at hx
  rcases hx with (hx | hx) | ⟨j, _, rfl⟩
  · exact numB_lt _ _ x hx
  · exact numB_lt _ _ x hx
  · exact twoC_lt h j
theorem or_two (a b : Nat) (ha : a ≤ 15) (hb : b ≤ 15) : bits BinOp.or IntKind.u8 (a : Int) (IntKind.u8.wrap ((b : Int) * 16)) = ((a + 16 * b : Nat) : Int) := by
  have key : ∀ a b : Fin 16, bits BinOp.or IntKind.u8 (a.val : Int) (IntKind.u8.wrap ((b.val : Int) * 16)) = ((a.val + 16 * b.val : Nat) : Int) := by decide +kernel
  exact key ⟨a, by omega⟩ ⟨b, by omega⟩
theorem pow2_even {m : Nat} (h : Pow2 m) : ∃ k, m = 2 * k ∧ 1 ≤ k := by
  obtain ⟨k, h1, h2, rfl⟩ := h
  obtain ⟨j, rfl⟩ : ∃ j, k = j + 1 := ⟨k - 1, by omega⟩
  exact ⟨2 ^ j, by rw [Nat.pow_succ]; omega, Nat.one_le_two_pow⟩

set_option maxRecDepth 100000 in
set_option maxHeartbeats 1000000 in
theorem kpack_any (B : Nat) (g : Nat → Nat) (m age : Nat) (C : Nat → Nat) (w : World) (h : SK w B g m age C) :
    Calls Try.prog 16 #[.pointer (some ⟨B, 0, none⟩)] w fun e w' => ∃ a' c', e = .returned (.slice a' (packS m age C).length c') ∧ w'.ownsRow w.heap.size 5 1 (.slice a' (packS m age C).length c') (packS m age C).length (bytesV (packS m age C)) ∧ w.grownBy w' none := by
  obtain ⟨q, hq, hq1⟩ := pow2_even h.pow
  have hl := pow2_le h.pow
  have hag := h.ag
  have HS := Lib.hid h
  have HLE := Lib.hid h.le
  have hwm : IntKind.u64.wrap (m : Int) = m := IntWalk.u64_in _ ⟨by omega, by omega⟩
  have hwa : IntKind.u64.wrap (age : Int) = age := IntWalk.u64_in _ ⟨by omega, by omega⟩
  have c0 := h.blk.cell (j := 0) rfl
  have HQ := Lib.hid hq
  have HBL : Hid (B < w.heap.size) := Lib.hid h.lt.1
  clear h hq
  go_enter Try.func16, Try.ntmps16
  go_wp2_with fail
  refine (newWriter_any _ (by omega) _).mono ?_
  rintro e w2 ⟨rfl, hw2, g2⟩
  rw [if_pos (show (0 : Int) ≤ 6 + 4 * (m : Int) / 2 by omega)] at hw2
  obtain ⟨L, hL⟩ : ∃ L : Int, 6 + 4 * (m : Int) / 2 = L := ⟨_, rfl⟩
  rw [hL] at hw2
  have hL2 : 6 + 2 * (m : Int) ≤ L := by omega
  have hpw : PW w w2 w.heap.size (.slice none 0 0) [] L := ⟨hw2, fun k hk => by
    rcases hk with h | h
    · omega
    · simp [Value.ownBlock] at h, g2⟩
  have P2 := Lib.hid hpw
  clear hw2 hpw g2 hL
  have c0 := (HS.out.grown P2.out.grown).blk.cell (j := 0) rfl
  go_wp2_with fail
  refine (P2.out.num m 2 (by omega) (by decide) (by simp; omega) (by simp)).mono ?_
  rintro e w3 ⟨v3, rfl, p3, _⟩
  have P3 := Lib.hid p3
  clear p3 P2
  have c1 := (HS.out.grown P3.out.grown).blk.cell (j := 1) rfl
  go_wp2_with fail
  refine (P3.out.num age 4 (by omega) (by decide) (by simp [numB_len]; omega) (by simp [numB_len])).mono ?_
  rintro e w4 ⟨v4, rfl, p4, _⟩
  rw [show ([] ++ numB m 2) ++ numB age 4 = packK m age C 0 from by rw [packK_zero, List.nil_append]] at p4
  have P4 := Lib.hid p4
  clear p4 P3 c0 c1
  have c2 := (HS.out.grown P4.out.grown).blk.cell (j := 2) rfl
  have c3 := (HS.out.grown P4.out.grown).blk.cell (j := 3) rfl
  have c4 := (HS.out.grown P4.out.grown).blk.cell (j := 4) rfl
  have c5 := (HS.out.grown P4.out.grown).blk.cell (j := 5) rfl
  go_wp2
  clear c2 c3 c4 c5
  go_loopw [35] (fun i wr => ∃ (k : Nat) (v : Value), k ≤ 4 ∧ i = .int .i64 k ∧ PW w wr w.heap.size v (packK m age C (k * q)) L) (fun i _ => 4 - (intOf i).toNat)
  case atStart => exact ⟨0, _, by omega, rfl, by rw [Nat.zero_mul]; exact P4.out⟩
  case round =>
    obtain ⟨k, v, hk, rfl, hpw⟩ := hrel
    have HP := Lib.hid hpw
    clear hpw
    by_cases hlt : k < 4
    · have hd4 : decide ((k : Int) < 4) = true := decide_eq_true (by omega)
      have hidx : ∀ W : World, (Instr.index 53 (.agg #[slV (g 0) m, slV (g 1) m, slV (g 2) m, slV (g 3) m]) (.int .i64 (k : Int))).run Try.prog W = .ok (.slice (some ⟨g k, 0, none⟩) m m) W := by
        intro W
        rcases (show k = 0 ∨ k = 1 ∨ k = 2 ∨ k = 3 by omega) with rfl | rfl | rfl | rfl <;> kernel_rfl
      go_wp2
      clear hidx P4
      generalize hwo : wr = wo at *
      clear hwo
      go_loopw [6] (fun i wr => ∃ (j : Nat) (v : Value), j ≤ q ∧ i = .int .i64 ((2 * j : Nat) : Int) ∧ PW w wr w.heap.size v (packK m age C (k * q + j)) L) (fun i _ => m - (intOf i).toNat)
      case atStart => exact ⟨0, _, by omega, rfl, HP.out⟩
      case round =>
        clear HP
        obtain ⟨j, v, hj, rfl, hpw⟩ := hrel
        have HP := Lib.hid hpw
        clear hpw
        by_cases hjt : j < q
        · have h2j : 2 * j + 1 < m := by have := HQ.out; omega
          have hrow := (HS.out.grown HP.out.grown).row k hlt
          have x0 := hrow.cell (rowV_at m C k (2 * j) (by omega))
          have x1 := hrow.cell (rowV_at m C k (2 * j + 1) h2j)
          have e0 : k * m + 2 * j = 2 * (k * q + j) := by rw [HQ.out, Nat.mul_left_comm, Nat.mul_add]
          rw [e0] at x0
          rw [← Nat.add_assoc, e0] at x1
          have hbt := twoC_lt HLE.out (k * q + j)
          have ho := or_two _ _ (HLE.out (2 * (k * q + j))) (HLE.out (2 * (k * q + j) + 1))
          change _ = ((twoC C (k * q + j) : Nat) : Int) at ho
          have hnx := packK_next (m := m) (age := age) HLE.out (k * q + j)
          have hl0 := packK_len m age C (k * q + j)
          have hkq : k * q ≤ 3 * q := Nat.mul_le_mul_right q (by omega)
          have hroom : ((packK m age C (k * q + j)).length : Int) + (1 : Nat) ≤ L := by have := HQ.out; omega
          have hfew : (packK m age C (k * q + j)).length ≤ 49000000 := by have := HQ.out; omega
          have hwb : IntKind.u64.wrap ((twoC C (k * q + j) : Nat) : Int) = (twoC C (k * q + j) : Nat) := IntWalk.u64_in _ ⟨by omega, by omega⟩
          have HNX := Lib.hid hnx
          unfold u8V at x0 x1
          have HR := Lib.hid hroom
          have HF := Lib.hid hfew
          have HT := Lib.hid hbt
          have HKQ := Lib.hid e0
          clear hnx hl0 hkq hroom hfew hbt e0 hrow
          generalize twoC C (k * q + j) = tb at *
          generalize C (2 * (k * q + j)) = lo at *
          generalize C (2 * (k * q + j) + 1) = hi at *
          obtain ⟨i2, hi2⟩ : ∃ i2, 2 * j = i2 := ⟨_, rfl⟩
          rw [hi2] at x0 x1 h2j ⊢
          have HI2 := Lib.hid hi2
          clear hi2
          have a1 : IntKind.i64.wrap ((i2 : Int) + 1) = (i2 : Int) + 1 := IntWalk.i64_in _ ⟨by omega, by omega⟩
          have a2 : 0 ≤ (i2 : Int) + 1 := by omega
          have a3 : ((i2 : Int) + 1).toNat = i2 + 1 := by omega
          have hltI : (i2 : Int) + 1 < m := by omega
          go_wp2
          refine wp_region_planD (fun w' => w'.cell? ⟨g k, i2, none⟩ = some (.int .u8 (lo : Int)) ∧ w'.cell? ⟨g k, i2 + 1, none⟩ = some (.int .u8 (hi : Int))) [([0, 1, 2, 3, 4, 5, 6, 7, 8, 9, 10, 11, 12], 13, false)] (by kernel_rfl) (by kernel_rfl) ?_
          refine wpPlanD_seg ⟨x0, x1⟩ ?_
          repeat (apply wpReadD_step rfl (by rfl); (· intro wS hSw; (try have hSw := hSw rfl); (try dsimp only at hSw); (try obtain ⟨k0, k1⟩ := hSw); go_simp; (try with_reducible rfl)); try simp only [Act.put, List.setIfInBounds_toArray, List.set_cons_zero, List.set_cons_succ])
          refine wpReadD_nil ?_
          refine wpOp_list rfl (fun K hK => ?_)
          go_simp
          have HPd : Hid (PW w wr.drew w.heap.size v (packK m age C (k * q + j)) L) := Lib.hid (HP.out.later (grownBy_drewN wr 1 none))
          try rw [ho]
          try rw [hwb]
          refine (HPd.out.num tb 1 (by have := HT.out; omega) (by decide) HR.out HF.out).mono ?_
          rintro e y1 ⟨u1, rfl, p1, _⟩
          dsimp only
          rw [← HNX.out] at p1
          have P1 := Lib.hid p1
          refine hK _ _ ⟨fun hf => (by cases hf), ?_⟩
          clear hK K p1 x0 x1 ho hwb HP HR HF
          refine wpPlanD_nil (NoPanic.normal ?_)
          go_wp2
          go_roundw
          case rel =>
            have h22 : ((2 * (j + 1) : Nat) : Int) = (i2 : Int) + 2 := by have := HI2.out; omega
            first
            | exact ⟨j + 1, _, by omega, by rw [h22], P1.out⟩
            | ((repeat apply Exists.intro); exact ⟨⟨j + 1, _, by omega, by rw [h22], P1.out⟩, rfl⟩)
          case measure => simp [intOf]; omega
        · obtain rfl : q = j := by omega
          have e2 : (2 * q : Nat) = m := HQ.out.symm
          rw [e2]
          go_wp2
          go_roundw
          case rel => exact ⟨k + 1, _, by omega, by go_num, by rw [Nat.succ_mul]; exact HP.out⟩
          case measure => simp [intOf]; omega
    · obtain rfl : k = 4 := by omega
      have hpp := HP.out.wr
      rw [show 4 * q = 2 * m by have := HQ.out; omega] at hpp
      have HPP := Lib.hid hpp
      have HGR := Lib.hid HP.out.grown
      clear hpp HP P4
      go_wp2_with fail
      refine (wbytes_any _ _ _ _ _ _ HPP.out).mono ?_
      rintro e w6 ⟨a6, c6, rfl, o6, g6⟩
      have O6 := Lib.hid (ownsRow_mono o6 HGR.out.size)
      have GG := Lib.hid (grownBy_trans HGR.out g6)
      clear o6 g6
      go_wp2
      go_ret
      exact ⟨a6, c6, rfl, O6.out, GG.out⟩

end Go.Proofs.Ytfdkncabicmmiaa
