/- package wire: number; the reference's Number, Of. -/
import Derived.Test.YtbjpjnkaaiajlaaWireN
import Derived.Deep.AppendLies
namespace Go.Proofs.Ytbjpjnkaaiajlaa
open Go.RowKit

theorem madeCells_u8 (n : Nat) : madeCells (Value.int .u8 0).cells n = (List.replicate n (Value.int .u8 0)).toArray := by
  apply Array.ext
  · simp [madeCells]
  · intro i h1 h2
    simp [madeCells, Value.cells, Nat.mod_one]
def byV (n i : Nat) : Value := .int .u8 ((byN n i : Nat) : Int)
theorem numB_V (n k : Nat) : bytesV (numB n k) = upto (byV n) k := by simp [bytesV, numB, upto, byV, Function.comp_def]

set_option maxHeartbeats 1000000 in
theorem number_any (n k : Nat) (hn : n < 18446744073709551616) (hk : k ≤ 8) (w : World) :
    Calls Try.prog 38 #[.int .u64 n, .int .i64 k] w fun e w' => ∃ a c, e = .returned (.slice a k c) ∧ w'.ownsRow w.heap.size 5 1 (.slice a k c) k (bytesV (numB n k)) ∧ w.grownBy w' none := by
  obtain ⟨i0, hi, hz0, hz1, hz2⟩ := info_parts infoByte
  have hmk : ∀ W : World, (Instr.makeSlice 24 (.int .i64 k) (.int .i64 k)).run Try.prog W = .ok (.slice (some ⟨W.heap.size, 0, none⟩) k k) (W.alloc (.cells (List.replicate k (Value.int .u8 0)).toArray 5)) := by
    intro W
    have := run_makeSlice (P := Try.prog) W 24 5 i0 (.int .u8 0) Try.underlying24 hi hz0 .i64 .i64 k k (by omega) (by omega) (by rw [hz1]; omega) (by rw [hz2]; omega) (by omega)
    rw [this, hz1]
    rw [show (madeCells (Value.int .u8 0).cells ((k : Int).toNat * 1)) = (List.replicate k (Value.int .u8 0)).toArray from by rw [Int.toNat_natCast, Nat.mul_one]; exact madeCells_u8 k]
    simp
  go_enter Try.func38, Try.ntmps38
  go_wp2
  obtain ⟨w1, hw1⟩ : ∃ w1, w.alloc (.cells (List.replicate k (Value.int .u8 0)).toArray 5) = w1 := ⟨_, rfl⟩
  have hB : Blk w1 w.heap.size 5 (List.replicate k (Value.int .u8 0)) := by rw [← hw1]; exact Blk.new w _ _
  have hG : w.grownBy w1 none := by rw [← hw1]; exact World.grownBy_alloc w _ none
  try simp only [List.toArray_replicate] at hw1
  rw [hw1]
  have HB := Lib.hid hB
  have HG := Lib.hid hG
  clear hw1 hB hG hmk
  go_loopw [0, 11] (fun m i wr => ∃ j q : Nat, j ≤ k ∧ i = .int .i64 j ∧ m = .int .u64 q ∧ q = n / 256 ^ j ∧ Blk wr w.heap.size 5 (upto (byV n) j ++ (List.replicate k (Value.int .u8 0)).drop j) ∧ w.grownBy wr none) (fun _ i _ => k - (intOf i).toNat)
  case atStart => exact ⟨0, n, by omega, rfl, rfl, by simp, by simpa [upto] using HB.out, HG.out⟩
  case round =>
    obtain ⟨j, q, hj, rfl, rfl, hq, hb, hg⟩ := hrel
    have hq2 : q < 18446744073709551616 := by rw [hq]; exact Nat.lt_of_le_of_lt (Nat.div_le_self _ _) hn
    have HQ := Lib.hid hq
    have HB2 := Lib.hid hb
    have HG2 := Lib.hid hg
    clear hq hg
    by_cases hlt : j < k
    · have hcell : ∃ v, wr.cell? ⟨w.heap.size, j, none⟩ = some v := by
        have := hb.cell? j
        rw [List.getElem?_append_right (by rw [upto_length]; omega), upto_length, Nat.sub_self, List.getElem?_drop, List.getElem?_replicate_of_lt (by omega)] at this
        exact ⟨_, this⟩
      obtain ⟨v, hcell⟩ := hcell
      have hfz := hb.frozen j
      have hw8 : IntKind.u8.wrap (q : Int) = ((byN n j : Nat) : Int) := by
        rw [IntKind.wrap_u8]
        unfold byN
        rw [← HQ.out]
        exact (Int.natCast_emod q 256).symm
      have hset := HB2.out.setCell j (byV n j)
      rw [set_upto_g _ _ _ (by simpa using hlt)] at hset
      have HSET := Lib.hid hset
      have HJ : Hid (((q / 256 : Nat)) = n / 256 ^ (j + 1)) := Lib.hid (by rw [HQ.out, div256])
      clear hset hb
      go_wp2
      go_roundw
      case rel => exact ⟨j + 1, q / 256, by omega, by go_num, by simp, HJ.out, HSET.out, grownBy_base2 HG2.out (grownBy_setCell _ _ _) (by simp)⟩
      case measure => simp [intOf]; omega
    · obtain rfl : j = k := by omega
      clear hb
      go_wp2
      go_ret
      have hb := HB2.out
      rw [List.drop_of_length_le (by simp), List.append_nil] at hb
      exact ⟨_, _, rfl, owns_of_blk hb (Nat.le_refl _) (Nat.le_refl _) (by unfold maxLen; omega) (by rw [upto_length]; omega) (by rw [numB_V, Nat.mul_one, List.take_of_length_le (by rw [upto_length]; omega)]) (by rw [numB_V, upto_length]; omega), HG2.out⟩

set_option maxHeartbeats 1000000 in
theorem rnumber_any (n k : Nat) (hn : n < 18446744073709551616) (hk : k = 1 ∨ k = 2 ∨ k = 4 ∨ k = 8) (w : World) :
    Calls Try.prog 25 #[.int .u64 n, .int .i64 k] w fun e w' => ∃ a c, e = .returned (.slice a k c) ∧ w'.ownsRow w.heap.size 5 1 (.slice a k c) k (bytesV (numB n k)) ∧ w.grownBy w' none := by
  obtain ⟨i0, hi, hz0, hz1, hz2⟩ := info_parts infoByte
  have hk8 : k ≤ 8 := by omega
  have hc : ((((k : Int) != 1) = false ∧ True) ∨ (((k : Int) != 1) = true ∧ ((k : Int) != 2) = false)) ∨ ((((k : Int) != 1) = true ∧ ((k : Int) != 2) = true ∧ ((k : Int) != 4) = false) ∨ (((k : Int) != 1) = true ∧ ((k : Int) != 2) = true ∧ ((k : Int) != 4) = true ∧ ((k : Int) != 8) = false)) := by
    rcases hk with rfl | rfl | rfl | rfl <;> decide
  clear hk
  rcases hc with (⟨b1, _⟩ | ⟨b1, b2⟩) | (⟨b1, b2, b4⟩ | ⟨b1, b2, b4, b8⟩)
  all_goals
    go_enter Try.func25, Try.ntmps25
    go_wp2
    go_loopw [0, 5, 6] (fun m o i wr => ∃ (j q : Nat) (a : Option Addr) (c : Nat), j ≤ k ∧ i = .int .i64 j ∧ m = .int .u64 q ∧ o = .slice a j c ∧ q = n / 256 ^ j ∧ wr.ownsRow w.heap.size 5 1 (.slice a j c) j (bytesV (numB n j)) ∧ w.grownBy wr none) (fun _ _ i _ => k - (intOf i).toNat)
    case atStart => exact ⟨0, n, none, 0, by omega, rfl, rfl, rfl, by simp, World.ownsRow_nil _ _ _ _, grownBy_refl _ _⟩
    case round =>
      obtain ⟨j, q, a, c, hj, rfl, rfl, rfl, hq, ho, hg⟩ := hrel
      have hq2 : q < 18446744073709551616 := by rw [hq]; exact Nat.lt_of_le_of_lt (Nat.div_le_self _ _) hn
      have hgs := hg.size
      have HQ := Lib.hid hq
      have HO := Lib.hid ho
      have HG := Lib.hid hg
      clear hq ho hg
      by_cases hlt : j < k
      · have hw8 : IntKind.u8.wrap ((q : Int) % 256) = ((byN n j : Nat) : Int) := by
          rw [IntKind.wrap_u8]
          unfold byN
          rw [← HQ.out]
          omega
        have hw9 : (q : Int) % 256 = ((byN n j : Nat) : Int) := by
          unfold byN
          rw [← HQ.out]
          exact (Int.natCast_emod q 256).symm
        have HJ : Hid (((q / 256 : Nat)) = n / 256 ^ (j + 1)) := Lib.hid (by rw [HQ.out, div256])
        have hb9 := byN_lt n j
        have HS : Hid (bytesV (numB n (j + 1)) = bytesV (numB n j) ++ [.int .u8 ((byN n j : Nat) : Int)]) := Lib.hid (by rw [numB_succ, bytesV_app]; rfl)
        generalize byN n j = y at *
        go_wp2_with (at_builtin; refine wpList_append_lies _ rfl _ _ 24 rfl w.heap.size 5 i0 _ 1 1 Try.underlying24 hi hz0 hz1 hz2 rfl (by omega) _ _ _ rfl (HO.out.alloc _) ⟨wr.heap.size, 0, none⟩ 1 1 [.int .u8 (y : Int)] rfl rfl (cell_one_new _ _ _) (by simp [Value.oneCell']) (by omega) (by unfold maxLen; omega) (by omega) (by simp; omega) (wr.heap.size + 1) (by simp) ?_; intro g cap w4 h1 h2 _ _; have O4 := Lib.hid h1; have G4 := Lib.hid h2; clear h1 h2)
        go_roundw
        case rel => exact ⟨j + 1, q / 256, _, _, by omega, by go_num, by simp, rfl, HJ.out, by rw [HS.out]; exact O4.out, grownBy_own HG.out HO.out (Nat.le_refl _) G4.out⟩
        case measure => simp [intOf]; omega
      · obtain rfl : j = k := by omega
        go_wp2
        go_ret
        exact ⟨_, _, rfl, HO.out, HG.out⟩

theorem rnumber_no (n : Int) (k : Int) (hk : mayB k = false) (w : World) :
    Calls Try.prog 25 #[.int .u64 n, .int .i64 k] w fun e w' => e = .returned (.slice none 0 0) ∧ w = w' := by
  have h := of_decide_eq_false hk
  have b1 : (k != 1) = true := by rw [bne_iff_ne]; omega
  have b2 : (k != 2) = true := by rw [bne_iff_ne]; omega
  have b4 : (k != 4) = true := by rw [bne_iff_ne]; omega
  have b8 : (k != 8) = true := by rw [bne_iff_ne]; omega
  clear h
  go_enter Try.func25, Try.ntmps25
  go_wp2
  go_ret
  exact ⟨rfl, rfl⟩

set_option maxHeartbeats 1000000 in
theorem rof_any (xs : List Nat) (a : Option Addr) (c : Nat) (w : World) (hx : xs.length ≤ 8) (hl : ∀ x ∈ xs, x < 256) (hr : Rds w 1 (.slice a xs.length c) xs.length (bytesV xs)) :
    Calls Try.prog 44 #[.slice a xs.length c] w fun e w' => e = .returned (.int .u64 (ofB xs)) ∧ w = w' := by
  have HR := Lib.hid hr
  have HL := Lib.hid hl
  have HLT : Hid (∀ j, ofB (xs.drop j) < 18446744073709551616) := Lib.hid (fun j => by
    have h1 := ofB_lt (xs.drop j) (fun x hx => hl x (List.mem_of_mem_drop hx))
    have h2 := pow256 (xs.drop j).length (by rw [List.length_drop]; omega)
    omega)
  clear hr hl
  go_enter Try.func44, Try.ntmps44
  go_wp2
  go_loop [3, 4] (fun m i => ∃ j q : Nat, j ≤ xs.length ∧ i = .int .i64 ((j : Int) - 1) ∧ m = .int .u64 q ∧ q = ofB (xs.drop j)) (fun _ i => (intOf i + 1).toNat)
  case atStart => exact ⟨xs.length, 0, by omega, rfl, rfl, by rw [List.drop_of_length_le (Nat.le_refl _)]; rfl⟩
  case round =>
    obtain ⟨j, q, hj, rfl, rfl, hq⟩ := hrel
    have HQ := Lib.hid hq
    clear hq
    cases j with
    | zero =>
      go_wp2
      go_ret
      have hq := HQ.out
      simp only [List.drop_zero] at hq
      exact ⟨by rw [← hq]; rfl, rfl⟩
    | succ i =>
      obtain ⟨b, o, rfl, hc⟩ := HR.out.at' (by omega)
      have hcell := hc i _ (bytesV_get xs i (by omega))
      have hx8 := HL.out (xs.getD i 0) (by simp [List.getD, show i < xs.length by omega])
      have hlt := HLT.out i
      have hd := ofB_drop xs i (by omega)
      have HD : Hid (ofB (xs.drop i) = xs.getD i 0 + 256 * q) := Lib.hid (by rw [hd, HQ.out])
      rw [hd, ← HQ.out] at hlt
      clear hc hd
      rw [show (((i + 1 : Nat) : Int) - 1) = (i : Int) by omega]
      generalize xs.getD i 0 = x at *
      have hii : (i : Int) < (xs.length : Int) := by omega
      have hb1 : 256 * (q : Int) + (x : Int) ≤ 18446744073709551615 := by omega
      have hb2 : 256 * (q : Int) ≤ 18446744073709551615 := by omega
      go_wp2
      go_round
      case rel => exact ⟨i, x + 256 * q, by omega, rfl, by rw [show (256 * (q : Int) + (x : Int)) = ((x + 256 * q : Nat) : Int) by omega], HD.out.symm⟩
      case measure => simp [intOf]

end Go.Proofs.Ytbjpjnkaaiajlaa
