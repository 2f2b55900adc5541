/- package bits: Count. -/
import Derived.Test.YtjbfnnfbdjjjbaaDoorSetTake
import Derived.Test.YtjbfnnfbdjjjbaaDoorPop4
namespace Go.Proofs.YtjbfnnfbdjjjbaaDoor
open Go.RowKit

theorem filter_range_add (f : Nat → Bool) (a b : Nat) : ((List.range (a + b)).filter f).length = ((List.range a).filter f).length + ((List.range b).filter fun i => f (a + i)).length := by
  rw [List.range_add, List.filter_append, List.length_append, List.filter_map, List.length_map]
  rfl
/-- How many of the words up to some are taken. -/
theorem count_word (ws : List (BitVec 64)) (q : Nat) : ((List.range (64 * (q + 1))).filter (tk ws)).length = ((List.range (64 * q)).filter (tk ws)).length + pc 64 (wd ws q).toNat := by
  rw [show 64 * (q + 1) = 64 * q + 64 by omega, filter_range_add, ← pc_filter]
  congr 2
  refine List.filter_congr (fun i hi => ?_)
  rw [List.mem_range] at hi
  unfold tk
  rw [show (64 * q + i) / 64 = q by omega, show (64 * q + i) % 64 = i by omega]
  rfl
theorem count_le (f : Nat → Bool) (n : Nat) : ((List.range n).filter f).length ≤ n := by
  have := List.length_filter_le f (List.range n)
  rwa [List.length_range] at this
/-- Nothing is taken behind n. -/
theorem count_top (f : Nat → Bool) (n m : Nat) (hm : n ≤ m) (h : ∀ i, n ≤ i → f i = false) : ((List.range m).filter f).length = ((List.range n).filter f).length := by
  obtain ⟨d, rfl⟩ : ∃ d, m = n + d := ⟨m - n, by omega⟩
  rw [filter_range_add]
  have : (List.range d).filter (fun i => f (n + i)) = [] := by
    rw [List.filter_eq_nil_iff]
    intro i _
    rw [h (n + i) (by omega)]
    simp
  rw [this]
  rfl
def countF (n : Nat) (f : Nat → Bool) : Nat := ((List.range n).filter f).length

set_option maxHeartbeats 1000000 in
theorem count_any (B g n hand : Nat) (f : Nat → Bool) (w : World) (h : SF w B g n hand f) :
    Calls Tryd.prog 10 #[.pointer (some ⟨B, 0, none⟩)] w fun e w' => e = .returned (.int .i64 (countF n f : Nat)) ∧ w = w' := by
  obtain ⟨c, ws, hs, hf⟩ := h
  have hl := hs.len
  have hn := hs.n2
  have k2 := hs.blk.cell (j := 2) rfl
  have HW := Lib.hid (fun q hq => hs.word q hq)
  have HTOP := Lib.hid hs.top
  have HL : Hid (n ≤ 64 * ws.length) := Lib.hid (by omega)
  have hw0 : ws.length ≤ 1024 := by omega
  have HFE : Hid (tk ws = f) := Lib.hid (funext hf)
  clear hs hf hl
  go_enter Tryd.func10, Tryd.ntmps10
  go_wp2_with fail
  go_loop [3, 14] (fun s i => ∃ q c : Nat, i = .int .i64 q ∧ s = .int .i64 c ∧ q ≤ ws.length ∧ c = ((List.range (64 * q)).filter (tk ws)).length) (fun _ i => ws.length - (intOf i).toNat)
  case atStart => exact ⟨0, 0, rfl, rfl, by omega, rfl⟩
  case round =>
    obtain ⟨q, cn, rfl, rfl, hq, hc⟩ := hrel
    have hcb : cn ≤ 65536 := by have := count_le (tk ws) (64 * q); omega
    by_cases hlt : q < ws.length
    · have hw := HW.out q hlt
      have HC := Lib.hid hc
      have HCW := Lib.hid (count_word ws q)
      have hpb : pc 64 (wd ws q).toNat ≤ 64 := by
        rw [← pc_filter]
        exact count_le _ 64
      have HON := Lib.hid (ones_any (wd ws q).toNat (wd ws q).isLt w)
      clear hc
      obtain ⟨pv, hpv⟩ : ∃ pv, pc 64 (wd ws q).toNat = pv := ⟨_, rfl⟩
      rw [hpv] at hpb HON HCW
      clear hpv
      go_wp2_with fail
      refine HON.out.mono ?_
      rintro e w1 ⟨rfl, rfl⟩
      go_wp2_with fail
      go_round
      case rel => exact ⟨q + 1, cn + pv, by go_num, by go_num, by omega, by rw [HCW.out, HC.out]⟩
      case measure => simp [intOf]; omega
    · obtain rfl : q = ws.length := by omega
      have HE : Hid (cn = countF n f) := Lib.hid (by
        unfold countF
        rw [hc, ← HFE.out]
        exact count_top (tk ws) n _ HL.out HTOP.out)
      clear hc
      go_wp2_with fail
      go_ret
      exact ⟨by rw [HE.out]; rfl, rfl⟩

end Go.Proofs.YtjbfnnfbdjjjbaaDoor
