/- The reference's Right. -/
import Derived.Test.YtddpjfmogjcimaaEnt
import Derived.Test.YtddpjfmogjcimaaGrown
import Derived.Test.YtddpjfmogjcimaaRefPre
namespace Go.Proofs.Ytddpjfmogjcimaa
open Go.RowKit

/-- May it be an entry of a bucket? -/
def okE (d p : Int) (x : Ent) : Bool := decide (0 ≤ x.r ∧ x.r ≤ 1099511627776 ∧ 0 ≤ x.a ∧ x.a ≤ 65535 ∧ 0 ≤ x.s ∧ x.s ≤ 65535) && decide (pre x.h d = p)
/-- Does the entry at a place stand behind the one ahead? -/
def upE (xs : List Ent) (i : Nat) : Bool := decide (i = 0) || decide (U (xs.getD (i - 1) Ent.zero).h < U (xs.getD i Ent.zero).h)
def okI (d p : Int) (xs : List Ent) (i : Nat) : Bool := okE d p (xs.getD i Ent.zero) && upE xs i
def headB (d p slots : Int) (n : Nat) : Bool := decide (1 ≤ slots ∧ slots ≤ 255 ∧ (n : Int) ≤ slots ∧ 0 ≤ d ∧ d ≤ 8 ∧ 0 ≤ p ∧ p < 2 ^ d.toNat)
/-- Is it a bucket? -/
def rightB (d p slots : Int) (xs : List Ent) : Bool := headB d p slots xs.length && (List.range xs.length).all (okI d p xs)

theorem all_upto (f : Nat → Bool) (k : Nat) (h : ∀ i, i < k → f i = true) : (List.range k).all f = true := by
  rw [List.all_eq_true]
  intro i hi
  exact h i (List.mem_range.1 hi)
theorem not_all (f : Nat → Bool) (n k : Nat) (hk : k < n) (h : f k = false) : (List.range n).all f = false := by
  rw [List.all_eq_false]
  exact ⟨k, List.mem_range.2 hk, by simp [h]⟩
theorem rightB_head {d p slots : Int} {xs : List Ent} (h : ¬ (1 ≤ slots ∧ slots ≤ 255 ∧ (xs.length : Int) ≤ slots ∧ 0 ≤ d ∧ d ≤ 8 ∧ 0 ≤ p ∧ p < 2 ^ d.toNat)) : rightB d p slots xs = false := by
  unfold rightB headB
  rw [decide_eq_false h]
  rfl
theorem rightB_at {d p slots : Int} {xs : List Ent} (k : Nat) (hk : k < xs.length) (h : okI d p xs k = false) : rightB d p slots xs = false := by
  unfold rightB
  rw [not_all _ _ k hk h, Bool.and_false]
theorem pow8 (d : Nat) (h : d ≤ 8) : 2 ^ d ≤ 256 := by
  have : 2 ^ d ≤ 2 ^ 8 := Nat.pow_le_pow_right (by omega) h
  omega
theorem ret_bool {a b : Bool} (h : a = b) : Ending.returned (.bool a) = .returned (.bool b) := by rw [h]

set_option maxRecDepth 100000 in
set_option maxHeartbeats 8000000 in
theorem rright_any (d p slots : Int) (xs : List Ent) (a : Option Addr) (c : Nat) (w : World) (hr : Rds w 4 (.slice a xs.length c) xs.length (entsV xs)) :
    Calls Try.prog 9 #[.agg #[.int .i64 d, .int .i64 p, .slice a xs.length c], .int .i64 slots] w fun e w' => e = .returned (.bool (rightB d p slots xs)) ∧ w.grownBy w' none := by
  have hm := hr.2.1
  unfold maxLen at hm
  by_cases c1 : slots < 1
  · have hf := Lib.hid (@rightB_head d p slots xs (by omega))
    go_enter Try.func9, Try.ntmps9
    go_wp2
    go_ret
    exact ⟨ret_bool hf.out.symm, World.grownBy_alloc _ _ none⟩
  by_cases c2 : 255 < slots
  · have hf := Lib.hid (@rightB_head d p slots xs (by omega))
    go_enter Try.func9, Try.ntmps9
    go_wp2
    go_ret
    exact ⟨ret_bool hf.out.symm, World.grownBy_alloc _ _ none⟩
  by_cases c3 : slots < (xs.length : Int)
  · have hf := Lib.hid (@rightB_head d p slots xs (by omega))
    go_enter Try.func9, Try.ntmps9
    go_wp2
    go_ret
    exact ⟨ret_bool hf.out.symm, World.grownBy_alloc _ _ none⟩
  by_cases c4 : d < 0
  · have hf := Lib.hid (@rightB_head d p slots xs (by omega))
    go_enter Try.func9, Try.ntmps9
    go_wp2
    go_ret
    exact ⟨ret_bool hf.out.symm, World.grownBy_alloc _ _ none⟩
  by_cases c5 : 8 < d
  · have hf := Lib.hid (@rightB_head d p slots xs (by omega))
    go_enter Try.func9, Try.ntmps9
    go_wp2
    go_ret
    exact ⟨ret_bool hf.out.symm, World.grownBy_alloc _ _ none⟩
  obtain ⟨dn, rfl⟩ := Int.eq_ofNat_of_zero_le (show 0 ≤ d by omega)
  have hd8 : dn ≤ 8 := by omega
  have HR := Lib.hid hr
  clear hr
  have d1 : decide ((dn : Int) < 0) = false := by simp
  go_enter Try.func9, Try.ntmps9
  go_wp2
  obtain ⟨w1, hw1⟩ : ∃ w1, w.alloc (.cells #[.int .i64 (dn : Int), .int .i64 p, .slice a xs.length c] 24) = w1 := ⟨_, rfl⟩
  have hB0 : Blk w1 w.heap.size 24 [.int .i64 (dn : Int), .int .i64 p, .slice a xs.length c] := by rw [← hw1]; exact Blk.new w _ _
  have hG : w.grownBy w1 none := by rw [← hw1]; exact World.grownBy_alloc w _ none
  rw [hw1]
  have q0 := hB0.cell (j := 0) rfl
  have q1 := hB0.cell (j := 1) rfl
  have q2 := hB0.cell (j := 2) rfl
  have HB0 := Lib.hid hB0
  have HG0 := Lib.hid hG
  clear hw1 hB0 hG
  go_loop [5, 6] (fun m i => ∃ k n : Nat, k ≤ dn ∧ i = .int .i64 k ∧ m = .int .i64 n ∧ n = 2 ^ k) (fun _ i => dn - (intOf i).toNat)
  case atStart => exact ⟨0, 1, by omega, rfl, rfl, rfl⟩
  case round =>
    obtain ⟨k, n, hk, rfl, rfl, hn⟩ := hrel
    have hn2 : n ≤ 256 := by rw [hn]; exact pow8 k (by omega)
    have HN := Lib.hid hn
    clear hn
    by_cases hlt : k < dn
    · go_wp2
      go_round
      case rel => exact ⟨k + 1, n * 2, by omega, by go_num, by go_num, by rw [HN.out, Nat.pow_succ]⟩
      case measure => simp [intOf]; omega
    obtain rfl : k = dn := by omega
    by_cases c6 : p < 0
    · have hf := Lib.hid (@rightB_head k p slots xs (by omega))
      go_wp2
      go_ret
      exact ⟨ret_bool hf.out.symm, HG0.out⟩
    have HP : Hid ((n : Int) = 2 ^ ((k : Int)).toNat) := Lib.hid (by rw [HN.out, Int.toNat_natCast]; norm_cast)
    by_cases c7 : (n : Int) ≤ p
    · have hf := Lib.hid (@rightB_head k p slots xs (by rw [← HP.out]; omega))
      go_wp2
      go_ret
      exact ⟨ret_bool hf.out.symm, HG0.out⟩
    have HH : Hid (headB k p slots xs.length = true) := Lib.hid (by unfold headB; rw [← HP.out]; exact decide_eq_true ⟨by omega, by omega, by omega, by omega, by omega, by omega, by omega⟩)
    go_wp2
    go_loopw [7] (fun i wr => ∃ j : Nat, j ≤ xs.length ∧ i = .int .i64 j ∧ (∀ i, i < j → okI k p xs i = true) ∧ w.grownBy wr none ∧ Blk wr w.heap.size 24 [.int .i64 (k : Int), .int .i64 p, .slice a xs.length c]) (fun i _ => xs.length - (intOf i).toNat)
    case atStart => exact ⟨0, by omega, rfl, fun i hi => absurd hi (by omega), HG0.out, HB0.out⟩
    case round =>
      obtain ⟨j, hj, rfl, hok, hg, hb0⟩ := hrel
      have OK := Lib.hid hok
      have HG := Lib.hid hg
      have HB := Lib.hid hb0
      have r0 := hb0.cell (j := 0) rfl
      have r1 := hb0.cell (j := 1) rfl
      have r2 := hb0.cell (j := 2) rfl
      clear hok hb0 q0 q1 q2
      by_cases hlt : j < xs.length
      · obtain ⟨b, o, rfl, hc⟩ := HR.out.at' (by omega)
        obtain ⟨e0, e1, e2, e3⟩ := entsV_cells xs j hlt
        have x0 := hg.cell (hc _ _ e0) (by simp)
        have x1 := hg.cell (hc _ _ e1) (by simp)
        have x2 := hg.cell (hc _ _ e2) (by simp)
        have x3 := hg.cell (hc _ _ e3) (by simp)
        simp only [← Nat.add_assoc] at x1 x2 x3
        have hlti : (j : Int) < (xs.length : Int) := by omega
        have hj0 : (0 : Int) ≤ (j : Int) := by omega
        have HE : Hid (okE k p (xs.getD j Ent.zero) = false → okI k p xs j = false) := Lib.hid (fun h => by unfold okI; rw [h]; rfl)
        have HI : Hid (okI k p xs j = (okE k p (xs.getD j Ent.zero) && upE xs j)) := Lib.hid rfl
        have HU : Hid (upE xs j = (decide (j = 0) || decide (U (xs.getD (j - 1) Ent.zero).h < U (xs.getD j Ent.zero).h))) := Lib.hid rfl
        have HPREV : Hid (∀ i, j = i + 1 → wr.cell? ⟨b, o + i * 4, none⟩ = some (.int .u64 (U (xs.getD i Ent.zero).h))) := Lib.hid (fun i hi => HG.out.cell (hc _ _ (entsV_cells xs i (by omega)).1) (by simp))
        clear hc e0 e1 e2 e3 hg
        generalize hx : xs.getD j Ent.zero = x at *
        have HX := Lib.hid hx
        clear hx
        have hbx := Blk.new wr 44 [.int .u64 (U x.h), .int .i64 x.r, .int .i64 x.a, .int .i64 x.s]
        have y0 := hbx.cell (j := 0) rfl
        have y1 := hbx.cell (j := 1) rfl
        have y2 := hbx.cell (j := 2) rfl
        have y3 := hbx.cell (j := 3) rfl
        have ga := World.grownBy_alloc wr (.cells #[.int .u64 (U x.h), .int .i64 x.r, .int .i64 x.a, .int .i64 x.s] 44) none
        have s0 := ga.cell r0 (by simp)
        have s1 := ga.cell r1 (by simp)
        have s2 := ga.cell r2 (by simp)
        have GA := Lib.hid ga
        clear hbx ga
        go_wp2_with fail
        obtain ⟨wa, hwa⟩ : ∃ wa, wr.alloc (.cells #[.int .u64 (U x.h), .int .i64 x.r, .int .i64 x.a, .int .i64 x.s] 44) = wa := ⟨_, rfl⟩
        rw [hwa] at y0 y1 y2 y3 s0 s1 s2 GA ⊢
        clear hwa r0 r1 r2 x0 x1 x2 x3
        have y0 := gw_cell y0
        have y1 := gw_cell y1
        have y2 := gw_cell y2
        have y3 := gw_cell y3
        have s0 := gw_cell s0
        have s1 := gw_cell s1
        have s2 := gw_cell s2
        by_cases t0 : x.r < 0
        · have hf : Hid (rightB k p slots xs = false) := Lib.hid (rightB_at j hlt (HE.out (by unfold okE; rw [decide_eq_false (by omega)]; rfl)))
          have t : decide (x.r < 0) = true := decide_eq_true t0
          refine wp_region_grown (by kernel_rfl) (by kernel_rfl) ?_
          repeat (go_big_quiet_step ((go_at_call 31; exact calls_grown' (rprefix_any _ _) _)))
          refine wpQuiet_nil ?_
          rintro _ ⟨g, rfl⟩
          have G4 := Lib.hid (gw_grown g)
          generalize gw g = w4 at *
          go_wp2
          go_ret
          exact ⟨ret_bool hf.out.symm, grownBy_trans HG.out (grownBy_trans GA.out G4.out)⟩
        by_cases t1 : 1099511627776 < x.r
        · have hf : Hid (rightB k p slots xs = false) := Lib.hid (rightB_at j hlt (HE.out (by unfold okE; rw [decide_eq_false (by omega)]; rfl)))
          have t : decide (1099511627776 < x.r) = true := decide_eq_true t1
          refine wp_region_grown (by kernel_rfl) (by kernel_rfl) ?_
          repeat (go_big_quiet_step ((go_at_call 31; exact calls_grown' (rprefix_any _ _) _)))
          refine wpQuiet_nil ?_
          rintro _ ⟨g, rfl⟩
          have G4 := Lib.hid (gw_grown g)
          generalize gw g = w4 at *
          go_wp2
          go_ret
          exact ⟨ret_bool hf.out.symm, grownBy_trans HG.out (grownBy_trans GA.out G4.out)⟩
        by_cases t2 : x.a < 0
        · have hf : Hid (rightB k p slots xs = false) := Lib.hid (rightB_at j hlt (HE.out (by unfold okE; rw [decide_eq_false (by omega)]; rfl)))
          have t : decide (x.a < 0) = true := decide_eq_true t2
          refine wp_region_grown (by kernel_rfl) (by kernel_rfl) ?_
          repeat (go_big_quiet_step ((go_at_call 31; exact calls_grown' (rprefix_any _ _) _)))
          refine wpQuiet_nil ?_
          rintro _ ⟨g, rfl⟩
          have G4 := Lib.hid (gw_grown g)
          generalize gw g = w4 at *
          go_wp2
          go_ret
          exact ⟨ret_bool hf.out.symm, grownBy_trans HG.out (grownBy_trans GA.out G4.out)⟩
        by_cases t3 : 65535 < x.a
        · have hf : Hid (rightB k p slots xs = false) := Lib.hid (rightB_at j hlt (HE.out (by unfold okE; rw [decide_eq_false (by omega)]; rfl)))
          have t : decide (65535 < x.a) = true := decide_eq_true t3
          refine wp_region_grown (by kernel_rfl) (by kernel_rfl) ?_
          repeat (go_big_quiet_step ((go_at_call 31; exact calls_grown' (rprefix_any _ _) _)))
          refine wpQuiet_nil ?_
          rintro _ ⟨g, rfl⟩
          have G4 := Lib.hid (gw_grown g)
          generalize gw g = w4 at *
          go_wp2
          go_ret
          exact ⟨ret_bool hf.out.symm, grownBy_trans HG.out (grownBy_trans GA.out G4.out)⟩
        by_cases t4 : x.s < 0
        · have hf : Hid (rightB k p slots xs = false) := Lib.hid (rightB_at j hlt (HE.out (by unfold okE; rw [decide_eq_false (by omega)]; rfl)))
          have t : decide (x.s < 0) = true := decide_eq_true t4
          refine wp_region_grown (by kernel_rfl) (by kernel_rfl) ?_
          repeat (go_big_quiet_step ((go_at_call 31; exact calls_grown' (rprefix_any _ _) _)))
          refine wpQuiet_nil ?_
          rintro _ ⟨g, rfl⟩
          have G4 := Lib.hid (gw_grown g)
          generalize gw g = w4 at *
          go_wp2
          go_ret
          exact ⟨ret_bool hf.out.symm, grownBy_trans HG.out (grownBy_trans GA.out G4.out)⟩
        by_cases t5 : 65535 < x.s
        · have hf : Hid (rightB k p slots xs = false) := Lib.hid (rightB_at j hlt (HE.out (by unfold okE; rw [decide_eq_false (by omega)]; rfl)))
          have t : decide (65535 < x.s) = true := decide_eq_true t5
          refine wp_region_grown (by kernel_rfl) (by kernel_rfl) ?_
          repeat (go_big_quiet_step ((go_at_call 31; exact calls_grown' (rprefix_any _ _) _)))
          refine wpQuiet_nil ?_
          rintro _ ⟨g, rfl⟩
          have G4 := Lib.hid (gw_grown g)
          generalize gw g = w4 at *
          go_wp2
          go_ret
          exact ⟨ret_bool hf.out.symm, grownBy_trans HG.out (grownBy_trans GA.out G4.out)⟩
        by_cases t6 : pre x.h k = p
        case neg =>
          have hf : Hid (rightB k p slots xs = false) := Lib.hid (rightB_at j hlt (HE.out (by unfold okE; rw [decide_eq_false t6, Bool.and_false])))
          have t : (pre x.h k != p) = true := by rw [bne_iff_ne]; exact t6
          clear t6
          refine wp_region_grown (by kernel_rfl) (by kernel_rfl) ?_
          repeat (go_big_quiet_step ((go_at_call 31; exact calls_grown' (rprefix_any _ _) _)))
          refine wpQuiet_nil ?_
          rintro _ ⟨g, rfl⟩
          have G4 := Lib.hid (gw_grown g)
          generalize gw g = w4 at *
          go_wp2
          go_ret
          exact ⟨ret_bool hf.out.symm, grownBy_trans HG.out (grownBy_trans GA.out G4.out)⟩
        have HOK : Hid (okE k p x = true) := Lib.hid (by unfold okE; rw [decide_eq_true (by omega), decide_eq_true t6]; rfl)
        have t : (pre x.h k != p) = false := by rw [t6]; simp
        clear t6
        by_cases tz : j = 0
        · have z : decide ((0 : Int) < (j : Int)) = false := decide_eq_false (by omega)
          have z2 : decide (0 < j) = false := decide_eq_false (by omega)
          have z3 : (0 < j) = False := eq_false (by omega)
          have hnx : Hid (∀ i, i < j + 1 → okI k p xs i = true) := Lib.hid (fun i hi => by
            obtain rfl : i = j := by omega
            rw [HI.out, HOK.out, HU.out, decide_eq_true tz]
            rfl)
          clear tz
          refine wp_region_grown (by kernel_rfl) (by kernel_rfl) ?_
          repeat (go_big_quiet_step ((go_at_call 31; exact calls_grown' (rprefix_any _ _) _)))
          refine wpQuiet_nil ?_
          rintro _ ⟨g, rfl⟩
          have G4 := Lib.hid (gw_grown g)
          generalize gw g = w4 at *
          go_wp2
          go_roundw
          case rel => exact ⟨j + 1, by omega, by go_num, hnx.out, grownBy_trans HG.out (grownBy_trans GA.out G4.out), HB.out.grown (grownBy_trans GA.out G4.out) (by simp)⟩
          case measure => simp [intOf]; omega
        obtain ⟨i, rfl⟩ : ∃ i, j = i + 1 := ⟨j - 1, by omega⟩
        have z : decide ((0 : Int) < ((i + 1 : Nat) : Int)) = true := decide_eq_true (by omega)
        have hw1 : IntKind.i64.wrap (((i + 1 : Nat) : Int) - 1) = (i : Int) := by rw [show (((i + 1 : Nat) : Int) - 1) = (i : Int) by omega]; exact IntWalk.i64_in _ (by omega)
        have hi0 : (0 : Int) ≤ (i : Int) := by omega
        have hi1 : (i : Int) < (xs.length : Int) := by omega
        have v0 := gw_cell (GA.out.cell (HPREV.out i rfl) (by simp))
        by_cases tu : U (xs.getD i Ent.zero).h < U x.h
        case neg =>
          have hf : Hid (rightB k p slots xs = false) := Lib.hid (rightB_at (i + 1) hlt (by rw [HI.out, HU.out, Nat.add_sub_cancel, decide_eq_false tu, decide_eq_false tz]; simp))
          have t9 : decide (U x.h ≤ U (xs.getD i Ent.zero).h) = true := decide_eq_true (by omega)
          generalize U (xs.getD i Ent.zero).h = v at *
          clear tu
          refine wp_region_grown (by kernel_rfl) (by kernel_rfl) ?_
          repeat (go_big_quiet_step ((go_at_call 31; exact calls_grown' (rprefix_any _ _) _)))
          refine wpQuiet_nil ?_
          rintro _ ⟨g, rfl⟩
          have G4 := Lib.hid (gw_grown g)
          generalize gw g = w4 at *
          go_wp2
          go_ret
          exact ⟨ret_bool hf.out.symm, grownBy_trans HG.out (grownBy_trans GA.out G4.out)⟩
        have hnx : Hid (∀ q, q < i + 1 + 1 → okI k p xs q = true) := Lib.hid (fun q hq => by
          by_cases hqi : q < i + 1
          · exact OK.out q hqi
          · obtain rfl : q = i + 1 := by omega
            rw [HI.out, HOK.out, HU.out, Nat.add_sub_cancel, decide_eq_true tu]
            simp)
        have t9 : decide (U x.h ≤ U (xs.getD i Ent.zero).h) = false := decide_eq_false (by omega)
        generalize U (xs.getD i Ent.zero).h = v at *
        clear tu
        refine wp_region_grown (by kernel_rfl) (by kernel_rfl) ?_
        repeat (go_big_quiet_step ((go_at_call 31; exact calls_grown' (rprefix_any _ _) _)))
        refine wpQuiet_nil ?_
        rintro _ ⟨g, rfl⟩
        have G4 := Lib.hid (gw_grown g)
        generalize gw g = w4 at *
        go_wp2
        go_roundw
        case rel => exact ⟨i + 1 + 1, by omega, by go_num, hnx.out, grownBy_trans HG.out (grownBy_trans GA.out G4.out), HB.out.grown (grownBy_trans GA.out G4.out) (by simp)⟩
        case measure => simp [intOf]; omega
      · obtain rfl : j = xs.length := by omega
        have hf : Hid (rightB k p slots xs = true) := Lib.hid (by unfold rightB; rw [HH.out, all_upto _ _ OK.out]; rfl)
        go_wp2
        go_ret
        exact ⟨ret_bool hf.out.symm, HG.out⟩

end Go.Proofs.Ytddpjfmogjcimaa
