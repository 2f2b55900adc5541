/- law14's 'told': a bucket is the document's. -/
import Derived.Test.YtddpjfmogjcimaaEnt
import Derived.Test.YtddpjfmogjcimaaGrown
namespace Go.Proofs.Ytddpjfmogjcimaa
open Go.RowKit
attribute [local go_sem ↓] Go.wp_at_zero Go.wp_at_succ

set_option maxRecDepth 100000 in
set_option maxHeartbeats 4000000 in
theorem told_yes (d p : Int) (xs : List Ent) (a a' : Option Addr) (c c' : Nat) (w : World) (hr : Rds w 4 (.slice a xs.length c) xs.length (entsV xs)) (hr' : Rds w 4 (.slice a' xs.length c') xs.length (entsV xs)) :
    Calls Try.prog 14 #[.agg #[.int .i64 d, .int .i64 p, .slice a xs.length c], .agg #[.int .i64 d, .int .i64 p, .slice a' xs.length c']] w fun e w' => e = .returned (.bool true) ∧ w.grownBy w' none := by
  have hm := hr.2.1
  unfold maxLen at hm
  have hd : (d != d) = false := by simp
  have hp : (p != p) = false := by simp
  have hl : ((xs.length : Int) != (xs.length : Int)) = false := by simp
  have HR := Lib.hid hr
  have HR' := Lib.hid hr'
  clear hr hr'
  go_enter Try.func14, Try.ntmps14
  go_wp2
  obtain ⟨w2, hw2⟩ : ∃ w2, (w.alloc (.cells #[.int .i64 d, .int .i64 p, .slice a xs.length c] 29)).alloc (.cells #[.int .i64 d, .int .i64 p, .slice a' xs.length c'] 24) = w2 := ⟨_, rfl⟩
  have hB0 : Blk w2 w.heap.size 29 [.int .i64 d, .int .i64 p, .slice a xs.length c] := by rw [← hw2]; exact (Blk.new w _ _).alloc _
  have hB1 : Blk w2 (w.heap.size + 1) 24 [.int .i64 d, .int .i64 p, .slice a' xs.length c'] := by
    rw [← hw2]
    have := Blk.new (w.alloc (.cells #[.int .i64 d, .int .i64 p, .slice a xs.length c] 29)) 24 [.int .i64 d, .int .i64 p, .slice a' xs.length c']
    rw [World.size_alloc] at this
    exact this
  have hG : w.grownBy w2 none := by rw [← hw2]; exact grownBy_trans (World.grownBy_alloc w _ none) (World.grownBy_alloc _ _ none)
  rw [hw2]
  have HB0 := Lib.hid hB0
  have HB1 := Lib.hid hB1
  have HG := Lib.hid hG
  clear hw2 hB0 hB1 hG
  go_loopw [5] (fun i wr => ∃ k : Nat, k ≤ xs.length ∧ i = .int .i64 k ∧ w.grownBy wr none ∧ Blk wr w.heap.size 29 [.int .i64 d, .int .i64 p, .slice a xs.length c] ∧ Blk wr (w.heap.size + 1) 24 [.int .i64 d, .int .i64 p, .slice a' xs.length c']) (fun i _ => xs.length - (intOf i).toNat)
  case atStart => exact ⟨0, by omega, rfl, HG.out, HB0.out, HB1.out⟩
  case round =>
    obtain ⟨k, hk, rfl, hg, hb0, hb1⟩ := hrel
    have h0 := hb0.cell (j := 2) rfl
    have h1 := hb1.cell (j := 2) rfl
    have HG1 := Lib.hid hg
    have HC0 := Lib.hid hb0
    have HC1 := Lib.hid hb1
    by_cases hlt : k < xs.length
    · obtain ⟨b, o, rfl, hc⟩ := HR.out.at' (by omega)
      obtain ⟨b', o', rfl, hc'⟩ := HR'.out.at' (by omega)
      obtain ⟨e0, e1, e2, e3⟩ := entsV_cells xs k hlt
      have x0 := hg.cell (hc _ _ e0) (by simp)
      have x1 := hg.cell (hc _ _ e1) (by simp)
      have x2 := hg.cell (hc _ _ e2) (by simp)
      have x3 := hg.cell (hc _ _ e3) (by simp)
      have y0 := hg.cell (hc' _ _ e0) (by simp)
      have y1 := hg.cell (hc' _ _ e1) (by simp)
      have y2 := hg.cell (hc' _ _ e2) (by simp)
      have y3 := hg.cell (hc' _ _ e3) (by simp)
      simp only [← Nat.add_assoc] at x1 x2 x3 y1 y2 y3
      have hlti : (k : Int) < (xs.length : Int) := by omega
      have hk0 : (0 : Int) ≤ (k : Int) := by omega
      clear hc hc' e0 e1 e2 e3 hg hb0 hb1 HB0 HB1
      generalize (xs.getD k Ent.zero).r = vr at *
      generalize (xs.getD k Ent.zero).a = va at *
      generalize (xs.getD k Ent.zero).s = vs at *
      generalize U (xs.getD k Ent.zero).h = vh at *
      go_wp2_with fail
      have x0 := gw_cell x0
      have x1 := gw_cell x1
      have x2 := gw_cell x2
      have x3 := gw_cell x3
      have y0 := gw_cell y0
      have y1 := gw_cell y1
      have y2 := gw_cell y2
      have y3 := gw_cell y3
      have h0 := gw_cell h0
      have h1 := gw_cell h1
      refine wp_region_grown (by kernel_rfl) (by kernel_rfl) ?_
      repeat (go_big_quiet_step ((go_at_call 16; exact calls_grown' (entry_any _ _ _ _) _)))
      refine wpQuiet_nil ?_
      rintro _ ⟨g, rfl⟩
      have G4 := Lib.hid (gw_grown g)
      go_wp2
      go_roundw
      case rel => exact ⟨k + 1, by omega, by go_num, grownBy_trans HG1.out G4.out, HC0.out.grown G4.out (by simp), HC1.out.grown G4.out (by simp)⟩
      case measure => simp [intOf]; omega
    · obtain rfl : k = xs.length := by omega
      go_wp2
      go_ret
      exact ⟨rfl, HG1.out⟩

end Go.Proofs.Ytddpjfmogjcimaa
