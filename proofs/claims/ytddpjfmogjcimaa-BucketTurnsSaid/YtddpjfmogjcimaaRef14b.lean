/- The document of layer 14: Elder; package bucket: Find. -/
import Derived.Test.YtddpjfmogjcimaaRef14
namespace Go.Proofs.Ytddpjfmogjcimaa
open Go Go.RowKit
attribute [local go_sem ↓] Go.wp_at_zero Go.wp_at_succ

set_option maxRecDepth 100000 in
set_option maxHeartbeats 4000000 in
theorem relder_any (d p : Int) (xs : List Ent) (a : Option Addr) (c : Nat) (w : World) (hx : xs.length ≤ 300) (hr : Rds w 4 (.slice a xs.length c) xs.length (entsV xs)) :
    Calls Try.prog 30 #[.agg #[.int .i64 d, .int .i64 p, .slice a xs.length c]] w fun e w' => e = .returned (.int .i64 (eldI xs)) ∧ w.grownBy w' none := by
  have HR := Lib.hid hr
  clear hr
  go_enter Try.func30, Try.ntmps30
  go_wp2_with fail
  obtain ⟨w2, hw2⟩ : ∃ w2, w.alloc (.cells #[.int .i64 d, .int .i64 p, .slice a xs.length c] 24) = w2 := ⟨_, rfl⟩
  have hB0 : Blk w2 w.heap.size 24 [.int .i64 d, .int .i64 p, .slice a xs.length c] := by rw [← hw2]; exact Blk.new w _ _
  have hG : w.grownBy w2 none := by rw [← hw2]; exact World.grownBy_alloc w _ none
  obtain ⟨X, hX⟩ : ∃ X, w.heap.size = X := ⟨_, rfl⟩
  rw [hX] at hB0
  rw [hX, hw2]
  have HB0 := Lib.hid hB0
  have HG := Lib.hid hG
  clear hw2 hB0 hG hX
  go_loopw [3, 4] (fun o i wr => ∃ k : Nat, k ≤ xs.length ∧ i = .int .i64 k ∧ o = .int .i64 (oI (eldK xs k)) ∧ w.grownBy wr none ∧ Blk wr X 24 [.int .i64 d, .int .i64 p, .slice a xs.length c]) (fun _ i _ => xs.length - (intOf i).toNat)
  case atStart => exact ⟨0, by omega, rfl, rfl, HG.out, HB0.out⟩
  case round =>
    obtain ⟨k, hk, rfl, rfl, hg, hb0⟩ := hrel
    have h2 := hb0.cell (j := 2) rfl
    by_cases hlt : k < xs.length
    · have hlti : (k : Int) < (xs.length : Int) := by omega
      obtain ⟨b, o, rfl, hc⟩ := HR.out.at' (by omega)
      obtain ⟨e0, e1, e2, e3⟩ := entsV_cells xs k hlt
      have x0 := hg.cell (hc _ _ e0) (by simp)
      have x1 := hg.cell (hc _ _ e1) (by simp)
      have x2 := hg.cell (hc _ _ e2) (by simp)
      have x3 := hg.cell (hc _ _ e3) (by simp)
      simp only [← Nat.add_assoc] at x1 x2 x3
      have HC0 := Lib.hid hb0
      have HGR := Lib.hid hg
      clear e0 e1 e2 e3
      cases hbk : eldK xs k with
      | none =>
        have hnx : eldK xs (k + 1) = some k := by rw [eldK, hbk]
        have HNX := Lib.hid hnx
        clear hc hnx hbk
        obtain ⟨x, hx'⟩ : ∃ x, xs.getD k Ent.zero = x := ⟨_, rfl⟩
        rw [hx'] at x0 x1 x2 x3
        clear hx'
        have hm1 : oI none = -1 := rfl
        rw [hm1]
        clear hm1 hb0 hg
        go_wp2_with fail
        refine wp_region_grown (by kernel_rfl) (by kernel_rfl) ?_
        repeat (go_big_quiet_step (fail))
        refine wpQuiet_nil ?_
        rintro _ ⟨g, rfl⟩
        have G4 := Lib.hid (gw_grown g)
        go_wp2_with fail
        go_roundw
        case rel => exact ⟨k + 1, by omega, by go_num, by rw [HNX.out]; rfl, grownBy_trans HGR.out (grownBy_trans (World.grownBy_alloc _ _ none) G4.out), HC0.out.grown (grownBy_trans (World.grownBy_alloc _ _ none) G4.out) (by simp)⟩
        case measure => simp [intOf]; omega
      | some q =>
        have hqk := eldK_lt xs k q hbk
        obtain ⟨f0, f1, f2, f3⟩ := entsV_cells xs q (by omega)
        have y0 := hg.cell (hc _ _ f0) (by simp)
        have y1 := hg.cell (hc _ _ f1) (by simp)
        have y2 := hg.cell (hc _ _ f2) (by simp)
        have y3 := hg.cell (hc _ _ f3) (by simp)
        simp only [← Nat.add_assoc] at y1 y2 y3
        have hnx : eldK xs (k + 1) = if eldB (xs.getD k Ent.zero) (xs.getD q Ent.zero) = true then some k else some q := by rw [eldK, hbk]
        have HNX := Lib.hid hnx
        clear hc hnx hbk f0 f1 f2 f3
        obtain ⟨x, hx'⟩ : ∃ x, xs.getD k Ent.zero = x := ⟨_, rfl⟩
        obtain ⟨y, hy'⟩ : ∃ y, xs.getD q Ent.zero = y := ⟨_, rfl⟩
        rw [hx'] at x0 x1 x2 x3 HNX
        rw [hy'] at y0 y1 y2 y3 HNX
        clear hx' hy'
        have hm1 : oI (some q) = q := rfl
        rw [hm1]
        clear hm1
        have hqi : (q : Int) < (xs.length : Int) := by omega
        have hqn : decide ((q : Int) < 0) = false := decide_eq_false (by omega)
        clear hb0 hg
        go_wp2_with fail
        obtain ⟨w1, hw1⟩ : ∃ w1, wr.alloc (.cells #[.int .u64 (U x.h), .int .i64 x.r, .int .i64 x.a, .int .i64 x.s] 44) = w1 := ⟨_, rfl⟩
        have hga : wr.grownBy w1 none := by rw [← hw1]; exact World.grownBy_alloc _ _ none
        have hxb : Blk w1 wr.heap.size 44 [.int .u64 (U x.h), .int .i64 x.r, .int .i64 x.a, .int .i64 x.s] := by rw [← hw1]; exact Blk.new wr _ _
        obtain ⟨Y, hY⟩ : ∃ Y, wr.heap.size = Y := ⟨_, rfl⟩
        rw [hY] at hxb
        rw [hw1, hY]
        have HGA := Lib.hid hga
        have y0 := gw_cell (hga.cell y0 (by simp)); have y1 := gw_cell (hga.cell y1 (by simp)); have y2 := gw_cell (hga.cell y2 (by simp)); have y3 := gw_cell (hga.cell y3 (by simp))
        have h2 := gw_cell (hga.cell h2 (by simp))
        have z0 := gw_cell (hxb.cell (j := 0) rfl); have z1 := gw_cell (hxb.cell (j := 1) rfl); have z2 := gw_cell (hxb.cell (j := 2) rfl); have z3 := gw_cell (hxb.cell (j := 3) rfl)
        clear hw1 hY hga hxb x0 x1 x2 x3
        rcases (show (x.r < y.r) ∨ (¬ x.r < y.r ∧ x.r ≠ y.r) ∨ (¬ x.r < y.r ∧ x.r = y.r ∧ x.a < y.a) ∨ (¬ x.r < y.r ∧ x.r = y.r ∧ ¬ x.a < y.a) by omega) with t1 | ⟨t1, t2⟩ | ⟨t1, t2, t3⟩ | ⟨t1, t2, t3⟩
        · have ht : eldB x y = true := decide_eq_true (by omega)
          have s1 : decide (x.r < y.r) = true := decide_eq_true t1
          rw [ht] at HNX
          clear ht t1
          refine wp_region_grown (by kernel_rfl) (by kernel_rfl) ?_
          repeat (go_big_quiet_step (fail))
          refine wpQuiet_nil ?_
          rintro _ ⟨g, rfl⟩
          have G4 := Lib.hid (gw_grown g)
          clear y0 y1 y2 y3 h2 z0 z1 z2 z3
          go_wp2_with fail
          go_roundw
          case rel => exact ⟨k + 1, by omega, by go_num, by rw [HNX.out]; rfl, grownBy_trans HGR.out (grownBy_trans HGA.out G4.out), HC0.out.grown (grownBy_trans HGA.out G4.out) (by simp)⟩
          case measure => simp [intOf]; omega
        · have ht : eldB x y = false := decide_eq_false (by omega)
          have s1 : decide (x.r < y.r) = false := decide_eq_false t1
          have s2 : (x.r == y.r) = false := by simp [t2]
          rw [ht] at HNX
          clear ht t1 t2
          refine wp_region_grown (by kernel_rfl) (by kernel_rfl) ?_
          repeat (go_big_quiet_step (fail))
          refine wpQuiet_nil ?_
          rintro _ ⟨g, rfl⟩
          have G4 := Lib.hid (gw_grown g)
          clear y0 y1 y2 y3 h2 z0 z1 z2 z3
          go_wp2_with fail
          go_roundw
          case rel => exact ⟨k + 1, by omega, by go_num, by rw [HNX.out]; rfl, grownBy_trans HGR.out (grownBy_trans HGA.out G4.out), HC0.out.grown (grownBy_trans HGA.out G4.out) (by simp)⟩
          case measure => simp [intOf]; omega
        · have ht : eldB x y = true := decide_eq_true (by omega)
          have s1 : decide (x.r < y.r) = false := decide_eq_false t1
          have s2 : (x.r == y.r) = true := by simp [t2]
          have s3 : decide (x.a < y.a) = true := decide_eq_true t3
          rw [ht] at HNX
          clear ht t1 t2 t3
          refine wp_region_grown (by kernel_rfl) (by kernel_rfl) ?_
          repeat (go_big_quiet_step (fail))
          refine wpQuiet_nil ?_
          rintro _ ⟨g, rfl⟩
          have G4 := Lib.hid (gw_grown g)
          clear y0 y1 y2 y3 h2 z0 z1 z2 z3
          go_wp2_with fail
          go_roundw
          case rel => exact ⟨k + 1, by omega, by go_num, by rw [HNX.out]; rfl, grownBy_trans HGR.out (grownBy_trans HGA.out G4.out), HC0.out.grown (grownBy_trans HGA.out G4.out) (by simp)⟩
          case measure => simp [intOf]; omega
        · have ht : eldB x y = false := decide_eq_false (by omega)
          have s1 : decide (x.r < y.r) = false := decide_eq_false t1
          have s2 : (x.r == y.r) = true := by simp [t2]
          have s3 : decide (x.a < y.a) = false := decide_eq_false t3
          rw [ht] at HNX
          clear ht t1 t2 t3
          refine wp_region_grown (by kernel_rfl) (by kernel_rfl) ?_
          repeat (go_big_quiet_step (fail))
          refine wpQuiet_nil ?_
          rintro _ ⟨g, rfl⟩
          have G4 := Lib.hid (gw_grown g)
          clear y0 y1 y2 y3 h2 z0 z1 z2 z3
          go_wp2_with fail
          go_roundw
          case rel => exact ⟨k + 1, by omega, by go_num, by rw [HNX.out]; rfl, grownBy_trans HGR.out (grownBy_trans HGA.out G4.out), HC0.out.grown (grownBy_trans HGA.out G4.out) (by simp)⟩
          case measure => simp [intOf]; omega
    · obtain rfl : k = xs.length := by omega
      have HGE := Lib.hid hg
      clear hg hb0
      have hlti : ¬ (xs.length : Int) < (xs.length : Int) := by omega
      have hei : oI (eldK xs xs.length) = eldI xs := rfl
      go_wp2_with fail
      go_ret
      exact ⟨rfl, HGE.out⟩

def locV (x : Ent) : Value := .agg #[.int .i64 x.r, .int .i64 x.a, .int .i64 x.s]
set_option maxRecDepth 100000 in
set_option maxHeartbeats 4000000 in
theorem pfind_any (d p : Int) (xs : List Ent) (h : Int) (a : Option Addr) (c : Nat) (w : World) (hx : xs.length ≤ 300) (hs : xs.Pairwise (fun x y => U x.h < U y.h)) (hr : Rds w 4 (.slice a xs.length c) xs.length (entsV xs)) :
    Calls Try.prog 24 #[.agg #[.int .i64 d, .int .i64 p, .slice a xs.length c], .int .u64 h] w fun e w' => ∃ i : Nat, Plc xs h i ∧ e = .returned (.tuple #[locV (if hasB xs h i = true then xs.getD i Ent.zero else Ent.zero), .bool (hasB xs h i)]) ∧ w.grownBy w' none := by
  have HR := Lib.hid hr
  have HS := Lib.hid hs
  clear hr hs
  go_enter Try.func24, Try.ntmps24
  go_wp2_with fail
  obtain ⟨w1, hw1⟩ : ∃ w1, (w.alloc (.cells #[.int .i64 d, .int .i64 p, .slice a xs.length c] 29)).alloc (.cells #[.int .i64 0, .int .i64 0, .int .i64 0] 39) = w1 := ⟨_, rfl⟩
  have hb0 : Blk w1 w.heap.size 29 [.int .i64 d, .int .i64 p, .slice a xs.length c] := by rw [← hw1]; exact (Blk.new w _ _).alloc _
  have hb1 : Blk w1 (w.heap.size + 1) 39 [.int .i64 0, .int .i64 0, .int .i64 0] := by
    rw [← hw1]
    have := Blk.new (w.alloc (.cells #[.int .i64 d, .int .i64 p, .slice a xs.length c] 29)) 39 [.int .i64 0, .int .i64 0, .int .i64 0]
    rw [World.size_alloc] at this
    exact this
  have hg1 : w.grownBy w1 none := by rw [← hw1]; exact grownBy_trans (World.grownBy_alloc w _ none) (World.grownBy_alloc _ _ none)
  rw [hw1]
  have HB0 := Lib.hid hb0
  have HB1 := Lib.hid hb1
  have HG1 := Lib.hid hg1
  have HP := Lib.hid (place_any d p xs h a c w1 hx HS.out (HR.out.grown hg1 (by simp)))
  clear hw1 hb0 hb1 hg1
  refine HP.out.mono ?_
  rintro e w2 ⟨i, rfl, hpl, g2⟩
  have HPL := Lib.hid hpl
  have HB0 := Lib.hid (HB0.out.grown g2 (by simp))
  have HB1 := Lib.hid (HB1.out.grown g2 (by simp))
  have HG2 := Lib.hid (grownBy_trans HG1.out g2)
  clear hpl g2 HG1 HP
  have hlt : hasB xs h i = true → i < xs.length := fun e => by
    unfold hasB at e
    rw [Bool.and_eq_true] at e
    exact of_decide_eq_true e.1
  obtain ⟨tb, htb⟩ : ∃ tb, hasB xs h i = tb := ⟨_, rfl⟩
  rw [htb] at hlt ⊢
  have HTB := Lib.hid htb
  clear htb
  have y0 := HB1.out.cell (j := 0) rfl; have y1 := HB1.out.cell (j := 1) rfl; have y2 := HB1.out.cell (j := 2) rfl
  have f0 := HB1.out.frozen 0; have f1 := HB1.out.frozen 1; have f2 := HB1.out.frozen 2
  cases tb
  · clear hlt
    go_wp2_with fail
    have hbf := ((HB1.out.setCell 0 (.int .i64 0)).setCell 1 (.int .i64 0)).setCell 2 (.int .i64 0)
    have hgf : w2.grownBy (((w2.setCell ⟨w.heap.size + 1, 0, none⟩ (.int .i64 0)).setCell ⟨w.heap.size + 1, 1, none⟩ (.int .i64 0)).setCell ⟨w.heap.size + 1, 2, none⟩ (.int .i64 0)) (some (w.heap.size + 1)) := grownBy_trans (grownBy_trans (grownBy_setCell _ _ _) (grownBy_setCell _ _ _)) (grownBy_setCell _ _ _)
    simp only [List.set_cons_zero, List.set_cons_succ] at hbf
    have z0 := hbf.cell (j := 0) rfl; have z1 := hbf.cell (j := 1) rfl; have z2 := hbf.cell (j := 2) rfl
    refine bodyPost_ret (v := .tuple #[.agg #[.int .i64 0, .int .i64 0, .int .i64 0], .bool false]) (by simp [results, Try.results24, go_sem, z0, z1, z2]) rfl ?_
    exact ⟨i, HPL.out, by rw [HTB.out]; rfl, grownBy_base2 HG2.out hgf (by omega)⟩
  · have hil := hlt rfl
    obtain ⟨b, o, rfl, hc⟩ := (HR.out.grown HG2.out (by simp)).at' (by omega)
    obtain ⟨e0, e1, e2, e3⟩ := entsV_cells xs i hil
    have x1 := hc _ _ e1; have x2 := hc _ _ e2; have x3 := hc _ _ e3
    simp only [← Nat.add_assoc] at x1 x2 x3
    have hii : (i : Int) < (xs.length : Int) := by omega
    obtain ⟨x, hxm⟩ : ∃ x, xs.getD i Ent.zero = x := ⟨_, rfl⟩
    rw [hxm] at x1 x2 x3
    have HXM := Lib.hid hxm
    have q2 := HB0.out.cell (j := 2) rfl
    clear hxm hc e0 e1 e2 e3 hlt
    go_wp2_with fail
    have hbf := ((HB1.out.setCell 0 (.int .i64 x.r)).setCell 1 (.int .i64 x.a)).setCell 2 (.int .i64 x.s)
    have hgf : w2.grownBy (((w2.setCell ⟨w.heap.size + 1, 0, none⟩ (.int .i64 x.r)).setCell ⟨w.heap.size + 1, 1, none⟩ (.int .i64 x.a)).setCell ⟨w.heap.size + 1, 2, none⟩ (.int .i64 x.s)) (some (w.heap.size + 1)) := grownBy_trans (grownBy_trans (grownBy_setCell _ _ _) (grownBy_setCell _ _ _)) (grownBy_setCell _ _ _)
    simp only [List.set_cons_zero, List.set_cons_succ] at hbf
    have z0 := hbf.cell (j := 0) rfl; have z1 := hbf.cell (j := 1) rfl; have z2 := hbf.cell (j := 2) rfl
    refine bodyPost_ret (v := .tuple #[.agg #[.int .i64 x.r, .int .i64 x.a, .int .i64 x.s], .bool true]) (by simp [results, Try.results24, go_sem, z0, z1, z2]) rfl ?_
    exact ⟨i, HPL.out, by rw [HTB.out, if_pos rfl, HXM.out]; rfl, grownBy_base2 HG2.out hgf (by omega)⟩

end Go.Proofs.Ytddpjfmogjcimaa
