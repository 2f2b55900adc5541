/- package bucket: Elder. -/
import Derived.Test.YtddpjfmogjcimaaElder
namespace Go.Proofs.Ytddpjfmogjcimaa
open Go.RowKit
attribute [local go_sem ↓] Go.wp_at_zero Go.wp_at_succ

/-- Where the eldest of the first so many entries stands. -/
def eldK (xs : List Ent) : Nat → Option Nat
  | 0 => none
  | k + 1 => match eldK xs k with
    | none => some k
    | some b => if eldB (xs.getD k Ent.zero) (xs.getD b Ent.zero) = true then some k else some b
def oI : Option Nat → Int
  | none => -1
  | some n => n
def eldI (xs : List Ent) : Int := oI (eldK xs xs.length)
theorem eldK_lt (xs : List Ent) : ∀ k b, eldK xs k = some b → b < k
  | 0, b, h => by cases h
  | k + 1, b, h => by
    rw [eldK] at h
    cases hk : eldK xs k with
    | none => rw [hk] at h; simp at h; omega
    | some c =>
      rw [hk] at h
      have := eldK_lt xs k c hk
      dsimp only at h
      split at h <;> simp at h <;> omega
theorem eldB_self (x y : Ent) (h1 : x.r = y.r) (h2 : x.a = y.a) : eldB x y = false := decide_eq_false (by omega)

set_option maxRecDepth 100000 in
set_option maxHeartbeats 4000000 in
theorem pelder_any (d p : Int) (xs : List Ent) (a : Option Addr) (c : Nat) (w : World) (hx : xs.length ≤ 300) (hr : Rds w 4 (.slice a xs.length c) xs.length (entsV xs)) :
    Calls Try.prog 22 #[.agg #[.int .i64 d, .int .i64 p, .slice a xs.length c]] w fun e w' => e = .returned (.int .i64 (eldI xs)) ∧ w.grownBy w' none := by
  have HR := Lib.hid hr
  clear hr
  go_enter Try.func22, Try.ntmps22
  go_wp2_with fail
  obtain ⟨w2, hw2⟩ : ∃ w2, w.alloc (.cells #[.int .i64 d, .int .i64 p, .slice a xs.length c] 29) = w2 := ⟨_, rfl⟩
  have hB0 : Blk w2 w.heap.size 29 [.int .i64 d, .int .i64 p, .slice a xs.length c] := by rw [← hw2]; exact Blk.new w _ _
  have hG : w.grownBy w2 none := by rw [← hw2]; exact World.grownBy_alloc w _ none
  obtain ⟨X, hX⟩ : ∃ X, w.heap.size = X := ⟨_, rfl⟩
  rw [hX] at hB0
  rw [hX, hw2]
  have HB0 := Lib.hid hB0
  have HG := Lib.hid hG
  clear hw2 hB0 hG hX
  go_loopw [3, 9] (fun o i wr => ∃ k : Nat, k ≤ xs.length ∧ i = .int .i64 k ∧ o = .int .i64 (oI (eldK xs k)) ∧ w.grownBy wr none ∧ Blk wr X 29 [.int .i64 d, .int .i64 p, .slice a xs.length c]) (fun _ i _ => xs.length - (intOf i).toNat)
  case atStart => exact ⟨0, by omega, rfl, rfl, HG.out, HB0.out⟩
  case round =>
    obtain ⟨k, hk, rfl, rfl, hg, hb0⟩ := hrel
    by_cases hlt : k < xs.length
    · have hlti : (k : Int) < (xs.length : Int) := by omega
      obtain ⟨b, o, rfl, hc⟩ := HR.out.at' (by omega)
      obtain ⟨e0, e1, e2, e3⟩ := entsV_cells xs k hlt
      have x0 := hg.cell (hc _ _ e0) (by simp)
      have x1 := hg.cell (hc _ _ e1) (by simp)
      have x2 := hg.cell (hc _ _ e2) (by simp)
      have x3 := hg.cell (hc _ _ e3) (by simp)
      simp only [← Nat.add_assoc] at x1 x2 x3
      have HC0 := Lib.hid hb0
      have HGR := Lib.hid hg
      clear e0 e1 e2 e3
      have hev : ∀ y : Ent, eldB (xs.getD k Ent.zero) y = decide ((xs.getD k Ent.zero).r < y.r ∨ ((xs.getD k Ent.zero).r = y.r ∧ (xs.getD k Ent.zero).a < y.a)) := fun _ => rfl
      cases hbk : eldK xs k with
      | none =>
        have hnx : eldK xs (k + 1) = some k := by rw [eldK, hbk]
        have HNX := Lib.hid hnx
        clear hc hev hnx hbk
        obtain ⟨x, hx'⟩ : ∃ x, xs.getD k Ent.zero = x := ⟨_, rfl⟩
        rw [hx'] at x0 x1 x2 x3
        clear hx'
        have hm1 : oI none = -1 := rfl
        rw [hm1]
        clear hm1
        have h2 := hb0.cell (j := 2) rfl
        clear hb0 hg
        go_wp2_with fail
        refine wp_region_grown (by kernel_rfl) (by kernel_rfl) ?_
        repeat (go_big_quiet_step (fail))
        refine wpQuiet_nil ?_
        rintro _ ⟨g, rfl⟩
        have G4 := Lib.hid (gw_grown g)
        go_wp2_with fail
        go_roundw
        case rel => exact ⟨k + 1, by omega, by go_num, by rw [HNX.out]; rfl, grownBy_trans HGR.out (grownBy_trans (World.grownBy_alloc _ _ none) G4.out), HC0.out.grown (grownBy_trans (World.grownBy_alloc _ _ none) G4.out) (by simp)⟩
        case measure => simp [intOf]; omega
      | some q =>
        have hqk := eldK_lt xs k q hbk
        obtain ⟨f0, f1, f2, f3⟩ := entsV_cells xs q (by omega)
        have y0 := hg.cell (hc _ _ f0) (by simp)
        have y1 := hg.cell (hc _ _ f1) (by simp)
        have y2 := hg.cell (hc _ _ f2) (by simp)
        have y3 := hg.cell (hc _ _ f3) (by simp)
        simp only [← Nat.add_assoc] at y1 y2 y3
        have hnx : eldK xs (k + 1) = if eldB (xs.getD k Ent.zero) (xs.getD q Ent.zero) = true then some k else some q := by rw [eldK, hbk]
        have HNX := Lib.hid hnx
        clear hc hev hnx hbk f0 f1 f2 f3
        obtain ⟨x, hx'⟩ : ∃ x, xs.getD k Ent.zero = x := ⟨_, rfl⟩
        obtain ⟨y, hy'⟩ : ∃ y, xs.getD q Ent.zero = y := ⟨_, rfl⟩
        rw [hx'] at x0 x1 x2 x3 HNX
        rw [hy'] at y0 y1 y2 y3 HNX
        clear hx' hy'
        have hm1 : oI (some q) = q := rfl
        rw [hm1]
        clear hm1
        have h2 := hb0.cell (j := 2) rfl
        have hqi : (q : Int) < (xs.length : Int) := by omega
        have hqn : decide ((q : Int) < 0) = false := decide_eq_false (by omega)
        clear hb0 hg
        have HX := Lib.hid (Blk.new wr 41 [.int .u64 (U x.h), .int .i64 x.r, .int .i64 x.a, .int .i64 x.s])
        by_cases hloc : x.r = y.r ∧ x.a = y.a ∧ x.s = y.s
        · rw [eldB_self x y hloc.1 hloc.2.1, if_neg (by simp)] at HNX
          obtain ⟨l1, l2, l3⟩ := hloc
          rw [l1] at x1
          rw [l2] at x2
          rw [l3] at x3
          clear l1 l2 l3
          go_wp2_with fail
          obtain ⟨w1, hw1⟩ : ∃ w1, wr.alloc (.cells #[.int .u64 (U x.h), .int .i64 y.r, .int .i64 y.a, .int .i64 y.s] 41) = w1 := ⟨_, rfl⟩
          have hga : wr.grownBy w1 none := by rw [← hw1]; exact World.grownBy_alloc _ _ none
          have hxb : Blk w1 wr.heap.size 41 [.int .u64 (U x.h), .int .i64 y.r, .int .i64 y.a, .int .i64 y.s] := by rw [← hw1]; exact Blk.new wr _ _
          obtain ⟨Y, hY⟩ : ∃ Y, wr.heap.size = Y := ⟨_, rfl⟩
          rw [hY] at hxb
          rw [hw1, hY]
          have HGA := Lib.hid hga
          have y0 := gw_cell (hga.cell y0 (by simp)); have y1 := gw_cell (hga.cell y1 (by simp)); have y2 := gw_cell (hga.cell y2 (by simp)); have y3 := gw_cell (hga.cell y3 (by simp))
          have h2 := gw_cell (hga.cell h2 (by simp))
          have z0 := gw_cell (hxb.cell (j := 0) rfl); have z1 := gw_cell (hxb.cell (j := 1) rfl); have z2 := gw_cell (hxb.cell (j := 2) rfl); have z3 := gw_cell (hxb.cell (j := 3) rfl)
          clear hw1 hY hga hxb x0 x1 x2 x3
          refine wp_region_grown (by kernel_rfl) (by kernel_rfl) ?_
          repeat (go_big_quiet_step (fail))
          refine wpQuiet_nil ?_
          rintro _ ⟨g, rfl⟩
          have G4 := Lib.hid (gw_grown g)
          clear y0 y1 y2 y3 h2 z0 z1 z2 z3
          go_wp2_with fail
          go_roundw
          case rel => exact ⟨k + 1, by omega, by go_num, by rw [HNX.out]; rfl, grownBy_trans HGR.out (grownBy_trans HGA.out G4.out), HC0.out.grown (grownBy_trans HGA.out G4.out) (by simp)⟩
          case measure => simp [intOf]; omega
        · go_wp2_with fail
          obtain ⟨w1, hw1⟩ : ∃ w1, wr.alloc (.cells #[.int .u64 (U x.h), .int .i64 x.r, .int .i64 x.a, .int .i64 x.s] 41) = w1 := ⟨_, rfl⟩
          have hga : wr.grownBy w1 none := by rw [← hw1]; exact World.grownBy_alloc _ _ none
          have hxb : Blk w1 wr.heap.size 41 [.int .u64 (U x.h), .int .i64 x.r, .int .i64 x.a, .int .i64 x.s] := by rw [← hw1]; exact Blk.new wr _ _
          obtain ⟨Y, hY⟩ : ∃ Y, wr.heap.size = Y := ⟨_, rfl⟩
          rw [hY] at hxb
          rw [hw1, hY]
          have HGA := Lib.hid hga
          have y0 := gw_cell (hga.cell y0 (by simp)); have y1 := gw_cell (hga.cell y1 (by simp)); have y2 := gw_cell (hga.cell y2 (by simp)); have y3 := gw_cell (hga.cell y3 (by simp))
          have h2 := gw_cell (hga.cell h2 (by simp))
          have z0 := gw_cell (hxb.cell (j := 0) rfl); have z1 := gw_cell (hxb.cell (j := 1) rfl); have z2 := gw_cell (hxb.cell (j := 2) rfl); have z3 := gw_cell (hxb.cell (j := 3) rfl)
          clear hw1 hY hga hxb x0 x1 x2 x3
          refine wp_region_grown (by kernel_rfl) (by kernel_rfl) ?_
          have hor : ((x.r == y.r) = false) ∨ ((x.r == y.r) = true ∧ (x.a == y.a) = false) ∨ ((x.r == y.r) = true ∧ (x.a == y.a) = true ∧ (x.s == y.s) = false) := by
            simp only [beq_eq_false_iff_ne, beq_iff_eq]
            omega
          clear hloc
          rcases hor with hb1 | ⟨hb1, hb2⟩ | ⟨hb1, hb2, hb3⟩
          all_goals
            repeat (go_big_quiet_step ((go_at_call 51; exact calls_grown' (elder_any x y) _)))
            refine wpQuiet_nil ?_
            rintro _ ⟨g, rfl⟩
            have G4 := Lib.hid (gw_grown g)
            clear y0 y1 y2 y3 h2 z0 z1 z2 z3 
            obtain ⟨tb, htb⟩ : ∃ tb, eldB x y = tb := ⟨_, rfl⟩
            rw [htb] at HNX ⊢
            clear htb
            cases tb
            · go_wp2_with fail
              go_roundw
              case rel => exact ⟨k + 1, by omega, by go_num, by rw [HNX.out]; rfl, grownBy_trans HGR.out (grownBy_trans HGA.out G4.out), HC0.out.grown (grownBy_trans HGA.out G4.out) (by simp)⟩
              case measure => simp [intOf]; omega
            · go_wp2_with fail
              go_roundw
              case rel => exact ⟨k + 1, by omega, by go_num, by rw [HNX.out]; rfl, grownBy_trans HGR.out (grownBy_trans HGA.out G4.out), HC0.out.grown (grownBy_trans HGA.out G4.out) (by simp)⟩
              case measure => simp [intOf]; omega
    · obtain rfl : k = xs.length := by omega
      have HGE := Lib.hid hg
      clear hg hb0
      have hlti : ¬ (xs.length : Int) < (xs.length : Int) := by omega
      have hei : oI (eldK xs xs.length) = eldI xs := rfl
      go_wp2_with fail
      go_ret
      exact ⟨rfl, HGE.out⟩

end Go.Proofs.Ytddpjfmogjcimaa
