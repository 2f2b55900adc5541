/- Package cmp: Compare at int and uint64, Or at int; bucket.elder. -/
import Derived.Test.YtddpjfmogjcimaaEnt
import Derived.Test.YtddpjfmogjcimaaNeed
import Derived.Test.YtddpjfmogjcimaaGrown
namespace Go.Proofs.Ytddpjfmogjcimaa
open Go.RowKit

def cmpI (x y : Int) : Int := if x < y then -1 else if y < x then 1 else 0

set_option maxRecDepth 100000 in
theorem compare_int (x y : Int) (w : World) : Calls Try.prog 65 #[.int .i64 x, .int .i64 y] w fun e w' => e = .returned (.int .i64 (cmpI x y)) ∧ w = w' := by
  have hx : (x != x) = false := by simp
  have hy : (y != y) = false := by simp
  rcases Int.lt_trichotomy x y with h | h | h
  · have hc : cmpI x y = -1 := by unfold cmpI; rw [if_pos h]
    rw [hc]
    clear hc
    go_enter Try.func65, Try.ntmps65
    go_wp2
    go_ret
    exact ⟨rfl, rfl⟩
  · subst h
    have hc : cmpI x x = 0 := by unfold cmpI; rw [if_neg (by omega), if_neg (by omega)]
    rw [hc]
    have h1 : ¬ x < x := by omega
    clear hc
    go_enter Try.func65, Try.ntmps65
    go_wp2
    go_ret
    exact ⟨rfl, rfl⟩
  · have hc : cmpI x y = 1 := by unfold cmpI; rw [if_neg (by omega), if_pos h]
    rw [hc]
    have h1 : ¬ x < y := by omega
    clear hc
    go_enter Try.func65, Try.ntmps65
    go_wp2
    go_ret
    exact ⟨rfl, rfl⟩

set_option maxRecDepth 100000 in
theorem compare_u64 (x y : Int) (w : World) : Calls Try.prog 68 #[.int .u64 x, .int .u64 y] w fun e w' => e = .returned (.int .i64 (cmpI x y)) ∧ w = w' := by
  have hx : (x != x) = false := by simp
  have hy : (y != y) = false := by simp
  rcases Int.lt_trichotomy x y with h | h | h
  · have hc : cmpI x y = -1 := by unfold cmpI; rw [if_pos h]
    rw [hc]
    clear hc
    go_enter Try.func68, Try.ntmps68
    go_wp2
    go_ret
    exact ⟨rfl, rfl⟩
  · subst h
    have hc : cmpI x x = 0 := by unfold cmpI; rw [if_neg (by omega), if_neg (by omega)]
    rw [hc]
    have h1 : ¬ x < x := by omega
    clear hc
    go_enter Try.func68, Try.ntmps68
    go_wp2
    go_ret
    exact ⟨rfl, rfl⟩
  · have hc : cmpI x y = 1 := by unfold cmpI; rw [if_neg (by omega), if_pos h]
    rw [hc]
    have h1 : ¬ x < y := by omega
    clear hc
    go_enter Try.func68, Try.ntmps68
    go_wp2
    go_ret
    exact ⟨rfl, rfl⟩

def orI (p q : Int) : Int := if p ≠ 0 then p else q
set_option maxRecDepth 100000 in
theorem or_two (p q : Int) (b c : Nat) (w : World) (h0 : w.cell? ⟨b, 0, none⟩ = some (.int .i64 p)) (h1 : w.cell? ⟨b, 1, none⟩ = some (.int .i64 q)) :
    Calls Try.prog 64 #[.slice (some ⟨b, 0, none⟩) 2 c] w fun e w' => e = .returned (.int .i64 (orI p q)) ∧ w = w' := by
  by_cases hp : p = 0
  · subst hp
    by_cases hq : q = 0
    · subst hq
      go_enter Try.func64, Try.ntmps64
      go_wp2
      go_loop [8] (fun i => ∃ j : Nat, j ≤ 2 ∧ i = .int .i64 j) (fun i => 2 - (intOf i).toNat)
      case atStart => exact ⟨0, by omega, rfl⟩
      case round =>
        obtain ⟨j, hj, rfl⟩ := hrel
        rcases (show j = 0 ∨ j = 1 ∨ j = 2 by omega) with rfl | rfl | rfl
        · go_wp2
          go_round
          case rel => exact ⟨1, by omega, by go_num⟩
          case measure => simp [intOf]
        · go_wp2
          go_round
          case rel => exact ⟨2, by omega, by go_num⟩
          case measure => simp [intOf]
        · go_wp2
          go_ret
          exact ⟨rfl, rfl⟩
    · have hc : orI 0 q = q := by unfold orI; rw [if_neg (by omega)]
      have hqn : (q != 0) = true := by simp [hq]
      rw [hc]
      clear hc
      go_enter Try.func64, Try.ntmps64
      go_wp2
      go_loop [8] (fun i => ∃ j : Nat, j ≤ 1 ∧ i = .int .i64 j) (fun i => 2 - (intOf i).toNat)
      case atStart => exact ⟨0, by omega, rfl⟩
      case round =>
        obtain ⟨j, hj, rfl⟩ := hrel
        rcases (show j = 0 ∨ j = 1 by omega) with rfl | rfl
        · go_wp2
          go_round
          case rel => exact ⟨1, by omega, by go_num⟩
          case measure => simp [intOf]
        · go_wp2
          go_ret
          exact ⟨rfl, rfl⟩
  · have hc : orI p q = p := by unfold orI; rw [if_pos hp]
    have hpn : (p != 0) = true := by simp [hp]
    rw [hc]
    clear hc
    go_enter Try.func64, Try.ntmps64
    go_wp2
    go_loop [8] (fun i => ∃ j : Nat, j ≤ 0 ∧ i = .int .i64 j) (fun i => 2 - (intOf i).toNat)
    case atStart => exact ⟨0, by omega, rfl⟩
    case round =>
      obtain ⟨j, hj, rfl⟩ := hrel
      obtain rfl : j = 0 := by omega
      go_wp2
      go_ret
      exact ⟨rfl, rfl⟩

end Go.Proofs.Ytddpjfmogjcimaa
