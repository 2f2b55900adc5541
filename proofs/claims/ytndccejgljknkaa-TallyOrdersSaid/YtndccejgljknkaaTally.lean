/- The walks of package tally. -/
import Derived.Test.YtndccejgljknkaaProg
import Derived.WalkKit
import Derived.WalkSpells
import Derived.WalkLawsBesides
import Derived.Lib.Hide
import Derived.Deep.QuietTactic
import Derived.BigQuiet
import Derived.Test.YtndccejgljknkaaMem
import Derived.StillTailTactics
import Derived.Lib.SliceRun
namespace Go.Proofs.Ytndccejgljknkaa
open Go.RowKit

theorem infoInt : (Try.prog.info? 3).map (fun i => (i.zero, i.size, i.bytes)) = some (some (.int .i64 0), 1, 8) := by kernel_rfl

theorem tin_nil (k : Int) (w : World) :
    Calls Try.prog 17 #[.pointer none, .int .i64 k] w fun e w' => e = .returned (.bool false) ∧ w = w' := by
  go_enter Try.func17, Try.ntmps17
  go_wp2
  go_ret
  exact ⟨rfl, rfl⟩

def inB (k : Int) (n : Nat) : Bool := decide (0 ≤ k ∧ k < n)

theorem tin_any (b : Nat) (a : Option Addr) (n c : Nat) (k : Int) (w : World) (hn : n ≤ maxLen) (hb : w.cell? ⟨b, 0, none⟩ = some (.slice a n c)) :
    Calls Try.prog 17 #[.pointer (some ⟨b, 0, none⟩), .int .i64 k] w fun e w' => e = .returned (.bool (inB k n)) ∧ w = w' := by
  unfold maxLen at hn
  by_cases h0 : 0 ≤ k
  · by_cases h1 : k < n
    · go_enter Try.func17, Try.ntmps17
      go_wp2
      go_ret
      exact ⟨by simp [inB, h0, h1], rfl⟩
    · go_enter Try.func17, Try.ntmps17
      go_wp2
      go_ret
      exact ⟨by simp [inB, h0, h1], rfl⟩
  · go_enter Try.func17, Try.ntmps17
    go_wp2
    go_ret
    exact ⟨by simp [inB]; omega, rfl⟩

theorem tnew_no (n : Int) (w : World) (h : n < 1 ∨ 64 < n) :
    Calls Try.prog 7 #[.int .i64 n] w fun e w' => e = .returned (.pointer none) ∧ w = w' := by
  rcases h with h | h
  · go_enter Try.func7, Try.ntmps7
    go_wp2
    go_ret
    exact ⟨rfl, rfl⟩
  · have h1 : ¬ n < 1 := by omega
    go_enter Try.func7, Try.ntmps7
    go_wp2
    go_ret
    exact ⟨rfl, rfl⟩
theorem madeCells_one (n : Nat) : madeCells (Value.int .i64 0).cells n = (List.replicate n (Value.int .i64 0)).toArray := by
  apply Array.ext
  · simp [madeCells]
  · intro i h1 h2
    simp [madeCells, Value.cells, Nat.mod_one]

theorem tnew_yes (n : Nat) (w : World) (h : 1 ≤ n ∧ n ≤ 64) :
    Calls Try.prog 7 #[.int .i64 n] w fun e w' => e = .returned (.pointer (some ⟨w.heap.size + 1, 0, none⟩)) ∧
      w' = (w.alloc (.cells (List.replicate n (Value.int .i64 0)).toArray 3)).alloc (.cells #[.slice (some ⟨w.heap.size, 0, none⟩) n n] 43) := by
  have h1 : ¬ (n : Int) < 1 := by omega
  have h2 : ¬ (64 : Int) < n := by omega
  obtain ⟨i0, hi, hz0, hz1, hz2⟩ := info_parts infoInt
  have hmk : ∀ W : World, (Instr.makeSlice 22 (.int .i64 n) (.int .i64 n)).run Try.prog W = .ok (.slice (some ⟨W.heap.size, 0, none⟩) n n) (W.alloc (.cells (List.replicate n (Value.int .i64 0)).toArray 3)) := by
    intro W
    have := run_makeSlice (P := Try.prog) W 22 3 i0 (.int .i64 0) Try.underlying22 hi hz0 .i64 .i64 n n (by omega) (by omega) (by rw [hz1]; omega) (by rw [hz2]; omega) (by omega)
    rw [this, hz1]
    rw [show (madeCells (Value.int .i64 0).cells ((n : Int).toNat * 1)) = (List.replicate n (Value.int .i64 0)).toArray from by rw [Int.toNat_natCast, Nat.mul_one]; exact madeCells_one n]
    simp
  go_enter Try.func7, Try.ntmps7
  go_wp2
  go_ret
  exact ⟨rfl, rfl⟩

theorem tget (b : Nat) (a : Nat) (n c : Nat) (k : Nat) (v : Int) (w : World) (hn : n ≤ maxLen) (hb : w.cell? ⟨b, 0, none⟩ = some (.slice (some ⟨a, 0, none⟩) n c)) (hk1 : k < n) 
   (hv : w.cell? ⟨a, k, none⟩ = some (.int .i64 v)) :
    Calls Try.prog 8 #[.pointer (some ⟨b, 0, none⟩), .int .i64 k] w fun e w' => e = .returned (.int .i64 v) ∧ w = w' := by
  have hi : inB k n = true := by simp [inB, hk1]
  go_enter Try.func8, Try.ntmps8
  go_wp2_with (go_at_call 17; refine (tin_any _ _ _ _ _ _ hn hb).mono ?_; rintro e w' ⟨rfl, rfl⟩)
  go_ret
  exact ⟨rfl, rfl⟩

theorem tget_no (b : Nat) (a : Option Addr) (n c : Nat) (k : Int) (w : World) (hn : n ≤ maxLen) (hb : w.cell? ⟨b, 0, none⟩ = some (.slice a n c)) (hi : inB k n = false) :
    Calls Try.prog 8 #[.pointer (some ⟨b, 0, none⟩), .int .i64 k] w fun e w' => e = .returned (.int .i64 0) ∧ w = w' := by
  go_enter Try.func8, Try.ntmps8
  go_wp2_with (go_at_call 17; refine (tin_any _ _ _ _ _ _ hn hb).mono ?_; rintro e w' ⟨rfl, rfl⟩)
  go_ret
  exact ⟨rfl, rfl⟩

/-- A count that is added to: no more than 2^60. -/
def capN (v x : Int) : Int := if v + x ≤ 1152921504606846976 then v + x else 1152921504606846976

theorem tadd_yes (b : Nat) (a : Nat) (n c : Nat) (k : Nat) (x v : Int) (w : World) (hn : n ≤ maxLen) (hb : w.cell? ⟨b, 0, none⟩ = some (.slice (some ⟨a, 0, none⟩) n c)) (hk1 : k < n)
   (hv : w.cell? ⟨a, k, none⟩ = some (.int .i64 v)) (hf : w.frozen? ⟨a, k, none⟩ = false) (hv0 : 0 ≤ v) (hv1 : v ≤ 1152921504606846976) (hx0 : 0 ≤ x) (hx1 : x ≤ 9223372036854775807) :
    Calls Try.prog 9 #[.pointer (some ⟨b, 0, none⟩), .int .i64 k, .int .i64 x] w fun e w' => e = .returned (.int .i64 0) ∧
      w' = (w.setCell ⟨a, k, none⟩ (.int .i64 (capN v x))).drew := by
  have hi : inB k n = true := by simp [inB, hk1]
  by_cases hle : v + x ≤ 1152921504606846976
  · have hc : capN v x = v + x := if_pos hle
    have hle2 : x ≤ 1152921504606846976 - v := by omega
    have hw1 := IntWalk.i64_in (1152921504606846976 - v) (by omega)
    have hw2 := IntWalk.i64_in (v + x) (by omega)
    rw [hc]
    clear hc
    go_enter Try.func9, Try.ntmps9
    go_wp2_with (go_at_call 17; refine (tin_any _ _ _ _ _ _ hn hb).mono ?_; rintro e w' ⟨rfl, rfl⟩)
    go_still_tail 19, (by kernel_rfl)
    go_wp2
    go_ret
    exact ⟨rfl, rfl⟩
  · have hc : capN v x = v + (1152921504606846976 - v) := (if_neg hle).trans (by omega)
    have hle2 : 1152921504606846976 - v < x := by omega
    have hw1 := IntWalk.i64_in (1152921504606846976 - v) (by omega)
    have hw2 := IntWalk.i64_in (v + (1152921504606846976 - v)) (by omega)
    rw [hc]
    clear hc
    go_enter Try.func9, Try.ntmps9
    go_wp2_with (go_at_call 17; refine (tin_any _ _ _ _ _ _ hn hb).mono ?_; rintro e w' ⟨rfl, rfl⟩)
    go_still_tail 19, (by kernel_rfl)
    go_wp2
    go_ret
    exact ⟨rfl, rfl⟩

theorem tadd_no (b : Nat) (a : Option Addr) (n c : Nat) (k x : Int) (w : World) (hn : n ≤ maxLen) (hb : w.cell? ⟨b, 0, none⟩ = some (.slice a n c)) (hi : inB k n = false ∨ x < 0) :
    Calls Try.prog 9 #[.pointer (some ⟨b, 0, none⟩), .int .i64 k, .int .i64 x] w fun e w' => e = .returned (.int .i64 1) ∧ w = w' := by
  by_cases hi0 : inB k n = false
  · clear hi
    go_enter Try.func9, Try.ntmps9
    go_wp2_with (go_at_call 17; refine (tin_any _ _ _ _ _ _ hn hb).mono ?_; rintro e w' ⟨rfl, rfl⟩)
    go_ret
    exact ⟨rfl, rfl⟩
  · have hi1 : inB k n = true := by simpa using hi0
    have hx : x < 0 := by rcases hi with h | h; exact absurd h hi0; exact h
    clear hi hi0
    go_enter Try.func9, Try.ntmps9
    go_wp2_with (go_at_call 17; refine (tin_any _ _ _ _ _ _ hn hb).mono ?_; rintro e w' ⟨rfl, rfl⟩)
    go_ret
    exact ⟨rfl, rfl⟩

theorem tadd_nil (k x : Int) (w : World) :
    Calls Try.prog 9 #[.pointer none, .int .i64 k, .int .i64 x] w fun e w' => e = .returned (.int .i64 1) ∧ w = w' := by
  go_enter Try.func9, Try.ntmps9
  go_wp2_with (go_at_call 17; refine (tin_nil _ _).mono ?_; rintro e w' ⟨rfl, rfl⟩)
  go_ret
  exact ⟨rfl, rfl⟩

theorem tget_nil (k : Int) (w : World) :
    Calls Try.prog 8 #[.pointer none, .int .i64 k] w fun e w' => e = .returned (.int .i64 0) ∧ w = w' := by
  go_enter Try.func8, Try.ntmps8
  go_wp2_with (go_at_call 17; refine (tin_nil _ _).mono ?_; rintro e w' ⟨rfl, rfl⟩)
  go_ret
  exact ⟨rfl, rfl⟩

theorem tall_nil (w : World) :
    Calls Try.prog 11 #[.pointer none] w fun e w' => e = .returned (.slice none 0 0) ∧ w = w' := by
  go_enter Try.func11, Try.ntmps11
  go_wp2
  go_ret
  exact ⟨rfl, rfl⟩

theorem tsince_nil (v : Value) (w : World) :
    Calls Try.prog 13 #[.pointer none, v] w fun e w' => e = .returned (.slice none 0 0) ∧ Below w.heap.size w w' := by
  go_enter Try.func13, Try.ntmps13
  go_wp2
  go_ret
  exact ⟨rfl, (Below.refl _ _).alloc (Nat.le_refl _) _⟩

theorem treset_nil (w : World) :
    Calls Try.prog 16 #[.pointer none] w fun e w' => e = .returned (.tuple #[]) ∧ w = w' := by
  go_enter Try.func16, Try.ntmps16
  go_wp2
  go_end0
  exact ⟨rfl, rfl⟩

/-- slices.Clone of a slice of ints. -/
theorem clone_any (v : Value) (xs : List Int) (w : World) (hr : Rds w 1 v xs.length (xs.map (Value.int .i64))) (hb : xs.length * 8 ≤ 140737488351232) :
    Calls Try.prog 18 #[v] w fun e w' => ∃ v', e = .returned v' ∧ w'.ownsRow w.heap.size 3 1 v' xs.length (xs.map (Value.int .i64)) ∧ w.grownBy w' none := by
  obtain ⟨i0, hi, hz0, hz1, hz2⟩ := info_parts infoInt
  have hr0 := Lib.hid hr
  obtain ⟨_, _, hr⟩ := hr
  rcases hr with ⟨rfl, hx⟩ | ⟨ad, cap, rfl, _, hc⟩
  · have hx0 : xs = [] := List.eq_nil_of_length_eq_zero hx
    subst hx0
    have he := fun W : World => Lib.run_eql_slice_nil (P := Try.prog) W 22 3 none 0 0 0 0 Try.underlying22
    go_enter Try.func18, Try.ntmps18
    go_wp2
    go_ret
    exact ⟨_, rfl, World.ownsRow_nil _ _ _ _, ⟨rfl, rfl, rfl, Nat.le_refl _, fun _ _ _ => rfl⟩⟩
  · clear hc
    have he := fun (W : World) (n : Nat) => Lib.run_eql_slice_nil (P := Try.prog) W 22 3 (some ad) n cap 0 0 Try.underlying22
    go_enter Try.func18, Try.ntmps18
    go_wp2_with (at_builtin; refine wpList_append_rds rfl _ _ 22 rfl w.heap.size 3 i0 (.int .i64 0) 1 8 Try.underlying22 hi hz0 hz1 hz2 rfl (by decide) (v := .slice (some ⟨w.heap.size, 0, none⟩) 0 0) (n := 0) (xs := []) (sv := .slice (some ad) xs.length cap) rfl (World.ownsRow_made w #[] 0 (Nat.le_refl _) (by simp) (by simp)) rfl (hr0.out.alloc _) (by simp [Value.oneCell']) (by unfold maxLen; omega) (by omega) (by simp) ?_; intro v' w' h1 h2 _)
    go_ret
    refine ⟨_, rfl, by simpa using h1, ?_⟩
    exact ⟨h2.os, h2.tape, h2.output, Nat.le_trans (by simp) h2.size, fun k hk _ => (h2.block k (by simp; omega) (by simp [Value.ownBlock]; omega)).trans (Below.heap_alloc _ _ _ hk)⟩

end Go.Proofs.Ytndccejgljknkaa
