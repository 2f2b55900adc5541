/- package sketch: what lies in memory; New, Age, Width. -/
import Derived.Test.YtfdkncabicmmiaaPop4
import Derived.Test.YtfdkncabicmmiaaScr
import Derived.Test.YtfdkncabicmmiaaTouch
import Derived.Test.YtfdkncabicmmiaaOpen
namespace Go.Proofs.Ytfdkncabicmmiaa
open Go.RowKit

def u8V (x : Nat) : Value := .int .u8 (x : Int)
def rowV (m : Nat) (C : Nat → Nat) (i : Nat) : List Value := (List.range m).map fun j => u8V (C (i * m + j))
theorem rowV_len (m : Nat) (C : Nat → Nat) (i : Nat) : (rowV m C i).length = m := by simp [rowV]
theorem rowV_at (m : Nat) (C : Nat → Nat) (i j : Nat) (h : j < m) : (rowV m C i)[j]? = some (u8V (C (i * m + j))) := by
  simp [rowV, h]
def slV (g m : Nat) : Value := .slice (some ⟨g, 0, none⟩) m m
def hdrV (m age : Nat) (g : Nat → Nat) : List Value := [.int .i64 m, .int .i64 age, slV (g 0) m, slV (g 1) m, slV (g 2) m, slV (g 3) m]
def Pow2 (m : Nat) : Prop := ∃ k, 1 ≤ k ∧ k ≤ 12 ∧ m = 2 ^ k
/-- A sketch of width m lies at block B, its rows at g. -/
structure SK (w : World) (B : Nat) (g : Nat → Nat) (m age : Nat) (C : Nat → Nat) : Prop where
  blk : Blk w B 55 (hdrV m age g)
  row : ∀ i, i < 4 → Blk w (g i) 5 (rowV m C i)
  ne : ∀ i, i < 4 → g i ≠ B
  inj : ∀ i j, i < 4 → j < 4 → g i = g j → i = j
  le : ∀ k, C k ≤ 15
  pow : Pow2 m
  ag : age ≤ 10 * m
theorem pow2_le {m : Nat} (h : Pow2 m) : 2 ≤ m ∧ m ≤ 4096 := by
  obtain ⟨k, h1, h2, rfl⟩ := h
  have : k = 1 ∨ k = 2 ∨ k = 3 ∨ k = 4 ∨ k = 5 ∨ k = 6 ∨ k = 7 ∨ k = 8 ∨ k = 9 ∨ k = 10 ∨ k = 11 ∨ k = 12 := by omega
  rcases this with rfl | rfl | rfl | rfl | rfl | rfl | rfl | rfl | rfl | rfl | rfl | rfl <;> decide
def KOwn (B : Nat) (g : Nat → Nat) (k : Nat) : Prop := k = B ∨ ∃ i, i < 4 ∧ k = g i
theorem SK.touch {S : Nat → Prop} {w w' : World} {B : Nat} {g : Nat → Nat} {m age : Nat} {C : Nat → Nat} (h : SK w B g m age C) (ht : Touch S w w') (hB : ¬ S B) (hg : ∀ i, i < 4 → ¬ S (g i)) : SK w' B g m age C :=
  ⟨ht.blk h.blk hB, fun i hi => ht.blk (h.row i hi) (hg i hi), h.ne, h.inj, h.le, h.pow, h.ag⟩
theorem SK.grown {w w' : World} {B : Nat} {g : Nat → Nat} {m age : Nat} {C : Nat → Nat} (h : SK w B g m age C) (hg : w.grownBy w' none) : SK w' B g m age C :=
  h.touch (S := fun _ => False) (Touch.of_none hg) (fun h => h) (fun _ _ h => h)
theorem SK.lt {w : World} {B : Nat} {g : Nat → Nat} {m age : Nat} {C : Nat → Nat} (h : SK w B g m age C) : B < w.heap.size ∧ ∀ i, i < 4 → g i < w.heap.size := ⟨h.blk.lt, fun i hi => (h.row i hi).lt⟩
theorem SK.as {w : World} {B : Nat} {g : Nat → Nat} {m age : Nat} {C C' : Nat → Nat} (h : SK w B g m age C) (hc : ∀ k, k < 4 * m → C k = C' k) (hl : ∀ k, C' k ≤ 15) : SK w B g m age C' := by
  refine ⟨h.blk, fun i hi => ?_, h.ne, h.inj, hl, h.pow, h.ag⟩
  have := h.row i hi
  rwa [show rowV m C i = rowV m C' i from List.map_congr_left fun j hj => by
    rw [List.mem_range] at hj
    rw [hc _ (by rcases (show i = 0 ∨ i = 1 ∨ i = 2 ∨ i = 3 by omega) with rfl | rfl | rfl | rfl <;> omega)]] at this

theorem onesc_any (x : Nat) (hx : x < 18446744073709551616) (w : World) :
    Calls Try.prog 25 #[.int .u64 x] w fun e w' => e = .returned (.int .i64 (pc 64 x : Nat)) ∧ w = w' := by
  have h1 : IntKind.u64.wrap (x : Int) = x := IntWalk.u64_in _ ⟨by omega, by omega⟩
  have h := ones_any x hx w
  generalize pc 64 x = p at *
  have H := Lib.hid h
  clear h
  go_enter Try.func25, Try.ntmps25
  go_wp2_with fail
  refine H.out.mono ?_
  rintro e w' ⟨rfl, rfl⟩
  go_wp2_with fail
  go_ret
  exact ⟨rfl, rfl⟩

theorem age_nil (w : World) :
    Calls Try.prog 11 #[.pointer none] w fun e w' => e = .returned (.int .i64 0) ∧ w = w' := by
  go_enter Try.func11, Try.ntmps11
  go_wp2
  go_ret
  exact ⟨rfl, rfl⟩
theorem width_nil (w : World) :
    Calls Try.prog 14 #[.pointer none] w fun e w' => e = .returned (.int .i64 0) ∧ w = w' := by
  go_enter Try.func14, Try.ntmps14
  go_wp2
  go_ret
  exact ⟨rfl, rfl⟩
theorem guess_nil (h : Int) (w : World) :
    Calls Try.prog 10 #[.pointer none, .int .u64 h] w fun e w' => e = .returned (.int .i64 0) ∧ w = w' := by
  go_enter Try.func10, Try.ntmps10
  go_wp2
  go_ret
  exact ⟨rfl, rfl⟩
theorem mark_nil (h : Int) (w : World) :
    Calls Try.prog 9 #[.pointer none, .int .u64 h] w fun e w' => e = .returned (.int .i64 0) ∧ w = w' := by
  go_enter Try.func9, Try.ntmps9
  go_wp2
  go_ret
  exact ⟨rfl, rfl⟩
theorem halve_nil (w : World) :
    Calls Try.prog 13 #[.pointer none] w fun e w' => (∃ v, e = .returned v) ∧ w = w' := by
  go_enter Try.func13, Try.ntmps13
  go_wp2
  refine bodyPost_ret (results_none rfl _ _ _) rfl ?_
  exact ⟨⟨_, rfl⟩, rfl⟩
theorem pack_nil (w : World) :
    Calls Try.prog 16 #[.pointer none] w fun e w' => e = .returned (.slice none 0 0) ∧ w = w' := by
  go_enter Try.func16, Try.ntmps16
  go_wp2
  go_ret
  exact ⟨rfl, rfl⟩
theorem admit_nil (h k : Int) (w : World) :
    Calls Try.prog 15 #[.pointer none, .int .u64 h, .int .u64 k] w fun e w' => e = .returned (.bool false) ∧ w.grownBy w' none := by
  go_enter Try.func15, Try.ntmps15
  go_wp2_with fail
  refine (guess_nil _ _).mono ?_
  rintro e w' ⟨rfl, rfl⟩
  go_wp2_with fail
  refine (guess_nil _ _).mono ?_
  rintro e w' ⟨rfl, rfl⟩
  go_wp2_with fail
  go_ret
  exact ⟨rfl, grownBy_refl _ _⟩
theorem age_any (B : Nat) (g : Nat → Nat) (m age : Nat) (C : Nat → Nat) (w : World) (h : SK w B g m age C) :
    Calls Try.prog 11 #[.pointer (some ⟨B, 0, none⟩)] w fun e w' => e = .returned (.int .i64 age) ∧ w = w' := by
  have k0 := h.blk.cell (j := 1) rfl
  clear h
  go_enter Try.func11, Try.ntmps11
  go_wp2
  go_ret
  exact ⟨rfl, rfl⟩
theorem width_any (B : Nat) (g : Nat → Nat) (m age : Nat) (C : Nat → Nat) (w : World) (h : SK w B g m age C) :
    Calls Try.prog 14 #[.pointer (some ⟨B, 0, none⟩)] w fun e w' => e = .returned (.int .i64 m) ∧ w = w' := by
  have k0 := h.blk.cell (j := 0) rfl
  clear h
  go_enter Try.func14, Try.ntmps14
  go_wp2
  go_ret
  exact ⟨rfl, rfl⟩

end Go.Proofs.Ytfdkncabicmmiaa
