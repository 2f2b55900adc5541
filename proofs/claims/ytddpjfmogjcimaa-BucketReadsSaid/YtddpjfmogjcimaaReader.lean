/- package wire: the Reader. -/
import Derived.Test.YtddpjfmogjcimaaWireNum
import Derived.Test.YtddpjfmogjcimaaTouch
namespace Go.Proofs.Ytddpjfmogjcimaa
open Go.RowKit

/-- A reader in memory: what is left, whether it is bad. -/
structure RR (w : World) (B : Nat) (v : Value) (xs : List Nat) (bad : Bool) : Prop where
  blk : Blk w B 100 [v, .bool bad]
  rds : Rds w 1 v xs.length (bytesV xs)
  apart : v.ownBlock ≠ some B
  cap : ∀ a n c, v = .slice a n c → n ≤ c ∧ c ≤ 9223372036854775807
  few : xs.length ≤ 50000000
  spot : ∀ ad n c, v = .slice (some ad) n c → ad.spot = none
  small : ∀ x ∈ xs, x < 256
theorem RR.slice {w : World} {B : Nat} {v : Value} {xs : List Nat} {bad : Bool} (h : RR w B v xs bad) : ∃ a c, v = .slice a xs.length c := h.rds.slice
theorem RR.touch {S : Nat → Prop} {w w' : World} {B : Nat} {v : Value} {xs : List Nat} {bad : Bool} (h : RR w B v xs bad) (ht : Touch S w w') (hs : ∀ k, k = B ∨ v.ownBlock = some k → ¬ S k) : RR w' B v xs bad :=
  ⟨ht.blk h.blk (hs B (.inl rfl)), ht.rds h.rds (fun b hb => hs b (.inr hb)), h.apart, h.cap, h.few, h.spot, h.small⟩
theorem RR.grown {w w' : World} {B : Nat} {v : Value} {xs : List Nat} {bad : Bool} (h : RR w B v xs bad) (hg : w.grownBy w' none) : RR w' B v xs bad :=
  h.touch (S := fun _ => False) (Touch.of_none hg) (fun _ _ h => h)

theorem newReader_any (xs : List Nat) (a : Option Addr) (c : Nat) (w : World) (hx : xs.length ≤ 50000000) (hsm : ∀ x ∈ xs, x < 256) (hr : Rds w 1 (.slice a xs.length c) xs.length (bytesV xs)) :
    Calls Try.prog 42 #[.slice a xs.length c] w fun e w' => ∃ B v, e = .returned (.pointer (some ⟨B, 0, none⟩)) ∧ RR w' B v xs false ∧ w.heap.size ≤ B ∧ (∀ b, v.ownBlock = some b → w.heap.size ≤ b) ∧ w.grownBy w' none := by
  have HR := Lib.hid hr
  have HSM := Lib.hid hsm
  clear hr hsm
  go_enter Try.func42, Try.ntmps42
  go_wp2_with fail
  refine (clone_any xs a c w (by omega) HR.out).mono ?_
  rintro e w1 ⟨a1, c1, rfl, o1, g1⟩
  have O1 := Lib.hid o1
  have G1 := Lib.hid g1
  clear o1 g1
  go_wp2
  go_ret
  refine ⟨w1.heap.size, .slice a1 xs.length c1, rfl, ⟨Blk.new w1 100 [.slice a1 xs.length c1, .bool false], (Rds.of_owns O1.out).alloc _, fun h => by have := (O1.out.lt _ h).2; omega, ?_, hx, ?_, HSM.out⟩, G1.out.size, fun b hb => (O1.out.lt b hb).1, grownBy_trans G1.out (World.grownBy_alloc _ _ none)⟩
  · intro a n cc h
    rcases O1.out.2 with ⟨h1, h2⟩ | ⟨g, cap, cur, h1, _, _, h2, h3, _⟩
    · rw [h1] at h
      simp at h
      omega
    · rw [h1] at h
      simp at h
      unfold maxLen at h3
      omega
  · intro ad n cc h
    rcases O1.out.2 with ⟨h1, h2⟩ | ⟨g, cap, cur, h1, _, _, h2, h3, _⟩
    · rw [h1] at h
      simp at h
    · rw [h1] at h
      simp at h
      rw [← h.1]

theorem rbad_any (B : Nat) (v : Value) (xs : List Nat) (bad : Bool) (w : World) (h : RR w B v xs bad) :
    Calls Try.prog 44 #[.pointer (some ⟨B, 0, none⟩)] w fun e w' => e = .returned (.bool bad) ∧ w = w' := by
  have k1 := h.blk.cell (j := 1) rfl
  clear h
  go_enter Try.func44, Try.ntmps44
  go_wp2
  go_ret
  exact ⟨rfl, rfl⟩

theorem rrest_any (B : Nat) (v : Value) (xs : List Nat) (bad : Bool) (w : World) (h : RR w B v xs bad) :
    Calls Try.prog 45 #[.pointer (some ⟨B, 0, none⟩)] w fun e w' => ∃ a c, e = .returned (.slice a xs.length c) ∧ w'.ownsRow w.heap.size 5 1 (.slice a xs.length c) xs.length (bytesV xs) ∧ w.grownBy w' none := by
  obtain ⟨av, cv, rfl⟩ := h.slice
  have k0 := h.blk.cell (j := 0) rfl
  have hf := h.few
  have HR := Lib.hid h.rds
  clear h
  go_enter Try.func45, Try.ntmps45
  go_wp2_with fail
  refine (clone_any xs av cv w (by omega) HR.out).mono ?_
  rintro e w1 ⟨a, c, rfl, o1, g1⟩
  go_wp2
  go_ret
  exact ⟨a, c, rfl, o1, g1⟩

/-- Too many bytes are asked. -/
theorem rraw_bad (B : Nat) (v : Value) (xs : List Nat) (bad : Bool) (n : Int) (w : World) (h : RR w B v xs bad) (hn : n < 0 ∨ (xs.length : Int) < n) :
    Calls Try.prog 61 #[.pointer (some ⟨B, 0, none⟩), .int .i64 n] w fun e w' => e = .returned (.slice none 0 0) ∧ RR w' B (.slice none 0 0) [] true ∧ w.grownBy w' (some B) := by
  obtain ⟨av, cv, rfl⟩ := h.slice
  have k0 := h.blk.cell (j := 0) rfl
  have k1 := h.blk.cell (j := 1) rfl
  have f0 := h.blk.frozen 0
  have f1 := h.blk.frozen 1
  have hf := h.few
  have HB := Lib.hid ((h.blk.setCell 0 (.slice none 0 0)).setCell 1 (.bool true))
  clear h
  rcases (show n < 0 ∨ (¬ n < 0 ∧ (xs.length : Int) < n) by omega) with h1 | ⟨h1, h2⟩
  all_goals
    clear hn
    go_enter Try.func61, Try.ntmps61
    go_wp2
    go_ret
    exact ⟨rfl, ⟨HB.out, Rds.nil _ 1, by simp [Value.ownBlock], fun a n c e => by simp at e; omega, by simp, fun ad n c e => by simp at e, by simp⟩, grownBy_trans (grownBy_setCell w ⟨B, 0, none⟩ _) (grownBy_setCell _ ⟨B, 1, none⟩ _)⟩

end Go.Proofs.Ytddpjfmogjcimaa
