/- package wire: the Writer's Bytes. -/
import Derived.Test.YtddpjfmogjcimaaWriter
namespace Go.Proofs.Ytddpjfmogjcimaa
open Go.RowKit

theorem wbytes_any (B : Nat) (v : Value) (xs : List Nat) (lim : Int) (full : Bool) (w : World) (h : WR w B v xs lim full) :
    Calls Try.prog 49 #[.pointer (some ⟨B, 0, none⟩)] w fun e w' => ∃ a c, e = .returned (.slice a xs.length c) ∧ w'.ownsRow w.heap.size 5 1 (.slice a xs.length c) xs.length (bytesV xs) ∧ w.grownBy w' none := by
  obtain ⟨av, cv, rfl⟩ := h.slice
  have k0 := h.blk.cell (j := 0) rfl
  have hf := h.few
  have HR := Lib.hid (Rds.of_owns h.own)
  clear h
  go_enter Try.func49, Try.ntmps49
  go_wp2_with fail
  refine (clone_any xs av cv w (by omega) HR.out).mono ?_
  rintro e w1 ⟨a, c, rfl, o1, g1⟩
  go_wp2
  go_ret
  exact ⟨a, c, rfl, o1, g1⟩

end Go.Proofs.Ytddpjfmogjcimaa
