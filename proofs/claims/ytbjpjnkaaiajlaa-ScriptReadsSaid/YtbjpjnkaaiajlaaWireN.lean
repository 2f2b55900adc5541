/- package wire: may, number; bytes.Clone; the reference's Number, Of. -/
import Derived.Test.YtbjpjnkaaiajlaaProg
import Derived.WalkKit
import Derived.WalkSpells
import Derived.WalkLawsBesides
import Derived.Lib.Hide
import Derived.Test.YtbjpjnkaaiajlaaMem
import Derived.Test.YtbjpjnkaaiajlaaBytes
import Derived.Test.YtbjpjnkaaiajlaaNumB
namespace Go.Proofs.Ytbjpjnkaaiajlaa
open Go.RowKit

theorem may_any (k : Int) (w : World) : Calls Try.prog 36 #[.int .i64 k] w fun e w' => e = .returned (.bool (mayB k)) ∧ w = w' := by
  by_cases h1 : k = 1
  · subst h1
    go_enter Try.func36, Try.ntmps36
    go_wp2
    go_ret
    exact ⟨rfl, rfl⟩
  by_cases h2 : k = 2
  · subst h2
    go_enter Try.func36, Try.ntmps36
    go_wp2
    go_ret
    exact ⟨rfl, rfl⟩
  by_cases h4 : k = 4
  · subst h4
    go_enter Try.func36, Try.ntmps36
    go_wp2
    go_ret
    exact ⟨rfl, rfl⟩
  by_cases h8 : k = 8
  · subst h8
    go_enter Try.func36, Try.ntmps36
    go_wp2
    go_ret
    exact ⟨rfl, rfl⟩
  have hf : mayB k = false := decide_eq_false (by omega)
  rw [hf]
  have b1 : (k == 1) = false := by rw [beq_eq_false_iff_ne]; exact h1
  have b2 : (k == 2) = false := by rw [beq_eq_false_iff_ne]; exact h2
  have b4 : (k == 4) = false := by rw [beq_eq_false_iff_ne]; exact h4
  have b8 : (k == 8) = false := by rw [beq_eq_false_iff_ne]; exact h8
  clear h1 h2 h4 h8 hf
  go_enter Try.func36, Try.ntmps36
  go_wp2
  go_ret
  exact ⟨rfl, rfl⟩

theorem infoByte : (Try.prog.info? 5).map (fun i => (i.zero, i.size, i.bytes)) = some (some (.int .u8 0), 1, 1) := by kernel_rfl
theorem bytesV_one (xs : List Nat) : ∀ u ∈ bytesV xs, u.oneCell' = true := by
  intro u hu
  unfold bytesV at hu
  rw [List.mem_map] at hu
  obtain ⟨x, _, rfl⟩ := hu
  rfl
theorem bytesV_app (xs ys : List Nat) : bytesV (xs ++ ys) = bytesV xs ++ bytesV ys := List.map_append

theorem clone_any (xs : List Nat) (a : Option Addr) (c : Nat) (w : World) (hx : xs.length ≤ 100000000) (hr : Rds w 1 (.slice a xs.length c) xs.length (bytesV xs)) :
    Calls Try.prog 40 #[.slice a xs.length c] w fun e w' => ∃ a' c', e = .returned (.slice a' xs.length c') ∧ w'.ownsRow w.heap.size 5 1 (.slice a' xs.length c') xs.length (bytesV xs) ∧ w.grownBy w' none := by
  obtain ⟨i0, hi, hz0, hz1, hz2⟩ := info_parts infoByte
  cases a with
  | none =>
    have hn := Lib.run_eql_slice_nil (P := Try.prog)
    have h0 : xs = [] := by
      rcases hr.2.2 with ⟨_, h⟩ | ⟨ad, cap, h, _⟩
      · exact List.eq_nil_of_length_eq_zero h
      · simp at h
    subst h0
    clear hr
    go_enter Try.func40, Try.ntmps40
    go_wp2
    go_ret
    exact ⟨none, 0, rfl, World.ownsRow_nil _ _ _ _, grownBy_refl _ _⟩
  | some ad =>
    have hn := Lib.run_eql_slice_nil (P := Try.prog)
    have HR := Lib.hid hr
    clear hr
    go_enter Try.func40, Try.ntmps40
    go_wp2_with (at_builtin; refine wpList_append_rds rfl _ _ 24 rfl w.heap.size 5 i0 (.int .u8 0) 1 1 Try.underlying24 hi hz0 hz1 hz2 rfl (by decide) (v := .slice (some ⟨w.heap.size, 0, none⟩) 0 0) (n := 0) (xs := []) (sv := .slice (some ad) xs.length c) rfl (World.ownsRow_made w #[] 0 (Nat.le_refl _) (by simp) (by simp)) rfl (HR.out.alloc _) (bytesV_one xs) (by unfold maxLen; omega) (by omega) (by simp) ?_; intro v3 w3 h1 h2 _; simp only [Nat.zero_add, List.nil_append] at h1; have h4 := Rds.of_owns h1; obtain ⟨a3, c3, rfl⟩ := h4.slice; have O3 := Lib.hid h1; have G3 := Lib.hid (grownBy_new h2); clear h1 h2 h4)
    go_ret
    exact ⟨a3, c3, rfl, O3.out, G3.out⟩

end Go.Proofs.Ytbjpjnkaaiajlaa
