/- Layer 14: the chapter's example. -/
import Derived.Test.YtddpjfmogjcimaaBkSplit
namespace Go.Proofs.Ytddpjfmogjcimaa
open Go.RowKit

def awE1 : Ent := ⟨1#64, 0, 0, 0⟩
def awE2 : Ent := ⟨9223372036854775808#64, 0, 0, 0⟩
theorem aw_one1 : oneS 0 awE1 = false := by decide +kernel
theorem aw_one2 : oneS 0 awE2 = true := by decide +kernel
theorem aw_f0 : [awE1, awE2].filter (fun x => !oneS 0 x) = [awE1] := by simp [List.filter, aw_one1, aw_one2]
theorem aw_f1 : [awE1, awE2].filter (oneS 0) = [awE2] := by simp [List.filter, aw_one1, aw_one2]

theorem awake_split (W : World) (b : Nat) (hb : Blk W b 41 [.int .u64 1, .int .i64 0, .int .i64 0, .int .i64 0, .int .u64 9223372036854775808, .int .i64 0, .int .i64 0, .int .i64 0]) :
    Calls Try.prog 15 #[.agg #[.int .i64 0, .int .i64 0, .slice (some ⟨b, 0, none⟩) 2 2]] W fun e w' => ∃ g0 c0 g1 c1, e = .returned (.agg #[.int .i64 1, .int .i64 0, .slice (some ⟨g0, 0, none⟩) 1 c0, .int .i64 1, .int .i64 1, .slice (some ⟨g1, 0, none⟩) 1 c1]) ∧ w'.cell? ⟨g0, 0, none⟩ = some (.int .u64 1) ∧ W.grownBy w' none := by
  have hr : Rds W 4 (.slice (some ⟨b, 0, none⟩) [awE1, awE2].length 2) [awE1, awE2].length (entsV [awE1, awE2]) := Rds.of_blk hb (by simp) (by unfold maxLen; simp)
  have h := split_any 0 0 (by omega) (by omega) (by omega) (by omega) [awE1, awE2] (some ⟨b, 0, none⟩) 2 W (by simp) hr
  rw [aw_f0, aw_f1] at h
  refine h.mono ?_
  rintro e w' ⟨a0, c0, a1, c1, rfl, o0, o1, g⟩
  obtain ⟨g0, k0, h0⟩ := ownsRow_pos o0 (by simp)
  obtain ⟨g1, k1, h1⟩ := ownsRow_pos o1 (by simp)
  simp only [Value.slice.injEq] at h0 h1
  obtain ⟨rfl, _, rfl⟩ := h0
  obtain ⟨rfl, _, rfl⟩ := h1
  refine ⟨g0, c0, g1, c1, rfl, ?_, g⟩
  exact (o0.cellAt 0 (by simp)).trans rfl

set_option maxHeartbeats 2000000 in
theorem awake_any (w : World) : Calls Try.prog 10 #[] w fun e w' => e = .returned (.bool true) ∧ w.grownBy w' none := by
  have HS := Lib.hid (fun W b => awake_split W b)
  go_enter Try.func10, Try.ntmps10
  go_wp2_with fail
  refine (HS.out _ _ (Blk.new w 41 [.int .u64 1, .int .i64 0, .int .i64 0, .int .i64 0, .int .u64 9223372036854775808, .int .i64 0, .int .i64 0, .int .i64 0])).mono ?_
  rintro e w3 ⟨g0, c0, g1, c1, rfl, hc, g3⟩
  have hc2 := (World.grownBy_alloc w3 (.cells #[.int .i64 1, .int .i64 0, .slice (some ⟨g0, 0, none⟩) 1 c0, .int .i64 1, .int .i64 1, .slice (some ⟨g1, 0, none⟩) 1 c1] 35) none).cell hc (by simp)
  have G3 := Lib.hid (grownBy_trans (World.grownBy_alloc w _ none) g3)
  clear hc g3
  go_wp2
  go_ret
  exact ⟨rfl, grownBy_trans G3.out (World.grownBy_alloc _ _ none)⟩

end Go.Proofs.Ytddpjfmogjcimaa
