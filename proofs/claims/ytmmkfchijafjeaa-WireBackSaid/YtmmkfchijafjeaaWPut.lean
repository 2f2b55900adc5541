/- The reference's Put. -/
import Derived.Test.YtmmkfchijafjeaaWriter2
namespace Go.Proofs.Ytmmkfchijafjeaa
open Go.RowKit

set_option maxRecDepth 100000 in
set_option maxHeartbeats 1000000 in
theorem rput_any (xs ys : List Nat) (lim : Int) (full : Bool) (ax ay : Option Addr) (cx cy : Nat) (w : World) (hx : xs.length ≤ 40000000) (hy : ys.length ≤ 1000000) (hrx : Rds w 1 (.slice ax xs.length cx) xs.length (bytesV xs)) (hry : Rds w 1 (.slice ay ys.length cy) ys.length (bytesV ys)) :
    Calls Try.prog 13 #[.agg #[.slice ax xs.length cx, .int .i64 lim, .bool full], .slice ay ys.length cy] w fun e w' => ∃ a c, e = .returned (.agg #[.slice a (putW xs lim full ys).1.length c, .int .i64 lim, .bool (putW xs lim full ys).2]) ∧ Rds w' 1 (.slice a (putW xs lim full ys).1.length c) (putW xs lim full ys).1.length (bytesV (putW xs lim full ys).1) ∧ (∀ b, (Value.slice a (putW xs lim full ys).1.length c).ownBlock = some b → (Value.slice ax xs.length cx).ownBlock = some b ∨ (w.heap.size ≤ b ∧ b < w'.heap.size)) ∧ w.grownBy w' none := by
  obtain ⟨i0, hi, hz0, hz1, hz2⟩ := info_parts infoByte
  have HRX := Lib.hid hrx
  have HRY := Lib.hid hry
  clear hrx hry
  by_cases hp : full = true ∨ lim < (xs.length : Int) + ys.length
  · have hpw : putW xs lim full ys = (xs, true) := if_pos hp
    rw [hpw]
    have hcase : full = true ∨ (full = false ∧ lim < (xs.length : Int) + ys.length) := by
      cases full
      · exact .inr ⟨rfl, by simpa using hp⟩
      · exact .inl rfl
    clear hpw hp
    rcases hcase with rfl | ⟨rfl, hl⟩
    all_goals
      go_enter Try.func13, Try.ntmps13
      go_wp2
      exact bodyPost_ret (v := .agg #[.slice ax xs.length cx, .int .i64 lim, .bool true]) (by simp [results, Try.results13, go_sem]) rfl ⟨ax, cx, rfl, (HRX.out.alloc _).alloc _, fun b hb => .inl hb, grownBy_trans (World.grownBy_alloc _ _ none) (World.grownBy_alloc _ _ none)⟩
  · have hpw : putW xs lim full ys = (xs ++ ys, full) := if_neg hp
    rw [hpw]
    have hff : full = false := by
      cases full
      · rfl
      · exact absurd (.inl rfl) hp
    subst hff
    have hl : ¬ lim < (xs.length : Int) + ys.length := by
      intro h
      exact hp (.inr h)
    clear hpw hp
    go_enter Try.func13, Try.ntmps13
    have tok1 : True := trivial
    have tok2 : True := trivial
    have HG0 : Hid (w.grownBy ((w.alloc (.cells #[.slice ax xs.length cx, .int .i64 lim, .bool false] 28)).alloc (.cells #[.slice none 0 0, .int .i64 0, .bool false] 28)) none) := Lib.hid (grownBy_trans (World.grownBy_alloc w _ none) (World.grownBy_alloc _ _ none))
    have hB0 : Blk ((w.alloc (.cells #[.slice ax xs.length cx, .int .i64 lim, .bool false] 28)).alloc (.cells #[.slice none 0 0, .int .i64 0, .bool false] 28)) w.heap.size 28 [.slice ax xs.length cx, .int .i64 lim, .bool false] := (Blk.new w _ _).alloc _
    have hB1 : Blk ((w.alloc (.cells #[.slice ax xs.length cx, .int .i64 lim, .bool false] 28)).alloc (.cells #[.slice none 0 0, .int .i64 0, .bool false] 28)) (w.heap.size + 1) 28 [.slice none 0 0, .int .i64 0, .bool false] := by
      have := Blk.new (w.alloc (.cells #[.slice ax xs.length cx, .int .i64 lim, .bool false] 28)) 28 [.slice none 0 0, .int .i64 0, .bool false]
      rw [World.size_alloc] at this
      exact this
    have hS : ((w.alloc (.cells #[.slice ax xs.length cx, .int .i64 lim, .bool false] 28)).alloc (.cells #[.slice none 0 0, .int .i64 0, .bool false] 28)).heap.size = w.heap.size + 1 + 1 := by simp
    have HB0 := Lib.hid hB0
    have HB1 := Lib.hid hB1
    have HSZ := Lib.hid hS
    clear hB0 hB1 hS
    go_wp2_with (first | (at_builtin; have _t := tok1; refine wpList_append_rds rfl _ _ 26 rfl (w.heap.size + 1 + 1) 5 i0 (.int .u8 0) 1 1 Try.underlying26 hi hz0 hz1 hz2 rfl (by decide) (v := .slice (some ⟨w.heap.size + 1 + 1, 0, none⟩) 0 0) (n := 0) (xs := []) (sv := .slice ax xs.length cx) rfl (by have := World.ownsRow_made (base := w.heap.size + 1 + 1) (e := 5) (size := 1) ((w.alloc (.cells #[.slice ax xs.length cx, .int .i64 lim, .bool false] 28)).alloc (.cells #[.slice none 0 0, .int .i64 0, .bool false] 28)) #[] 0 (by rw [HSZ.out]; exact Nat.le_refl _) (by simp) (by simp); rw [HSZ.out] at this; exact this) rfl ((HRX.out.grown HG0.out (by simp)).alloc _) (bytesV_one xs) (by unfold maxLen; omega) (by omega) (by simp) ?_; intro v3 w3 h1 h2 _; simp only [Nat.zero_add, List.nil_append] at h1; obtain ⟨a3, c3, rfl⟩ := (Rds.of_owns h1).slice; have G3 := Lib.hid (grownBy_new (w := ((w.alloc (.cells #[.slice ax xs.length cx, .int .i64 lim, .bool false] 28)).alloc (.cells #[.slice none 0 0, .int .i64 0, .bool false] 28))) (by rw [HSZ.out]; exact h2)); have O3 := Lib.hid h1; clear h1 h2 tok1) | (at_builtin; have _t := tok2; refine wpList_append_rds rfl _ _ 26 rfl (w.heap.size + 1 + 1) 5 i0 (.int .u8 0) 1 1 Try.underlying26 hi hz0 hz1 hz2 rfl (by decide) (v := .slice a3 xs.length c3) (sv := .slice ay ys.length cy) rfl O3.out rfl (HRY.out.grown (grownBy_trans HG0.out G3.out) (by simp)) (bytesV_one ys) (by unfold maxLen; omega) (by omega) (by have := G3.out.size; simp at this; omega) ?_; intro v4 w4 h1 h2 _; obtain ⟨a4, c4, rfl⟩ := (Rds.of_owns h1).slice; have G4 := Lib.hid (grownBy_own2 G3.out O3.out (by simp) h2); have O4 := Lib.hid h1; have b0 := HB0.out.grown G4.out (by simp); have b1 := HB1.out.grown G4.out (by simp); have k0 := b0.cell (j := 0) rfl; have k1 := b0.cell (j := 1) rfl; have k2 := b0.cell (j := 2) rfl; have f0 := b0.frozen 0; have m0 := b1.cell (j := 0) rfl; have m1 := b1.cell (j := 1) rfl; have m2 := b1.cell (j := 2) rfl; have n0 := b1.frozen 0; have n1 := b1.frozen 1; have n2 := b1.frozen 2; have B0' := Lib.hid b0; have B1' := Lib.hid b1; clear h1 h2 tok2 b0 b1))
    have hb1 := (((B1'.out.setCell_other (p := ⟨w.heap.size, 0, none⟩) (by simp) (.slice a4 (xs.length + ys.length) c4)).setCell 0 (.slice a4 (xs.length + ys.length) c4)).setCell 1 (.int .i64 lim)).setCell 2 (.bool false)
    have z0 := hb1.cell (j := 0) rfl
    have z1 := hb1.cell (j := 1) rfl
    have z2 := hb1.cell (j := 2) rfl
    refine bodyPost_ret (v := .agg #[.slice a4 (xs.length + ys.length) c4, .int .i64 lim, .bool false]) (by simp [results, Try.results13, go_sem, z0, z1, z2]) rfl ⟨a4, c4, rfl, ?_, ?_, ?_⟩
    · rw [bytesV_app]
      exact Rds.of_owns (owns_set (owns_set (owns_set (owns_set O4.out _ _ (by simp <;> omega)) _ _ (by simp <;> omega)) _ _ (by simp <;> omega)) _ _ (by simp <;> omega))
    · intro b hb
      have := O4.out.lt b hb
      exact .inr ⟨by omega, by simpa [World.setCell] using this.2⟩
    · exact grownBy_base2 (grownBy_base2 (grownBy_base2 (grownBy_base2 (grownBy_trans HG0.out G4.out) (grownBy_setCell _ _ _) (by simp <;> omega)) (grownBy_setCell _ _ _) (by simp <;> omega)) (grownBy_setCell _ _ _) (by simp <;> omega)) (grownBy_setCell _ _ _) (by simp <;> omega)

end Go.Proofs.Ytmmkfchijafjeaa
