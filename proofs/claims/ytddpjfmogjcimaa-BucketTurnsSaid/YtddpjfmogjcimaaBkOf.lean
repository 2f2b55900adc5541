/- law14's 'of': a document's bucket as the program's. -/
import Derived.Test.YtddpjfmogjcimaaEnt
import Derived.Deep.RegionLaw
namespace Go.Proofs.Ytddpjfmogjcimaa
open Go.RowKit
attribute [local go_sem ↓] Go.wp_at_zero Go.wp_at_succ

set_option maxRecDepth 100000 in
set_option maxHeartbeats 4000000 in
theorem of14_any (d p : Int) (xs : List Ent) (a : Option Addr) (c : Nat) (w : World) (hx : xs.length ≤ 300) (hr : Rds w 4 (.slice a xs.length c) xs.length (entsV xs)) :
    Calls Try.prog 12 #[.agg #[.int .i64 d, .int .i64 p, .slice a xs.length c]] w fun e w' => ∃ v, e = .returned (.agg #[.int .i64 d, .int .i64 p, v]) ∧ w'.ownsRow w.heap.size 41 4 v xs.length (entsV xs) ∧ w.grownBy w' none := by
  obtain ⟨i0, hi, hz0, hz1, hz2⟩ := info_parts infoEnt
  have HR := Lib.hid hr
  clear hr
  go_enter Try.func12, Try.ntmps12
  go_wp2
  obtain ⟨w2, hw2⟩ : ∃ w2, ((w.alloc (.cells #[.int .i64 d, .int .i64 p, .slice a xs.length c] 24)).alloc (.cells #[.int .i64 0, .int .i64 0, .slice none 0 0] 29)).alloc (.cells #[.int .i64 d, .int .i64 p, .slice none 0 0] 29) = w2 := ⟨_, rfl⟩
  have hB0 : Blk w2 w.heap.size 24 [.int .i64 d, .int .i64 p, .slice a xs.length c] := by rw [← hw2]; exact ((Blk.new w _ _).alloc _).alloc _
  have hB1 : Blk w2 (w.heap.size + 1) 29 [.int .i64 0, .int .i64 0, .slice none 0 0] := by
    rw [← hw2]
    have := Blk.new (w.alloc (.cells #[.int .i64 d, .int .i64 p, .slice a xs.length c] 24)) 29 [.int .i64 0, .int .i64 0, .slice none 0 0]
    rw [World.size_alloc] at this
    exact this.alloc _
  have hB2 : Blk w2 (w.heap.size + 1 + 1) 29 [.int .i64 d, .int .i64 p, .slice none 0 0] := by
    rw [← hw2]
    have := Blk.new ((w.alloc (.cells #[.int .i64 d, .int .i64 p, .slice a xs.length c] 24)).alloc (.cells #[.int .i64 0, .int .i64 0, .slice none 0 0] 29)) 29 [.int .i64 d, .int .i64 p, .slice none 0 0]
    rw [World.size_alloc, World.size_alloc] at this
    exact this
  have hG : w.grownBy w2 none := by rw [← hw2]; exact grownBy_trans (grownBy_trans (World.grownBy_alloc w _ none) (World.grownBy_alloc _ _ none)) (World.grownBy_alloc _ _ none)
  have hS : w2.heap.size = w.heap.size + 3 := by rw [← hw2]; simp
  rw [hw2]
  have HB0 := Lib.hid hB0
  have HB1 := Lib.hid hB1
  have HB2 := Lib.hid hB2
  have HG0 := Lib.hid hG
  have HS := Lib.hid hS
  clear hw2 hB0 hB1 hB2 hG hS
  go_loopw [4] (fun i wr => ∃ (k : Nat) (av : Option Addr) (cv : Nat), k ≤ xs.length ∧ i = .int .i64 k ∧ wr.ownsRow (w.heap.size + 3) 41 4 (.slice av k cv) k (entsV (xs.take k)) ∧ w.grownBy wr none ∧ w.heap.size + 3 ≤ wr.heap.size ∧ Blk wr w.heap.size 24 [.int .i64 d, .int .i64 p, .slice a xs.length c] ∧ Blk wr (w.heap.size + 1) 29 [.int .i64 0, .int .i64 0, .slice none 0 0] ∧ Blk wr (w.heap.size + 1 + 1) 29 [.int .i64 d, .int .i64 p, .slice av k cv]) (fun i _ => xs.length - (intOf i).toNat)
  case atStart => exact ⟨0, none, 0, by omega, rfl, World.ownsRow_nil _ _ _ _, HG0.out, by rw [HS.out]; exact Nat.le_refl _, HB0.out, HB1.out, HB2.out⟩
  case round =>
    obtain ⟨k, av, cv, hk, rfl, oy, hg, hsz, hb0, hb1, hb2⟩ := hrel
    have h0 := hb0.cell (j := 2) rfl
    have h2 := hb2.cell (j := 2) rfl
    have hf2 := hb2.frozen 2
    have OY := Lib.hid oy
    have HG := Lib.hid hg
    have C0 := Lib.hid hb0
    have C1 := Lib.hid hb1
    have C2 := Lib.hid hb2
    clear oy
    by_cases hlt : k < xs.length
    · obtain ⟨b, oo, rfl, hc⟩ := HR.out.at' (by omega)
      obtain ⟨e0, e1, e2, e3⟩ := entsV_cells xs k hlt
      have x0 := hg.cell (hc _ _ e0) (by simp)
      have x1 := hg.cell (hc _ _ e1) (by simp)
      have x2 := hg.cell (hc _ _ e2) (by simp)
      have x3 := hg.cell (hc _ _ e3) (by simp)
      simp only [← Nat.add_assoc] at x1 x2 x3
      have HBL : Hid (b < w.heap.size) := Lib.hid ((HR.out.lt (by intro h; rw [h] at e0; simp at e0) b rfl))
      have HT := Lib.hid (ent_take xs k hlt)
      have hlti : (k : Int) < (xs.length : Int) := by omega
      have hk0 : (0 : Int) ≤ (k : Int) := by omega
      clear hc e0 e1 e2 e3 hg hb0 hb1 hb2 HB0 HB1 HB2
      generalize xs.getD k Ent.zero = x at *
      have hne : b ≠ w.heap.size + 1 + 1 := by have := HBL.out; omega
      have hrow : Hid (∀ q, (Value.slice av k cv).ownBlock = some q → w.heap.size + 3 ≤ q) := Lib.hid (fun q hq => (OY.out.lt q hq).1)
      go_wp2_with fail
      go_region_law (first | ((refine step_append_lies _ (by rfl) _ _ 27 (by rfl) (w.heap.size + 3) 41 i0 _ 4 32 Try.underlying27 hi hz0 hz1 hz2 rfl (by omega) (.slice av k cv) k (entsV (xs.take k)) (by rfl) ((owns_grown OY.out G4.out).alloc _) ⟨w3.heap.size, 0, none⟩ 1 1 x.cells (by rfl) (by rfl) (World.news_of_block (cs := #[.int .u64 (U x.h), .int .i64 x.r, .int .i64 x.a, .int .i64 x.s]) (t := 41) (fr := (0, 0)) (heap_alloc_new w3 _)) (by simp [Value.oneCell', Ent.cells]) (by omega) (by unfold maxLen; omega) (by omega) (by simp <;> omega) (w3.heap.size + 1) (by simp) ?_; intro g cap w5 o5 g5 a5 _; have g6 := grownBy_trans (World.grownBy_alloc w3 (.cells #[.int .u64 (U x.h), .int .i64 x.r, .int .i64 x.a, .int .i64 x.s] 41) _) g5; have hbl := HBL.out; have h0 := cell_past (w.heap.size + 3) g6 hrow.out h0 (by simp <;> omega); have h2 := cell_past (w.heap.size + 3) g6 hrow.out h2 (by simp <;> omega); have x0 := cell_past (w.heap.size + 3) g6 hrow.out x0 (by simp <;> omega); have x1 := cell_past (w.heap.size + 3) g6 hrow.out x1 (by simp <;> omega); have x2 := cell_past (w.heap.size + 3) g6 hrow.out x2 (by simp <;> omega); have x3 := cell_past (w.heap.size + 3) g6 hrow.out x3 (by simp <;> omega); have hf2 := (blk_past (w.heap.size + 3) g6 hrow.out (C2.out.grown G4.out (by simp)) (by omega)).frozen 2; have GG := Lib.hid (grownBy_trans (grownBy_trans (grownBy_none G4.out _) g6) (grownBy_refl _ _)); clear hbl; have O5 := Lib.hid o5; have G5 := Lib.hid g5; clear o5 g5 g6)) | (go_simp; go_wp2_with (go_at_call 16; refine (entry_any _ _ _ _ _).mono ?_; rintro e w3 ⟨rfl, g3⟩; have g4 := grownBy_trans (grownBy_drewN wr 1 none) g3; have h0 := g4.cell h0 (by simp); have h2 := g4.cell h2 (by simp); have x0 := g4.cell x0 (by simp); have x1 := g4.cell x1 (by simp); have x2 := g4.cell x2 (by simp); have x3 := g4.cell x3 (by simp); have s3 := g4.size; have h2a := (World.grownBy_alloc w3 (.cells #[.int .u64 (U x.h), .int .i64 x.r, .int .i64 x.a, .int .i64 x.s] 41) none).cell h2 (by simp); have G4 := Lib.hid g4; clear g3 g4)))
      all_goals
        go_wp2
        go_roundw
        case rel =>
          refine ⟨k + 1, some ⟨g, 0, none⟩, cap, by omega, by go_num, ?_, ?_, ?_, ?_, ?_, ?_⟩
          · rw [HT.out, entsV_app, entsV_one]
            exact owns_set O5.out _ _ (by simp)
          · exact grownBy_base2 (grownBy_own2 HG.out OY.out (by omega) GG.out) (grownBy_setCell _ _ _) (by simp <;> omega)
          · simp only [World.setCell, World.heap]
            exact Nat.le_trans hsz (by simpa [World.setCell] using GG.out.size)
          · exact (blk_past (w.heap.size + 3) GG.out hrow.out C0.out (by omega)).setCell_other (by simp <;> omega) _
          · exact (blk_past (w.heap.size + 3) GG.out hrow.out C1.out (by omega)).setCell_other (by simp <;> omega) _
          · exact (blk_past (w.heap.size + 3) GG.out hrow.out C2.out (by omega)).setCell 2 _
        case measure => simp [intOf]; omega
    · obtain rfl : k = xs.length := by omega
      rw [List.take_length] at OY
      have q0 := hb2.cell (j := 0) rfl
      have q1 := hb2.cell (j := 1) rfl
      have q2 := hb2.cell (j := 2) rfl
      have r0 := hb1.cell (j := 0) rfl
      have r1 := hb1.cell (j := 1) rfl
      have r2 := hb1.cell (j := 2) rfl
      have f0 := hb1.frozen 0
      have f1 := hb1.frozen 1
      have f2 := hb1.frozen 2
      clear hb0 hb1 hb2 hg
      have hb1 := ((C1.out.setCell 0 (.int .i64 d)).setCell 1 (.int .i64 p)).setCell 2 (.slice av xs.length cv)
      have HB1 := Lib.hid hb1
      clear hb1
      go_wp2
      have z0 := HB1.out.cell (j := 0) rfl
      have z1 := HB1.out.cell (j := 1) rfl
      have z2 := HB1.out.cell (j := 2) rfl
      refine bodyPost_ret (v := .agg #[.int .i64 d, .int .i64 p, .slice av xs.length cv]) (by simp [results, Try.results12, go_sem, z0, z1, z2]) rfl ⟨_, rfl, ?_, ?_⟩
      · exact ownsRow_mono (owns_set (owns_set (owns_set OY.out _ _ (by simp)) _ _ (by simp)) _ _ (by simp)) (by omega)
      · exact grownBy_base2 (grownBy_base2 (grownBy_base2 HG.out (grownBy_setCell _ _ _) (by simp)) (grownBy_setCell _ _ _) (by simp)) (grownBy_setCell _ _ _) (by simp)

end Go.Proofs.Ytddpjfmogjcimaa
