/- bucket's Fresh. -/
import Derived.Test.YtddpjfmogjcimaaPartF
import Derived.Test.YtddpjfmogjcimaaBkFr
import Derived.Laws.EntriesVeiled
namespace Go.Proofs.Ytddpjfmogjcimaa
open Go.RowKit

theorem fresh1_any (x : Ent) (B : Nat) (o : Int) (W : World) (hb : W.cell? ⟨B, 0, none⟩ = some (.int .i64 o)) :
    Calls Try.prog 33 #[.agg #[.int .u64 (U x.h), .int .i64 x.r, .int .i64 x.a, .int .i64 x.s], .pointer (some ⟨B, 0, none⟩)] W fun e w' => e = .returned (.bool (decide (o ≤ x.r))) ∧ W.grownBy w' none := by
  have hb2 := (World.grownBy_alloc W (.cells #[.int .u64 (U x.h), .int .i64 x.r, .int .i64 x.a, .int .i64 x.s] 41) none).cell hb (by simp)
  go_enter Try.func33, Try.ntmps33
  go_wp2
  go_ret
  exact ⟨by first | rfl | simp, World.grownBy_alloc _ _ none⟩

set_option maxRecDepth 100000 in
set_option maxHeartbeats 4000000 in
theorem fresh_any (d p o : Int) (xs : List Ent) (a : Option Addr) (c : Nat) (w : World) (hx : xs.length ≤ 300) (hr : Rds w 4 (.slice a xs.length c) xs.length (entsV xs)) :
    Calls Try.prog 11 #[.agg #[.int .i64 d, .int .i64 p, .slice a xs.length c], .int .i64 o] w fun e w' => ∃ v, e = .returned (.agg #[.int .i64 d, .int .i64 p, v]) ∧ w'.ownsRow w.heap.size 41 4 v (freshL o xs).length (entsV (freshL o xs)) ∧ w.grownBy w' none := by
  have HR := Lib.hid hr
  clear hr
  go_enter Try.func11, Try.ntmps11
  go_wp2_with fail
  obtain ⟨w2, hw2⟩ : ∃ w2, ((w.alloc (.cells #[.int .i64 d, .int .i64 p, .slice a xs.length c] 29)).alloc (.cells #[.int .i64 o] 3)).alloc (.cells #[.int .i64 0, .int .i64 0, .slice none 0 0] 29) = w2 := ⟨_, rfl⟩
  have hB0 : Blk w2 w.heap.size 29 [.int .i64 d, .int .i64 p, .slice a xs.length c] := by rw [← hw2]; exact ((Blk.new w _ _).alloc _).alloc _
  have hB1 : Blk w2 (w.heap.size + 1) 3 [.int .i64 o] := by
    rw [← hw2]
    have := Blk.new (w.alloc (.cells #[.int .i64 d, .int .i64 p, .slice a xs.length c] 29)) 3 [.int .i64 o]
    rw [World.size_alloc] at this
    exact this.alloc _
  have hB2 : Blk w2 (w.heap.size + 1 + 1) 29 [.int .i64 0, .int .i64 0, .slice none 0 0] := by
    rw [← hw2]
    have := Blk.new ((w.alloc (.cells #[.int .i64 d, .int .i64 p, .slice a xs.length c] 29)).alloc (.cells #[.int .i64 o] 3)) 29 [.int .i64 0, .int .i64 0, .slice none 0 0]
    rw [World.size_alloc, World.size_alloc] at this
    exact this
  have hG : w.grownBy w2 none := by rw [← hw2]; exact grownBy_trans (grownBy_trans (World.grownBy_alloc w _ none) (World.grownBy_alloc _ _ none)) (World.grownBy_alloc _ _ none)
  have hS : w2.heap.size = w.heap.size + 3 := by rw [← hw2]; simp
  rw [hw2]
  clear hw2
  have HP := Lib.hid (parted_fresh (w.heap.size + 1) (fun x => decide (o ≤ x.r)) xs a c w2 hx (HR.out.grown hG (by simp)) (Lib.hid (fun x W hW => fresh1_any x _ o W (hW.cell (hB1.cell (j := 0) rfl) (by simp)))))
  refine HP.out.mono ?_
  rintro e w3 ⟨v, v', rfl, o3, _, g3⟩
  obtain ⟨av, cv, rfl⟩ := (Rds.of_owns o3).slice
  have c0 := (hB0.grown g3 (by simp)).cell (j := 0) rfl
  have c1 := (hB0.grown g3 (by simp)).cell (j := 1) rfl
  have c2 := (hB0.grown g3 (by simp)).cell (j := 2) rfl
  have HB2 := Lib.hid (hB2.grown g3 (by simp))
  have G3 := Lib.hid (grownBy_trans hG g3)
  have O3 := Lib.hid o3
  clear HP hB0 hB1 hB2 hG g3 o3
  go_wp2_with fail
  refine (with_any d p _ _ _ _ _ _ _ _ rfl rfl _).mono ?_
  rintro e w4 ⟨rfl, g4⟩
  have hb2 := HB2.out.grown g4 (by simp)
  have d0 := hb2.cell (j := 0) rfl
  have d1 := hb2.cell (j := 1) rfl
  have d2 := hb2.cell (j := 2) rfl
  have f0 := hb2.frozen 0
  have f1 := hb2.frozen 1
  have f2 := hb2.frozen 2
  have HB := Lib.hid (((hb2.setCell 0 (.int .i64 d)).setCell 1 (.int .i64 p)).setCell 2 (.slice av (xs.filter fun x => decide (o ≤ x.r)).length cv))
  have G4 := Lib.hid (grownBy_trans G3.out g4)
  have O4 := Lib.hid (owns_grown O3.out g4)
  have HS := Lib.hid hS
  clear hb2 g4 c0 c1 c2 O3 G3 HB2 hS
  go_wp2
  have z0 := HB.out.cell (j := 0) rfl
  have z1 := HB.out.cell (j := 1) rfl
  have z2 := HB.out.cell (j := 2) rfl
  have hs := HS.out
  refine bodyPost_ret (v := .agg #[.int .i64 d, .int .i64 p, .slice av (xs.filter fun x => decide (o ≤ x.r)).length cv]) (by simp [results, Try.results11, go_sem, z0, z1, z2]) rfl ⟨_, rfl, ?_, ?_⟩
  · exact ownsRow_mono (owns_set (owns_set (owns_set O4.out _ _ (by rw [hs]; simp)) _ _ (by rw [hs]; simp)) _ _ (by rw [hs]; simp)) (by omega)
  · exact grownBy_base2 (grownBy_base2 (grownBy_base2 G4.out (grownBy_setCell _ _ _) (by simp <;> omega)) (grownBy_setCell _ _ _) (by simp <;> omega)) (grownBy_setCell _ _ _) (by simp <;> omega)

end Go.Proofs.Ytddpjfmogjcimaa
