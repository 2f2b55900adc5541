/- The reference's Fresh; bucket's with. -/
import Derived.Test.YtddpjfmogjcimaaEnt
namespace Go.Proofs.Ytddpjfmogjcimaa
open Go.RowKit

def freshL (o : Int) (xs : List Ent) : List Ent := xs.filter fun x => decide (o ≤ x.r)
theorem freshL_next_yes (o : Int) (xs : List Ent) (k : Nat) (h : k < xs.length) (hy : o ≤ (xs.getD k Ent.zero).r) : freshL o (xs.take (k + 1)) = freshL o (xs.take k) ++ [xs.getD k Ent.zero] := by
  rw [ent_take xs k h, freshL, List.filter_append]
  simp only [List.filter_cons, List.filter_nil]
  rw [if_pos (by simpa using hy)]
  rfl
theorem freshL_next_no (o : Int) (xs : List Ent) (k : Nat) (h : k < xs.length) (hy : ¬ o ≤ (xs.getD k Ent.zero).r) : freshL o (xs.take (k + 1)) = freshL o (xs.take k) := by
  rw [ent_take xs k h, freshL, List.filter_append]
  simp only [List.filter_cons, List.filter_nil]
  rw [if_neg (by simpa using hy)]
  simp [freshL]
theorem freshL_len (o : Int) (xs : List Ent) : (freshL o xs).length ≤ xs.length := List.length_filter_le _ _
theorem freshL_take_len (o : Int) (xs : List Ent) (k : Nat) : (freshL o (xs.take k)).length ≤ k := Nat.le_trans (freshL_len _ _) (by simp; omega)

theorem with_any (d p : Int) (v v' : Value) (a a' : Option Addr) (n n' c c' : Nat) (hv : v = .slice a n c) (hv' : v' = .slice a' n' c') (w : World) :
    Calls Try.prog 34 #[.agg #[.int .i64 d, .int .i64 p, v], v'] w fun e w' => e = .returned (.agg #[.int .i64 d, .int .i64 p, v']) ∧ w.grownBy w' none := by
  subst hv hv'
  go_enter Try.func34, Try.ntmps34
  go_wp2
  exact bodyPost_ret (v := .agg #[.int .i64 d, .int .i64 p, .slice a' n' c']) (by simp [results, Try.results34, go_sem]) rfl ⟨rfl, grownBy_trans (World.grownBy_alloc w _ none) (World.grownBy_alloc _ _ none)⟩

set_option maxRecDepth 100000 in
set_option maxHeartbeats 4000000 in
theorem rfresh_any (d p o : Int) (xs : List Ent) (a : Option Addr) (c : Nat) (w : World) (hx : xs.length ≤ 300) (hr : Rds w 4 (.slice a xs.length c) xs.length (entsV xs)) :
    Calls Try.prog 13 #[.agg #[.int .i64 d, .int .i64 p, .slice a xs.length c], .int .i64 o] w fun e w' => ∃ v, e = .returned (.agg #[.int .i64 d, .int .i64 p, v]) ∧ w'.ownsRow w.heap.size 44 4 v (freshL o xs).length (entsV (freshL o xs)) ∧ w.grownBy w' none := by
  obtain ⟨i0, hi, hz0, hz1, hz2⟩ := info_parts infoREnt
  have HR := Lib.hid hr
  clear hr
  go_enter Try.func13, Try.ntmps13
  go_wp2
  obtain ⟨w2, hw2⟩ : ∃ w2, (w.alloc (.cells #[.int .i64 d, .int .i64 p, .slice a xs.length c] 24)).alloc (.cells #[.int .i64 0, .int .i64 0, .slice none 0 0] 24) = w2 := ⟨_, rfl⟩
  have hB0 : Blk w2 w.heap.size 24 [.int .i64 d, .int .i64 p, .slice a xs.length c] := by rw [← hw2]; exact (Blk.new w _ _).alloc _
  have hB1 : Blk w2 (w.heap.size + 1) 24 [.int .i64 0, .int .i64 0, .slice none 0 0] := by
    rw [← hw2]
    have := Blk.new (w.alloc (.cells #[.int .i64 d, .int .i64 p, .slice a xs.length c] 24)) 24 [.int .i64 0, .int .i64 0, .slice none 0 0]
    rw [World.size_alloc] at this
    exact this
  have hG : w.grownBy w2 none := by rw [← hw2]; exact grownBy_trans (World.grownBy_alloc w _ none) (World.grownBy_alloc _ _ none)
  have hS : w2.heap.size = w.heap.size + 2 := by rw [← hw2]; simp
  rw [hw2]
  have HB0 := Lib.hid hB0
  have HB1 := Lib.hid hB1
  have HG0 := Lib.hid hG
  have HS := Lib.hid hS
  clear hw2 hB0 hB1 hG hS
  go_loopw [5, 6] (fun y i wr => ∃ (k : Nat) (ay : Option Addr) (cy : Nat), k ≤ xs.length ∧ i = .int .i64 k ∧ y = .slice ay (freshL o (xs.take k)).length cy ∧ wr.ownsRow (w.heap.size + 2) 44 4 y (freshL o (xs.take k)).length (entsV (freshL o (xs.take k))) ∧ w.grownBy wr none ∧ w.heap.size + 2 ≤ wr.heap.size ∧ Blk wr w.heap.size 24 [.int .i64 d, .int .i64 p, .slice a xs.length c] ∧ Blk wr (w.heap.size + 1) 24 [.int .i64 0, .int .i64 0, .slice none 0 0]) (fun _ i _ => xs.length - (intOf i).toNat)
  case atStart => exact ⟨0, none, 0, by omega, rfl, rfl, World.ownsRow_nil _ _ _ _, HG0.out, by rw [HS.out]; exact Nat.le_refl _, HB0.out, HB1.out⟩
  case round =>
    obtain ⟨k, ay, cy, hk, rfl, rfl, oy, hg, hsz, hb0, hb1⟩ := hrel
    have ly := freshL_take_len o xs k
    have h0 := hb0.cell (j := 2) rfl
    have hf0 := hb0.frozen 2
    have OY := Lib.hid oy
    have HG := Lib.hid hg
    have C0 := Lib.hid hb0
    have C1 := Lib.hid hb1
    clear oy
    by_cases hlt : k < xs.length
    · obtain ⟨b, oo, rfl, hc⟩ := HR.out.at' (by omega)
      obtain ⟨e0, e1, e2, e3⟩ := entsV_cells xs k hlt
      have x0 := hg.cell (hc _ _ e0) (by simp)
      have x1 := hg.cell (hc _ _ e1) (by simp)
      have x2 := hg.cell (hc _ _ e2) (by simp)
      have x3 := hg.cell (hc _ _ e3) (by simp)
      simp only [← Nat.add_assoc] at x1 x2 x3
      have HY := freshL_next_yes o xs k hlt
      have HN := freshL_next_no o xs k hlt
      clear hc e0 e1 e2 e3 hg hb0 hb1
      generalize xs.getD k Ent.zero = x at *
      by_cases hs : o ≤ x.r
      · have HY := Lib.hid (HY hs)
        clear HN
        have hdec : decide (o ≤ x.r) = true := by simpa using hs
        go_wp2_with (at_builtin; refine wpList_append_lies _ rfl _ _ 22 rfl (w.heap.size + 2) 44 i0 _ 4 32 Try.underlying22 hi hz0 hz1 hz2 rfl (by omega) _ _ _ rfl (OY.out.alloc _) ⟨wr.heap.size, 0, none⟩ 1 1 x.cells rfl rfl (World.news_of_block (cs := #[.int .u64 (U x.h), .int .i64 x.r, .int .i64 x.a, .int .i64 x.s]) (t := 44) (fr := (0, 0)) (heap_alloc_new wr _)) (by simp [Value.oneCell', Ent.cells]) (by omega) (by unfold maxLen; omega) (by omega) (by simp; omega) (wr.heap.size + 1) (by simp) ?_; intro g cap w4 h1 h2 h3 _; have O4 := Lib.hid h1; have G4 := Lib.hid h2; clear h1 h2 h3)
        have hrow : ∀ q, (Value.slice ay (freshL o (xs.take k)).length cy).ownBlock = some q → w.heap.size + 2 ≤ q := fun q hq => (OY.out.lt q hq).1
        have GG := Lib.hid (grownBy_trans (World.grownBy_alloc wr (.cells #[.int .u64 (U x.h), .int .i64 x.r, .int .i64 x.a, .int .i64 x.s] 44) (Value.slice ay (freshL o (xs.take k)).length cy).ownBlock) G4.out)
        go_roundw
        case rel =>
          refine ⟨k + 1, _, _, by omega, by go_num, by rw [HY.out, List.length_append]; rfl, ?_, ?_, ?_, ?_, ?_⟩
          · rw [HY.out, entsV_app, entsV_one, List.length_append]
            exact O4.out
          · exact grownBy_own2 (grownBy_trans HG.out (World.grownBy_alloc _ _ none)) (OY.out.alloc _) (by omega) G4.out
          · exact Nat.le_trans hsz GG.out.size
          · exact C0.out.grown GG.out (fun h => by have := hrow _ h.symm; omega)
          · exact C1.out.grown GG.out (fun h => by have := hrow _ h.symm; omega)
        case measure => simp [intOf]; omega
      · have HN := Lib.hid (HN hs)
        clear HY
        have hdec : decide (o ≤ x.r) = false := by simpa using hs
        go_wp2
        go_roundw
        case rel => exact ⟨k + 1, ay, cy, by omega, by go_num, by rw [HN.out], by rw [HN.out]; exact OY.out, HG.out, hsz, C0.out, C1.out⟩
        case measure => simp [intOf]; omega
    · obtain rfl : k = xs.length := by omega
      rw [List.take_length] at OY
      rw [List.take_length]
      clear h0 hf0 hb0 hb1 hg
      have hb1 := (((C1.out.setCell_other (p := ⟨w.heap.size, 2, none⟩) (by simp) (.slice ay (freshL o xs).length cy)).setCell 0 (.int .i64 d)).setCell 1 (.int .i64 p)).setCell 2 (.slice ay (freshL o xs).length cy)
      have q0 := C0.out.cell (j := 0) rfl
      have q1 := C0.out.cell (j := 1) rfl
      have q2 := C0.out.cell (j := 2) rfl
      have qf := C0.out.frozen 2
      have r0 := C1.out.cell (j := 0) rfl
      have r1 := C1.out.cell (j := 1) rfl
      have r2 := C1.out.cell (j := 2) rfl
      have f0 := C1.out.frozen 0
      have f1 := C1.out.frozen 1
      have f2 := C1.out.frozen 2
      have HB1 := Lib.hid hb1
      clear hb1
      go_wp2
      have z0 := HB1.out.cell (j := 0) rfl
      have z1 := HB1.out.cell (j := 1) rfl
      have z2 := HB1.out.cell (j := 2) rfl
      refine bodyPost_ret (v := .agg #[.int .i64 d, .int .i64 p, .slice ay (freshL o xs).length cy]) (by simp [results, Try.results13, go_sem, z0, z1, z2]) rfl ⟨_, rfl, ?_, ?_⟩
      · exact ownsRow_mono (owns_set (owns_set (owns_set (owns_set OY.out _ _ (by simp)) _ _ (by simp)) _ _ (by simp)) _ _ (by simp)) (by omega)
      · exact grownBy_base2 (grownBy_base2 (grownBy_base2 (grownBy_base2 HG.out (grownBy_setCell _ _ _) (by simp)) (grownBy_setCell _ _ _) (by simp)) (grownBy_setCell _ _ _) (by simp)) (grownBy_setCell _ _ _) (by simp)

end Go.Proofs.Ytddpjfmogjcimaa
