/- bucket's parted with Fresh's test. -/
import Derived.Test.YtddpjfmogjcimaaFilt
namespace Go.Proofs.Ytddpjfmogjcimaa
open Go.RowKit

set_option maxRecDepth 100000 in
set_option maxHeartbeats 4000000 in
theorem parted_fresh (B : Nat) (so : Ent → Bool) (xs : List Ent) (a : Option Addr) (c : Nat) (w : World) (hx : xs.length ≤ 300) (hr : Rds w 4 (.slice a xs.length c) xs.length (entsV xs))
    (hso : Hid (∀ (x : Ent) (W : World), w.grownBy W none → Calls Try.prog 33 #[.agg #[.int .u64 (U x.h), .int .i64 x.r, .int .i64 x.a, .int .i64 x.s], .pointer (some ⟨B, 0, none⟩)] W fun e w' => e = .returned (.bool (so x)) ∧ W.grownBy w' none)) :
    Calls Try.prog 32 #[.slice a xs.length c, .func (.func 33) #[] #[.pointer (some ⟨B, 0, none⟩)]] w fun e w' => ∃ v v', e = .returned (.tuple #[v, v']) ∧ w'.ownsRow w.heap.size 41 4 v (xs.filter so).length (entsV (xs.filter so)) ∧ w'.ownsRow w.heap.size 41 4 v' (xs.filter (fun x => !so x)).length (entsV (xs.filter fun x => !so x)) ∧ w.grownBy w' none := by
  obtain ⟨i0, hi, hz0, hz1, hz2⟩ := info_parts infoEnt
  have HR := Lib.hid hr
  clear hr
  go_enter Try.func32, Try.ntmps32
  go_wp2
  go_loopw [4, 5, 10] (fun y z i wr => ∃ (k : Nat) (ay az : Option Addr) (cy cz : Nat), k ≤ xs.length ∧ i = .int .i64 k ∧ y = .slice ay ((xs.take k).filter so).length cy ∧ z = .slice az ((xs.take k).filter fun x => !so x).length cz ∧ wr.ownsRow w.heap.size 41 4 y ((xs.take k).filter so).length (entsV ((xs.take k).filter so)) ∧ wr.ownsRow w.heap.size 41 4 z ((xs.take k).filter fun x => !so x).length (entsV ((xs.take k).filter fun x => !so x)) ∧ RowsApart y z ∧ w.grownBy wr none) (fun _ _ i _ => xs.length - (intOf i).toNat)
  case atStart => exact ⟨0, none, none, 0, 0, by omega, rfl, rfl, rfl, World.ownsRow_nil _ _ _ _, World.ownsRow_nil _ _ _ _, RowsApart.nil _, grownBy_refl _ _⟩
  case round =>
    obtain ⟨k, ay, az, cy, cz, hk, rfl, rfl, rfl, oy, oz, hap, hg⟩ := hrel
    have ly := filt_take_len so xs k
    have lz := filt_take_len (fun x => !so x) xs k
    have OY := Lib.hid oy
    have OZ := Lib.hid oz
    have HAP := Lib.hid hap
    have HG := Lib.hid hg
    clear oy oz hap
    by_cases hlt : k < xs.length
    · obtain ⟨b, o, rfl, hc⟩ := HR.out.at' (by omega)
      obtain ⟨e0, e1, e2, e3⟩ := entsV_cells xs k hlt
      have x0 := hg.cell (hc _ _ e0) (by simp)
      have x1 := hg.cell (hc _ _ e1) (by simp)
      have x2 := hg.cell (hc _ _ e2) (by simp)
      have x3 := hg.cell (hc _ _ e3) (by simp)
      simp only [← Nat.add_assoc] at x1 x2 x3
      have hgs := hg.size
      clear hc e0 e1 e2 e3 hg
      have HY := filt_next_yes so xs k hlt
      have HN := filt_next_no so xs k hlt
      have HY' := filt_next_yes (fun x => !so x) xs k hlt
      have HN' := filt_next_no (fun x => !so x) xs k hlt
      have HCALL := hso.out (xs.getD k Ent.zero)
      generalize xs.getD k Ent.zero = x at *
      cases hs : so x
      · rw [hs] at HCALL
        have HN := Lib.hid (HN hs)
        have HY' := Lib.hid (HY' (by simp [hs]))
        have HCALL := Lib.hid HCALL
        clear HY HN' hs hso
        go_wp2_with fail
        refine (HCALL.out _ (grownBy_trans HG.out (World.grownBy_alloc _ _ none))).mono ?_; rintro e w3 ⟨rfl, g3⟩
        have hbx := (Blk.new wr 41 [.int .u64 (U x.h), .int .i64 x.r, .int .i64 x.a, .int .i64 x.s]).grown g3 (by simp)
        have b0 := hbx.cell (j := 0) rfl
        have b1 := hbx.cell (j := 1) rfl
        have b2 := hbx.cell (j := 2) rfl
        have b3 := hbx.cell (j := 3) rfl
        have G3 := Lib.hid (grownBy_trans (grownBy_trans HG.out (World.grownBy_alloc _ _ none)) g3)
        have OY3 := Lib.hid (owns_grown (OY.out.alloc _) g3)
        have OZ3 := Lib.hid (owns_grown (OZ.out.alloc _) g3)
        have s3 := G3.out.size
        clear hbx g3 OY OZ
        go_wp2_with (at_builtin; refine wpList_append_lies _ rfl _ _ 27 rfl w.heap.size 41 i0 _ 4 32 Try.underlying27 hi hz0 hz1 hz2 rfl (by omega) _ _ _ rfl (OZ3.out.alloc _) ⟨w3.heap.size, 0, none⟩ 1 1 x.cells rfl rfl (World.news_of_block (cs := #[.int .u64 (U x.h), .int .i64 x.r, .int .i64 x.a, .int .i64 x.s]) (t := 41) (fr := (0, 0)) (heap_alloc_new w3 _)) (by simp [Value.oneCell', Ent.cells]) (by omega) (by unfold maxLen; omega) (by omega) (by simp; omega) (w3.heap.size + 1) (by simp) ?_; intro g cap w4 h1 h2 h3 _; have O4 := Lib.hid h1; have G4 := Lib.hid h2; have A4 := Lib.hid h3; clear h1 h2 h3)
        go_roundw
        case rel =>
          refine ⟨k + 1, _, _, _, _, by omega, by go_num, by rw [HN.out], by rw [HY'.out, List.length_append]; rfl, ?_, ?_, ?_, ?_⟩
          · rw [HN.out]
            exact RowsApart.kept HAP.out.symm (OY3.out.alloc _) G4.out
          · rw [HY'.out, entsV_app, entsV_one, List.length_append]
            exact O4.out
          · exact (RowsApart.next HAP.out.symm OY3.out A4.out (by omega)).symm
          · exact grownBy_own2 (grownBy_trans G3.out (World.grownBy_alloc _ _ none)) (OZ3.out.alloc _) (Nat.le_refl _) G4.out
        case measure => simp [intOf]; omega
      · rw [hs] at HCALL
        have HY := Lib.hid (HY hs)
        have HN' := Lib.hid (HN' (by simp [hs]))
        have HCALL := Lib.hid HCALL
        clear HY' HN hs hso
        go_wp2_with fail
        refine (HCALL.out _ (grownBy_trans HG.out (World.grownBy_alloc _ _ none))).mono ?_; rintro e w3 ⟨rfl, g3⟩
        have hbx := (Blk.new wr 41 [.int .u64 (U x.h), .int .i64 x.r, .int .i64 x.a, .int .i64 x.s]).grown g3 (by simp)
        have b0 := hbx.cell (j := 0) rfl
        have b1 := hbx.cell (j := 1) rfl
        have b2 := hbx.cell (j := 2) rfl
        have b3 := hbx.cell (j := 3) rfl
        have G3 := Lib.hid (grownBy_trans (grownBy_trans HG.out (World.grownBy_alloc _ _ none)) g3)
        have OY3 := Lib.hid (owns_grown (OY.out.alloc _) g3)
        have OZ3 := Lib.hid (owns_grown (OZ.out.alloc _) g3)
        have s3 := G3.out.size
        clear hbx g3 OY OZ
        go_wp2_with (at_builtin; refine wpList_append_lies _ rfl _ _ 27 rfl w.heap.size 41 i0 _ 4 32 Try.underlying27 hi hz0 hz1 hz2 rfl (by omega) _ _ _ rfl (OY3.out.alloc _) ⟨w3.heap.size, 0, none⟩ 1 1 x.cells rfl rfl (World.news_of_block (cs := #[.int .u64 (U x.h), .int .i64 x.r, .int .i64 x.a, .int .i64 x.s]) (t := 41) (fr := (0, 0)) (heap_alloc_new w3 _)) (by simp [Value.oneCell', Ent.cells]) (by omega) (by unfold maxLen; omega) (by omega) (by simp; omega) (w3.heap.size + 1) (by simp) ?_; intro g cap w4 h1 h2 h3 _; have O4 := Lib.hid h1; have G4 := Lib.hid h2; have A4 := Lib.hid h3; clear h1 h2 h3)
        go_roundw
        case rel =>
          refine ⟨k + 1, _, _, _, _, by omega, by go_num, by rw [HY.out, List.length_append]; rfl, by rw [HN'.out], ?_, ?_, ?_, ?_⟩
          · rw [HY.out, entsV_app, entsV_one, List.length_append]
            exact O4.out
          · rw [HN'.out]
            exact RowsApart.kept HAP.out (OZ3.out.alloc _) G4.out
          · exact RowsApart.next HAP.out OZ3.out A4.out (by omega)
          · exact grownBy_own2 (grownBy_trans G3.out (World.grownBy_alloc _ _ none)) (OY3.out.alloc _) (Nat.le_refl _) G4.out
        case measure => simp [intOf]; omega
    · obtain rfl : k = xs.length := by omega
      rw [List.take_length] at OY OZ ⊢
      go_wp2
      go_ret2
      exact ⟨_, _, rfl, OY.out, OZ.out, HG.out⟩

end Go.Proofs.Ytddpjfmogjcimaa
