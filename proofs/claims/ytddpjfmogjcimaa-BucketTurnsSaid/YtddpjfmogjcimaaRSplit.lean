/- The document of layer 14: Split. -/
import Derived.Test.YtddpjfmogjcimaaPutP
import Derived.Test.YtddpjfmogjcimaaRef14b
import Derived.Test.YtddpjfmogjcimaaBkSplit
import Derived.Test.YtddpjfmogjcimaaStepApp
import Derived.Test.YtddpjfmogjcimaaRefPre
import Derived.Test.YtddpjfmogjcimaaFilt
namespace Go.Proofs.Ytddpjfmogjcimaa
open Go Go.RowKit

def partL (d q : Int) (xs : List Ent) : List Ent := xs.filter fun x => decide (pre x.h d = q)
set_option maxRecDepth 100000 in
set_option maxHeartbeats 8000000 in
theorem rsplit_any (d p bit : Int) (h0 : 0 ≤ d) (h8 : d ≤ 8) (p0 : 0 ≤ p) (p1 : p ≤ 1000) (b0 : 0 ≤ bit) (b1 : bit ≤ 1) (xs : List Ent) (a : Option Addr) (c : Nat) (w : World) (hx : xs.length ≤ 300) (hr : Rds w 4 (.slice a xs.length c) xs.length (entsV xs)) :
    Calls Try.prog 29 #[.agg #[.int .i64 d, .int .i64 p, .slice a xs.length c], .int .i64 bit] w fun e w' => ∃ (a' : Option Addr) (c' : Nat), e = .returned (.agg #[.int .i64 (d + 1), .int .i64 (2 * p + bit), .slice a' (partL (d + 1) (2 * p + bit) xs).length c']) ∧ Rds w' 4 (.slice a' (partL (d + 1) (2 * p + bit) xs).length c') (partL (d + 1) (2 * p + bit) xs).length (entsV (partL (d + 1) (2 * p + bit) xs)) ∧ w.grownBy w' none := by
  obtain ⟨i0, hi, hz0, hz1, hz2⟩ := info_parts infoREnt
  have HR := Lib.hid hr
  have hw1 : IntKind.i64.wrap (d + 1) = d + 1 := IntWalk.i64_in _ ⟨by omega, by omega⟩
  have hw2 : IntKind.i64.wrap (2 * p) = 2 * p := IntWalk.i64_in _ ⟨by omega, by omega⟩
  have hw3 : IntKind.i64.wrap (2 * p + bit) = 2 * p + bit := IntWalk.i64_in _ ⟨by omega, by omega⟩
  have HN1 := Lib.hid hw1
  obtain ⟨q, hq⟩ : ∃ q, 2 * p + bit = q := ⟨_, rfl⟩
  rw [hq] at hw3 ⊢
  clear hr h0 h8 p0 p1 b0 b1
  go_enter Try.func29, Try.ntmps29
  go_wp2_with fail
  obtain ⟨P, hP⟩ : ∃ P, w.heap.size = P := ⟨_, rfl⟩
  obtain ⟨wx, hwx⟩ : ∃ wx, w.alloc (.cells #[.int .i64 d, .int .i64 p, .slice a xs.length c] 24) = wx := ⟨_, rfl⟩
  obtain ⟨wy, hwy⟩ : ∃ wy, wx.alloc (.cells #[.int .i64 0, .int .i64 0, .slice none 0 0] 24) = wy := ⟨_, rfl⟩
  obtain ⟨w1, hw1'⟩ : ∃ w1, wy.alloc (.cells #[.int .i64 (d + 1), .int .i64 q, .slice none 0 0] 24) = w1 := ⟨_, rfl⟩
  have hzx : wx.heap.size = P + 1 := by rw [← hwx, World.size_alloc, hP]
  have hzy : wy.heap.size = P + 2 := by rw [← hwy, World.size_alloc, hzx]
  have hb0 : Blk w1 P 24 [.int .i64 d, .int .i64 p, .slice a xs.length c] := by rw [← hw1', ← hwy, ← hwx, ← hP]; exact ((Blk.new w _ _).alloc _).alloc _
  have hb1 : Blk w1 (P + 1) 24 [.int .i64 0, .int .i64 0, .slice none 0 0] := by rw [← hw1', ← hwy, ← hzx]; exact (Blk.new wx _ _).alloc _
  have hb2 : Blk w1 (P + 1 + 1) 24 [.int .i64 (d + 1), .int .i64 q, .slice none 0 0] := by rw [← hw1', ← hzy]; exact Blk.new wy _ _
  have hg1 : w.grownBy w1 none := by rw [← hw1', ← hwy, ← hwx]; exact grownBy_trans (grownBy_trans (World.grownBy_alloc _ _ none) (World.grownBy_alloc _ _ none)) (World.grownBy_alloc _ _ none)
  have hz1' : w1.heap.size = P + 3 := by rw [← hw1', World.size_alloc, hzy]
  rw [hwx, hwy, hw1', hP]
  have HB0 := Lib.hid hb0
  have HB1 := Lib.hid hb1
  have HB2 := Lib.hid hb2
  have HG1 := Lib.hid hg1
  have HPW : Hid (w.heap.size = P) := Lib.hid hP
  have HZ1 := Lib.hid hz1'
  clear hw1' hwx hwy hzx hzy hb0 hb1 hb2 hg1 hP hz1'
  go_loopw [6] (fun i wr => ∃ (k : Nat) (ay : Option Addr) (cy : Nat), k ≤ xs.length ∧ i = .int .i64 k ∧ wr.ownsRow (P + 3) 44 4 (.slice ay (partL (d + 1) q (xs.take k)).length cy) (partL (d + 1) q (xs.take k)).length (entsV (partL (d + 1) q (xs.take k))) ∧ w.grownBy wr none ∧ P + 3 ≤ wr.heap.size ∧ Blk wr P 24 [.int .i64 d, .int .i64 p, .slice a xs.length c] ∧ Blk wr (P + 1) 24 [.int .i64 0, .int .i64 0, .slice none 0 0] ∧ Blk wr (P + 1 + 1) 24 [.int .i64 (d + 1), .int .i64 q, .slice ay (partL (d + 1) q (xs.take k)).length cy]) (fun i _ => xs.length - (intOf i).toNat)
  case atStart => exact ⟨0, none, 0, by omega, rfl, World.ownsRow_nil _ _ _ _, HG1.out, by rw [HZ1.out]; exact Nat.le_refl _, HB0.out, HB1.out, HB2.out⟩
  case round =>
    clear HB0 HB1 HB2 HG1 HZ1
    obtain ⟨k, ay, cy, hk, rfl, oy, hg, hsz, hb0, hb1, hb2⟩ := hrel
    have ly := filt_take_len (fun x => decide (pre x.h (d + 1) = q)) xs k
    have OY := Lib.hid oy
    have HG := Lib.hid hg
    have HSZ := Lib.hid hsz
    have HB0 := Lib.hid hb0
    have HB1 := Lib.hid hb1
    have HB2 := Lib.hid hb2
    clear oy hg hsz hb0 hb1 hb2
    by_cases hlt : k < xs.length
    · obtain ⟨b, oo, rfl, hc⟩ := HR.out.at' (by omega)
      obtain ⟨e0, e1, e2, e3⟩ := entsV_cells xs k hlt
      have x0 := HG.out.cell (hc _ _ e0) (by simp)
      have x1 := HG.out.cell (hc _ _ e1) (by simp)
      have x2 := HG.out.cell (hc _ _ e2) (by simp)
      have x3 := HG.out.cell (hc _ _ e3) (by simp)
      simp only [← Nat.add_assoc] at x1 x2 x3
      have HY := filt_next_yes (fun x => decide (pre x.h (d + 1) = q)) xs k hlt
      have HN := filt_next_no (fun x => decide (pre x.h (d + 1) = q)) xs k hlt
      have hki : (k : Int) < (xs.length : Int) := by omega
      obtain ⟨x, hxm⟩ : ∃ x, xs.getD k Ent.zero = x := ⟨_, rfl⟩
      rw [hxm] at x0 x1 x2 x3 HY HN
      obtain ⟨ys, hys⟩ : ∃ ys, partL (d + 1) q (xs.take k) = ys := ⟨_, rfl⟩
      have hys2 : (xs.take k).filter (fun x => decide (pre x.h (d + 1) = q)) = ys := hys
      rw [hys2] at HY HN ly
      rw [hys] at OY HB2
      clear hc e0 e1 e2 e3 hxm hys hys2
      (try dsimp only at HY HN)
      have p0 := HB0.out.cell (j := 0) rfl; have p2 := HB0.out.cell (j := 2) rfl
      have q1 := HB2.out.cell (j := 1) rfl
      have r2 := HB0.out.cell (j := 2) rfl
      have HPX := Lib.hid (fun W => rprefix_any x.h (d + 1) W)
      obtain ⟨px, hpx⟩ : ∃ px, pre x.h (d + 1) = px := ⟨_, rfl⟩
      rw [hpx] at HY HN HPX
      clear hpx
      go_wp2_with fail
      have HX0 := Lib.hid x0; have HX1 := Lib.hid x1; have HX2 := Lib.hid x2; have HX3 := Lib.hid x3
      have x0 := gw_cell x0; have p0 := gw_cell p0; have p2 := gw_cell p2; have q1 := gw_cell q1
      clear x1 x2 x3 r2
      refine wp_region_grown (by kernel_rfl) (by kernel_rfl) ?_
      repeat (go_big_quiet_step ((go_at_call 31; exact calls_grown' HPX.out _)))
      refine wpQuiet_nil ?_
      rintro _ ⟨g, rfl⟩
      have hgg := gw_grown g
      obtain ⟨wq, hwq⟩ : ∃ wq, gw g = wq := ⟨_, rfl⟩
      rw [hwq] at hgg ⊢
      have HGQ := Lib.hid hgg
      clear x0 p0 p2 q1 hwq HPX
      have HB0 := Lib.hid (HB0.out.grown hgg (by simp))
      have HB1 := Lib.hid (HB1.out.grown hgg (by simp))
      have HB2 := Lib.hid (HB2.out.grown hgg (by simp))
      have OY := Lib.hid (owns_grown OY.out hgg)
      have HG2 := Lib.hid (grownBy_trans HG.out hgg)
      have HSZ2 := Lib.hid (Nat.le_trans HSZ.out hgg.size)
      have x0 := hgg.cell HX0.out (by simp); have x1 := hgg.cell HX1.out (by simp); have x2 := hgg.cell HX2.out (by simp); have x3 := hgg.cell HX3.out (by simp)
      clear hgg HX0 HX1 HX2 HX3
      by_cases hs : px = q
      · have HY := Lib.hid (HY (decide_eq_true hs))
        clear HN
        have hdec : (px == q) = true := by simp [hs]
        clear hs
        go_wp2_with fail
        refine wp_region_planM (fun W => Blk W (P + 1 + 1) 24 [.int .i64 (d + 1), .int .i64 q, .slice ay ys.length cy]) [([0, 1], [2, 3, 4, 5, 6], 7, true), ([], [], 8, true), ([], [9], 10, false)] (by kernel_rfl) (by kernel_rfl) ?_
        obtain ⟨wd, hwd⟩ : ∃ wd, wq.drew = wd := ⟨_, rfl⟩
        have hgd : wq.grownBy wd none := by rw [← hwd]; exact grownBy_drewN wq 1 none
        rw [hwd]
        have HB0 := Lib.hid (HB0.out.grown hgd (by simp))
        have HB1 := Lib.hid (HB1.out.grown hgd (by simp))
        have HB2 := Lib.hid (HB2.out.grown hgd (by simp))
        have OY := Lib.hid (owns_grown OY.out hgd)
        have HG3 := Lib.hid (grownBy_trans HG2.out hgd)
        have HSZ3 := Lib.hid (Nat.le_trans HSZ2.out hgd.size)
        have x0 := hgd.cell x0 (by simp); have x1 := hgd.cell x1 (by simp); have x2 := hgd.cell x2 (by simp); have x3 := hgd.cell x3 (by simp)
        have p2 := HB0.out.cell (j := 2) rfl
        clear hwd hgd
        refine wpPlanM_seg HB2.out ?_
        iterate 2 ((apply wpReadD_step rfl (by rfl); (· intro wS hSw; (try have hSw := hSw rfl); (try dsimp only at hSw); (try have c2 := hSw.cell (j := 2) rfl); go_simp; (try with_reducible rfl))); try simp only [Act.put, List.setIfInBounds_toArray, List.set_cons_zero, List.set_cons_succ])
        refine wpReadD_nil ?_
        iterate 5 ((apply wpReadD_step rfl (by rfl); (· intro wS hSw; (try have hSw := hSw rfl); (try dsimp only at hSw); (try subst hSw); go_simp; (try with_reducible rfl))); try simp only [Act.put, List.setIfInBounds_toArray, List.set_cons_zero, List.set_cons_succ])
        refine wpReadD_nil ?_
        refine wpOp_list rfl (fun K hK => ?_)
        go_simp
        have hga := World.grownBy_alloc wd (.cells #[.int .u64 (U x.h), .int .i64 x.r, .int .i64 x.a, .int .i64 x.s] 44) none
        have HV := Lib.hid (Rds.of_blk (sz := 4) (n := 1) (c := 1) (Blk.new wd 44 [.int .u64 (U x.h), .int .i64 x.r, .int .i64 x.a, .int .i64 x.s]) rfl (by unfold maxLen; omega))
        have HB0 := Lib.hid (HB0.out.grown hga (by simp))
        have HB1 := Lib.hid (HB1.out.grown hga (by simp))
        have HB2 := Lib.hid (HB2.out.grown hga (by simp))
        have OY := Lib.hid (owns_grown OY.out hga)
        have HG4 := Lib.hid (grownBy_trans HG3.out hga)
        have HSZ4 := Lib.hid (Nat.le_trans HSZ3.out hga.size)
        refine hK _ _ ⟨_, fun _ h => h, fun _ => HB2.out, ?_⟩
        clear hK K hga x0 x1 x2 x3 p2
        try simp only [Act.put, List.setIfInBounds_toArray, List.set_cons_zero, List.set_cons_succ]
        refine wpPlanM_here ?_
        refine wpReadD_nil ?_
        refine wpOp_list rfl (fun K hK => ?_)
        refine step_append_rds (by rfl) _ _ 22 (by rfl) (P + 3) 44 i0 _ 4 32 Try.underlying22 hi hz0 hz1 hz2 rfl (by decide) (v := .slice ay ys.length cy) (n := ys.length) (by rfl) OY.out (by rfl) HV.out (by simp [Value.oneCell']) (by unfold maxLen; omega) (by omega) HSZ4.out ?_
        intro vv w8 g1 g2 g3
        obtain ⟨a8, c8, rfl⟩ := (Rds.of_owns g1).slice
        have hrow : ∀ z, (Value.slice ay ys.length cy).ownBlock = some z → P + 3 ≤ z := fun z hz => (OY.out.lt z hz).1
        have HB0 := Lib.hid (HB0.out.grown g2 (fun e => by have := hrow _ e.symm; omega))
        have HB1 := Lib.hid (HB1.out.grown g2 (fun e => by have := hrow _ e.symm; omega))
        have HB2 := Lib.hid (HB2.out.grown g2 (fun e => by have := hrow _ e.symm; omega))
        have HG5 := Lib.hid (grownBy_own2 HG4.out OY.out (by have := HPW.out; omega) g2)
        have HSZ5 := Lib.hid (Nat.le_trans HSZ4.out g2.size)
        have OY := Lib.hid g1
        refine hK _ _ ⟨_, fun _ h => h, fun _ => HB2.out, ?_⟩
        clear hK K g1 g2 g3 hrow HV
        try simp only [Act.put, List.setIfInBounds_toArray, List.set_cons_zero, List.set_cons_succ]
        have r2 := HB2.out.cell (j := 2) rfl
        have rf := HB2.out.frozen 2
        refine wpPlanM_here ?_
        iterate 1 ((apply wpReadD_step rfl (by rfl); (· intro wS hSw; (try have hSw := hSw rfl); (try dsimp only at hSw); (try subst hSw); go_simp; (try with_reducible rfl))); try simp only [Act.put, List.setIfInBounds_toArray, List.set_cons_zero, List.set_cons_succ])
        refine wpReadD_nil ?_
        refine wpOp_list rfl (fun K hK => ?_)
        go_simp
        have hgs := grownBy_setCell w8 ⟨P + 1 + 1, 2, none⟩ (.slice a8 (ys.length + 1) c8)
        have HB0 := Lib.hid (HB0.out.grown hgs (by simp; omega))
        have HB1 := Lib.hid (HB1.out.grown hgs (by simp))
        have HO9 := Lib.hid (OY.out.kept hgs (.inr (fun e => by have := (OY.out.lt _ e).1; dsimp only at this; omega)))
        have HB2 := Lib.hid (HB2.out.setCell 2 (.slice a8 (ys.length + 1) c8))
        have HG6 := Lib.hid (grownBy_base2 HG5.out hgs (by have := HPW.out; dsimp only; omega))
        have HSZ6 := Lib.hid (Nat.le_trans HSZ5.out hgs.size)
        refine hK _ _ ⟨_, fun _ h => h, fun hf => (by cases hf), ?_⟩
        clear hK K hgs r2 rf
        try simp only [Act.put, List.setIfInBounds_toArray, List.set_cons_zero, List.set_cons_succ]
        refine wpPlanM_nil (NoPanic.normal ?_)
        have hpl : partL (d + 1) q (xs.take (k + 1)) = ys ++ [x] := HY.out
        have HPL := Lib.hid hpl
        clear hpl
        go_wp2_with fail
        go_roundw
        case rel =>
          exact ⟨k + 1, a8, c8, by omega, by go_num, by rw [HPL.out, List.length_append, entsV_app, entsV_one]; exact HO9.out, HG6.out, HSZ6.out, HB0.out, HB1.out, by rw [HPL.out, List.length_append]; exact HB2.out⟩
        case measure => simp [intOf]; omega
      · have HN := Lib.hid (HN (decide_eq_false hs))
        clear HY
        have hdec : (px == q) = false := by simp [hs]
        clear hs x0 x1 x2 x3
        go_wp2_with fail
        exact ⟨⟨k + 1, ay, cy, by omega, by go_num, by unfold partL; rw [HN.out]; exact OY.out, HG2.out, HSZ2.out, HB0.out, HB1.out, by unfold partL; rw [HN.out]; exact HB2.out⟩, by simp [intOf]; omega⟩
    · obtain rfl : k = xs.length := by omega
      have hki : ¬ (xs.length : Int) < (xs.length : Int) := by omega
      rw [List.take_length] at OY HB2
      obtain ⟨ys, hys⟩ : ∃ ys, partL (d + 1) q xs = ys := ⟨_, rfl⟩
      rw [hys] at OY HB2 
      have HYS := Lib.hid hys
      clear hys ly
      have s0 := HB2.out.cell (j := 0) rfl; have s1 := HB2.out.cell (j := 1) rfl; have s2 := HB2.out.cell (j := 2) rfl
      have t0 := HB1.out.cell (j := 0) rfl; have t1 := HB1.out.cell (j := 1) rfl; have t2 := HB1.out.cell (j := 2) rfl
      have f0 := HB1.out.frozen 0; have f1 := HB1.out.frozen 1; have f2 := HB1.out.frozen 2
      have p2 := HB0.out.cell (j := 2) rfl
      go_wp2_with fail
      have hbf := ((HB1.out.setCell 0 (.int .i64 (d + 1))).setCell 1 (.int .i64 q)).setCell 2 (.slice ay ys.length cy)
      have hgf : wr.grownBy (((wr.setCell ⟨P + 1, 0, none⟩ (.int .i64 (d + 1))).setCell ⟨P + 1, 1, none⟩ (.int .i64 q)).setCell ⟨P + 1, 2, none⟩ (.slice ay ys.length cy)) (some (P + 1)) := grownBy_trans (grownBy_trans (grownBy_setCell _ _ _) (grownBy_setCell _ _ _)) (grownBy_setCell _ _ _)
      simp only [List.set_cons_zero, List.set_cons_succ] at hbf
      have z0 := hbf.cell (j := 0) rfl; have z1 := hbf.cell (j := 1) rfl; have z2 := hbf.cell (j := 2) rfl
      refine bodyPost_ret (v := .agg #[.int .i64 (d + 1), .int .i64 q, .slice ay ys.length cy]) (by simp [results, Try.results29, go_sem, z0, z1, z2]) rfl ?_
      refine ⟨ay, cy, by rw [HYS.out], ?_, grownBy_base2 HG.out hgf (by have := HPW.out; omega)⟩
      rw [HYS.out]
      refine (Rds.of_owns OY.out).grown hgf (fun z hz e => ?_)
      cases hz
      have := (OY.out.lt _ e).1
      omega

end Go.Proofs.Ytddpjfmogjcimaa
