/- package bucket: Put. -/
import Derived.Test.YtddpjfmogjcimaaIns
namespace Go.Proofs.Ytddpjfmogjcimaa
open Go Go.RowKit

/-- A row with an entry put in. -/
def putL (xs : List Ent) (x : Ent) (i : Nat) (has : Bool) : List Ent := xs.take i ++ x :: xs.drop (if has = true then i + 1 else i)
theorem entsV_put (xs : List Ent) (x : Ent) (i : Nat) : entsV (xs.take i ++ x :: xs.drop (i + 1)) = entsV (xs.take i) ++ (x.cells ++ entsV (xs.drop (i + 1))) := by
  rw [entsV_app, show x :: xs.drop (i + 1) = [x] ++ xs.drop (i + 1) from rfl, entsV_app, entsV_one]

set_option maxRecDepth 100000 in
set_option maxHeartbeats 8000000 in
theorem put_any (d p : Int) (xs : List Ent) (x : Ent) (a : Option Addr) (c : Nat) (w : World) (hx : xs.length ≤ 255) (hs : xs.Pairwise (fun x y => U x.h < U y.h)) (hr : Rds w 4 (.slice a xs.length c) xs.length (entsV xs)) :
    Calls Try.prog 26 #[.agg #[.int .i64 d, .int .i64 p, .slice a xs.length c], x.val] w fun e w' => ∃ (i : Nat) (a' : Option Addr) (c' : Nat), Plc xs (U x.h) i ∧ e = .returned (.agg #[.int .i64 d, .int .i64 p, .slice a' (putL xs x i (hasB xs (U x.h) i)).length c']) ∧ Rds w' 4 (.slice a' (putL xs x i (hasB xs (U x.h) i)).length c') (putL xs x i (hasB xs (U x.h) i)).length (entsV (putL xs x i (hasB xs (U x.h) i))) ∧ w.grownBy w' none := by
  have HR := Lib.hid hr
  have HS := Lib.hid hs
  have HXC : Hid (x.cells = [.int .u64 (U x.h), .int .i64 x.r, .int .i64 x.a, .int .i64 x.s]) := Lib.hid rfl
  unfold Ent.val
  obtain ⟨h, hh⟩ : ∃ h, U x.h = h := ⟨_, rfl⟩
  obtain ⟨r, hr'⟩ : ∃ r, x.r = r := ⟨_, rfl⟩
  obtain ⟨at', ha'⟩ : ∃ r, x.a = r := ⟨_, rfl⟩
  obtain ⟨s, hs'⟩ : ∃ r, x.s = r := ⟨_, rfl⟩
  rw [hh, hr', ha', hs'] at HXC
  rw [hh, hr', ha', hs']
  clear hr hs hh hr' ha' hs'
  go_enter Try.func26, Try.ntmps26
  go_wp2_with fail
  obtain ⟨P, hP⟩ : ∃ P, w.heap.size = P := ⟨_, rfl⟩
  obtain ⟨wx, hwx⟩ : ∃ wx, w.alloc (.cells #[.int .i64 d, .int .i64 p, .slice a xs.length c] 29) = wx := ⟨_, rfl⟩
  obtain ⟨wy, hwy⟩ : ∃ wy, wx.alloc (.cells #[.int .u64 h, .int .i64 r, .int .i64 at', .int .i64 s] 41) = wy := ⟨_, rfl⟩
  obtain ⟨w1, hw1⟩ : ∃ w1, wy.alloc (.cells #[.int .i64 0, .int .i64 0, .slice none 0 0] 29) = w1 := ⟨_, rfl⟩
  have hzx : wx.heap.size = P + 1 := by rw [← hwx, World.size_alloc, hP]
  have hzy : wy.heap.size = P + 2 := by rw [← hwy, World.size_alloc, hzx]
  have hb0 : Blk w1 P 29 [.int .i64 d, .int .i64 p, .slice a xs.length c] := by rw [← hw1, ← hwy, ← hwx, ← hP]; exact ((Blk.new w _ _).alloc _).alloc _
  have hb1 : Blk w1 (P + 1) 41 [.int .u64 h, .int .i64 r, .int .i64 at', .int .i64 s] := by rw [← hw1, ← hwy, ← hzx]; exact (Blk.new wx _ _).alloc _
  have hb2 : Blk w1 (P + 1 + 1) 29 [.int .i64 0, .int .i64 0, .slice none 0 0] := by rw [← hw1, ← hzy]; exact Blk.new wy _ _
  have hg1 : w.grownBy w1 none := by rw [← hw1, ← hwy, ← hwx]; exact grownBy_trans (grownBy_trans (World.grownBy_alloc _ _ none) (World.grownBy_alloc _ _ none)) (World.grownBy_alloc _ _ none)
  rw [hwx, hwy, hw1, hP]
  have HB0 := Lib.hid hb0
  have HB1 := Lib.hid hb1
  have HB2 := Lib.hid hb2
  have HG1 := Lib.hid hg1
  have HPW : Hid (w.heap.size = P) := Lib.hid hP
  have HPL := Lib.hid (place_any d p xs h a c w1 (by omega) HS.out (HR.out.grown hg1 (by simp)))
  clear hw1 hwx hwy hzx hzy hb0 hb1 hb2 hg1 hP
  have x0 := HB0.out.cell (j := 0) rfl; have x1 := HB0.out.cell (j := 1) rfl; have x2 := HB0.out.cell (j := 2) rfl
  have y0 := HB1.out.cell (j := 0) rfl
  go_wp2_with fail
  refine HPL.out.mono ?_
  rintro e w2 ⟨i, rfl, hpl, g2⟩
  have HPC := Lib.hid hpl
  have HB0 := Lib.hid (HB0.out.grown g2 (by simp))
  have HB1 := Lib.hid (HB1.out.grown g2 (by simp))
  have HB2 := Lib.hid (HB2.out.grown g2 (by simp))
  have HG2 := Lib.hid (grownBy_trans HG1.out g2)
  have HZ2 : Hid (P + 2 < w2.heap.size) := Lib.hid HB2.out.lt
  clear hpl g2 HG1 HPL x0 x1 x2 y0
  have x0 := HB0.out.cell (j := 0) rfl; have x1 := HB0.out.cell (j := 1) rfl; have x2 := HB0.out.cell (j := 2) rfl
  go_wp2_with fail
  refine (clone_any xs a c w2 (by omega) (HR.out.grown HG2.out (by simp))).mono ?_
  rintro e w3 ⟨v3, rfl, o3, g3⟩
  have HB0 := Lib.hid (HB0.out.grown g3 (by simp))
  have HB1 := Lib.hid (HB1.out.grown g3 (by simp))
  have HB2 := Lib.hid (HB2.out.grown g3 (by simp))
  have HG3 := Lib.hid (grownBy_trans HG2.out g3)
  have HZ3 : Hid (w2.heap.size ≤ w3.heap.size) := Lib.hid g3.size
  have HO3 := Lib.hid o3
  clear o3 g3 HG2 x0 x1 x2
  have hlt : hasB xs h i = true → i < xs.length := fun e => by
    unfold hasB at e
    rw [Bool.and_eq_true] at e
    exact of_decide_eq_true e.1
  obtain ⟨tb, htb⟩ : ∃ tb, hasB xs h i = tb := ⟨_, rfl⟩
  rw [htb] at hlt ⊢
  have HTB := Lib.hid htb
  clear htb
  have x0 := HB0.out.cell (j := 0) rfl; have x1 := HB0.out.cell (j := 1) rfl; have x2 := HB0.out.cell (j := 2) rfl
  have y0 := HB1.out.cell (j := 0) rfl; have y1 := HB1.out.cell (j := 1) rfl; have y2 := HB1.out.cell (j := 2) rfl; have y3 := HB1.out.cell (j := 3) rfl
  cases tb
  · clear hlt
    have hle := HPC.out.le
    go_wp2_with fail
    refine wp_region_planM (fun W => Blk W P 29 [.int .i64 d, .int .i64 p, .slice a xs.length c]) [([0], [1, 2, 3], 4, true), ([], [], 5, true), ([], [], 6, false), ([], [], 7, false)] (by kernel_rfl) (by kernel_rfl) ?_
    obtain ⟨wd, hwd⟩ : ∃ wd, w3.drew = wd := ⟨_, rfl⟩
    have hgd : w3.grownBy wd none := by rw [← hwd]; exact grownBy_drewN w3 1 none
    rw [hwd]
    have HGS : Hid (w3.heap.size ≤ wd.heap.size) := Lib.hid hgd.size
    have HB0 := Lib.hid (HB0.out.grown hgd (by simp))
    have HB1 := Lib.hid (HB1.out.grown hgd (by simp))
    have HB2 := Lib.hid (HB2.out.grown hgd (by simp))
    have HG3 := Lib.hid (grownBy_trans HG3.out hgd)
    have HO3 := Lib.hid (owns_grown HO3.out hgd)
    clear hwd hgd x0 x1 x2 y0 y1 y2 y3
    have y0 := HB1.out.cell (j := 0) rfl; have y1 := HB1.out.cell (j := 1) rfl; have y2 := HB1.out.cell (j := 2) rfl; have y3 := HB1.out.cell (j := 3) rfl
    refine wpPlanM_seg HB0.out ?_
    iterate 1 ((apply wpReadD_step rfl (by rfl); (· intro wS hSw; (try have hSw := hSw rfl); (try dsimp only at hSw); have c0 := hSw.cell (j := 0) rfl; have c1 := hSw.cell (j := 1) rfl; have c2 := hSw.cell (j := 2) rfl; go_simp; (try with_reducible rfl))); try simp only [Act.put, List.setIfInBounds_toArray, List.set_cons_zero, List.set_cons_succ])
    refine wpReadD_nil ?_
    iterate 3 ((apply wpReadD_step rfl (by rfl); (· intro wS hSw; (try have hSw := hSw rfl); (try dsimp only at hSw); (try subst hSw); go_simp; (try with_reducible rfl))); try simp only [Act.put, List.setIfInBounds_toArray, List.set_cons_zero, List.set_cons_succ])
    refine wpReadD_nil ?_
    refine wpOp_list rfl (fun K hK => ?_)
    go_simp
    have hga := World.grownBy_alloc wd (.cells #[.int .u64 h, .int .i64 r, .int .i64 at', .int .i64 s] 41) none
    have HV := Lib.hid (Blk.new wd 41 [.int .u64 h, .int .i64 r, .int .i64 at', .int .i64 s])
    have HB0 := Lib.hid (HB0.out.grown hga (by simp))
    have HB2 := Lib.hid (HB2.out.grown hga (by simp))
    have HO4 := Lib.hid (owns_grown HO3.out hga)
    have HG4 := Lib.hid (grownBy_trans HG3.out hga)
    have HAP : Hid (v3.ownBlock ≠ some wd.heap.size) := Lib.hid (fun e => by have := (HO3.out.lt _ e).2; omega)
    have HBS : Hid (w2.heap.size ≤ (wd.alloc (.cells #[.int .u64 h, .int .i64 r, .int .i64 at', .int .i64 s] 41)).heap.size) := Lib.hid (by
      have h1 := HZ3.out
      have h2 := hga.size
      have h3 := HGS.out
      omega)
    refine hK _ _ ⟨_, fun _ h => h, fun _ => HB0.out, ?_⟩
    clear hK K hga y0 y1 y2 y3
    try simp only [Act.put, List.setIfInBounds_toArray, List.set_cons_zero, List.set_cons_succ]
    refine wpPlanM_here ?_
    refine wpReadD_nil ?_
    refine wpOp_list rfl (fun K hK => ?_)
    go_simp
    refine (insert_any xs x i w2.heap.size wd.heap.size v3 _ hx hle HO4.out (by rw [HXC.out]; exact HV.out) HAP.out HBS.out).mono ?_
    rintro e w5 ⟨v5, rfl, o5, g5⟩
    obtain ⟨a5, c5, rfl⟩ := (Rds.of_owns o5).slice
    dsimp only
    have hrow : ∀ q, v3.ownBlock = some q → w2.heap.size ≤ q := fun q hq => (HO4.out.lt q hq).1
    have HB0 := Lib.hid (HB0.out.grown g5 (fun e => by have := hrow _ e.symm; have := HZ2.out; omega))
    have HB2 := Lib.hid (HB2.out.grown g5 (fun e => by have := hrow _ e.symm; have := HZ2.out; omega))
    have HG5 := Lib.hid (grownBy_own2 HG4.out HO4.out (by have := HZ2.out; have := HPW.out; omega) g5)
    have HO5 := Lib.hid o5
    refine hK _ _ ⟨_, fun _ h => h, fun _ => HB0.out, ?_⟩
    clear hK K o5 g5 hrow
    try simp only [Act.put, List.setIfInBounds_toArray, List.set_cons_zero, List.set_cons_succ]
    refine wpPlanM_here ?_
    refine wpReadD_nil ?_
    refine wpOp_list rfl (fun K hK => ?_)
    go_simp
    refine (with_any d p (.slice a xs.length c) (.slice a5 (xs.length + 1) c5) a a5 _ _ c c5 rfl rfl _).mono ?_
    rintro e w6 ⟨rfl, g6⟩
    dsimp only
    have HB2 := Lib.hid (HB2.out.grown g6 (by simp))
    have HG6 := Lib.hid (grownBy_trans HG5.out g6)
    have HO6 := Lib.hid (owns_grown HO5.out g6)
    refine hK _ _ ⟨_, fun _ h => h, fun hf => (by cases hf), ?_⟩
    clear hK K g6
    try simp only [Act.put, List.setIfInBounds_toArray, List.set_cons_zero, List.set_cons_succ]
    have y0 := HB2.out.cell (j := 0) rfl; have y1 := HB2.out.cell (j := 1) rfl; have y2 := HB2.out.cell (j := 2) rfl
    have f0 := HB2.out.frozen 0; have f1 := HB2.out.frozen 1; have f2 := HB2.out.frozen 2
    refine wpPlanM_here ?_
    refine wpReadD_nil ?_
    refine wpOp_list rfl (fun K hK => ?_)
    go_simp
    refine hK _ _ ⟨_, fun _ h => h, fun hf => (by cases hf), ?_⟩
    clear hK K
    try simp only [Act.put, List.setIfInBounds_toArray, List.set_cons_zero, List.set_cons_succ]
    refine wpPlanM_nil (NoPanic.normal ?_)
    go_wp2_with fail
    have hbf := ((HB2.out.setCell 0 (.int .i64 d)).setCell 1 (.int .i64 p)).setCell 2 (.slice a5 (xs.length + 1) c5)
    have hgf : w6.grownBy (((w6.setCell ⟨P + 1 + 1, 0, none⟩ (.int .i64 d)).setCell ⟨P + 1 + 1, 1, none⟩ (.int .i64 p)).setCell ⟨P + 1 + 1, 2, none⟩ (.slice a5 (xs.length + 1) c5)) (some (P + 1 + 1)) := grownBy_trans (grownBy_trans (grownBy_setCell _ _ _) (grownBy_setCell _ _ _)) (grownBy_setCell _ _ _)
    simp only [List.set_cons_zero, List.set_cons_succ] at hbf
    have z0 := hbf.cell (j := 0) rfl; have z1 := hbf.cell (j := 1) rfl; have z2 := hbf.cell (j := 2) rfl
    refine bodyPost_ret (v := .agg #[.int .i64 d, .int .i64 p, .slice a5 (xs.length + 1) c5]) (by simp [results, Try.results26, go_sem, z0, z1, z2]) rfl ?_
    have hput : putL xs x i (hasB xs h i) = xs.take i ++ x :: xs.drop i := by rw [HTB.out]; rfl
    have hll : (xs.take i ++ x :: xs.drop i).length = xs.length + 1 := by rw [List.length_append, List.length_cons, List.length_take, List.length_drop]; omega
    refine ⟨i, a5, c5, HPC.out, by rw [hput, hll], ?_, grownBy_base2 HG6.out hgf (by have := HPW.out; omega)⟩
    rw [hput, hll]
    refine (Rds.of_owns HO6.out).grown hgf (fun q hq e => ?_)
    cases hq
    have h1 := (HO6.out.lt _ e).1
    have h2 := HZ2.out
    omega
  · have hil := hlt rfl
    clear hlt
    obtain ⟨g, cv, sp, rfl, hB, hb, hnc, hcm, hl⟩ := row_parts HO3.out (by omega)
    have hspl := ents_split xs i hil
    have hl1 : (entsV (xs.take i)).length = i * 4 := by rw [entsV_len, List.length_take]; congr 1; omega
    have hb' : Blk w3 g tE (entsV (xs.take i) ++ ((xs.getD i Ent.zero).cells ++ (entsV (xs.drop (i + 1)) ++ sp))) := by
      rw [hspl] at hb
      rw [← List.append_assoc (xs.getD i Ent.zero).cells, ← List.append_assoc]
      exact hb
    have hgr : ∀ j, j < 4 → (∃ u, w3.cell? ⟨g, i * 4 + j, none⟩ = some u) := fun j hj => by
      refine ⟨(xs.getD i Ent.zero).cells[j]'(by exact hj), hb'.cell ?_⟩
      rw [List.getElem?_append_right (by omega), hl1, show i * 4 + j - i * 4 = j by omega, List.getElem?_append_left (by exact hj)]
      exact List.getElem?_eq_getElem _
    obtain ⟨u0, q0⟩ := hgr 0 (by omega)
    obtain ⟨u1, q1⟩ := hgr 1 (by omega)
    obtain ⟨u2, q2⟩ := hgr 2 (by omega)
    obtain ⟨u3, q3⟩ := hgr 3 (by omega)
    rw [Nat.add_zero] at q0
    have qf0 := hb'.frozen (i * 4); have qf1 := hb'.frozen (i * 4 + 1); have qf2 := hb'.frozen (i * 4 + 2); have qf3 := hb'.frozen (i * 4 + 3)
    have hii : (i : Int) < (xs.length : Int) := by omega
    obtain ⟨wl, hwl⟩ : ∃ wl, (((w3.setCell ⟨g, i * 4, none⟩ (.int .u64 h)).setCell ⟨g, i * 4 + 1, none⟩ (.int .i64 r)).setCell ⟨g, i * 4 + 2, none⟩ (.int .i64 at')).setCell ⟨g, i * 4 + 3, none⟩ (.int .i64 s) = wl := ⟨_, rfl⟩
    have hwl2 : w3.setCells g (i * 4) x.cells = wl := by rw [HXC.out, ← hwl]; rfl
    have hbl : Blk wl g tE ((entsV (xs.take i) ++ (x.cells ++ entsV (xs.drop (i + 1)))) ++ sp) := by
      have := blk_setCells g tE x.cells (xs.getD i Ent.zero).cells (entsV (xs.take i)) (entsV (xs.drop (i + 1)) ++ sp) w3 rfl hb'
      rw [hl1, hwl2] at this
      rw [List.append_assoc, List.append_assoc]
      exact this
    have hgl : w3.grownBy wl (some g) := by rw [← hwl2]; exact grownBy_setCells g _ _ _
    have hgs : P + 2 < g := Nat.lt_of_lt_of_le HZ2.out hB
    have HB0 := Lib.hid (HB0.out.grown hgl (by simp; omega))
    have HB2 := Lib.hid (HB2.out.grown hgl (by simp; omega))
    have HG5 := Lib.hid (grownBy_base2 HG3.out hgl (by have := HPW.out; omega))
    have hll : (xs.take i ++ x :: xs.drop (i + 1)).length = xs.length := by rw [List.length_append, List.length_cons, List.length_take, List.length_drop]; omega
    have HO5 : Hid (wl.ownsRow w2.heap.size tE 4 (.slice (some ⟨g, 0, none⟩) xs.length cv) xs.length (entsV (xs.take i ++ x :: xs.drop (i + 1)))) := Lib.hid (by
      rw [entsV_put]
      refine row_make hbl hB hnc hcm ?_ ?_
      · rw [hspl] at hl
        simp only [List.length_append] at hl ⊢
        exact hl
      · rw [← entsV_put, entsV_len, hll])
    have HLL := Lib.hid hll
    have z0 := HB0.out.cell (j := 0) rfl; have z1 := HB0.out.cell (j := 1) rfl; have z2 := HB0.out.cell (j := 2) rfl
    clear hB hb hnc hcm hl hspl hl1 hb' hgr hwl2 hbl hgl hgs hll
    go_wp2_with fail
    refine (with_any d p (.slice a xs.length c) (.slice (some ⟨g, 0, none⟩) xs.length cv) a (some ⟨g, 0, none⟩) _ _ c cv rfl rfl _).mono ?_
    rintro e w6 ⟨rfl, g6⟩
    have HB2 := Lib.hid (HB2.out.grown g6 (by simp))
    have HG6 := Lib.hid (grownBy_trans HG5.out g6)
    have HO6 := Lib.hid (owns_grown HO5.out g6)
    clear g6 hwl x0 x1 x2 y0 y1 y2 y3 q0 q1 q2 q3 qf0 qf1 qf2 qf3 z0 z1 z2
    have y0 := HB2.out.cell (j := 0) rfl; have y1 := HB2.out.cell (j := 1) rfl; have y2 := HB2.out.cell (j := 2) rfl
    have f0 := HB2.out.frozen 0; have f1 := HB2.out.frozen 1; have f2 := HB2.out.frozen 2
    go_wp2_with fail
    have hbf := ((HB2.out.setCell 0 (.int .i64 d)).setCell 1 (.int .i64 p)).setCell 2 (.slice (some ⟨g, 0, none⟩) xs.length cv)
    have hgf : w6.grownBy (((w6.setCell ⟨P + 1 + 1, 0, none⟩ (.int .i64 d)).setCell ⟨P + 1 + 1, 1, none⟩ (.int .i64 p)).setCell ⟨P + 1 + 1, 2, none⟩ (.slice (some ⟨g, 0, none⟩) xs.length cv)) (some (P + 1 + 1)) := grownBy_trans (grownBy_trans (grownBy_setCell _ _ _) (grownBy_setCell _ _ _)) (grownBy_setCell _ _ _)
    simp only [List.set_cons_zero, List.set_cons_succ] at hbf
    have z0 := hbf.cell (j := 0) rfl; have z1 := hbf.cell (j := 1) rfl; have z2 := hbf.cell (j := 2) rfl
    refine bodyPost_ret (v := .agg #[.int .i64 d, .int .i64 p, .slice (some ⟨g, 0, none⟩) xs.length cv]) (by simp [results, Try.results26, go_sem, z0, z1, z2]) rfl ?_
    have hput : putL xs x i (hasB xs h i) = xs.take i ++ x :: xs.drop (i + 1) := by rw [HTB.out]; rfl
    refine ⟨i, some ⟨g, 0, none⟩, cv, HPC.out, by rw [hput, HLL.out], ?_, grownBy_base2 HG6.out hgf (by have := HPW.out; omega)⟩
    rw [hput, HLL.out]
    refine (Rds.of_owns HO6.out).grown hgf (fun q hq e => ?_)
    cases hq
    have h1 := (HO6.out.lt _ e).1
    have h2 := HZ2.out
    omega

end Go.Proofs.Ytddpjfmogjcimaa
