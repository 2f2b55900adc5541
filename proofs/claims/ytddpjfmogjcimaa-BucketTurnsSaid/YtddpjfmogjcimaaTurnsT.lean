/- Layer 14: BucketTurns. -/
import Derived.Test.YtddpjfmogjcimaaTurnL
namespace Go.Proofs.Ytddpjfmogjcimaa
open Go Go.RowKit Go.WideShapes Go.ChangeShapes Go.ChangeAt
attribute [local irreducible] Calls

set_option maxRecDepth 100000 in
set_option maxHeartbeats 16000000 in
theorem bucketTurns_T (d p : Int) (xs : List Ent) (a : Option Addr) (c : Nat) (x : Ent) (o : Int) (w : World) (hr : Rds w 4 (.slice a xs.length c) xs.length (entsV xs)) (hn : ∀ i, Plc xs (U x.h) i → hasB xs (U x.h) i = true) :
    Calls Try.prog 8 #[.agg #[.int .i64 d, .int .i64 p, .slice a xs.length c], x.val, .int .i64 o] w fun e w' => e = .returned (.bool true) ∧ Below w.heap.size w w' := by
  have HN := Lib.hid hn
  clear hn
  have HXV : Hid (x.val = .agg #[.int .u64 (U x.h), .int .i64 x.r, .int .i64 x.a, .int .i64 x.s]) := Lib.hid rfl
  rw [HXV.out]
  by_cases hbig : 255 < xs.length
  · have hbi : (255 : Int) < xs.length := by omega
    have hm := hr.2.1
    unfold maxLen at hm
    clear HXV
    go_enter Try.func8, Try.ntmps8
    go_wp2_with fail
    go_ret
    exact ⟨rfl, below_grownBy (grownBy_trans (World.grownBy_alloc _ _ none) (World.grownBy_alloc _ _ none))⟩
  have hle : xs.length ≤ 255 := by omega
  have HR := Lib.hid hr
  have hri := fun W hW => rright_any d p 255 xs a c W hW
  clear hr hbig
  obtain ⟨w1, hw1⟩ : ∃ w1, (w.alloc (.cells #[.int .i64 d, .int .i64 p, .slice a xs.length c] 24)).alloc (.cells #[.int .u64 (U x.h), .int .i64 x.r, .int .i64 x.a, .int .i64 x.s] 44) = w1 := ⟨_, rfl⟩
  have hb0 : Blk w1 w.heap.size 24 [.int .i64 d, .int .i64 p, .slice a xs.length c] := by rw [← hw1]; exact (Blk.new w _ _).alloc _
  have hb1 : Blk w1 (w.heap.size + 1) 44 [.int .u64 (U x.h), .int .i64 x.r, .int .i64 x.a, .int .i64 x.s] := by
    rw [← hw1]
    have := Blk.new (w.alloc (.cells #[.int .i64 d, .int .i64 p, .slice a xs.length c] 24)) 44 [.int .u64 (U x.h), .int .i64 x.r, .int .i64 x.a, .int .i64 x.s]
    rw [World.size_alloc] at this
    exact this
  have hg1 : w.grownBy w1 none := by rw [← hw1]; exact grownBy_trans (World.grownBy_alloc _ _ none) (World.grownBy_alloc _ _ none)
  have HB0 := Lib.hid hb0
  have HB1 := Lib.hid hb1
  have HG1 := Lib.hid hg1
  have t0 := hb0.cell (j := 0) rfl; have t1 := hb0.cell (j := 1) rfl; have t2 := hb0.cell (j := 2) rfl
  clear hb0 hb1 hg1
  cases hB : rightB d p 255 xs
  · rw [hB] at hri
    have HRI := Lib.hid hri
    clear hri hB HXV
    go_enter Try.func8, Try.ntmps8
    go_wp2_with fail
    refine (HRI.out _ (HR.out.grown HG1.out (by simp))).mono ?_
    rintro e w2 ⟨rfl, g1⟩
    have h0 := (HB0.out.grown g1 (by simp)).cell (j := 2) rfl
    have HG2 := Lib.hid (grownBy_trans HG1.out g1)
    clear g1
    go_wp2_with fail
    refine (awake_any _).mono ?_
    rintro e w3 ⟨rfl, g2⟩
    have HG3 := Lib.hid (grownBy_trans HG2.out g2)
    clear g2
    go_wp2_with fail
    go_ret
    exact ⟨rfl, below_grownBy HG3.out⟩
  · rw [hB] at hri
    have HRI := Lib.hid hri
    have HRB := Lib.hid hB
    have hrt := rightB_true hB
    have HSO := Lib.hid (rightB_iff.1 hB).2.2
    clear hri hB
    go_enter Try.func8, Try.ntmps8
    have HRT := Lib.hid hrt
    clear hrt
    go_wp2_with fail
    refine (HRI.out _ (HR.out.grown HG1.out (by simp))).mono ?_
    rintro e w2 ⟨rfl, g1⟩
    have HB0 := Lib.hid (HB0.out.grown g1 (by simp))
    have HB1 := Lib.hid (HB1.out.grown g1 (by simp))
    have HG2 := Lib.hid (grownBy_trans HG1.out g1)
    clear g1 t0 t1 t2 hw1
    obtain ⟨TP, hTP⟩ : ∃ T, w.heap.size = T := ⟨_, rfl⟩
    rw [hTP] at HB0 HB1 ⊢
    clear hTP
    obtain ⟨X1, hX1⟩ : ∃ X, TP + 1 = X := ⟨_, rfl⟩
    rw [hX1] at HB1 ⊢
    clear hX1
    obtain ⟨h, hh⟩ : ∃ h, U x.h = h := ⟨_, rfl⟩
    obtain ⟨r, hr'⟩ : ∃ r, x.r = r := ⟨_, rfl⟩
    obtain ⟨at', ha'⟩ : ∃ r, x.a = r := ⟨_, rfl⟩
    obtain ⟨s, hs'⟩ : ∃ r, x.s = r := ⟨_, rfl⟩
    rw [hh, hr', ha', hs'] at HXV HB1 ⊢
    have HUH := Lib.hid hh
    clear hh hr' ha' hs'
    have t0 := HB0.out.cell (j := 0) rfl; have t1 := HB0.out.cell (j := 1) rfl; have t2 := HB0.out.cell (j := 2) rfl
    go_wp2_with fail
    refine (of14_any d p xs a c _ (by omega) (HR.out.grown HG2.out (by simp))).mono ?_
    rintro e w3 ⟨v3, rfl, o3, g3⟩
    obtain ⟨a2, c2, rfl⟩ := (Rds.of_owns o3).slice
    have hga := World.grownBy_alloc w3 (.cells #[.int .i64 d, .int .i64 p, .slice a2 xs.length c2] 29) none
    have HPB := Lib.hid (Blk.new w3 29 [.int .i64 d, .int .i64 p, .slice a2 xs.length c2])
    have HB0 := Lib.hid (HB0.out.grown (grownBy_trans g3 hga) (by simp))
    have HB1 := Lib.hid (HB1.out.grown (grownBy_trans g3 hga) (by simp))
    have HG3 := Lib.hid (grownBy_trans HG2.out (grownBy_trans g3 hga))
    have HPR := Lib.hid ((Rds.of_owns o3).grown hga (by simp))
    clear o3 g3 hga t0 t1 t2
    have x0 := HB1.out.cell (j := 0) rfl
    go_wp2_with fail
    obtain ⟨PB, hPB⟩ : ∃ P, w3.heap.size = P := ⟨_, rfl⟩
    obtain ⟨w4, hw4⟩ : ∃ w4, w3.alloc (.cells #[.int .i64 d, .int .i64 p, .slice a2 xs.length c2] 29) = w4 := ⟨_, rfl⟩
    rw [hPB, hw4] at HPB
    rw [hw4] at HB0 HB1 HG3 HPR x0
    rw [hPB, hw4]
    clear hPB hw4
    refine (pfind_any d p xs h a2 c2 w4 (by omega) HSO.out HPR.out).mono ?_
    rintro e w5 ⟨i, hpl, rfl, g5⟩
    have HPL := Lib.hid hpl
    clear hpl
    obtain ⟨y, hy⟩ : ∃ y, (if hasB xs h i = true then xs.getD i Ent.zero else Ent.zero) = y := ⟨_, rfl⟩
    rw [hy, show locV y = .agg #[.int .i64 y.r, .int .i64 y.a, .int .i64 y.s] from rfl]
    obtain ⟨tb, htb⟩ : ∃ b, hasB xs h i = b := ⟨_, rfl⟩
    rw [htb] at hy ⊢
    have HY := Lib.hid hy
    have HTB := Lib.hid htb
    clear hy htb
    obtain ⟨yr, hyr⟩ : ∃ z, y.r = z := ⟨_, rfl⟩
    obtain ⟨ya, hya⟩ : ∃ z, y.a = z := ⟨_, rfl⟩
    obtain ⟨ys, hys⟩ : ∃ z, y.s = z := ⟨_, rfl⟩
    rw [hyr, hya, hys]
    have HYR := Lib.hid hyr
    have HYA := Lib.hid hya
    have HYS := Lib.hid hys
    clear hyr hya hys
    have hga := World.grownBy_alloc w5 (.cells #[.int .i64 yr, .int .i64 ya, .int .i64 ys] 39) none
    have HLB := Lib.hid (Blk.new w5 39 [.int .i64 yr, .int .i64 ya, .int .i64 ys])
    have HB0 := Lib.hid (HB0.out.grown (grownBy_trans g5 hga) (by simp))
    have HB1 := Lib.hid (HB1.out.grown (grownBy_trans g5 hga) (by simp))
    have HPB := Lib.hid (HPB.out.grown (grownBy_trans g5 hga) (by simp))
    have HG5 := Lib.hid (grownBy_trans HG3.out (grownBy_trans g5 hga))
    have HPR := Lib.hid (HPR.out.grown (grownBy_trans g5 hga) (by simp))
    clear g5 hga x0 HG3
    have t0 := HB0.out.cell (j := 0) rfl; have t1 := HB0.out.cell (j := 1) rfl; have t2 := HB0.out.cell (j := 2) rfl
    have x0 := HB1.out.cell (j := 0) rfl
    go_wp2_with fail
    obtain ⟨LB, hLB⟩ : ∃ P, w5.heap.size = P := ⟨_, rfl⟩
    obtain ⟨w6, hw6⟩ : ∃ w6, w5.alloc (.cells #[.int .i64 yr, .int .i64 ya, .int .i64 ys] 39) = w6 := ⟨_, rfl⟩
    rw [hLB, hw6] at HLB
    rw [hw6] at HB0 HB1 HPB HPR HG5
    rw [hLB, hw6]
    clear hLB hw6 t0 t1 t2 x0
    refine (rfind_any d p h xs a c w6 (by omega) (HR.out.grown HG5.out (by simp))).mono ?_
    rintro e w7 ⟨q, rfl, hq, g7⟩
    have HB0 := Lib.hid (HB0.out.grown g7 (by simp))
    have HB1 := Lib.hid (HB1.out.grown g7 (by simp))
    have HPB := Lib.hid (HPB.out.grown g7 (by simp))
    have HLB := Lib.hid (HLB.out.grown g7 (by simp))
    have HG7 := Lib.hid (grownBy_trans HG5.out g7)
    have HPR := Lib.hid (HPR.out.grown g7 (by simp))
    clear g7 HG5
    have t0 := HB0.out.cell (j := 0) rfl; have t1 := HB0.out.cell (j := 1) rfl; have t2 := HB0.out.cell (j := 2) rfl
    have x0 := HB1.out.cell (j := 0) rfl; have x1 := HB1.out.cell (j := 1) rfl; have x2 := HB1.out.cell (j := 2) rfl; have x3 := HB1.out.cell (j := 3) rfl
    have l0 := HLB.out.cell (j := 0) rfl; have l1 := HLB.out.cell (j := 1) rfl; have l2 := HLB.out.cell (j := 2) rfl
    have HBR := Lib.hid (HR.out.grown HG7.out (by simp))
    cases tb
    · have := HN.out i (by rw [HUH.out]; exact HPL.out)
      rw [HUH.out, HTB.out] at this
      cases this
    · have hq1 : q = i ∧ i < xs.length := by
        have hb := HTB.out
        unfold hasB at hb
        rw [Bool.and_eq_true] at hb
        have hil := of_decide_eq_true hb.1
        have hie := of_decide_eq_true hb.2
        rcases hq with ⟨_, h2⟩ | ⟨j, h1, hj, he⟩
        · exact absurd hie (h2 i hil)
        · exact ⟨by rw [h1, (has_at HSO.out HPL.out hj he).1], hil⟩
      obtain ⟨rfl, hil⟩ := hq1
      have hy := HY.out
      rw [if_pos rfl] at hy
      clear hq
      obtain ⟨b, o', hab, hc⟩ := HBR.out.at' (by omega)
      rw [hab] at t2
      clear hab
      obtain ⟨e0, e1, e2, e3⟩ := entsV_cells xs i hil
      rw [hy] at e0 e1 e2 e3
      rw [HYR.out] at e1
      rw [HYA.out] at e2
      rw [HYS.out] at e3
      obtain ⟨yh, hyh⟩ : ∃ z, U y.h = z := ⟨_, rfl⟩
      rw [hyh] at e0
      have y0 := hc _ _ e0; have y1 := hc _ _ e1; have y2 := hc _ _ e2; have y3 := hc _ _ e3
      simp only [← Nat.add_assoc] at y1 y2 y3
      have hlti : (i : Int) < (xs.length : Int) := by omega
      have hi0 : (0 : Int) ≤ (i : Int) := by omega
      clear hc e0 e1 e2 e3 hy hyh
      go_wp2_with fail
      have t0 := gw_cell t0; have t1 := gw_cell t1; have t2 := gw_cell t2
      have l0 := gw_cell l0; have l1 := gw_cell l1; have l2 := gw_cell l2
      have y0 := gw_cell y0; have y1 := gw_cell y1; have y2 := gw_cell y2; have y3 := gw_cell y3
      refine wp_region_grown (by kernel_rfl) (by kernel_rfl) ?_
      repeat (go_big_quiet_step ((go_at_call 16; exact calls_grown' (entry_any _ _ _ _) _)))
      go_big_quiet_want
      go_big_quiet_op
      refine ⟨.agg #[.int .i64 yr, .int .i64 ya, .int .i64 ys], fun a => ⟨rfl, rfl⟩, ?_⟩
      (try simp only [Act.put, List.setIfInBounds_toArray, List.set_cons_zero, List.set_cons_succ])
      go_big_quiet_on
      repeat (go_big_quiet_step (fail))
      refine wpQuiet_nil ?_
      rintro w8 ⟨g, rfl⟩
      have G8 := Lib.hid (gw_grown g)
      obtain ⟨w8, hw8⟩ : ∃ w8, gw g = w8 := ⟨_, rfl⟩
      rw [hw8] at G8 ⊢
      clear hw8 t0 t1 t2 x0 x1 x2 x3 l0 l1 l2 y0 y1 y2 y3 hlti hi0
      have HB0 := Lib.hid (HB0.out.grown G8.out (by simp))
      have HB1 := Lib.hid (HB1.out.grown G8.out (by simp))
      have HPB := Lib.hid (HPB.out.grown G8.out (by simp))
      have HPR := Lib.hid (HPR.out.grown G8.out (by simp))
      have HG8 := Lib.hid (grownBy_trans HG7.out G8.out)
      clear G8
      have x0 := HB1.out.cell (j := 0) rfl
      have p0 := HPB.out.cell (j := 0) rfl; have p1 := HPB.out.cell (j := 1) rfl; have p2 := HPB.out.cell (j := 2) rfl
      go_wp2_with fail
      refine (drop_any d p xs h a2 c2 w8 (by omega) HSO.out HPR.out).mono ?_
      rintro e w9 ⟨j, a5, c5, Z, hj, hz, rfl, oz, g9⟩
      have hji := plc_unique hj HPL.out
      rw [hji] at hz ⊢
      have HZ : Hid (dropL h xs = Z) := Lib.hid (by rw [hz]; exact (dropL_eq HSO.out HPL.out).symm)
      rw [HTB.out]
      have hga := World.grownBy_alloc w9 (.cells #[.int .i64 d, .int .i64 p, .slice a5 Z.length c5] 29) none
      have HDB := Lib.hid (Blk.new w9 29 [.int .i64 d, .int .i64 p, .slice a5 Z.length c5])
      have HB0 := Lib.hid (HB0.out.grown (grownBy_trans g9 hga) (by simp))
      have HB1 := Lib.hid (HB1.out.grown (grownBy_trans g9 hga) (by simp))
      have HPB := Lib.hid (HPB.out.grown (grownBy_trans g9 hga) (by simp))
      have HPR := Lib.hid (HPR.out.grown (grownBy_trans g9 hga) (by simp))
      have HZR := Lib.hid ((Rds.of_owns oz).grown hga (by simp))
      have HG9 := Lib.hid (grownBy_trans HG8.out (grownBy_trans g9 hga))
      clear hji hj hz oz g9 hga x0 p0 p1 p2 HG8
      have p0 := HPB.out.cell (j := 0) rfl; have p1 := HPB.out.cell (j := 1) rfl; have p2 := HPB.out.cell (j := 2) rfl
      go_wp2_with fail
      obtain ⟨DP, hDP⟩ : ∃ P, w9.heap.size = P := ⟨_, rfl⟩
      obtain ⟨w10, hw10⟩ : ∃ w10, w9.alloc (.cells #[.int .i64 d, .int .i64 p, .slice a5 Z.length c5] 29) = w10 := ⟨_, rfl⟩
      rw [hDP, hw10] at HDB
      rw [hw10] at HB0 HB1 HPB HPR HZR HG9
      rw [hDP, hw10]
      clear hDP hw10 p0 p1 p2
      have hrt := HRT.out
      refine (split_any d p (by omega) (by omega) (by omega) (by omega) xs a2 c2 w10 (by omega) HPR.out).mono ?_
      clear hrt
      rintro e w11 ⟨a6, c6, a7, c7, rfl, o6, o7, g11⟩
      have HN0 : Hid (partL (d + 1) (2 * p + 0) xs = xs.filter (fun x => !oneS d x)) := Lib.hid (part_eq0 HRB.out (by have := HRT.out; omega) (by have := HRT.out; omega))
      have HN1 : Hid (partL (d + 1) (2 * p + 1) xs = xs.filter (oneS d)) := Lib.hid (part_eq1 HRB.out (by have := HRT.out; omega) (by have := HRT.out; omega))
      obtain ⟨N0, hN0⟩ : ∃ N, xs.filter (fun x => !oneS d x) = N := ⟨_, rfl⟩
      obtain ⟨N1, hN1⟩ : ∃ N, xs.filter (oneS d) = N := ⟨_, rfl⟩
      rw [hN0] at HN0 o6 ⊢
      rw [hN1] at HN1 o7 ⊢
      clear hN0 hN1
      have hga := World.grownBy_alloc w11 (.cells #[.int .i64 (d + 1), .int .i64 (2 * p), .slice a6 N0.length c6, .int .i64 (d + 1), .int .i64 (2 * p + 1), .slice a7 N1.length c7] 35) none
      have HSP := Lib.hid (Blk.new w11 35 [.int .i64 (d + 1), .int .i64 (2 * p), .slice a6 N0.length c6, .int .i64 (d + 1), .int .i64 (2 * p + 1), .slice a7 N1.length c7])
      have HB0 := Lib.hid (HB0.out.grown (grownBy_trans g11 hga) (by simp))
      have HB1 := Lib.hid (HB1.out.grown (grownBy_trans g11 hga) (by simp))
      have HPB := Lib.hid (HPB.out.grown (grownBy_trans g11 hga) (by simp))
      have HDB := Lib.hid (HDB.out.grown (grownBy_trans g11 hga) (by simp))
      have HPR := Lib.hid (HPR.out.grown (grownBy_trans g11 hga) (by simp))
      have HZR := Lib.hid (HZR.out.grown (grownBy_trans g11 hga) (by simp))
      have HR0 := Lib.hid ((Rds.of_owns o6).grown hga (by simp))
      have HR1 := Lib.hid ((Rds.of_owns o7).grown hga (by simp))
      have HG9 := Lib.hid (grownBy_trans HG9.out (grownBy_trans g11 hga))
      clear o6 o7 g11 hga
      go_wp2_with fail
      obtain ⟨SP, hSP⟩ : ∃ P, w11.heap.size = P := ⟨_, rfl⟩
      obtain ⟨wr, hwr⟩ : ∃ wr, w11.alloc (.cells #[.int .i64 (d + 1), .int .i64 (2 * p), .slice a6 N0.length c6, .int .i64 (d + 1), .int .i64 (2 * p + 1), .slice a7 N1.length c7] 35) = wr := ⟨_, rfl⟩
      rw [hSP, hwr] at HSP
      rw [hwr] at HB0 HB1 HPB HDB HPR HZR HR0 HR1 HG9
      rw [hSP, hwr]
      clear hSP hwr
      have HBR := Lib.hid (HR.out.grown HG9.out (by simp))
      have HT0 := Lib.hid (HB0.out.cell (j := 0) rfl); have HT1 := Lib.hid (HB0.out.cell (j := 1) rfl); have HT2 := Lib.hid (HB0.out.cell (j := 2) rfl)
      have HX0 := Lib.hid (HB1.out.cell (j := 0) rfl); have HX1 := Lib.hid (HB1.out.cell (j := 1) rfl); have HX2 := Lib.hid (HB1.out.cell (j := 2) rfl); have HX3 := Lib.hid (HB1.out.cell (j := 3) rfl)
      have HP0 := Lib.hid (HPB.out.cell (j := 0) rfl); have HP1 := Lib.hid (HPB.out.cell (j := 1) rfl); have HP2 := Lib.hid (HPB.out.cell (j := 2) rfl)
      have HD0 := Lib.hid (HDB.out.cell (j := 0) rfl); have HD1 := Lib.hid (HDB.out.cell (j := 1) rfl); have HD2 := Lib.hid (HDB.out.cell (j := 2) rfl)
      have HS0 := Lib.hid (HSP.out.cell (j := 0) rfl); have HS1 := Lib.hid (HSP.out.cell (j := 1) rfl); have HS2 := Lib.hid (HSP.out.cell (j := 2) rfl)
      have HS3 := Lib.hid (HSP.out.cell (j := 3) rfl); have HS4 := Lib.hid (HSP.out.cell (j := 4) rfl); have HS5 := Lib.hid (HSP.out.cell (j := 5) rfl)
      obtain ⟨Y, hY⟩ : ∃ Y, putL xs x i true = Y := ⟨_, rfl⟩
      have HPUT := Lib.hid (show ∀ W, wr.grownBy W none → Calls Try.prog 26 #[.agg #[.int .i64 d, .int .i64 p, .slice a2 xs.length c2], .agg #[.int .u64 h, .int .i64 r, .int .i64 at', .int .i64 s]] W (fun e w' => ∃ (a' : Option Addr) (c' : Nat), e = .returned (.agg #[.int .i64 d, .int .i64 p, .slice a' Y.length c']) ∧ Rds w' 4 (.slice a' Y.length c') Y.length (entsV Y) ∧ W.grownBy w' none) from fun W hG => by
        have := put_any d p xs x a2 c2 W (by omega) HSO.out (HPR.out.grown hG (by simp))
        rw [HXV.out, HUH.out] at this
        refine this.mono ?_
        rintro e w' ⟨k, a', c', hk, rfl, hr', g⟩
        obtain rfl := plc_unique hk HPL.out
        rw [HTB.out, hY] at hr' ⊢
        exact ⟨a', c', rfl, hr', g⟩)
      have HRPUT := Lib.hid (show ∀ W, wr.grownBy W none → Calls Try.prog 27 #[.agg #[.int .i64 d, .int .i64 p, .slice a xs.length c], .agg #[.int .u64 h, .int .i64 r, .int .i64 at', .int .i64 s]] W (fun e w' => ∃ (a' : Option Addr) (c' : Nat), e = .returned (.agg #[.int .i64 d, .int .i64 p, .slice a' Y.length c']) ∧ Rds w' 4 (.slice a' Y.length c') Y.length (entsV Y) ∧ W.grownBy w' none) from fun W hG => by
        have := rput_any d p xs x a c W (by omega) HSO.out (HBR.out.grown hG (by simp))
        rw [HXV.out, HUH.out] at this
        refine this.mono ?_
        rintro e w' ⟨k, a', c', hk, rfl, hr', g⟩
        obtain rfl := plc_unique hk HPL.out
        rw [HTB.out, hY] at hr' ⊢
        exact ⟨a', c', rfl, hr', g⟩)
      have HRDR := Lib.hid (show ∀ W, wr.grownBy W none → Calls Try.prog 28 #[.agg #[.int .i64 d, .int .i64 p, .slice a xs.length c], .int .u64 h] W (fun e w' => ∃ (a' : Option Addr) (c' : Nat), e = .returned (.agg #[.int .i64 d, .int .i64 p, .slice a' Z.length c']) ∧ Rds w' 4 (.slice a' Z.length c') Z.length (entsV Z) ∧ W.grownBy w' none) from fun W hG => by
        refine (rdrop_any d p h xs a c W (by omega) (HBR.out.grown hG (by simp))).mono ?_
        rintro e w' ⟨v, rfl, ho, g⟩
        obtain ⟨a', c', rfl⟩ := (Rds.of_owns ho).slice
        have hr' := Rds.of_owns ho
        rw [HZ.out] at hr' ⊢
        exact ⟨a', c', rfl, hr', g⟩)
      have HFR := Lib.hid (show ∀ W, wr.grownBy W none → Calls Try.prog 11 #[.agg #[.int .i64 d, .int .i64 p, .slice a2 xs.length c2], .int .i64 o] W (fun e w' => ∃ (a' : Option Addr) (c' : Nat), e = .returned (.agg #[.int .i64 d, .int .i64 p, .slice a' (freshL o xs).length c']) ∧ Rds w' 4 (.slice a' (freshL o xs).length c') (freshL o xs).length (entsV (freshL o xs)) ∧ W.grownBy w' none) from fun W hG => by
        refine (fresh_any d p o xs a2 c2 W (by omega) (HPR.out.grown hG (by simp))).mono ?_
        rintro e w' ⟨v, rfl, ho, g⟩
        obtain ⟨a', c', rfl⟩ := (Rds.of_owns ho).slice
        exact ⟨a', c', rfl, Rds.of_owns ho, g⟩)
      have HRFR := Lib.hid (show ∀ W, wr.grownBy W none → Calls Try.prog 13 #[.agg #[.int .i64 d, .int .i64 p, .slice a xs.length c], .int .i64 o] W (fun e w' => ∃ (a' : Option Addr) (c' : Nat), e = .returned (.agg #[.int .i64 d, .int .i64 p, .slice a' (freshL o xs).length c']) ∧ Rds w' 4 (.slice a' (freshL o xs).length c') (freshL o xs).length (entsV (freshL o xs)) ∧ W.grownBy w' none) from fun W hG => by
        refine (rfresh_any d p o xs a c W (by omega) (HBR.out.grown hG (by simp))).mono ?_
        rintro e w' ⟨v, rfl, ho, g⟩
        obtain ⟨a', c', rfl⟩ := (Rds.of_owns ho).slice
        exact ⟨a', c', rfl, Rds.of_owns ho, g⟩)
      have HSA := Lib.hid (show ∀ W, wr.grownBy W none → Calls Try.prog 29 #[.agg #[.int .i64 d, .int .i64 p, .slice a xs.length c], .int .i64 0] W (fun e w' => ∃ (a' : Option Addr) (c' : Nat), e = .returned (.agg #[.int .i64 (d + 1), .int .i64 (2 * p), .slice a' N0.length c']) ∧ Rds w' 4 (.slice a' N0.length c') N0.length (entsV N0) ∧ W.grownBy w' none) from fun W hG => by
        have hrt := HRT.out
        have := rsplit_any d p 0 (by omega) (by omega) (by omega) (by omega) (by omega) (by omega) xs a c W (by omega) (HBR.out.grown hG (by simp))
        rw [HN0.out, Int.add_zero] at this
        exact this)
      have HSB := Lib.hid (show ∀ W, wr.grownBy W none → Calls Try.prog 29 #[.agg #[.int .i64 d, .int .i64 p, .slice a xs.length c], .int .i64 1] W (fun e w' => ∃ (a' : Option Addr) (c' : Nat), e = .returned (.agg #[.int .i64 (d + 1), .int .i64 (2 * p + 1), .slice a' N1.length c']) ∧ Rds w' 4 (.slice a' N1.length c') N1.length (entsV N1) ∧ W.grownBy w' none) from fun W hG => by
        have hrt := HRT.out
        have := rsplit_any d p 1 (by omega) (by omega) (by omega) (by omega) (by omega) (by omega) xs a c W (by omega) (HBR.out.grown hG (by simp))
        rw [HN1.out] at this
        exact this)
      have HEL := Lib.hid (show ∀ W, wr.grownBy W none → Calls Try.prog 22 #[.agg #[.int .i64 d, .int .i64 p, .slice a2 xs.length c2]] W (fun e w' => e = .returned (.int .i64 (eldI xs)) ∧ W.grownBy w' none) from fun W hG => pelder_any d p xs a2 c2 W (by omega) (HPR.out.grown hG (by simp)))
      have HREL := Lib.hid (show ∀ W, wr.grownBy W none → Calls Try.prog 30 #[.agg #[.int .i64 d, .int .i64 p, .slice a xs.length c]] W (fun e w' => e = .returned (.int .i64 (eldI xs)) ∧ W.grownBy w' none) from fun W hG => relder_any d p xs a c W (by omega) (HBR.out.grown hG (by simp)))
      obtain ⟨el, hel⟩ : ∃ e, eldI xs = e := ⟨_, rfl⟩
      rw [hel] at HEL HREL
      clear hel hY HN0 HN1 HZ HPL HTB HRT HRB HUH HXV
      refine wp_region_need (fun j v W => match j with
          | 0 => v = .agg #[.int .i64 d, .int .i64 p, .slice a2 xs.length c2]
          | 1 => v = .agg #[.int .u64 h, .int .i64 r, .int .i64 at', .int .i64 s]
          | 2 => v = .agg #[.int .u64 h, .int .i64 r, .int .i64 at', .int .i64 s]
          | 3 => BV d p Y v W
          | 4 => v = .agg #[.int .i64 d, .int .i64 p, .slice a xs.length c]
          | 5 => v = .agg #[.int .u64 h, .int .i64 r, .int .i64 at', .int .i64 s]
          | 6 => BV d p Y v W
          | 7 => v = .bool true
          | 8 => v = .bool true
          | 9 => v = .agg #[.int .i64 d, .int .i64 p, .slice a5 Z.length c5]
          | 10 => v = .agg #[.int .i64 d, .int .i64 p, .slice a xs.length c]
          | 11 => v = .pointer (some ⟨X1, 0, none⟩)
          | 12 => v = .int .u64 h
          | 13 => BV d p Z v W
          | 14 => v = .bool true
          | 15 => v = .bool true
          | 16 => v = .bool true
          | 17 => v = .bool true
          | 18 => v = .bool true
          | 19 => v = .bool true
          | 20 => v = .bool true
          | 21 => v = .bool true
          | 22 => v = .agg #[.int .i64 d, .int .i64 p, .slice a2 xs.length c2]
          | 23 => v = .int .i64 o
          | 24 => BV d p (freshL o xs) v W
          | 25 => v = .agg #[.int .i64 d, .int .i64 p, .slice a xs.length c]
          | 26 => v = .int .i64 o
          | 27 => BV d p (freshL o xs) v W
          | 28 => v = .bool true
          | 29 => v = .bool true
          | 30 => v = .bool true
          | 31 => v = .pointer (some ⟨SP, 0, none⟩)
          | 32 => v = .agg #[.int .i64 (d + 1), .int .i64 (2 * p), .slice a6 N0.length c6]
          | 33 => v = .agg #[.int .i64 d, .int .i64 p, .slice a xs.length c]
          | 34 => BV (d + 1) (2 * p) N0 v W
          | 35 => v = .bool true
          | 36 => v = .bool true
          | 37 => v = .bool true
          | 38 => v = .pointer (some ⟨SP, 3, none⟩)
          | 39 => v = .agg #[.int .i64 (d + 1), .int .i64 (2 * p + 1), .slice a7 N1.length c7]
          | 40 => v = .agg #[.int .i64 d, .int .i64 p, .slice a xs.length c]
          | 41 => BV (d + 1) (2 * p + 1) N1 v W
          | 42 => v = .bool true
          | 43 => v = .bool true
          | 44 => v = .bool true
          | 45 => v = .agg #[.int .i64 d, .int .i64 p, .slice a2 xs.length c2]
          | 46 => v = .int .i64 el
          | 47 => v = .agg #[.int .i64 d, .int .i64 p, .slice a xs.length c]
          | 48 => v = .int .i64 el
          | 49 => v = .bool true
          | 50 => v = .bool true
          | 51 => v = .bool true
          | 52 => v = .agg #[.int .i64 d, .int .i64 p, .slice a2 xs.length c2]
          | 53 => v = .agg #[.int .i64 d, .int .i64 p, .slice a xs.length c]
          | 54 => v = .bool true
          | 55 => v = .bool true
          | 56 => v = .bool true
          | 57 => v = .bool true
          | 58 => v = .bool true
          | 59 => v = .bool true
          | _ => True) [0, 0, 2, 7, 0, 0, 63, 127, 255, 511, 511, 511, 2559, 7679, 16383, 32767, 65535, 131071, 131071, 524287, 1048575, 2097151, 4194303, 4194303, 16777215, 4194303, 4194303, 134217727, 268435455, 536870911, 1073741823, 2147483647, 4294967295, 2147483647, 10737418239, 34359738367, 68719476735, 137438953471, 274877906943, 549755813887, 274877906943, 1374389534719, 4398046511103, 8796093022207, 17592186044415, 35184372088831, 70368744177663, 35184372088831, 281474976710655, 562949953421311, 1125899906842623, 2251799813685247, 4503599627370495, 4503599627370495, 18014398509481983, 36028797018963967, 72057594037927935, 144115188075855871, 288230376151711743, 576460752303423487] [[], [], [1], [0, 2], [], [], [4, 5], [3, 6], [7], [8], [8], [8], [8, 11], [8, 10, 12], [8, 9, 13], [8, 14], [15], [16], [16], [16, 17, 18], [16, 19], [20], [21], [21], [21, 22, 23], [21], [21], [21, 25, 26], [21, 24, 27], [21, 28], [29], [30], [30, 31], [30], [30, 33], [30, 32, 34], [30, 35], [36], [37], [37, 38], [37], [37, 40], [37, 39, 41], [37, 42], [43], [44], [44, 45], [44], [44, 47], [44, 46, 48], [44, 49], [50], [51], [51], [51, 52, 53], [51, 54], [55], [56], [56, 57], [58]] (by kernel_rfl) (by kernel_rfl) ?xst ?xobs ?xend
      case xst =>
        intro j v W W' hg h
        match j, h with
        | 0, h => exact h
        | 1, h => exact h
        | 2, h => exact h
        | 3, h => exact BV.grown h hg
        | 4, h => exact h
        | 5, h => exact h
        | 6, h => exact BV.grown h hg
        | 7, h => exact h
        | 8, h => exact h
        | 9, h => exact h
        | 10, h => exact h
        | 11, h => exact h
        | 12, h => exact h
        | 13, h => exact BV.grown h hg
        | 14, h => exact h
        | 15, h => exact h
        | 16, h => exact h
        | 17, h => exact h
        | 18, h => exact h
        | 19, h => exact h
        | 20, h => exact h
        | 21, h => exact h
        | 22, h => exact h
        | 23, h => exact h
        | 24, h => exact BV.grown h hg
        | 25, h => exact h
        | 26, h => exact h
        | 27, h => exact BV.grown h hg
        | 28, h => exact h
        | 29, h => exact h
        | 30, h => exact h
        | 31, h => exact h
        | 32, h => exact h
        | 33, h => exact h
        | 34, h => exact BV.grown h hg
        | 35, h => exact h
        | 36, h => exact h
        | 37, h => exact h
        | 38, h => exact h
        | 39, h => exact h
        | 40, h => exact h
        | 41, h => exact BV.grown h hg
        | 42, h => exact h
        | 43, h => exact h
        | 44, h => exact h
        | 45, h => exact h
        | 46, h => exact h
        | 47, h => exact h
        | 48, h => exact h
        | 49, h => exact h
        | 50, h => exact h
        | 51, h => exact h
        | 52, h => exact h
        | 53, h => exact h
        | 54, h => exact h
        | 55, h => exact h
        | 56, h => exact h
        | 57, h => exact h
        | 58, h => exact h
        | 59, h => exact h
        | (n + 60), _ => trivial
      case xobs =>
        refine freeObs_cons (fun W hG => ?_) (freeObs_cons (fun W hG => ?_) (freeObs_cons (fun W hG => ?_) (freeObs_cons (fun W hG => ?_) (freeObs_cons (fun W hG => ?_) (freeObs_cons (fun W hG => ?_) (freeObs_cons (fun W hG => ?_) (freeObs_cons (fun W hG => ?_) (freeObs_cons (fun W hG => ?_) (freeObs_cons (fun W hG => ?_) (freeObs_cons (fun W hG => ?_) (freeObs_cons (fun W hG => ?_) (freeObs_cons (fun W hG => ?_) (freeObs_cons (fun W hG => ?_) (freeObs_cons (fun W hG => ?_) (freeObs_cons (fun W hG => ?_) (freeObs_cons (fun W hG => ?_) (freeObs_cons (fun W hG => ?_) (freeObs_cons (fun W hG => ?_) (freeObs_cons (fun W hG => ?_) (freeObs_cons (fun W hG => ?_) (freeObs_cons (fun W hG => ?_) (freeObs_cons (fun W hG => ?_) (freeObs_cons (fun W hG => ?_) (freeObs_cons (fun W hG => ?_) (freeObs_cons (fun W hG => ?_) (freeObs_cons (fun W hG => ?_) (freeObs_cons (fun W hG => ?_) (freeObs_cons (fun W hG => ?_) (freeObs_cons (fun W hG => ?_) (freeObs_cons (fun W hG => ?_) (freeObs_cons (fun W hG => ?_) (freeObs_cons (fun W hG => ?_) (freeObs_cons (fun W hG => ?_) (freeObs_cons (fun W hG => ?_) (freeObs_cons (fun W hG => ?_) (freeObs_cons (fun W hG => ?_) (freeObs_cons (fun W hG => ?_) (freeObs_cons (fun W hG => ?_) (freeObs_cons (fun W hG => ?_) (freeObs_cons (fun W hG => ?_) (freeObs_cons (fun W hG => ?_) (freeObs_cons (fun W hG => ?_) (freeObs_cons (fun W hG => ?_) (freeObs_cons (fun W hG => ?_) (freeObs_cons (fun W hG => ?_) (freeObs_cons (fun W hG => ?_) (freeObs_cons (fun W hG => ?_) (freeObs_cons (fun W hG => ?_) (freeObs_cons (fun W hG => ?_) (freeObs_cons (fun W hG => ?_) (freeObs_cons (fun W hG => ?_) (freeObs_cons (fun W hG => ?_) (freeObs_cons (fun W hG => ?_) (freeObs_cons (fun W hG => ?_) (freeObs_cons (fun W hG => ?_) (freeObs_cons (fun W hG => ?_) (freeObs_cons (fun W hG => ?_) (freeObs_cons (fun W hG => ?_) (freeObs_cons (fun W hG => ?_) (freeObs_nil))))))))))))))))))))))))))))))))))))))))))))))))))))))))))))
        case _ =>
          have p0 := hG.cell HP0.out (by simp); have p1 := hG.cell HP1.out (by simp); have p2 := hG.cell HP2.out (by simp)
          (repeat (refine given_step rfl (fun v h => ?_); (try dsimp only at h); (try subst h)))
          refine given_nil ?_
          refine free_read rfl (by rfl) (v := _) ?_ ⟨grownBy_refl _ _, hG, rfl⟩
          go_simp
          (try with_reducible rfl)
        case _ =>
          have t0 := hG.cell HT0.out (by simp); have t1 := hG.cell HT1.out (by simp); have t2 := hG.cell HT2.out (by simp); have x0 := hG.cell HX0.out (by simp); have x1 := hG.cell HX1.out (by simp); have x2 := hG.cell HX2.out (by simp); have x3 := hG.cell HX3.out (by simp)
          (repeat (refine given_step rfl (fun v h => ?_); (try dsimp only at h); (try subst h)))
          refine given_nil ?_
          refine free_read rfl (by rfl) (v := _) ?_ ⟨grownBy_refl _ _, hG, rfl⟩
          go_simp
          (try with_reducible rfl)
        case _ =>
          refine given_step rfl (fun v h => ?_); (try dsimp only at h); (try subst h)
          refine given_nil ?_
          (try simp only [Act.put, List.setIfInBounds_toArray, List.set_cons_zero, List.set_cons_succ])
          refine wpOp_list rfl (fun K hK => ?_)
          go_simp
          refine (entry_any _ _ _ _ _).mono ?_
          rintro e w' ⟨rfl, g⟩
          exact hK _ _ ⟨_, rfl, g, grownBy_trans hG g, rfl⟩
        case _ =>
          refine given_step rfl (fun v h => ?_); (try dsimp only at h); (try subst h)
          refine given_step rfl (fun v h => ?_); (try dsimp only at h); (try subst h)
          refine given_nil ?_
          (try simp only [Act.put, List.setIfInBounds_toArray, List.set_cons_zero, List.set_cons_succ])
          refine wpOp_list rfl (fun K hK => ?_)
          go_simp
          refine (HPUT.out W hG).mono ?_
          rintro e w' ⟨a', c', rfl, hr', g⟩
          exact hK _ _ ⟨_, rfl, g, grownBy_trans hG g, ⟨a', c', rfl, hr'⟩⟩
        case _ =>
          have t0 := hG.cell HT0.out (by simp); have t1 := hG.cell HT1.out (by simp); have t2 := hG.cell HT2.out (by simp); have x0 := hG.cell HX0.out (by simp); have x1 := hG.cell HX1.out (by simp); have x2 := hG.cell HX2.out (by simp); have x3 := hG.cell HX3.out (by simp)
          (repeat (refine given_step rfl (fun v h => ?_); (try dsimp only at h); (try subst h)))
          refine given_nil ?_
          refine free_read rfl (by rfl) (v := _) ?_ ⟨grownBy_refl _ _, hG, rfl⟩
          go_simp
          (try with_reducible rfl)
        case _ =>
          have t0 := hG.cell HT0.out (by simp); have t1 := hG.cell HT1.out (by simp); have t2 := hG.cell HT2.out (by simp); have x0 := hG.cell HX0.out (by simp); have x1 := hG.cell HX1.out (by simp); have x2 := hG.cell HX2.out (by simp); have x3 := hG.cell HX3.out (by simp)
          (repeat (refine given_step rfl (fun v h => ?_); (try dsimp only at h); (try subst h)))
          refine given_nil ?_
          refine free_read rfl (by rfl) (v := _) ?_ ⟨grownBy_refl _ _, hG, rfl⟩
          go_simp
          (try with_reducible rfl)
        case _ =>
          refine given_step rfl (fun v h => ?_); (try dsimp only at h); (try subst h)
          refine given_step rfl (fun v h => ?_); (try dsimp only at h); (try subst h)
          refine given_nil ?_
          (try simp only [Act.put, List.setIfInBounds_toArray, List.set_cons_zero, List.set_cons_succ])
          refine wpOp_list rfl (fun K hK => ?_)
          go_simp
          refine (HRPUT.out W hG).mono ?_
          rintro e w' ⟨a', c', rfl, hr', g⟩
          exact hK _ _ ⟨_, rfl, g, grownBy_trans hG g, ⟨a', c', rfl, hr'⟩⟩
        case _ =>
          refine given_step rfl (fun v h3 => ?_)
          obtain ⟨a_3, c_3, rfl, r_3⟩ := h3
          refine given_step rfl (fun v h6 => ?_)
          obtain ⟨a_6, c_6, rfl, r_6⟩ := h6
          refine given_nil ?_
          (try simp only [Act.put, List.setIfInBounds_toArray, List.set_cons_zero, List.set_cons_succ])
          refine wpOp_list rfl (fun K hK => ?_)
          go_simp
          refine (told_yes d p Y _ _ _ _ W r_3 r_6).mono ?_
          rintro e w' ⟨rfl, g⟩
          exact hK _ _ ⟨_, rfl, g, grownBy_trans hG g, rfl⟩
        case _ =>
          (repeat (refine given_step rfl (fun v h => ?_); (try dsimp only at h); (try subst h)))
          refine given_nil ?_
          (try simp only [Act.put, List.setIfInBounds_toArray, List.set_cons_zero, List.set_cons_succ])
          refine free_read rfl (by rfl) (v := _) ?_ ⟨grownBy_refl _ _, hG, rfl⟩
          go_simp
          (try with_reducible rfl)
        case _ =>
          have d0 := hG.cell HD0.out (by simp); have d1 := hG.cell HD1.out (by simp); have d2 := hG.cell HD2.out (by simp)
          (repeat (refine given_step rfl (fun v h => ?_); (try dsimp only at h); (try subst h)))
          refine given_nil ?_
          (try simp only [Act.put, List.setIfInBounds_toArray, List.set_cons_zero, List.set_cons_succ])
          refine free_read rfl (by rfl) (v := _) ?_ ⟨grownBy_refl _ _, hG, rfl⟩
          go_simp
          (try with_reducible rfl)
        case _ =>
          have t0 := hG.cell HT0.out (by simp); have t1 := hG.cell HT1.out (by simp); have t2 := hG.cell HT2.out (by simp); have x0 := hG.cell HX0.out (by simp); have x1 := hG.cell HX1.out (by simp); have x2 := hG.cell HX2.out (by simp); have x3 := hG.cell HX3.out (by simp)
          (repeat (refine given_step rfl (fun v h => ?_); (try dsimp only at h); (try subst h)))
          refine given_nil ?_
          (try simp only [Act.put, List.setIfInBounds_toArray, List.set_cons_zero, List.set_cons_succ])
          refine free_read rfl (by rfl) (v := _) ?_ ⟨grownBy_refl _ _, hG, rfl⟩
          go_simp
          (try with_reducible rfl)
        case _ =>
          (repeat (refine given_step rfl (fun v h => ?_); (try dsimp only at h); (try subst h)))
          refine given_nil ?_
          (try simp only [Act.put, List.setIfInBounds_toArray, List.set_cons_zero, List.set_cons_succ])
          refine free_read rfl (by rfl) (v := _) ?_ ⟨grownBy_refl _ _, hG, rfl⟩
          go_simp
          (try with_reducible rfl)
        case _ =>
          have t0 := hG.cell HT0.out (by simp); have t1 := hG.cell HT1.out (by simp); have t2 := hG.cell HT2.out (by simp); have x0 := hG.cell HX0.out (by simp); have x1 := hG.cell HX1.out (by simp); have x2 := hG.cell HX2.out (by simp); have x3 := hG.cell HX3.out (by simp)
          (repeat (refine given_step rfl (fun v h => ?_); (try dsimp only at h); (try subst h)))
          refine given_nil ?_
          (try simp only [Act.put, List.setIfInBounds_toArray, List.set_cons_zero, List.set_cons_succ])
          refine free_read rfl (by rfl) (v := _) ?_ ⟨grownBy_refl _ _, hG, rfl⟩
          go_simp
          (try with_reducible rfl)
        case _ =>
          refine given_step rfl (fun v h => ?_); (try dsimp only at h); (try subst h)
          refine given_step rfl (fun v h => ?_); (try dsimp only at h); (try subst h)
          refine given_step rfl (fun v h => ?_); (try dsimp only at h); (try subst h)
          refine given_nil ?_
          (try simp only [Act.put, List.setIfInBounds_toArray, List.set_cons_zero, List.set_cons_succ])
          refine wpOp_list rfl (fun K hK => ?_)
          go_simp
          refine (HRDR.out W hG).mono ?_
          rintro e w' ⟨a', c', rfl, hr', g⟩
          exact hK _ _ ⟨_, rfl, g, grownBy_trans hG g, ⟨a', c', rfl, hr'⟩⟩
        case _ =>
          refine given_step rfl (fun v h => ?_); (try dsimp only at h); (try subst h)
          refine given_step rfl (fun v h => ?_); (try dsimp only at h); (try subst h)
          refine given_step rfl (fun v h13 => ?_)
          obtain ⟨a_13, c_13, rfl, r_13⟩ := h13
          refine given_nil ?_
          (try simp only [Act.put, List.setIfInBounds_toArray, List.set_cons_zero, List.set_cons_succ])
          refine wpOp_list rfl (fun K hK => ?_)
          go_simp
          refine (told_yes d p Z _ _ _ _ W (HZR.out.grown hG (by simp)) r_13).mono ?_
          rintro e w' ⟨rfl, g⟩
          exact hK _ _ ⟨_, rfl, g, grownBy_trans hG g, rfl⟩
        case _ =>
          (repeat (refine given_step rfl (fun v h => ?_); (try dsimp only at h); (try subst h)))
          refine given_nil ?_
          (try simp only [Act.put, List.setIfInBounds_toArray, List.set_cons_zero, List.set_cons_succ])
          refine free_read rfl (by rfl) (v := _) ?_ ⟨grownBy_refl _ _, hG, rfl⟩
          go_simp
          (try with_reducible rfl)
        case _ =>
          (repeat (refine given_step rfl (fun v h => ?_); (try dsimp only at h); (try subst h)))
          refine given_nil ?_
          (try simp only [Act.put, List.setIfInBounds_toArray, List.set_cons_zero, List.set_cons_succ])
          refine free_read rfl (by rfl) (v := _) ?_ ⟨grownBy_refl _ _, hG, rfl⟩
          go_simp
          (try with_reducible rfl)
        case _ =>
          (repeat (refine given_step rfl (fun v h => ?_); (try dsimp only at h); (try subst h)))
          refine given_nil ?_
          (try simp only [Act.put, List.setIfInBounds_toArray, List.set_cons_zero, List.set_cons_succ])
          refine free_read rfl (by rfl) (v := _) ?_ ⟨grownBy_refl _ _, hG, rfl⟩
          go_simp
          (try with_reducible rfl)
        case _ =>
          (repeat (refine given_step rfl (fun v h => ?_); (try dsimp only at h); (try subst h)))
          refine given_nil ?_
          (try simp only [Act.put, List.setIfInBounds_toArray, List.set_cons_zero, List.set_cons_succ])
          refine free_read rfl (by rfl) (v := _) ?_ ⟨grownBy_refl _ _, hG, rfl⟩
          go_simp
          (try with_reducible rfl)
        case _ =>
          have htt : ((true : Bool) == true) = true := rfl; have htf : ((false : Bool) == false) = true := rfl
          (repeat (refine given_step rfl (fun v h => ?_); (try dsimp only at h); (try subst h)))
          refine given_nil ?_
          (try simp only [Act.put, List.setIfInBounds_toArray, List.set_cons_zero, List.set_cons_succ])
          refine free_read rfl (by rfl) (v := _) ?_ ⟨grownBy_refl _ _, hG, rfl⟩
          go_simp
          (try with_reducible rfl)
        case _ =>
          (repeat (refine given_step rfl (fun v h => ?_); (try dsimp only at h); (try subst h)))
          refine given_nil ?_
          (try simp only [Act.put, List.setIfInBounds_toArray, List.set_cons_zero, List.set_cons_succ])
          refine free_read rfl (by rfl) (v := _) ?_ ⟨grownBy_refl _ _, hG, rfl⟩
          go_simp
          (try with_reducible rfl)
        case _ =>
          (repeat (refine given_step rfl (fun v h => ?_); (try dsimp only at h); (try subst h)))
          refine given_nil ?_
          (try simp only [Act.put, List.setIfInBounds_toArray, List.set_cons_zero, List.set_cons_succ])
          refine free_read rfl (by rfl) (v := _) ?_ ⟨grownBy_refl _ _, hG, rfl⟩
          go_simp
          (try with_reducible rfl)
        case _ =>
          have p0 := hG.cell HP0.out (by simp); have p1 := hG.cell HP1.out (by simp); have p2 := hG.cell HP2.out (by simp)
          (repeat (refine given_step rfl (fun v h => ?_); (try dsimp only at h); (try subst h)))
          refine given_nil ?_
          (try simp only [Act.put, List.setIfInBounds_toArray, List.set_cons_zero, List.set_cons_succ])
          refine free_read rfl (by rfl) (v := _) ?_ ⟨grownBy_refl _ _, hG, rfl⟩
          go_simp
          (try with_reducible rfl)
        case _ =>
          (repeat (refine given_step rfl (fun v h => ?_); (try dsimp only at h); (try subst h)))
          refine given_nil ?_
          (try simp only [Act.put, List.setIfInBounds_toArray, List.set_cons_zero, List.set_cons_succ])
          refine free_read rfl (by rfl) (v := _) ?_ ⟨grownBy_refl _ _, hG, rfl⟩
          go_simp
          (try with_reducible rfl)
        case _ =>
          refine given_step rfl (fun v h => ?_); (try dsimp only at h); (try subst h)
          refine given_step rfl (fun v h => ?_); (try dsimp only at h); (try subst h)
          refine given_step rfl (fun v h => ?_); (try dsimp only at h); (try subst h)
          refine given_nil ?_
          (try simp only [Act.put, List.setIfInBounds_toArray, List.set_cons_zero, List.set_cons_succ])
          refine wpOp_list rfl (fun K hK => ?_)
          go_simp
          refine (HFR.out W hG).mono ?_
          rintro e w' ⟨a', c', rfl, hr', g⟩
          exact hK _ _ ⟨_, rfl, g, grownBy_trans hG g, ⟨a', c', rfl, hr'⟩⟩
        case _ =>
          have t0 := hG.cell HT0.out (by simp); have t1 := hG.cell HT1.out (by simp); have t2 := hG.cell HT2.out (by simp); have x0 := hG.cell HX0.out (by simp); have x1 := hG.cell HX1.out (by simp); have x2 := hG.cell HX2.out (by simp); have x3 := hG.cell HX3.out (by simp)
          (repeat (refine given_step rfl (fun v h => ?_); (try dsimp only at h); (try subst h)))
          refine given_nil ?_
          (try simp only [Act.put, List.setIfInBounds_toArray, List.set_cons_zero, List.set_cons_succ])
          refine free_read rfl (by rfl) (v := _) ?_ ⟨grownBy_refl _ _, hG, rfl⟩
          go_simp
          (try with_reducible rfl)
        case _ =>
          (repeat (refine given_step rfl (fun v h => ?_); (try dsimp only at h); (try subst h)))
          refine given_nil ?_
          (try simp only [Act.put, List.setIfInBounds_toArray, List.set_cons_zero, List.set_cons_succ])
          refine free_read rfl (by rfl) (v := _) ?_ ⟨grownBy_refl _ _, hG, rfl⟩
          go_simp
          (try with_reducible rfl)
        case _ =>
          refine given_step rfl (fun v h => ?_); (try dsimp only at h); (try subst h)
          refine given_step rfl (fun v h => ?_); (try dsimp only at h); (try subst h)
          refine given_step rfl (fun v h => ?_); (try dsimp only at h); (try subst h)
          refine given_nil ?_
          (try simp only [Act.put, List.setIfInBounds_toArray, List.set_cons_zero, List.set_cons_succ])
          refine wpOp_list rfl (fun K hK => ?_)
          go_simp
          refine (HRFR.out W hG).mono ?_
          rintro e w' ⟨a', c', rfl, hr', g⟩
          exact hK _ _ ⟨_, rfl, g, grownBy_trans hG g, ⟨a', c', rfl, hr'⟩⟩
        case _ =>
          refine given_step rfl (fun v h => ?_); (try dsimp only at h); (try subst h)
          refine given_step rfl (fun v h24 => ?_)
          obtain ⟨a_24, c_24, rfl, r_24⟩ := h24
          refine given_step rfl (fun v h27 => ?_)
          obtain ⟨a_27, c_27, rfl, r_27⟩ := h27
          refine given_nil ?_
          (try simp only [Act.put, List.setIfInBounds_toArray, List.set_cons_zero, List.set_cons_succ])
          refine wpOp_list rfl (fun K hK => ?_)
          go_simp
          refine (told_yes d p (freshL o xs) _ _ _ _ W r_24 r_27).mono ?_
          rintro e w' ⟨rfl, g⟩
          exact hK _ _ ⟨_, rfl, g, grownBy_trans hG g, rfl⟩
        case _ =>
          (repeat (refine given_step rfl (fun v h => ?_); (try dsimp only at h); (try subst h)))
          refine given_nil ?_
          (try simp only [Act.put, List.setIfInBounds_toArray, List.set_cons_zero, List.set_cons_succ])
          refine free_read rfl (by rfl) (v := _) ?_ ⟨grownBy_refl _ _, hG, rfl⟩
          go_simp
          (try with_reducible rfl)
        case _ =>
          (repeat (refine given_step rfl (fun v h => ?_); (try dsimp only at h); (try subst h)))
          refine given_nil ?_
          (try simp only [Act.put, List.setIfInBounds_toArray, List.set_cons_zero, List.set_cons_succ])
          refine free_read rfl (by rfl) (v := _) ?_ ⟨grownBy_refl _ _, hG, rfl⟩
          go_simp
          (try with_reducible rfl)
        case _ =>
          have s0 := hG.cell HS0.out (by simp); have s1 := hG.cell HS1.out (by simp); have s2 := hG.cell HS2.out (by simp); have s3 := hG.cell HS3.out (by simp); have s4 := hG.cell HS4.out (by simp); have s5 := hG.cell HS5.out (by simp)
          (repeat (refine given_step rfl (fun v h => ?_); (try dsimp only at h); (try subst h)))
          refine given_nil ?_
          (try simp only [Act.put, List.setIfInBounds_toArray, List.set_cons_zero, List.set_cons_succ])
          refine free_read rfl (by rfl) (v := _) ?_ ⟨grownBy_refl _ _, hG, rfl⟩
          go_simp
          (try with_reducible rfl)
        case _ =>
          have s0 := hG.cell HS0.out (by simp); have s1 := hG.cell HS1.out (by simp); have s2 := hG.cell HS2.out (by simp); have s3 := hG.cell HS3.out (by simp); have s4 := hG.cell HS4.out (by simp); have s5 := hG.cell HS5.out (by simp)
          (repeat (refine given_step rfl (fun v h => ?_); (try dsimp only at h); (try subst h)))
          refine given_nil ?_
          (try simp only [Act.put, List.setIfInBounds_toArray, List.set_cons_zero, List.set_cons_succ])
          refine free_read rfl (by rfl) (v := _) ?_ ⟨grownBy_refl _ _, hG, rfl⟩
          go_simp
          (try with_reducible rfl)
        case _ =>
          have t0 := hG.cell HT0.out (by simp); have t1 := hG.cell HT1.out (by simp); have t2 := hG.cell HT2.out (by simp); have x0 := hG.cell HX0.out (by simp); have x1 := hG.cell HX1.out (by simp); have x2 := hG.cell HX2.out (by simp); have x3 := hG.cell HX3.out (by simp)
          (repeat (refine given_step rfl (fun v h => ?_); (try dsimp only at h); (try subst h)))
          refine given_nil ?_
          (try simp only [Act.put, List.setIfInBounds_toArray, List.set_cons_zero, List.set_cons_succ])
          refine free_read rfl (by rfl) (v := _) ?_ ⟨grownBy_refl _ _, hG, rfl⟩
          go_simp
          (try with_reducible rfl)
        case _ =>
          refine given_step rfl (fun v h => ?_); (try dsimp only at h); (try subst h)
          refine given_step rfl (fun v h => ?_); (try dsimp only at h); (try subst h)
          refine given_nil ?_
          (try simp only [Act.put, List.setIfInBounds_toArray, List.set_cons_zero, List.set_cons_succ])
          refine wpOp_list rfl (fun K hK => ?_)
          go_simp
          refine (HSA.out W hG).mono ?_
          rintro e w' ⟨a', c', rfl, hr', g⟩
          exact hK _ _ ⟨_, rfl, g, grownBy_trans hG g, ⟨a', c', rfl, hr'⟩⟩
        case _ =>
          refine given_step rfl (fun v h => ?_); (try dsimp only at h); (try subst h)
          refine given_step rfl (fun v h => ?_); (try dsimp only at h); (try subst h)
          refine given_step rfl (fun v h34 => ?_)
          obtain ⟨a_34, c_34, rfl, r_34⟩ := h34
          refine given_nil ?_
          (try simp only [Act.put, List.setIfInBounds_toArray, List.set_cons_zero, List.set_cons_succ])
          refine wpOp_list rfl (fun K hK => ?_)
          go_simp
          refine (told_yes (d + 1) (2 * p) N0 _ _ _ _ W (HR0.out.grown hG (by simp)) r_34).mono ?_
          rintro e w' ⟨rfl, g⟩
          exact hK _ _ ⟨_, rfl, g, grownBy_trans hG g, rfl⟩
        case _ =>
          (repeat (refine given_step rfl (fun v h => ?_); (try dsimp only at h); (try subst h)))
          refine given_nil ?_
          (try simp only [Act.put, List.setIfInBounds_toArray, List.set_cons_zero, List.set_cons_succ])
          refine free_read rfl (by rfl) (v := _) ?_ ⟨grownBy_refl _ _, hG, rfl⟩
          go_simp
          (try with_reducible rfl)
        case _ =>
          (repeat (refine given_step rfl (fun v h => ?_); (try dsimp only at h); (try subst h)))
          refine given_nil ?_
          (try simp only [Act.put, List.setIfInBounds_toArray, List.set_cons_zero, List.set_cons_succ])
          refine free_read rfl (by rfl) (v := _) ?_ ⟨grownBy_refl _ _, hG, rfl⟩
          go_simp
          (try with_reducible rfl)
        case _ =>
          have s0 := hG.cell HS0.out (by simp); have s1 := hG.cell HS1.out (by simp); have s2 := hG.cell HS2.out (by simp); have s3 := hG.cell HS3.out (by simp); have s4 := hG.cell HS4.out (by simp); have s5 := hG.cell HS5.out (by simp)
          (repeat (refine given_step rfl (fun v h => ?_); (try dsimp only at h); (try subst h)))
          refine given_nil ?_
          (try simp only [Act.put, List.setIfInBounds_toArray, List.set_cons_zero, List.set_cons_succ])
          refine free_read rfl (by rfl) (v := _) ?_ ⟨grownBy_refl _ _, hG, rfl⟩
          go_simp
          (try with_reducible rfl)
        case _ =>
          have s0 := hG.cell HS0.out (by simp); have s1 := hG.cell HS1.out (by simp); have s2 := hG.cell HS2.out (by simp); have s3 := hG.cell HS3.out (by simp); have s4 := hG.cell HS4.out (by simp); have s5 := hG.cell HS5.out (by simp)
          (repeat (refine given_step rfl (fun v h => ?_); (try dsimp only at h); (try subst h)))
          refine given_nil ?_
          (try simp only [Act.put, List.setIfInBounds_toArray, List.set_cons_zero, List.set_cons_succ])
          refine free_read rfl (by rfl) (v := _) ?_ ⟨grownBy_refl _ _, hG, rfl⟩
          go_simp
          (try with_reducible rfl)
        case _ =>
          have t0 := hG.cell HT0.out (by simp); have t1 := hG.cell HT1.out (by simp); have t2 := hG.cell HT2.out (by simp); have x0 := hG.cell HX0.out (by simp); have x1 := hG.cell HX1.out (by simp); have x2 := hG.cell HX2.out (by simp); have x3 := hG.cell HX3.out (by simp)
          (repeat (refine given_step rfl (fun v h => ?_); (try dsimp only at h); (try subst h)))
          refine given_nil ?_
          (try simp only [Act.put, List.setIfInBounds_toArray, List.set_cons_zero, List.set_cons_succ])
          refine free_read rfl (by rfl) (v := _) ?_ ⟨grownBy_refl _ _, hG, rfl⟩
          go_simp
          (try with_reducible rfl)
        case _ =>
          refine given_step rfl (fun v h => ?_); (try dsimp only at h); (try subst h)
          refine given_step rfl (fun v h => ?_); (try dsimp only at h); (try subst h)
          refine given_nil ?_
          (try simp only [Act.put, List.setIfInBounds_toArray, List.set_cons_zero, List.set_cons_succ])
          refine wpOp_list rfl (fun K hK => ?_)
          go_simp
          refine (HSB.out W hG).mono ?_
          rintro e w' ⟨a', c', rfl, hr', g⟩
          exact hK _ _ ⟨_, rfl, g, grownBy_trans hG g, ⟨a', c', rfl, hr'⟩⟩
        case _ =>
          refine given_step rfl (fun v h => ?_); (try dsimp only at h); (try subst h)
          refine given_step rfl (fun v h => ?_); (try dsimp only at h); (try subst h)
          refine given_step rfl (fun v h41 => ?_)
          obtain ⟨a_41, c_41, rfl, r_41⟩ := h41
          refine given_nil ?_
          (try simp only [Act.put, List.setIfInBounds_toArray, List.set_cons_zero, List.set_cons_succ])
          refine wpOp_list rfl (fun K hK => ?_)
          go_simp
          refine (told_yes (d + 1) (2 * p + 1) N1 _ _ _ _ W (HR1.out.grown hG (by simp)) r_41).mono ?_
          rintro e w' ⟨rfl, g⟩
          exact hK _ _ ⟨_, rfl, g, grownBy_trans hG g, rfl⟩
        case _ =>
          (repeat (refine given_step rfl (fun v h => ?_); (try dsimp only at h); (try subst h)))
          refine given_nil ?_
          (try simp only [Act.put, List.setIfInBounds_toArray, List.set_cons_zero, List.set_cons_succ])
          refine free_read rfl (by rfl) (v := _) ?_ ⟨grownBy_refl _ _, hG, rfl⟩
          go_simp
          (try with_reducible rfl)
        case _ =>
          (repeat (refine given_step rfl (fun v h => ?_); (try dsimp only at h); (try subst h)))
          refine given_nil ?_
          (try simp only [Act.put, List.setIfInBounds_toArray, List.set_cons_zero, List.set_cons_succ])
          refine free_read rfl (by rfl) (v := _) ?_ ⟨grownBy_refl _ _, hG, rfl⟩
          go_simp
          (try with_reducible rfl)
        case _ =>
          have p0 := hG.cell HP0.out (by simp); have p1 := hG.cell HP1.out (by simp); have p2 := hG.cell HP2.out (by simp)
          (repeat (refine given_step rfl (fun v h => ?_); (try dsimp only at h); (try subst h)))
          refine given_nil ?_
          (try simp only [Act.put, List.setIfInBounds_toArray, List.set_cons_zero, List.set_cons_succ])
          refine free_read rfl (by rfl) (v := _) ?_ ⟨grownBy_refl _ _, hG, rfl⟩
          go_simp
          (try with_reducible rfl)
        case _ =>
          refine given_step rfl (fun v h => ?_); (try dsimp only at h); (try subst h)
          refine given_step rfl (fun v h => ?_); (try dsimp only at h); (try subst h)
          refine given_nil ?_
          (try simp only [Act.put, List.setIfInBounds_toArray, List.set_cons_zero, List.set_cons_succ])
          refine wpOp_list rfl (fun K hK => ?_)
          go_simp
          refine (HEL.out W hG).mono ?_
          rintro e w' ⟨rfl, g⟩
          exact hK _ _ ⟨_, rfl, g, grownBy_trans hG g, rfl⟩
        case _ =>
          have t0 := hG.cell HT0.out (by simp); have t1 := hG.cell HT1.out (by simp); have t2 := hG.cell HT2.out (by simp); have x0 := hG.cell HX0.out (by simp); have x1 := hG.cell HX1.out (by simp); have x2 := hG.cell HX2.out (by simp); have x3 := hG.cell HX3.out (by simp)
          (repeat (refine given_step rfl (fun v h => ?_); (try dsimp only at h); (try subst h)))
          refine given_nil ?_
          (try simp only [Act.put, List.setIfInBounds_toArray, List.set_cons_zero, List.set_cons_succ])
          refine free_read rfl (by rfl) (v := _) ?_ ⟨grownBy_refl _ _, hG, rfl⟩
          go_simp
          (try with_reducible rfl)
        case _ =>
          refine given_step rfl (fun v h => ?_); (try dsimp only at h); (try subst h)
          refine given_step rfl (fun v h => ?_); (try dsimp only at h); (try subst h)
          refine given_nil ?_
          (try simp only [Act.put, List.setIfInBounds_toArray, List.set_cons_zero, List.set_cons_succ])
          refine wpOp_list rfl (fun K hK => ?_)
          go_simp
          refine (HREL.out W hG).mono ?_
          rintro e w' ⟨rfl, g⟩
          exact hK _ _ ⟨_, rfl, g, grownBy_trans hG g, rfl⟩
        case _ =>
          have htt : (el == el) = true := by simp
          (repeat (refine given_step rfl (fun v h => ?_); (try dsimp only at h); (try subst h)))
          refine given_nil ?_
          (try simp only [Act.put, List.setIfInBounds_toArray, List.set_cons_zero, List.set_cons_succ])
          refine free_read rfl (by rfl) (v := _) ?_ ⟨grownBy_refl _ _, hG, rfl⟩
          go_simp
          (try with_reducible rfl)
        case _ =>
          (repeat (refine given_step rfl (fun v h => ?_); (try dsimp only at h); (try subst h)))
          refine given_nil ?_
          (try simp only [Act.put, List.setIfInBounds_toArray, List.set_cons_zero, List.set_cons_succ])
          refine free_read rfl (by rfl) (v := _) ?_ ⟨grownBy_refl _ _, hG, rfl⟩
          go_simp
          (try with_reducible rfl)
        case _ =>
          (repeat (refine given_step rfl (fun v h => ?_); (try dsimp only at h); (try subst h)))
          refine given_nil ?_
          (try simp only [Act.put, List.setIfInBounds_toArray, List.set_cons_zero, List.set_cons_succ])
          refine free_read rfl (by rfl) (v := _) ?_ ⟨grownBy_refl _ _, hG, rfl⟩
          go_simp
          (try with_reducible rfl)
        case _ =>
          have p0 := hG.cell HP0.out (by simp); have p1 := hG.cell HP1.out (by simp); have p2 := hG.cell HP2.out (by simp)
          (repeat (refine given_step rfl (fun v h => ?_); (try dsimp only at h); (try subst h)))
          refine given_nil ?_
          (try simp only [Act.put, List.setIfInBounds_toArray, List.set_cons_zero, List.set_cons_succ])
          refine free_read rfl (by rfl) (v := _) ?_ ⟨grownBy_refl _ _, hG, rfl⟩
          go_simp
          (try with_reducible rfl)
        case _ =>
          have t0 := hG.cell HT0.out (by simp); have t1 := hG.cell HT1.out (by simp); have t2 := hG.cell HT2.out (by simp); have x0 := hG.cell HX0.out (by simp); have x1 := hG.cell HX1.out (by simp); have x2 := hG.cell HX2.out (by simp); have x3 := hG.cell HX3.out (by simp)
          (repeat (refine given_step rfl (fun v h => ?_); (try dsimp only at h); (try subst h)))
          refine given_nil ?_
          (try simp only [Act.put, List.setIfInBounds_toArray, List.set_cons_zero, List.set_cons_succ])
          refine free_read rfl (by rfl) (v := _) ?_ ⟨grownBy_refl _ _, hG, rfl⟩
          go_simp
          (try with_reducible rfl)
        case _ =>
          refine given_step rfl (fun v h => ?_); (try dsimp only at h); (try subst h)
          refine given_step rfl (fun v h => ?_); (try dsimp only at h); (try subst h)
          refine given_step rfl (fun v h => ?_); (try dsimp only at h); (try subst h)
          refine given_nil ?_
          (try simp only [Act.put, List.setIfInBounds_toArray, List.set_cons_zero, List.set_cons_succ])
          refine wpOp_list rfl (fun K hK => ?_)
          go_simp
          refine (told_yes d p xs _ _ _ _ W (HPR.out.grown hG (by simp)) (HBR.out.grown hG (by simp))).mono ?_
          rintro e w' ⟨rfl, g⟩
          exact hK _ _ ⟨_, rfl, g, grownBy_trans hG g, rfl⟩
        case _ =>
          (repeat (refine given_step rfl (fun v h => ?_); (try dsimp only at h); (try subst h)))
          refine given_nil ?_
          (try simp only [Act.put, List.setIfInBounds_toArray, List.set_cons_zero, List.set_cons_succ])
          refine free_read rfl (by rfl) (v := _) ?_ ⟨grownBy_refl _ _, hG, rfl⟩
          go_simp
          (try with_reducible rfl)
        case _ =>
          (repeat (refine given_step rfl (fun v h => ?_); (try dsimp only at h); (try subst h)))
          refine given_nil ?_
          (try simp only [Act.put, List.setIfInBounds_toArray, List.set_cons_zero, List.set_cons_succ])
          refine free_read rfl (by rfl) (v := _) ?_ ⟨grownBy_refl _ _, hG, rfl⟩
          go_simp
          (try with_reducible rfl)
        case _ =>
          refine given_step rfl (fun v h => ?_); (try dsimp only at h); (try subst h)
          refine given_nil ?_
          (try simp only [Act.put, List.setIfInBounds_toArray, List.set_cons_zero, List.set_cons_succ])
          refine wpOp_list rfl (fun K hK => ?_)
          go_simp
          refine (awake_any _).mono ?_
          rintro e w' ⟨rfl, g⟩
          exact hK _ _ ⟨_, rfl, g, grownBy_trans hG g, rfl⟩
        case _ =>
          (repeat (refine given_step rfl (fun v h => ?_); (try dsimp only at h); (try subst h)))
          refine given_nil ?_
          (try simp only [Act.put, List.setIfInBounds_toArray, List.set_cons_zero, List.set_cons_succ])
          refine free_read rfl (by rfl) (v := _) ?_ ⟨grownBy_refl _ _, hG, rfl⟩
          go_simp
          (try with_reducible rfl)
        case _ =>
          (repeat (refine given_step rfl (fun v h => ?_); (try dsimp only at h); (try subst h)))
          refine given_nil ?_
          (try simp only [Act.put, List.setIfInBounds_toArray, List.set_cons_zero, List.set_cons_succ])
          refine free_read rfl (by rfl) (v := _) ?_ ⟨grownBy_refl _ _, hG, rfl⟩
          go_simp
          (try with_reducible rfl)
      case xend =>
        intro W hG
        (repeat (refine given_step rfl (fun v h => ?_); (try dsimp only at h); (try subst h)))
        refine given_nil ?_
        (try simp only [Act.put, List.setIfInBounds_toArray, List.set_cons_zero, List.set_cons_succ])
        go_wp2_with fail
        go_ret
        exact ⟨rfl, below_grownBy (grownBy_trans HG9.out hG)⟩

end Go.Proofs.Ytddpjfmogjcimaa
