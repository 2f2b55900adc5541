/- Layer 3: the walk of WireReads. -/
import Derived.Test.YtmmkfchijafjeaaWRd
namespace Go.Proofs.Ytmmkfchijafjeaa
open Go.RowKit Go.WideShapes Go.ChangeShapes Go.ChangeAt

theorem mayB5 (k : Int) : (mayB k = true ∧ askN k = k ∧ ∃ b1 b2 b4 b8 : Bool, (k == 1) = b1 ∧ (k == 2) = b2 ∧ (k == 4) = b4 ∧ (k == 8) = b8 ∧ ((b1 = true) ∨ (b1 = false ∧ b2 = true) ∨ (b1 = false ∧ b2 = false ∧ b4 = true) ∨ (b1 = false ∧ b2 = false ∧ b4 = false ∧ b8 = true))) ∨ (mayB k = false ∧ askN k = -1 ∧ (k == 1) = false ∧ (k == 2) = false ∧ (k == 4) = false ∧ (k == 8) = false) := by
  cases hm : mayB k
  · right
    have h := of_decide_eq_false hm
    refine ⟨rfl, askN_no hm, ?_, ?_, ?_, ?_⟩ <;> (rw [beq_eq_false_iff_ne]; omega)
  · left
    have h := of_decide_eq_true hm
    refine ⟨rfl, askN_yes hm, _, _, _, _, rfl, rfl, rfl, rfl, ?_⟩
    rcases h with rfl | rfl | rfl | rfl <;> simp

set_option maxRecDepth 100000 in
set_option maxHeartbeats 16000000 in
theorem wireReads_walk0 (xs : List Nat) (ab : Option Addr) (cb : Nat) (l : List WAct) (a : Option Addr) (c : Nat) (w : World) (hb : Rds w 1 (.slice ab xs.length cb) xs.length (bytesV xs)) (hcb : xs.length ≤ cb) (hsm : ∀ x ∈ xs, x < 256) (hr : Rds w 4 (.slice a l.length c) l.length (actsV l)) (hg : ∀ x ∈ l, x.good w) :
    Calls Try.prog 5 #[.slice ab xs.length cb, .slice a l.length c] w fun e w' => e = .returned (.bool true) ∧ Below w.heap.size w w' := by
  have hli := light_any l a c w hr hg
  cases hL : lightB l
  · rw [hL] at hli
    have HLI := Lib.hid hli
    clear hli hL hr hg hb hsm
    go_enter Try.func5, Try.ntmps5
    go_wp2_with fail
    refine HLI.out.mono ?_
    rintro e w1 ⟨rfl, rfl⟩
    go_wp2
    go_ret
    exact ⟨rfl, Below.refl _ _⟩
  rw [hL] at hli
  have hm1 := hb.2.1
  unfold maxLen at hm1
  by_cases hbig : 2000 < xs.length
  · have hbi : (2000 : Int) < xs.length := by omega
    have HLI := Lib.hid hli
    clear hli hL hr hg hb hsm
    go_enter Try.func5, Try.ntmps5
    go_wp2_with fail
    refine HLI.out.mono ?_
    rintro e w1 ⟨rfl, rfl⟩
    go_wp2
    go_ret
    exact ⟨rfl, Below.refl _ _⟩
  have hbi : ¬ (2000 : Int) < xs.length := by omega
  have hl40 := lightB_len hL
  have HLI := Lib.hid hli
  have HR := Lib.hid hr
  have HG := Lib.hid hg
  have HB := Lib.hid hb
  have HSM := Lib.hid hsm
  clear hli hL hr hg hb hsm
  go_enter Try.func5, Try.ntmps5
  go_wp2_with fail
  refine HLI.out.mono ?_
  rintro e w1 ⟨rfl, rfl⟩
  go_wp2_with fail
  refine (newReader_any2 xs ab cb w (by omega) HSM.out HB.out).mono ?_
  rintro e w1 ⟨B, v, rfl, hrr, hB0, hvo, g1⟩
  go_wp2
  have hst : DR w (w1.alloc (.cells #[.slice ab xs.length cb, .bool false] 44)) B w1.heap.size v xs false ab cb xs false :=
    ⟨hrr.grown (World.grownBy_alloc _ _ none), Blk.new w1 _ _, HB.out, hcb, by omega, by have := hrr.blk.lt; omega, fun b hb => by have := (hvo b hb).2; omega, hB0, g1.size, grownBy_trans g1 (World.grownBy_alloc _ _ none)⟩
  obtain ⟨Bx, hBx⟩ : ∃ Bx, w1.heap.size = Bx := ⟨_, rfl⟩
  obtain ⟨w2, hw2⟩ : ∃ w2, w1.alloc (.cells #[.slice ab xs.length cb, .bool false] 44) = w2 := ⟨_, rfl⟩
  rw [hBx, hw2] at hst
  rw [hBx, hw2]
  have HST := Lib.hid hst
  clear hst hBx hw2 hrr hB0 hvo g1 HLI
  have hlm := HR.out.2.1
  unfold maxLen at hlm
  go_loopw [7] (fun i wr => ∃ (j : Nat) (v : Value) (ys : List Nat) (bad : Bool) (ax : Option Addr) (cx : Nat), j ≤ l.length ∧ i = .int .i64 j ∧ DR w wr B Bx v ys bad ax cx ys bad) (fun i _ => l.length - (intOf i).toNat)
  case atStart => exact ⟨0, _, _, _, _, _, by omega, rfl, HST.out⟩
  case round =>
    obtain ⟨j, v, ys, bad, ax, cx, hj, rfl, hst⟩ := hrel
    have HS := Lib.hid hst
    have hgr := hst.grown
    clear hst
    by_cases hlt : j < l.length
    · obtain ⟨b, o, rfl, hc⟩ := HR.out.at' (by omega)
      obtain ⟨e0, e1, e2, e3⟩ := actsV_cells l j hlt
      have HX0 := Lib.hid (hc _ _ e0)
      have HX1 := Lib.hid (hc _ _ e1)
      have x0 := hgr.cell (hc _ _ e0) (by simp)
      have x1 := hgr.cell (hc _ _ e1) (by simp)
      simp only [← Nat.add_assoc] at x1
      have hgood := HG.out _ (acts_mem l j hlt)
      clear hc e0 e1 e2 e3 hgr
      generalize l.getD j WAct.zero = x at *
      obtain ⟨hk, hb, hn, hB, hsm⟩ := hgood
      obtain ⟨t, ht, ht1, ht2, htw, htw2, d, hd, hdt⟩ := kind3 x.k hk.1 hk.2
      clear hn hB hsm hk
      generalize x.b = kb at *
      have q0 := HS.out.xblk.cell (j := 0) rfl
      have q1 := HS.out.xblk.cell (j := 1) rfl
      have f0 := HS.out.xblk.frozen 0
      have f1 := HS.out.xblk.frozen 1
      have HT := Lib.hid (fun (n : Int) (W : World) => rtake_any ys bad ax cx n w W HS.out.few HS.out.xr HS.out.cap)
      rcases mayB5 kb with ⟨hmay, hask, b1, b2, b4, b8, k1, k2, k4, k8, hfour⟩ | ⟨hmay, hask, k1, k2, k4, k8⟩
      · have HASK := Lib.hid hask
        clear hmay hask
        rcases hfour with rfl | ⟨rfl, rfl⟩ | ⟨rfl, rfl, rfl⟩ | ⟨rfl, rfl, rfl, rfl⟩
        all_goals rcases (show d = 0 ∨ d = 1 ∨ d = 2 by omega) with rfl | rfl | rfl
        iterate 4
          · go_wp2_with fail
            refine (HT.out (kb) wr).mono ?_
            rintro e w3 ⟨a1, c1, a2, c2, rfl, hr1, hc1, hr2, g3⟩
            have HS3 := Lib.hid (HS.out.later g3)
            have HR1 := Lib.hid hr1
            have HC1 := Lib.hid hc1
            have HR2 := Lib.hid hr2
            have HS4 := Lib.hid (HS3.out.take (bad1 := badN ys bad (kb)) hr1 hc1 (left_len _ _))
            have q0 := HS3.out.xblk.cell (j := 0) rfl
            have q1 := HS3.out.xblk.cell (j := 1) rfl
            have f0 := HS3.out.xblk.frozen 0
            have f1 := HS3.out.xblk.frozen 1
            have x1 := HS4.out.grown.cell HX1.out (by simp)
            simp only [← Nat.add_assoc] at x1
            clear hr1 hc1 hr2 g3 HT x0
            go_wp2_with fail
            refine (rnum_any B v ys bad kb _ HS4.out.rr).mono ?_
            rintro e w6 ⟨v6, rfl, r6, o6, g6⟩
            rw [HASK.out] at r6
            have HS6 := Lib.hid (HS4.out.read r6 o6 g6)
            have HOF := Lib.hid (rof_any (takeN ys (kb)) a2 c2 w6 (by have := ask_len ys kb; rw [HASK.out] at this; exact this) (takeN_small _ _ HS.out.rr.small) (HR2.out.grown HS6.out.grown (by simp)))
            rw [HASK.out]
            clear r6 o6 g6 HS4 HS3 HS x1 q0 q1 f0 f1 HX0 HX1 HR1 HC1
            go_wp2_with fail
            refine HOF.out.mono ?_
            rintro e w7 ⟨rfl, rfl⟩
            clear HOF HR2
            obtain ⟨zs, hzs⟩ : ∃ zs, (leftN ys (kb)) = zs := ⟨_, rfl⟩
            obtain ⟨bz, hbz⟩ : ∃ bz, (badN ys bad (kb)) = bz := ⟨_, rfl⟩
            rw [hzs, hbz] at HS6
            have k0 := HS6.out.xblk.cell (j := 0) rfl
            have k1 := HS6.out.xblk.cell (j := 1) rfl
            clear hzs hbz
            go_wp2_with fail
            refine wp_region_planD (fun w' => w'.cell? ⟨Bx, 0, none⟩ = some (.slice a1 zs.length c1) ∧ w'.cell? ⟨Bx, 1, none⟩ = some (.bool bz) ∧ w.grownBy w' none) [([0, 2, 3], 1, true), ([4, 5, 6, 9, 10, 11], 7, true), ([], 8, true), ([], 12, true), ([], 13, true)] (by kernel_rfl) (by kernel_rfl) ?_
            have HS7 := Lib.hid (HS6.out.later (grownBy_drewN w6 1 none))
            refine wpPlanD_seg ⟨k0, k1, HS7.out.grown⟩ ?_
            repeat (apply wpReadD_step rfl (by rfl); (· intro wS hSw; (try have hSw := hSw rfl); (try dsimp only at hSw); go_simp; (try with_reducible rfl)); try simp only [Act.put, List.setIfInBounds_toArray, List.set_cons_zero, List.set_cons_succ])
            refine wpReadD_nil ?_
            refine wpOp_list rfl (fun K hK => ?_)
            go_simp
            refine (rbad_any B v6 zs bz _ HS7.out.rr).mono ?_
            rintro e w8 ⟨rfl, rfl⟩
            dsimp only
            refine hK _ _ ⟨fun _ => ⟨k0, k1, HS7.out.grown⟩, ?_⟩
            clear hK K
            try simp only [Act.put, List.setIfInBounds_toArray, List.set_cons_zero, List.set_cons_succ]
            refine wpPlanD_seg ⟨k0, k1, HS7.out.grown⟩ ?_
            repeat (apply wpReadD_step rfl (by rfl); (· intro wS hSw; (try have hSw := hSw rfl); (try dsimp only at hSw); (try have hcv := conv_rds (HS7.out.xr.grown hSw.2.2 (by simp))); go_simp; (try with_reducible rfl)); try simp only [Act.put, List.setIfInBounds_toArray, List.set_cons_zero, List.set_cons_succ])
            refine wpReadD_nil ?_
            refine wpOp_list rfl (fun K hK => ?_)
            go_simp
            refine (rrest_any B v6 zs bz _ HS7.out.rr).mono ?_
            rintro e w8 ⟨a8, c8, rfl, o8, g8⟩
            dsimp only
            have HS8 := Lib.hid (HS7.out.later g8)
            have k0 := HS8.out.xblk.cell (j := 0) rfl
            have k1 := HS8.out.xblk.cell (j := 1) rfl
            refine hK _ _ ⟨fun _ => ⟨k0, k1, HS8.out.grown⟩, ?_⟩
            clear hK K
            try simp only [Act.put, List.setIfInBounds_toArray, List.set_cons_zero, List.set_cons_succ]
            refine wpPlanD_one ?_
            refine wpOp_list rfl (fun K hK => ?_)
            have hcv := conv_rds (Rds.of_owns o8)
            go_simp
            refine hK _ _ ⟨fun _ => ⟨k0, k1, HS8.out.grown⟩, ?_⟩
            clear hK K hcv
            try simp only [Act.put, List.setIfInBounds_toArray, List.set_cons_zero, List.set_cons_succ]
            refine wpPlanD_one ?_
            refine wpOp_list rfl (fun K hK => ?_)
            go_simp
            refine hK _ _ ⟨fun _ => ⟨k0, k1, HS8.out.grown⟩, ?_⟩
            clear hK K
            try simp only [Act.put, List.setIfInBounds_toArray, List.set_cons_zero, List.set_cons_succ]
            refine wpPlanD_one ?_
            refine wpOp_list rfl (fun K hK => ?_)
            go_simp
            refine hK _ _ ⟨fun _ => ⟨k0, k1, HS8.out.grown⟩, ?_⟩
            clear hK K
            try simp only [Act.put, List.setIfInBounds_toArray, List.set_cons_zero, List.set_cons_succ]
            refine wpPlanD_nil (NoPanic.normal ?_)
            go_wp2_with fail
            go_roundw
            case rel => exact ⟨j + 1, v6, zs, bz, a1, c1, by omega, by go_num, HS8.out⟩
            case measure => simp [intOf]; omega
          · go_wp2_with fail
            refine (HT.out (2) wr).mono ?_
            rintro e w3 ⟨a1, c1, a2, c2, rfl, hr1, hc1, hr2, g3⟩
            have HS3 := Lib.hid (HS.out.later g3)
            have HR1 := Lib.hid hr1
            have HC1 := Lib.hid hc1
            have HR2 := Lib.hid hr2
            have HS4 := Lib.hid (HS3.out.take (bad1 := badN ys bad (2)) hr1 hc1 (left_len _ _))
            have q0 := HS3.out.xblk.cell (j := 0) rfl
            have q1 := HS3.out.xblk.cell (j := 1) rfl
            have f0 := HS3.out.xblk.frozen 0
            have f1 := HS3.out.xblk.frozen 1
            clear hr1 hc1 hr2 g3 HT x0 x1 HX0 HX1 k1 k2 k4 k8
            go_wp2_with fail
            obtain ⟨W4, hW4⟩ : ∃ W4, (w3.setCell ⟨Bx, 0, none⟩ (.slice a1 (leftN ys (2)).length c1)).setCell ⟨Bx, 1, none⟩ (.bool (badN ys bad (2))) = W4 := ⟨_, rfl⟩
            rw [hW4] at HS4 ⊢
            clear hW4 q0 q1 f0 f1 HS3
            have HS4 := Lib.hid (HS4.out.later (grownBy_drewN W4 1 none))
            have k0 := HS4.out.xblk.cell (j := 0) rfl
            have k1 := HS4.out.xblk.cell (j := 1) rfl
            have hof := rof_any (takeN ys 2) a2 c2 (W4.drewN 1) (by have := take2_len ys; omega) (takeN_small _ _ HS.out.rr.small) (HR2.out.grown HS4.out.grown (by simp))
            have hsz := ofB2_small (takeN ys 2) (takeN_small ys 2 HS.out.rr.small) (take2_len ys)
            have HTL : Hid (textL ys = ((ofB (takeN ys 2) : Nat) : Int)) := Lib.hid rfl
            generalize hN : ofB (takeN ys 2) = N at hof hsz HTL
            have HOF := Lib.hid hof
            clear hof hN
            have hwN : IntKind.i64.wrap (N : Int) = N := IntWalk.i64_in _ (by omega)
            have hwN2 : wrap64 (N : Int) = N := IntWalk.wrap64_in _ (by omega)
            have HTX : Hid (∀ W, RR W B v ys bad → Calls Try.prog 23 #[.pointer (some ⟨B, 0, none⟩)] W fun e w' => ∃ a c v', e = .returned (.slice a (takeN (leftN ys 2) (N : Int)).length c) ∧ w'.ownsRow W.heap.size 5 1 (.slice a (takeN (leftN ys 2) (N : Int)).length c) (takeN (leftN ys 2) (N : Int)).length (bytesV (takeN (leftN ys 2) (N : Int))) ∧ RR w' B v' (leftN (leftN ys 2) (N : Int)) (badN (leftN ys 2) (badN ys bad 2) (N : Int)) ∧ (∀ b, v'.ownBlock = some b → v.ownBlock = some b) ∧ W.grownBy w' (some B)) := Lib.hid (fun W h => by
              have := rtext_any B v ys bad W h
              unfold TPost at this
              rw [HTL.out] at this
              exact this)
            have HT2 := Lib.hid (fun W => rtake_any (leftN ys 2) (badN ys bad 2) a1 c1 (N : Int) w W (Nat.le_trans (left_len _ _) HS.out.few) HR1.out HC1.out)
            refine wp_region_planD (fun w' => w'.cell? ⟨Bx, 0, none⟩ = some (.slice a1 (leftN ys 2).length c1) ∧ w'.cell? ⟨Bx, 1, none⟩ = some (.bool (badN ys bad 2)) ∧ w.grownBy w' none) [([0, 1], 2, true), ([3], 4, true), ([5, 6, 7], 8, false), ([], 9, false)] (by kernel_rfl) (by kernel_rfl) ?_
            refine wpPlanD_seg ⟨k0, k1, HS4.out.grown⟩ ?_
            repeat (apply wpReadD_step rfl (by rfl); (· intro wS hSw; (try have hSw := hSw rfl); (try dsimp only at hSw); go_simp; (try with_reducible rfl)); try simp only [Act.put, List.setIfInBounds_toArray, List.set_cons_zero, List.set_cons_succ])
            refine wpReadD_nil ?_
            refine wpOp_list rfl (fun K hK => ?_)
            go_simp
            refine HOF.out.mono ?_
            rintro e w5 ⟨rfl, rfl⟩
            dsimp only
            refine hK _ _ ⟨fun _ => ⟨k0, k1, HS4.out.grown⟩, ?_⟩
            clear hK K
            try simp only [Act.put, List.setIfInBounds_toArray, List.set_cons_zero, List.set_cons_succ]
            refine wpPlanD_seg ⟨k0, k1, HS4.out.grown⟩ ?_
            repeat (apply wpReadD_step rfl (by rfl); (· intro wS hSw; (try have hSw := hSw rfl); (try dsimp only at hSw); go_simp; (try with_reducible rfl)); try simp only [Act.put, List.setIfInBounds_toArray, List.set_cons_zero, List.set_cons_succ])
            refine wpReadD_nil ?_
            refine wpOp_list rfl (fun K hK => ?_)
            go_simp
            refine (HT2.out _).mono ?_
            rintro e w6 ⟨a3, c3, a4, c4, rfl, hr3, hc3, hr4, g6⟩
            dsimp only
            have HS5 := Lib.hid (HS4.out.later g6)
            have k0 := HS5.out.xblk.cell (j := 0) rfl
            have k1 := HS5.out.xblk.cell (j := 1) rfl
            have f0 := HS5.out.xblk.frozen 0
            have f1 := HS5.out.xblk.frozen 1
            refine hK _ _ ⟨fun _ => ⟨k0, k1, HS5.out.grown⟩, ?_⟩
            clear hK K
            try simp only [Act.put, List.setIfInBounds_toArray, List.set_cons_zero, List.set_cons_succ]
            refine wpPlanD_pure (by rfl) ?_
            repeat (apply wpReadD_step rfl (by rfl); (· intro wS hSw; (try have hSw := hSw rfl); (try dsimp only at hSw); go_simp; (try with_reducible rfl)); try simp only [Act.put, List.setIfInBounds_toArray, List.set_cons_zero, List.set_cons_succ])
            refine wpReadD_nil ?_
            refine wpOp_list rfl (fun K hK => ?_)
            go_simp
            refine hK _ _ ?_
            clear hK K
            first | refine ⟨fun hf => (by cases hf), ?_⟩ | skip
            try simp only [Act.put, List.setIfInBounds_toArray, List.set_cons_zero, List.set_cons_succ]
            have HS7 := Lib.hid (HS5.out.take (bad1 := badN (leftN ys 2) (badN ys bad 2) (N : Int)) hr3 hc3 (left_len _ _))
            have HR4 := Lib.hid hr4
            refine wpPlanD_one ?_
            refine wpOp_list rfl (fun K hK => ?_)
            go_simp
            refine hK _ _ ?_
            clear hK K
            first | refine ⟨fun hf => (by cases hf), ?_⟩ | skip
            try simp only [Act.put, List.setIfInBounds_toArray, List.set_cons_zero, List.set_cons_succ]
            refine wpPlanD_nil (NoPanic.normal ?_)
            clear hr3 hc3 hr4 g6 k0 k1 f0 f1 HS4 HT2 HOF HR1 HC1 HR2 HTL hwN hwN2
            go_wp2_with fail
            obtain ⟨W7, hW7⟩ : ∃ W7, (w6.setCell ⟨Bx, 0, none⟩ (.slice a3 (leftN (leftN ys 2) (N : Int)).length c3)).setCell ⟨Bx, 1, none⟩ (.bool (badN (leftN ys 2) (badN ys bad 2) (N : Int))) = W7 := ⟨_, rfl⟩
            rw [hW7] at HS7 ⊢
            clear hW7 HS5 HS
            have HS7 := Lib.hid (HS7.out.later (grownBy_drewN W7 1 none))
            refine wp_region_planD (fun w' => w.grownBy w' none) [([0, 3, 4], 1, true), ([], 2, true), ([], 5, true)] (by kernel_rfl) (by kernel_rfl) ?_
            refine wpPlanD_seg HS7.out.grown ?_
            repeat (apply wpReadD_step rfl (by rfl); (· intro wS hSw; (try have hSw := hSw rfl); (try dsimp only at hSw); (try have hcv := conv_rds (HR4.out.grown hSw (by simp))); go_simp; (try with_reducible rfl)); try simp only [Act.put, List.setIfInBounds_toArray, List.set_cons_zero, List.set_cons_succ])
            refine wpReadD_nil ?_
            refine wpOp_list rfl (fun K hK => ?_)
            go_simp
            refine (HTX.out _ HS7.out.rr).mono ?_
            rintro e w8 ⟨a5, c5, v6, rfl, o5, r6, ov6, g8⟩
            dsimp only
            have HS6 := Lib.hid (HS7.out.read r6 ov6 g8)
            refine hK _ _ ⟨fun _ => HS6.out.grown, ?_⟩
            clear hK K
            try simp only [Act.put, List.setIfInBounds_toArray, List.set_cons_zero, List.set_cons_succ]
            refine wpPlanD_one ?_
            refine wpOp_list rfl (fun K hK => ?_)
            have hcv := conv_rds (Rds.of_owns o5)
            go_simp
            refine hK _ _ ⟨fun _ => HS6.out.grown, ?_⟩
            clear hK K
            try simp only [Act.put, List.setIfInBounds_toArray, List.set_cons_zero, List.set_cons_succ]
            clear hcv
            refine wpPlanD_one ?_
            refine wpOp_list rfl (fun K hK => ?_)
            go_simp
            refine hK _ _ ⟨fun _ => HS6.out.grown, ?_⟩
            clear hK K
            try simp only [Act.put, List.setIfInBounds_toArray, List.set_cons_zero, List.set_cons_succ]
            refine wpPlanD_nil (NoPanic.normal ?_)
            clear o5 r6 ov6 g8 HS7 HTX HR4
            obtain ⟨zs, hzs⟩ : ∃ zs, (leftN (leftN ys 2) (N : Int)) = zs := ⟨_, rfl⟩
            obtain ⟨bz, hbz⟩ : ∃ bz, (badN (leftN ys 2) (badN ys bad 2) (N : Int)) = bz := ⟨_, rfl⟩
            rw [hzs, hbz] at HS6
            have k0 := HS6.out.xblk.cell (j := 0) rfl
            have k1 := HS6.out.xblk.cell (j := 1) rfl
            clear hzs hbz
            go_wp2_with fail
            refine wp_region_planD (fun w' => w'.cell? ⟨Bx, 0, none⟩ = some (.slice a3 zs.length c3) ∧ w'.cell? ⟨Bx, 1, none⟩ = some (.bool bz) ∧ w.grownBy w' none) [([0, 2, 3], 1, true), ([4, 5, 6, 9, 10, 11], 7, true), ([], 8, true), ([], 12, true), ([], 13, true)] (by kernel_rfl) (by kernel_rfl) ?_
            have HS7 := Lib.hid (HS6.out.later (grownBy_drewN w8 1 none))
            refine wpPlanD_seg ⟨k0, k1, HS7.out.grown⟩ ?_
            repeat (apply wpReadD_step rfl (by rfl); (· intro wS hSw; (try have hSw := hSw rfl); (try dsimp only at hSw); go_simp; (try with_reducible rfl)); try simp only [Act.put, List.setIfInBounds_toArray, List.set_cons_zero, List.set_cons_succ])
            refine wpReadD_nil ?_
            refine wpOp_list rfl (fun K hK => ?_)
            go_simp
            refine (rbad_any B v6 zs bz _ HS7.out.rr).mono ?_
            rintro e w8 ⟨rfl, rfl⟩
            dsimp only
            refine hK _ _ ⟨fun _ => ⟨k0, k1, HS7.out.grown⟩, ?_⟩
            clear hK K
            try simp only [Act.put, List.setIfInBounds_toArray, List.set_cons_zero, List.set_cons_succ]
            refine wpPlanD_seg ⟨k0, k1, HS7.out.grown⟩ ?_
            repeat (apply wpReadD_step rfl (by rfl); (· intro wS hSw; (try have hSw := hSw rfl); (try dsimp only at hSw); (try have hcv := conv_rds (HS7.out.xr.grown hSw.2.2 (by simp))); go_simp; (try with_reducible rfl)); try simp only [Act.put, List.setIfInBounds_toArray, List.set_cons_zero, List.set_cons_succ])
            refine wpReadD_nil ?_
            refine wpOp_list rfl (fun K hK => ?_)
            go_simp
            refine (rrest_any B v6 zs bz _ HS7.out.rr).mono ?_
            rintro e w8 ⟨a8, c8, rfl, o8, g8⟩
            dsimp only
            have HS8 := Lib.hid (HS7.out.later g8)
            have k0 := HS8.out.xblk.cell (j := 0) rfl
            have k1 := HS8.out.xblk.cell (j := 1) rfl
            refine hK _ _ ⟨fun _ => ⟨k0, k1, HS8.out.grown⟩, ?_⟩
            clear hK K
            try simp only [Act.put, List.setIfInBounds_toArray, List.set_cons_zero, List.set_cons_succ]
            refine wpPlanD_one ?_
            refine wpOp_list rfl (fun K hK => ?_)
            have hcv := conv_rds (Rds.of_owns o8)
            go_simp
            refine hK _ _ ⟨fun _ => ⟨k0, k1, HS8.out.grown⟩, ?_⟩
            clear hK K hcv
            try simp only [Act.put, List.setIfInBounds_toArray, List.set_cons_zero, List.set_cons_succ]
            refine wpPlanD_one ?_
            refine wpOp_list rfl (fun K hK => ?_)
            go_simp
            refine hK _ _ ⟨fun _ => ⟨k0, k1, HS8.out.grown⟩, ?_⟩
            clear hK K
            try simp only [Act.put, List.setIfInBounds_toArray, List.set_cons_zero, List.set_cons_succ]
            refine wpPlanD_one ?_
            refine wpOp_list rfl (fun K hK => ?_)
            go_simp
            refine hK _ _ ⟨fun _ => ⟨k0, k1, HS8.out.grown⟩, ?_⟩
            clear hK K
            try simp only [Act.put, List.setIfInBounds_toArray, List.set_cons_zero, List.set_cons_succ]
            refine wpPlanD_nil (NoPanic.normal ?_)
            go_wp2_with fail
            go_roundw
            case rel => exact ⟨j + 1, v6, zs, bz, a3, c3, by omega, by go_num, HS8.out⟩
            case measure => simp [intOf]; omega
          · go_wp2_with fail
            refine (HT.out (kb) wr).mono ?_
            rintro e w3 ⟨a1, c1, a2, c2, rfl, hr1, hc1, hr2, g3⟩
            have HS3 := Lib.hid (HS.out.later g3)
            have HR1 := Lib.hid hr1
            have HC1 := Lib.hid hc1
            have HR2 := Lib.hid hr2
            have HS4 := Lib.hid (HS3.out.take (bad1 := badN ys bad (kb)) hr1 hc1 (left_len _ _))
            have q0 := HS3.out.xblk.cell (j := 0) rfl
            have q1 := HS3.out.xblk.cell (j := 1) rfl
            have f0 := HS3.out.xblk.frozen 0
            have f1 := HS3.out.xblk.frozen 1
            clear hr1 hc1 hr2 g3 HT x0 x1 HX0 HX1 k1 k2 k4 k8
            go_wp2_with fail
            obtain ⟨W4, hW4⟩ : ∃ W4, (w3.setCell ⟨Bx, 0, none⟩ (.slice a1 (leftN ys (kb)).length c1)).setCell ⟨Bx, 1, none⟩ (.bool (badN ys bad (kb))) = W4 := ⟨_, rfl⟩
            rw [hW4] at HS4 ⊢
            clear hW4 q0 q1 f0 f1 HS3
            have HS4 := Lib.hid (HS4.out.later (grownBy_drewN W4 1 none))
            refine wp_region_planD (fun w' => w.grownBy w' none) [([0, 1, 4, 5], 2, true), ([], 3, true), ([], 6, true)] (by kernel_rfl) (by kernel_rfl) ?_
            refine wpPlanD_seg HS4.out.grown ?_
            repeat (apply wpReadD_step rfl (by rfl); (· intro wS hSw; (try have hSw := hSw rfl); (try dsimp only at hSw); (try have hcv := conv_rds (HR2.out.grown hSw (by simp))); go_simp; (try with_reducible rfl)); try simp only [Act.put, List.setIfInBounds_toArray, List.set_cons_zero, List.set_cons_succ])
            refine wpReadD_nil ?_
            refine wpOp_list rfl (fun K hK => ?_)
            go_simp
            refine (rraw_any B v ys bad (kb) _ HS4.out.rr).mono ?_
            rintro e w6 ⟨a5, c5, v6, rfl, o5, r6, ov6, g6⟩
            dsimp only
            have HS6 := Lib.hid (HS4.out.read r6 ov6 g6)
            refine hK _ _ ⟨fun _ => HS6.out.grown, ?_⟩
            clear hK K
            try simp only [Act.put, List.setIfInBounds_toArray, List.set_cons_zero, List.set_cons_succ]
            refine wpPlanD_one ?_
            refine wpOp_list rfl (fun K hK => ?_)
            have hcv := conv_rds (Rds.of_owns o5)
            go_simp
            refine hK _ _ ⟨fun _ => HS6.out.grown, ?_⟩
            clear hK K
            try simp only [Act.put, List.setIfInBounds_toArray, List.set_cons_zero, List.set_cons_succ]
            clear hcv
            refine wpPlanD_one ?_
            refine wpOp_list rfl (fun K hK => ?_)
            go_simp
            refine hK _ _ ⟨fun _ => HS6.out.grown, ?_⟩
            clear hK K
            try simp only [Act.put, List.setIfInBounds_toArray, List.set_cons_zero, List.set_cons_succ]
            refine wpPlanD_nil (NoPanic.normal ?_)
            clear o5 r6 ov6 g6 HS4 HR1 HC1 HR2 HS
            obtain ⟨zs, hzs⟩ : ∃ zs, (leftN ys kb) = zs := ⟨_, rfl⟩
            obtain ⟨bz, hbz⟩ : ∃ bz, (badN ys bad kb) = bz := ⟨_, rfl⟩
            rw [hzs, hbz] at HS6
            have k0 := HS6.out.xblk.cell (j := 0) rfl
            have k1 := HS6.out.xblk.cell (j := 1) rfl
            clear hzs hbz
            go_wp2_with fail
            refine wp_region_planD (fun w' => w'.cell? ⟨Bx, 0, none⟩ = some (.slice a1 zs.length c1) ∧ w'.cell? ⟨Bx, 1, none⟩ = some (.bool bz) ∧ w.grownBy w' none) [([0, 2, 3], 1, true), ([4, 5, 6, 9, 10, 11], 7, true), ([], 8, true), ([], 12, true), ([], 13, true)] (by kernel_rfl) (by kernel_rfl) ?_
            have HS7 := Lib.hid (HS6.out.later (grownBy_drewN w6 1 none))
            refine wpPlanD_seg ⟨k0, k1, HS7.out.grown⟩ ?_
            repeat (apply wpReadD_step rfl (by rfl); (· intro wS hSw; (try have hSw := hSw rfl); (try dsimp only at hSw); go_simp; (try with_reducible rfl)); try simp only [Act.put, List.setIfInBounds_toArray, List.set_cons_zero, List.set_cons_succ])
            refine wpReadD_nil ?_
            refine wpOp_list rfl (fun K hK => ?_)
            go_simp
            refine (rbad_any B v6 zs bz _ HS7.out.rr).mono ?_
            rintro e w8 ⟨rfl, rfl⟩
            dsimp only
            refine hK _ _ ⟨fun _ => ⟨k0, k1, HS7.out.grown⟩, ?_⟩
            clear hK K
            try simp only [Act.put, List.setIfInBounds_toArray, List.set_cons_zero, List.set_cons_succ]
            refine wpPlanD_seg ⟨k0, k1, HS7.out.grown⟩ ?_
            repeat (apply wpReadD_step rfl (by rfl); (· intro wS hSw; (try have hSw := hSw rfl); (try dsimp only at hSw); (try have hcv := conv_rds (HS7.out.xr.grown hSw.2.2 (by simp))); go_simp; (try with_reducible rfl)); try simp only [Act.put, List.setIfInBounds_toArray, List.set_cons_zero, List.set_cons_succ])
            refine wpReadD_nil ?_
            refine wpOp_list rfl (fun K hK => ?_)
            go_simp
            refine (rrest_any B v6 zs bz _ HS7.out.rr).mono ?_
            rintro e w8 ⟨a8, c8, rfl, o8, g8⟩
            dsimp only
            have HS8 := Lib.hid (HS7.out.later g8)
            have k0 := HS8.out.xblk.cell (j := 0) rfl
            have k1 := HS8.out.xblk.cell (j := 1) rfl
            refine hK _ _ ⟨fun _ => ⟨k0, k1, HS8.out.grown⟩, ?_⟩
            clear hK K
            try simp only [Act.put, List.setIfInBounds_toArray, List.set_cons_zero, List.set_cons_succ]
            refine wpPlanD_one ?_
            refine wpOp_list rfl (fun K hK => ?_)
            have hcv := conv_rds (Rds.of_owns o8)
            go_simp
            refine hK _ _ ⟨fun _ => ⟨k0, k1, HS8.out.grown⟩, ?_⟩
            clear hK K hcv
            try simp only [Act.put, List.setIfInBounds_toArray, List.set_cons_zero, List.set_cons_succ]
            refine wpPlanD_one ?_
            refine wpOp_list rfl (fun K hK => ?_)
            go_simp
            refine hK _ _ ⟨fun _ => ⟨k0, k1, HS8.out.grown⟩, ?_⟩
            clear hK K
            try simp only [Act.put, List.setIfInBounds_toArray, List.set_cons_zero, List.set_cons_succ]
            refine wpPlanD_one ?_
            refine wpOp_list rfl (fun K hK => ?_)
            go_simp
            refine hK _ _ ⟨fun _ => ⟨k0, k1, HS8.out.grown⟩, ?_⟩
            clear hK K
            try simp only [Act.put, List.setIfInBounds_toArray, List.set_cons_zero, List.set_cons_succ]
            refine wpPlanD_nil (NoPanic.normal ?_)
            go_wp2_with fail
            go_roundw
            case rel => exact ⟨j + 1, v6, zs, bz, a1, c1, by omega, by go_num, HS8.out⟩
            case measure => simp [intOf]; omega
      · have HASK := Lib.hid hask
        clear hmay hask
        rcases (show d = 0 ∨ d = 1 ∨ d = 2 by omega) with rfl | rfl | rfl
        · go_wp2_with fail
          refine (HT.out (-1) wr).mono ?_
          rintro e w3 ⟨a1, c1, a2, c2, rfl, hr1, hc1, hr2, g3⟩
          have HS3 := Lib.hid (HS.out.later g3)
          have HR1 := Lib.hid hr1
          have HC1 := Lib.hid hc1
          have HR2 := Lib.hid hr2
          have HS4 := Lib.hid (HS3.out.take (bad1 := badN ys bad (-1)) hr1 hc1 (left_len _ _))
          have q0 := HS3.out.xblk.cell (j := 0) rfl
          have q1 := HS3.out.xblk.cell (j := 1) rfl
          have f0 := HS3.out.xblk.frozen 0
          have f1 := HS3.out.xblk.frozen 1
          have x1 := HS4.out.grown.cell HX1.out (by simp)
          simp only [← Nat.add_assoc] at x1
          clear hr1 hc1 hr2 g3 HT x0
          go_wp2_with fail
          refine (rnum_any B v ys bad kb _ HS4.out.rr).mono ?_
          rintro e w6 ⟨v6, rfl, r6, o6, g6⟩
          rw [HASK.out] at r6
          have HS6 := Lib.hid (HS4.out.read r6 o6 g6)
          have HOF := Lib.hid (rof_any (takeN ys (-1)) a2 c2 w6 (by have := ask_len ys kb; rw [HASK.out] at this; exact this) (takeN_small _ _ HS.out.rr.small) (HR2.out.grown HS6.out.grown (by simp)))
          rw [HASK.out]
          clear r6 o6 g6 HS4 HS3 HS x1 q0 q1 f0 f1 HX0 HX1 HR1 HC1
          go_wp2_with fail
          refine HOF.out.mono ?_
          rintro e w7 ⟨rfl, rfl⟩
          clear HOF HR2
          obtain ⟨zs, hzs⟩ : ∃ zs, (leftN ys (-1)) = zs := ⟨_, rfl⟩
          obtain ⟨bz, hbz⟩ : ∃ bz, (badN ys bad (-1)) = bz := ⟨_, rfl⟩
          rw [hzs, hbz] at HS6
          have k0 := HS6.out.xblk.cell (j := 0) rfl
          have k1 := HS6.out.xblk.cell (j := 1) rfl
          clear hzs hbz
          go_wp2_with fail
          refine wp_region_planD (fun w' => w'.cell? ⟨Bx, 0, none⟩ = some (.slice a1 zs.length c1) ∧ w'.cell? ⟨Bx, 1, none⟩ = some (.bool bz) ∧ w.grownBy w' none) [([0, 2, 3], 1, true), ([4, 5, 6, 9, 10, 11], 7, true), ([], 8, true), ([], 12, true), ([], 13, true)] (by kernel_rfl) (by kernel_rfl) ?_
          have HS7 := Lib.hid (HS6.out.later (grownBy_drewN w6 1 none))
          refine wpPlanD_seg ⟨k0, k1, HS7.out.grown⟩ ?_
          repeat (apply wpReadD_step rfl (by rfl); (· intro wS hSw; (try have hSw := hSw rfl); (try dsimp only at hSw); go_simp; (try with_reducible rfl)); try simp only [Act.put, List.setIfInBounds_toArray, List.set_cons_zero, List.set_cons_succ])
          refine wpReadD_nil ?_
          refine wpOp_list rfl (fun K hK => ?_)
          go_simp
          refine (rbad_any B v6 zs bz _ HS7.out.rr).mono ?_
          rintro e w8 ⟨rfl, rfl⟩
          dsimp only
          refine hK _ _ ⟨fun _ => ⟨k0, k1, HS7.out.grown⟩, ?_⟩
          clear hK K
          try simp only [Act.put, List.setIfInBounds_toArray, List.set_cons_zero, List.set_cons_succ]
          refine wpPlanD_seg ⟨k0, k1, HS7.out.grown⟩ ?_
          repeat (apply wpReadD_step rfl (by rfl); (· intro wS hSw; (try have hSw := hSw rfl); (try dsimp only at hSw); (try have hcv := conv_rds (HS7.out.xr.grown hSw.2.2 (by simp))); go_simp; (try with_reducible rfl)); try simp only [Act.put, List.setIfInBounds_toArray, List.set_cons_zero, List.set_cons_succ])
          refine wpReadD_nil ?_
          refine wpOp_list rfl (fun K hK => ?_)
          go_simp
          refine (rrest_any B v6 zs bz _ HS7.out.rr).mono ?_
          rintro e w8 ⟨a8, c8, rfl, o8, g8⟩
          dsimp only
          have HS8 := Lib.hid (HS7.out.later g8)
          have k0 := HS8.out.xblk.cell (j := 0) rfl
          have k1 := HS8.out.xblk.cell (j := 1) rfl
          refine hK _ _ ⟨fun _ => ⟨k0, k1, HS8.out.grown⟩, ?_⟩
          clear hK K
          try simp only [Act.put, List.setIfInBounds_toArray, List.set_cons_zero, List.set_cons_succ]
          refine wpPlanD_one ?_
          refine wpOp_list rfl (fun K hK => ?_)
          have hcv := conv_rds (Rds.of_owns o8)
          go_simp
          refine hK _ _ ⟨fun _ => ⟨k0, k1, HS8.out.grown⟩, ?_⟩
          clear hK K hcv
          try simp only [Act.put, List.setIfInBounds_toArray, List.set_cons_zero, List.set_cons_succ]
          refine wpPlanD_one ?_
          refine wpOp_list rfl (fun K hK => ?_)
          go_simp
          refine hK _ _ ⟨fun _ => ⟨k0, k1, HS8.out.grown⟩, ?_⟩
          clear hK K
          try simp only [Act.put, List.setIfInBounds_toArray, List.set_cons_zero, List.set_cons_succ]
          refine wpPlanD_one ?_
          refine wpOp_list rfl (fun K hK => ?_)
          go_simp
          refine hK _ _ ⟨fun _ => ⟨k0, k1, HS8.out.grown⟩, ?_⟩
          clear hK K
          try simp only [Act.put, List.setIfInBounds_toArray, List.set_cons_zero, List.set_cons_succ]
          refine wpPlanD_nil (NoPanic.normal ?_)
          go_wp2_with fail
          go_roundw
          case rel => exact ⟨j + 1, v6, zs, bz, a1, c1, by omega, by go_num, HS8.out⟩
          case measure => simp [intOf]; omega
        · go_wp2_with fail
          refine (HT.out (2) wr).mono ?_
          rintro e w3 ⟨a1, c1, a2, c2, rfl, hr1, hc1, hr2, g3⟩
          have HS3 := Lib.hid (HS.out.later g3)
          have HR1 := Lib.hid hr1
          have HC1 := Lib.hid hc1
          have HR2 := Lib.hid hr2
          have HS4 := Lib.hid (HS3.out.take (bad1 := badN ys bad (2)) hr1 hc1 (left_len _ _))
          have q0 := HS3.out.xblk.cell (j := 0) rfl
          have q1 := HS3.out.xblk.cell (j := 1) rfl
          have f0 := HS3.out.xblk.frozen 0
          have f1 := HS3.out.xblk.frozen 1
          clear hr1 hc1 hr2 g3 HT x0 x1 HX0 HX1 k1 k2 k4 k8
          go_wp2_with fail
          obtain ⟨W4, hW4⟩ : ∃ W4, (w3.setCell ⟨Bx, 0, none⟩ (.slice a1 (leftN ys (2)).length c1)).setCell ⟨Bx, 1, none⟩ (.bool (badN ys bad (2))) = W4 := ⟨_, rfl⟩
          rw [hW4] at HS4 ⊢
          clear hW4 q0 q1 f0 f1 HS3
          have HS4 := Lib.hid (HS4.out.later (grownBy_drewN W4 1 none))
          have k0 := HS4.out.xblk.cell (j := 0) rfl
          have k1 := HS4.out.xblk.cell (j := 1) rfl
          have hof := rof_any (takeN ys 2) a2 c2 (W4.drewN 1) (by have := take2_len ys; omega) (takeN_small _ _ HS.out.rr.small) (HR2.out.grown HS4.out.grown (by simp))
          have hsz := ofB2_small (takeN ys 2) (takeN_small ys 2 HS.out.rr.small) (take2_len ys)
          have HTL : Hid (textL ys = ((ofB (takeN ys 2) : Nat) : Int)) := Lib.hid rfl
          generalize hN : ofB (takeN ys 2) = N at hof hsz HTL
          have HOF := Lib.hid hof
          clear hof hN
          have hwN : IntKind.i64.wrap (N : Int) = N := IntWalk.i64_in _ (by omega)
          have hwN2 : wrap64 (N : Int) = N := IntWalk.wrap64_in _ (by omega)
          have HTX : Hid (∀ W, RR W B v ys bad → Calls Try.prog 23 #[.pointer (some ⟨B, 0, none⟩)] W fun e w' => ∃ a c v', e = .returned (.slice a (takeN (leftN ys 2) (N : Int)).length c) ∧ w'.ownsRow W.heap.size 5 1 (.slice a (takeN (leftN ys 2) (N : Int)).length c) (takeN (leftN ys 2) (N : Int)).length (bytesV (takeN (leftN ys 2) (N : Int))) ∧ RR w' B v' (leftN (leftN ys 2) (N : Int)) (badN (leftN ys 2) (badN ys bad 2) (N : Int)) ∧ (∀ b, v'.ownBlock = some b → v.ownBlock = some b) ∧ W.grownBy w' (some B)) := Lib.hid (fun W h => by
            have := rtext_any B v ys bad W h
            unfold TPost at this
            rw [HTL.out] at this
            exact this)
          have HT2 := Lib.hid (fun W => rtake_any (leftN ys 2) (badN ys bad 2) a1 c1 (N : Int) w W (Nat.le_trans (left_len _ _) HS.out.few) HR1.out HC1.out)
          refine wp_region_planD (fun w' => w'.cell? ⟨Bx, 0, none⟩ = some (.slice a1 (leftN ys 2).length c1) ∧ w'.cell? ⟨Bx, 1, none⟩ = some (.bool (badN ys bad 2)) ∧ w.grownBy w' none) [([0, 1], 2, true), ([3], 4, true), ([5, 6, 7], 8, false), ([], 9, false)] (by kernel_rfl) (by kernel_rfl) ?_
          refine wpPlanD_seg ⟨k0, k1, HS4.out.grown⟩ ?_
          repeat (apply wpReadD_step rfl (by rfl); (· intro wS hSw; (try have hSw := hSw rfl); (try dsimp only at hSw); go_simp; (try with_reducible rfl)); try simp only [Act.put, List.setIfInBounds_toArray, List.set_cons_zero, List.set_cons_succ])
          refine wpReadD_nil ?_
          refine wpOp_list rfl (fun K hK => ?_)
          go_simp
          refine HOF.out.mono ?_
          rintro e w5 ⟨rfl, rfl⟩
          dsimp only
          refine hK _ _ ⟨fun _ => ⟨k0, k1, HS4.out.grown⟩, ?_⟩
          clear hK K
          try simp only [Act.put, List.setIfInBounds_toArray, List.set_cons_zero, List.set_cons_succ]
          refine wpPlanD_seg ⟨k0, k1, HS4.out.grown⟩ ?_
          repeat (apply wpReadD_step rfl (by rfl); (· intro wS hSw; (try have hSw := hSw rfl); (try dsimp only at hSw); go_simp; (try with_reducible rfl)); try simp only [Act.put, List.setIfInBounds_toArray, List.set_cons_zero, List.set_cons_succ])
          refine wpReadD_nil ?_
          refine wpOp_list rfl (fun K hK => ?_)
          go_simp
          refine (HT2.out _).mono ?_
          rintro e w6 ⟨a3, c3, a4, c4, rfl, hr3, hc3, hr4, g6⟩
          dsimp only
          have HS5 := Lib.hid (HS4.out.later g6)
          have k0 := HS5.out.xblk.cell (j := 0) rfl
          have k1 := HS5.out.xblk.cell (j := 1) rfl
          have f0 := HS5.out.xblk.frozen 0
          have f1 := HS5.out.xblk.frozen 1
          refine hK _ _ ⟨fun _ => ⟨k0, k1, HS5.out.grown⟩, ?_⟩
          clear hK K
          try simp only [Act.put, List.setIfInBounds_toArray, List.set_cons_zero, List.set_cons_succ]
          refine wpPlanD_pure (by rfl) ?_
          repeat (apply wpReadD_step rfl (by rfl); (· intro wS hSw; (try have hSw := hSw rfl); (try dsimp only at hSw); go_simp; (try with_reducible rfl)); try simp only [Act.put, List.setIfInBounds_toArray, List.set_cons_zero, List.set_cons_succ])
          refine wpReadD_nil ?_
          refine wpOp_list rfl (fun K hK => ?_)
          go_simp
          refine hK _ _ ?_
          clear hK K
          first | refine ⟨fun hf => (by cases hf), ?_⟩ | skip
          try simp only [Act.put, List.setIfInBounds_toArray, List.set_cons_zero, List.set_cons_succ]
          have HS7 := Lib.hid (HS5.out.take (bad1 := badN (leftN ys 2) (badN ys bad 2) (N : Int)) hr3 hc3 (left_len _ _))
          have HR4 := Lib.hid hr4
          refine wpPlanD_one ?_
          refine wpOp_list rfl (fun K hK => ?_)
          go_simp
          refine hK _ _ ?_
          clear hK K
          first | refine ⟨fun hf => (by cases hf), ?_⟩ | skip
          try simp only [Act.put, List.setIfInBounds_toArray, List.set_cons_zero, List.set_cons_succ]
          refine wpPlanD_nil (NoPanic.normal ?_)
          clear hr3 hc3 hr4 g6 k0 k1 f0 f1 HS4 HT2 HOF HR1 HC1 HR2 HTL hwN hwN2
          go_wp2_with fail
          obtain ⟨W7, hW7⟩ : ∃ W7, (w6.setCell ⟨Bx, 0, none⟩ (.slice a3 (leftN (leftN ys 2) (N : Int)).length c3)).setCell ⟨Bx, 1, none⟩ (.bool (badN (leftN ys 2) (badN ys bad 2) (N : Int))) = W7 := ⟨_, rfl⟩
          rw [hW7] at HS7 ⊢
          clear hW7 HS5 HS
          have HS7 := Lib.hid (HS7.out.later (grownBy_drewN W7 1 none))
          refine wp_region_planD (fun w' => w.grownBy w' none) [([0, 3, 4], 1, true), ([], 2, true), ([], 5, true)] (by kernel_rfl) (by kernel_rfl) ?_
          refine wpPlanD_seg HS7.out.grown ?_
          repeat (apply wpReadD_step rfl (by rfl); (· intro wS hSw; (try have hSw := hSw rfl); (try dsimp only at hSw); (try have hcv := conv_rds (HR4.out.grown hSw (by simp))); go_simp; (try with_reducible rfl)); try simp only [Act.put, List.setIfInBounds_toArray, List.set_cons_zero, List.set_cons_succ])
          refine wpReadD_nil ?_
          refine wpOp_list rfl (fun K hK => ?_)
          go_simp
          refine (HTX.out _ HS7.out.rr).mono ?_
          rintro e w8 ⟨a5, c5, v6, rfl, o5, r6, ov6, g8⟩
          dsimp only
          have HS6 := Lib.hid (HS7.out.read r6 ov6 g8)
          refine hK _ _ ⟨fun _ => HS6.out.grown, ?_⟩
          clear hK K
          try simp only [Act.put, List.setIfInBounds_toArray, List.set_cons_zero, List.set_cons_succ]
          refine wpPlanD_one ?_
          refine wpOp_list rfl (fun K hK => ?_)
          have hcv := conv_rds (Rds.of_owns o5)
          go_simp
          refine hK _ _ ⟨fun _ => HS6.out.grown, ?_⟩
          clear hK K
          try simp only [Act.put, List.setIfInBounds_toArray, List.set_cons_zero, List.set_cons_succ]
          clear hcv
          refine wpPlanD_one ?_
          refine wpOp_list rfl (fun K hK => ?_)
          go_simp
          refine hK _ _ ⟨fun _ => HS6.out.grown, ?_⟩
          clear hK K
          try simp only [Act.put, List.setIfInBounds_toArray, List.set_cons_zero, List.set_cons_succ]
          refine wpPlanD_nil (NoPanic.normal ?_)
          clear o5 r6 ov6 g8 HS7 HTX HR4
          obtain ⟨zs, hzs⟩ : ∃ zs, (leftN (leftN ys 2) (N : Int)) = zs := ⟨_, rfl⟩
          obtain ⟨bz, hbz⟩ : ∃ bz, (badN (leftN ys 2) (badN ys bad 2) (N : Int)) = bz := ⟨_, rfl⟩
          rw [hzs, hbz] at HS6
          have k0 := HS6.out.xblk.cell (j := 0) rfl
          have k1 := HS6.out.xblk.cell (j := 1) rfl
          clear hzs hbz
          go_wp2_with fail
          refine wp_region_planD (fun w' => w'.cell? ⟨Bx, 0, none⟩ = some (.slice a3 zs.length c3) ∧ w'.cell? ⟨Bx, 1, none⟩ = some (.bool bz) ∧ w.grownBy w' none) [([0, 2, 3], 1, true), ([4, 5, 6, 9, 10, 11], 7, true), ([], 8, true), ([], 12, true), ([], 13, true)] (by kernel_rfl) (by kernel_rfl) ?_
          have HS7 := Lib.hid (HS6.out.later (grownBy_drewN w8 1 none))
          refine wpPlanD_seg ⟨k0, k1, HS7.out.grown⟩ ?_
          repeat (apply wpReadD_step rfl (by rfl); (· intro wS hSw; (try have hSw := hSw rfl); (try dsimp only at hSw); go_simp; (try with_reducible rfl)); try simp only [Act.put, List.setIfInBounds_toArray, List.set_cons_zero, List.set_cons_succ])
          refine wpReadD_nil ?_
          refine wpOp_list rfl (fun K hK => ?_)
          go_simp
          refine (rbad_any B v6 zs bz _ HS7.out.rr).mono ?_
          rintro e w8 ⟨rfl, rfl⟩
          dsimp only
          refine hK _ _ ⟨fun _ => ⟨k0, k1, HS7.out.grown⟩, ?_⟩
          clear hK K
          try simp only [Act.put, List.setIfInBounds_toArray, List.set_cons_zero, List.set_cons_succ]
          refine wpPlanD_seg ⟨k0, k1, HS7.out.grown⟩ ?_
          repeat (apply wpReadD_step rfl (by rfl); (· intro wS hSw; (try have hSw := hSw rfl); (try dsimp only at hSw); (try have hcv := conv_rds (HS7.out.xr.grown hSw.2.2 (by simp))); go_simp; (try with_reducible rfl)); try simp only [Act.put, List.setIfInBounds_toArray, List.set_cons_zero, List.set_cons_succ])
          refine wpReadD_nil ?_
          refine wpOp_list rfl (fun K hK => ?_)
          go_simp
          refine (rrest_any B v6 zs bz _ HS7.out.rr).mono ?_
          rintro e w8 ⟨a8, c8, rfl, o8, g8⟩
          dsimp only
          have HS8 := Lib.hid (HS7.out.later g8)
          have k0 := HS8.out.xblk.cell (j := 0) rfl
          have k1 := HS8.out.xblk.cell (j := 1) rfl
          refine hK _ _ ⟨fun _ => ⟨k0, k1, HS8.out.grown⟩, ?_⟩
          clear hK K
          try simp only [Act.put, List.setIfInBounds_toArray, List.set_cons_zero, List.set_cons_succ]
          refine wpPlanD_one ?_
          refine wpOp_list rfl (fun K hK => ?_)
          have hcv := conv_rds (Rds.of_owns o8)
          go_simp
          refine hK _ _ ⟨fun _ => ⟨k0, k1, HS8.out.grown⟩, ?_⟩
          clear hK K hcv
          try simp only [Act.put, List.setIfInBounds_toArray, List.set_cons_zero, List.set_cons_succ]
          refine wpPlanD_one ?_
          refine wpOp_list rfl (fun K hK => ?_)
          go_simp
          refine hK _ _ ⟨fun _ => ⟨k0, k1, HS8.out.grown⟩, ?_⟩
          clear hK K
          try simp only [Act.put, List.setIfInBounds_toArray, List.set_cons_zero, List.set_cons_succ]
          refine wpPlanD_one ?_
          refine wpOp_list rfl (fun K hK => ?_)
          go_simp
          refine hK _ _ ⟨fun _ => ⟨k0, k1, HS8.out.grown⟩, ?_⟩
          clear hK K
          try simp only [Act.put, List.setIfInBounds_toArray, List.set_cons_zero, List.set_cons_succ]
          refine wpPlanD_nil (NoPanic.normal ?_)
          go_wp2_with fail
          go_roundw
          case rel => exact ⟨j + 1, v6, zs, bz, a3, c3, by omega, by go_num, HS8.out⟩
          case measure => simp [intOf]; omega
        · go_wp2_with fail
          refine (HT.out (kb) wr).mono ?_
          rintro e w3 ⟨a1, c1, a2, c2, rfl, hr1, hc1, hr2, g3⟩
          have HS3 := Lib.hid (HS.out.later g3)
          have HR1 := Lib.hid hr1
          have HC1 := Lib.hid hc1
          have HR2 := Lib.hid hr2
          have HS4 := Lib.hid (HS3.out.take (bad1 := badN ys bad (kb)) hr1 hc1 (left_len _ _))
          have q0 := HS3.out.xblk.cell (j := 0) rfl
          have q1 := HS3.out.xblk.cell (j := 1) rfl
          have f0 := HS3.out.xblk.frozen 0
          have f1 := HS3.out.xblk.frozen 1
          clear hr1 hc1 hr2 g3 HT x0 x1 HX0 HX1 k1 k2 k4 k8
          go_wp2_with fail
          obtain ⟨W4, hW4⟩ : ∃ W4, (w3.setCell ⟨Bx, 0, none⟩ (.slice a1 (leftN ys (kb)).length c1)).setCell ⟨Bx, 1, none⟩ (.bool (badN ys bad (kb))) = W4 := ⟨_, rfl⟩
          rw [hW4] at HS4 ⊢
          clear hW4 q0 q1 f0 f1 HS3
          have HS4 := Lib.hid (HS4.out.later (grownBy_drewN W4 1 none))
          refine wp_region_planD (fun w' => w.grownBy w' none) [([0, 1, 4, 5], 2, true), ([], 3, true), ([], 6, true)] (by kernel_rfl) (by kernel_rfl) ?_
          refine wpPlanD_seg HS4.out.grown ?_
          repeat (apply wpReadD_step rfl (by rfl); (· intro wS hSw; (try have hSw := hSw rfl); (try dsimp only at hSw); (try have hcv := conv_rds (HR2.out.grown hSw (by simp))); go_simp; (try with_reducible rfl)); try simp only [Act.put, List.setIfInBounds_toArray, List.set_cons_zero, List.set_cons_succ])
          refine wpReadD_nil ?_
          refine wpOp_list rfl (fun K hK => ?_)
          go_simp
          refine (rraw_any B v ys bad (kb) _ HS4.out.rr).mono ?_
          rintro e w6 ⟨a5, c5, v6, rfl, o5, r6, ov6, g6⟩
          dsimp only
          have HS6 := Lib.hid (HS4.out.read r6 ov6 g6)
          refine hK _ _ ⟨fun _ => HS6.out.grown, ?_⟩
          clear hK K
          try simp only [Act.put, List.setIfInBounds_toArray, List.set_cons_zero, List.set_cons_succ]
          refine wpPlanD_one ?_
          refine wpOp_list rfl (fun K hK => ?_)
          have hcv := conv_rds (Rds.of_owns o5)
          go_simp
          refine hK _ _ ⟨fun _ => HS6.out.grown, ?_⟩
          clear hK K
          try simp only [Act.put, List.setIfInBounds_toArray, List.set_cons_zero, List.set_cons_succ]
          clear hcv
          refine wpPlanD_one ?_
          refine wpOp_list rfl (fun K hK => ?_)
          go_simp
          refine hK _ _ ⟨fun _ => HS6.out.grown, ?_⟩
          clear hK K
          try simp only [Act.put, List.setIfInBounds_toArray, List.set_cons_zero, List.set_cons_succ]
          refine wpPlanD_nil (NoPanic.normal ?_)
          clear o5 r6 ov6 g6 HS4 HR1 HC1 HR2 HS
          obtain ⟨zs, hzs⟩ : ∃ zs, (leftN ys kb) = zs := ⟨_, rfl⟩
          obtain ⟨bz, hbz⟩ : ∃ bz, (badN ys bad kb) = bz := ⟨_, rfl⟩
          rw [hzs, hbz] at HS6
          have k0 := HS6.out.xblk.cell (j := 0) rfl
          have k1 := HS6.out.xblk.cell (j := 1) rfl
          clear hzs hbz
          go_wp2_with fail
          refine wp_region_planD (fun w' => w'.cell? ⟨Bx, 0, none⟩ = some (.slice a1 zs.length c1) ∧ w'.cell? ⟨Bx, 1, none⟩ = some (.bool bz) ∧ w.grownBy w' none) [([0, 2, 3], 1, true), ([4, 5, 6, 9, 10, 11], 7, true), ([], 8, true), ([], 12, true), ([], 13, true)] (by kernel_rfl) (by kernel_rfl) ?_
          have HS7 := Lib.hid (HS6.out.later (grownBy_drewN w6 1 none))
          refine wpPlanD_seg ⟨k0, k1, HS7.out.grown⟩ ?_
          repeat (apply wpReadD_step rfl (by rfl); (· intro wS hSw; (try have hSw := hSw rfl); (try dsimp only at hSw); go_simp; (try with_reducible rfl)); try simp only [Act.put, List.setIfInBounds_toArray, List.set_cons_zero, List.set_cons_succ])
          refine wpReadD_nil ?_
          refine wpOp_list rfl (fun K hK => ?_)
          go_simp
          refine (rbad_any B v6 zs bz _ HS7.out.rr).mono ?_
          rintro e w8 ⟨rfl, rfl⟩
          dsimp only
          refine hK _ _ ⟨fun _ => ⟨k0, k1, HS7.out.grown⟩, ?_⟩
          clear hK K
          try simp only [Act.put, List.setIfInBounds_toArray, List.set_cons_zero, List.set_cons_succ]
          refine wpPlanD_seg ⟨k0, k1, HS7.out.grown⟩ ?_
          repeat (apply wpReadD_step rfl (by rfl); (· intro wS hSw; (try have hSw := hSw rfl); (try dsimp only at hSw); (try have hcv := conv_rds (HS7.out.xr.grown hSw.2.2 (by simp))); go_simp; (try with_reducible rfl)); try simp only [Act.put, List.setIfInBounds_toArray, List.set_cons_zero, List.set_cons_succ])
          refine wpReadD_nil ?_
          refine wpOp_list rfl (fun K hK => ?_)
          go_simp
          refine (rrest_any B v6 zs bz _ HS7.out.rr).mono ?_
          rintro e w8 ⟨a8, c8, rfl, o8, g8⟩
          dsimp only
          have HS8 := Lib.hid (HS7.out.later g8)
          have k0 := HS8.out.xblk.cell (j := 0) rfl
          have k1 := HS8.out.xblk.cell (j := 1) rfl
          refine hK _ _ ⟨fun _ => ⟨k0, k1, HS8.out.grown⟩, ?_⟩
          clear hK K
          try simp only [Act.put, List.setIfInBounds_toArray, List.set_cons_zero, List.set_cons_succ]
          refine wpPlanD_one ?_
          refine wpOp_list rfl (fun K hK => ?_)
          have hcv := conv_rds (Rds.of_owns o8)
          go_simp
          refine hK _ _ ⟨fun _ => ⟨k0, k1, HS8.out.grown⟩, ?_⟩
          clear hK K hcv
          try simp only [Act.put, List.setIfInBounds_toArray, List.set_cons_zero, List.set_cons_succ]
          refine wpPlanD_one ?_
          refine wpOp_list rfl (fun K hK => ?_)
          go_simp
          refine hK _ _ ⟨fun _ => ⟨k0, k1, HS8.out.grown⟩, ?_⟩
          clear hK K
          try simp only [Act.put, List.setIfInBounds_toArray, List.set_cons_zero, List.set_cons_succ]
          refine wpPlanD_one ?_
          refine wpOp_list rfl (fun K hK => ?_)
          go_simp
          refine hK _ _ ⟨fun _ => ⟨k0, k1, HS8.out.grown⟩, ?_⟩
          clear hK K
          try simp only [Act.put, List.setIfInBounds_toArray, List.set_cons_zero, List.set_cons_succ]
          refine wpPlanD_nil (NoPanic.normal ?_)
          go_wp2_with fail
          go_roundw
          case rel => exact ⟨j + 1, v6, zs, bz, a1, c1, by omega, by go_num, HS8.out⟩
          case measure => simp [intOf]; omega
    · obtain rfl : j = l.length := by omega
      go_wp2_with fail
      refine (awake_any _).mono ?_
      rintro e w3 ⟨rfl, g3⟩
      go_wp2
      go_ret
      exact ⟨rfl, below_grownBy (grownBy_trans HS.out.grown g3)⟩

end Go.Proofs.Ytmmkfchijafjeaa
