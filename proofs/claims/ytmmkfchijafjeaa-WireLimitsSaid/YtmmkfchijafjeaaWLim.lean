/- Layer 3: the walk of WireLimits. -/
import Derived.Test.YtmmkfchijafjeaaWAwake
import Derived.Test.YtmmkfchijafjeaaWActs
import Derived.Test.YtmmkfchijafjeaaWLimP
import Derived.Test.YtmmkfchijafjeaaArgI
import Derived.Test.YtmmkfchijafjeaaPlan2
import Derived.Test.YtmmkfchijafjeaaFree
import Derived.Deep.DrawnRows
namespace Go.Proofs.Ytmmkfchijafjeaa
open Go.RowKit Go.WideShapes Go.ChangeShapes Go.ChangeAt

set_option maxRecDepth 100000 in
set_option maxHeartbeats 16000000 in
theorem wireLimits_walk0 (lim : Nat) (l : List WAct) (a : Option Addr) (c : Nat) (w : World) (hl1 : lim < 65536) (hr : Rds w 4 (.slice a l.length c) l.length (actsV l)) (hg : ∀ x ∈ l, x.good w) :
    Calls Try.prog 4 #[.int .u16 lim, .slice a l.length c] w fun e w' => e = .returned (.bool true) ∧ Below w.heap.size w w' := by
  have hli := light_any l a c w hr hg
  cases hL : lightB l
  · rw [hL] at hli
    have HLI := Lib.hid hli
    clear hli hL hr hg
    go_enter Try.func4, Try.ntmps4
    go_wp2_with fail
    refine HLI.out.mono ?_
    rintro e w1 ⟨rfl, rfl⟩
    go_wp2
    go_ret
    exact ⟨rfl, Below.refl _ _⟩
  rw [hL] at hli
  have hl40 := lightB_len hL
  have HL300 := Lib.hid (lightB_at hL)
  have HLI := Lib.hid hli
  have HR := Lib.hid hr
  have HG := Lib.hid hg
  clear hli hL hr hg
  have hcw : IntKind.i64.wrap (lim : Int) = lim := IntWalk.i64_in _ (by omega)
  have HNW := Lib.hid (newWriter_any (lim : Int) (by omega) w)
  rw [if_pos (by omega)] at HNW
  go_enter Try.func4, Try.ntmps4
  go_wp2_with fail
  refine HLI.out.mono ?_
  rintro e w1 ⟨rfl, rfl⟩
  go_wp2_with fail
  refine HNW.out.mono ?_
  rintro e w1 ⟨rfl, hw1, g1⟩
  have hst : LSt w w1 w.heap.size (.slice none 0 0) [] (lim : Int) false :=
    ⟨hw1, fun k hk => by
      rcases hk with h | h
      · omega
      · simp [Value.ownBlock] at h, g1, by simp⟩
  have HST := Lib.hid hst
  clear hst hw1 g1 HLI HNW
  go_wp2
  have hlm := HR.out.2.1
  unfold maxLen at hlm
  go_loopw [6] (fun i wr => ∃ (j : Nat) (v : Value) (xs : List Nat) (full : Bool), j ≤ l.length ∧ i = .int .i64 j ∧ xs.length ≤ j * 302 ∧ LSt w wr w.heap.size v xs lim full) (fun i _ => l.length - (intOf i).toNat)
  case atStart => exact ⟨0, _, [], false, by omega, rfl, by simp, HST.out⟩
  case round =>
    obtain ⟨j, v, xs, full, hj, rfl, hxl, hst⟩ := hrel
    have HS := Lib.hid hst
    have hgr := hst.grown
    clear hst
    by_cases hlt : j < l.length
    · obtain ⟨b, o, rfl, hc⟩ := HR.out.at' (by omega)
      obtain ⟨e0, e1, e2, e3⟩ := actsV_cells l j hlt
      have X0 := Lib.hid (hc _ _ e0)
      have X1 := Lib.hid (hc _ _ e1)
      have X2 := Lib.hid (hc _ _ e2)
      have X3 := Lib.hid (hc _ _ e3)
      have hgood := HG.out _ (acts_mem l j hlt)
      have h300 := HL300.out _ (acts_mem l j hlt)
      clear hc e0 e1 e2 e3 hgr
      generalize l.getD j WAct.zero = x at *
      obtain ⟨hk, hb, hn, hB, hsm⟩ := hgood
      obtain ⟨t, ht, ht1, ht2, htw, htw2, d, hd, hdt⟩ := kind2 x.k hk.1 hk.2
      have HBX := Lib.hid hB
      have hxn : xs.length ≤ 12080 := by omega
      clear hB hsm hk
      go_wp2_with fail
      refine wp_region_freeC (fun w' => wr.grownBy w' none) (fun w w' => w.grownBy w' none) (fun j v W => match j with
        | 0 => v = .pointer (some ⟨w.heap.size, 0, none⟩)
        | 1 => ∃ a c, v = .slice a xs.length c ∧ Rds W 1 (.slice a xs.length c) xs.length (bytesV xs)
        | 2 => v = .string (strN xs)
        | 3 => v = .pointer (some ⟨w.heap.size, 0, none⟩)
        | 4 => v = .bool full
        | 5 => v = .string (strN xs)
        | 6 => v = .bool full
        | _ => True) [[], [0], [0, 1], [], [0, 1, 3], [0, 1, 2, 3, 4], [0, 1, 2, 3, 4, 5]] (by kernel_rfl) (by kernel_rfl) ?stab (grownBy_drewN wr 1 none) ?xobs ?xend
      case stab =>
        intro j v A B hg h
        match j, h with
        | 1, ⟨a, c, e, hr⟩ => exact ⟨a, c, e, hr.grown hg (by simp)⟩
        | 0, h | 2, h | 3, h | 4, h | 5, h | 6, h => exact h
        | (_ + 7), _ => trivial
      case xobs =>
        refine freeObs_cons (fun W hS => ?_) (freeObs_cons (fun W hS => ?_) (freeObs_cons (fun W hS => ?_) (freeObs_cons (fun W hS => ?_) (freeObs_cons (fun W hS => ?_) (freeObs_cons (fun W hS => ?_) (freeObs_cons (fun W hS => ?_) freeObs_nil))))))
        case _ => (repeat (refine given_step rfl (fun v h => ?_); (try dsimp only at h); (try subst h))); refine given_nil ?_; refine free_read rfl (by rfl) (v := _) ?_ ⟨grownBy_refl _ _, hS, rfl⟩; go_simp; (try with_reducible rfl)
        case _ =>
          repeat (refine given_step rfl (fun v h => ?_); (try dsimp only at h); (try subst h))
          refine given_nil ?_
          refine wpOp_list rfl (fun K hK => ?_)
          go_simp
          refine (wbytes_any _ _ _ _ _ _ (HS.out.wr.grown hS)).mono ?_
          rintro e w2 ⟨a2, c2, rfl, o2, g2⟩
          exact hK _ _ ⟨_, rfl, g2, grownBy_trans hS g2, a2, c2, rfl, Rds.of_owns o2⟩
        case _ =>
          refine given_step rfl (fun v h => ?_); (try dsimp only at h); (try subst h)
          refine given_step rfl (fun v h => ?_)
          obtain ⟨a2, c2, rfl, hr2⟩ := h
          have hcv := conv_rds hr2
          refine given_nil ?_
          refine free_read rfl (by rfl) (v := .string (strN xs)) ?_ ⟨grownBy_refl _ _, hS, rfl⟩
          go_simp
        case _ => (repeat (refine given_step rfl (fun v h => ?_); (try dsimp only at h); (try subst h))); refine given_nil ?_; refine free_read rfl (by rfl) (v := _) ?_ ⟨grownBy_refl _ _, hS, rfl⟩; go_simp; (try with_reducible rfl)
        case _ =>
          refine given_step rfl (fun v h => ?_); (try dsimp only at h); (try subst h)
          refine given_step rfl (fun v h => ?_)
          obtain ⟨a2, c2, rfl, hr2⟩ := h
          refine given_step rfl (fun v h => ?_); (try dsimp only at h); (try subst h)
          refine given_nil ?_
          refine wpOp_list rfl (fun K hK => ?_)
          go_simp
          refine (wfull_any _ _ _ _ _ _ (HS.out.wr.grown hS)).mono ?_
          rintro e w2 ⟨rfl, rfl⟩
          exact hK _ _ ⟨_, rfl, grownBy_refl _ _, hS, rfl⟩
        case _ => (repeat (refine given_step rfl (fun v h => ?_); (try dsimp only at h); first | subst h | (obtain ⟨a2, c2, rfl, hr2⟩ := h))); refine given_nil ?_; refine free_read rfl (by rfl) (v := _) ?_ ⟨grownBy_refl _ _, hS, rfl⟩; go_simp; (try with_reducible rfl)
        case _ => (repeat (refine given_step rfl (fun v h => ?_); (try dsimp only at h); first | subst h | (obtain ⟨a2, c2, rfl, hr2⟩ := h))); refine given_nil ?_; refine free_read rfl (by rfl) (v := _) ?_ ⟨grownBy_refl _ _, hS, rfl⟩; go_simp; (try with_reducible rfl)
      case xend =>
        intro W hS
        repeat (refine given_step rfl (fun v h => ?_); (try dsimp only at h); first | subst h | (obtain ⟨a2, c2, rfl, hr2⟩ := h))
        refine given_nil ?_
        have HS := Lib.hid (HS.out.later hS)
        clear hS
        have x0 := HS.out.grown.cell X0.out (by simp)
        have x1 := HS.out.grown.cell X1.out (by simp)
        have x2 := HS.out.grown.cell X2.out (by simp)
        have x3 := HS.out.grown.cell X3.out (by simp)
        simp only [← Nat.add_assoc] at x1 x2 x3
        rcases (show d = 0 ∨ d = 1 by omega) with rfl | rfl
        · go_wp2_with fail
          refine (wtext_any w.heap.size v xs x.B lim full x.a x.c _ HS.out.wr (by omega) (HBX.out.grown HS.out.grown (by simp))).mono ?_
          rintro e w3 ⟨v', rfl, hw3, ht3, hs3⟩
          obtain ⟨t3, hp1, hp2, hp3, hp4⟩ := putText_longer xs x.B lim full HS.out.few h300
          generalize putText xs lim full x.B = pw at *
          obtain ⟨ys, ff⟩ := pw
          dsimp only at *
          have L3 := Lib.hid (HS.out.step hw3 ht3 hs3 hp2)
          have hl3 := hp2
          have hle : xs.length ≤ ys.length := by rw [hp1, List.length_append]; omega
          have hle2 : ys.length ≤ xs.length + 302 := by rw [hp1, List.length_append]; omega
          have hpre : (strN ys).extract 0 xs.length = strN xs := by rw [hp1]; exact strN_pre xs t3
          have HP1 := Lib.hid hp1
          clear hw3 ht3 hs3 hp2 HS x0 x1 x2 x3 hp1
          go_wp2_with fail
          refine (wbytes_any _ _ _ _ _ _ L3.out.wr).mono ?_
          rintro e w4 ⟨a4, c4, rfl, o4, g4⟩
          have hcv := conv_rds (Rds.of_owns o4)
          have L4 := Lib.hid (L3.out.later g4)
          clear o4 g4 L3
          cases full with
          | true =>
            obtain ⟨rfl, rfl⟩ := hp4 rfl
            obtain rfl : ys = xs := by rw [HP1.out, List.append_nil]
            clear HP1
            have hz := strN_size ys
            have hbe := strN_beq ys
            generalize strN ys = s7 at *
            have hz0 : (0 : Int) ≤ ys.length := by omega
            have hz1 : (ys.length : Int) ≤ s7.size := by omega
            have hng : ¬ ((ys.length : Int) > (lim : Int)) := by omega
            go_wp2_with fail
            refine (wfull_any _ _ _ _ _ _ L4.out.wr).mono ?_
            rintro e w5 ⟨rfl, rfl⟩
            go_wp2
            go_roundw
            case rel => exact ⟨j + 1, _, ys, true, by omega, by go_num, by omega, L4.out⟩
            case measure => simp [intOf]; omega
          | false =>
            clear HP1
            have hz7 := strN_size xs
            have hz := strN_size ys
            have hbe := strN_beq xs
            generalize strN ys = s9 at *
            generalize strN xs = s7 at *
            have hz0 : (0 : Int) ≤ xs.length := by omega
            have hz1 : (xs.length : Int) ≤ s9.size := by omega
            have hng : ¬ ((ys.length : Int) > (lim : Int)) := by omega
            go_wp2_with fail
            go_roundw
            case rel => exact ⟨j + 1, _, ys, ff, by omega, by go_num, by omega, L4.out⟩
            case measure => simp [intOf]; omega
        · go_wp2_with fail
          refine wp_region_planD (fun w' => W.grownBy w' none) [([0, 1, 2, 3, 4, 5, 6, 7, 8, 9, 10], 11, false)] (by kernel_rfl) (by kernel_rfl) ?_
          refine wpPlanD_seg (grownBy_drewN W 1 none) ?_
          repeat (apply wpReadD_step rfl (by rfl); (· intro wS hSw; (try have hSw := hSw rfl); (try dsimp only at hSw); (try have hx1 := hSw.cell x1 (by simp)); (try have hx2 := hSw.cell x2 (by simp)); go_simp; (try with_reducible rfl)); try simp only [Act.put, List.setIfInBounds_toArray, List.set_cons_zero, List.set_cons_succ])
          refine wpReadD_nil ?_
          refine wpOp_list rfl (fun K hK => ?_)
          go_simp
          have HS := Lib.hid (HS.out.later (grownBy_drewN W 1 none))
          refine (wnumber_any w.heap.size v xs lim full x.n x.b _ HS.out.wr hn (by omega)).mono ?_
          rintro e w3 ⟨v', rfl, hw3, ht3, hs3⟩
          dsimp only
          refine hK _ _ ?_
          first | refine ⟨fun hf => (by cases hf), ?_⟩ | skip
          clear hK K
          try simp only [Act.put, List.setIfInBounds_toArray, List.set_cons_zero, List.set_cons_succ]
          refine wpPlanD_nil (NoPanic.normal ?_)
          obtain ⟨t3, hp1, hp2, hp3, hp4⟩ := putNum_longer xs lim full x.n x.b HS.out.few
          generalize putNum xs lim full x.n x.b = pw at *
          obtain ⟨ys, ff⟩ := pw
          dsimp only at *
          have L3 := Lib.hid (HS.out.step hw3 ht3 hs3 hp2)
          have hl3 := hp2
          have hle : xs.length ≤ ys.length := by rw [hp1, List.length_append]; omega
          have hle2 : ys.length ≤ xs.length + 302 := by rw [hp1, List.length_append]; omega
          have hpre : (strN ys).extract 0 xs.length = strN xs := by rw [hp1]; exact strN_pre xs t3
          have HP1 := Lib.hid hp1
          clear hw3 ht3 hs3 hp2 HS x0 x1 x2 x3 hp1
          go_wp2_with fail
          refine (wbytes_any _ _ _ _ _ _ L3.out.wr).mono ?_
          rintro e w4 ⟨a4, c4, rfl, o4, g4⟩
          have hcv := conv_rds (Rds.of_owns o4)
          have L4 := Lib.hid (L3.out.later g4)
          clear o4 g4 L3
          cases full with
          | true =>
            obtain ⟨rfl, rfl⟩ := hp4 rfl
            obtain rfl : ys = xs := by rw [HP1.out, List.append_nil]
            clear HP1
            have hz := strN_size ys
            have hbe := strN_beq ys
            generalize strN ys = s7 at *
            have hz0 : (0 : Int) ≤ ys.length := by omega
            have hz1 : (ys.length : Int) ≤ s7.size := by omega
            have hng : ¬ ((ys.length : Int) > (lim : Int)) := by omega
            go_wp2_with fail
            refine (wfull_any _ _ _ _ _ _ L4.out.wr).mono ?_
            rintro e w5 ⟨rfl, rfl⟩
            go_wp2
            go_roundw
            case rel => exact ⟨j + 1, _, ys, true, by omega, by go_num, by omega, L4.out⟩
            case measure => simp [intOf]; omega
          | false =>
            clear HP1
            have hz7 := strN_size xs
            have hz := strN_size ys
            have hbe := strN_beq xs
            generalize strN ys = s9 at *
            generalize strN xs = s7 at *
            have hz0 : (0 : Int) ≤ xs.length := by omega
            have hz1 : (xs.length : Int) ≤ s9.size := by omega
            have hng : ¬ ((ys.length : Int) > (lim : Int)) := by omega
            go_wp2_with fail
            go_roundw
            case rel => exact ⟨j + 1, _, ys, ff, by omega, by go_num, by omega, L4.out⟩
            case measure => simp [intOf]; omega
    · obtain rfl : j = l.length := by omega
      go_wp2_with fail
      refine (awake_any _).mono ?_
      rintro e w3 ⟨rfl, g3⟩
      go_wp2
      go_ret
      exact ⟨rfl, below_grownBy (grownBy_trans HS.out.grown g3)⟩

end Go.Proofs.Ytmmkfchijafjeaa
