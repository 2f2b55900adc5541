/- Layer 23: the walk of SketchPlays. -/
import Derived.Test.YtfdkncabicmmiaaSkPlM
import Derived.Test.YtfdkncabicmmiaaSkR7
import Derived.Test.YtfdkncabicmmiaaSkLeast
import Derived.Test.YtfdkncabicmmiaaStr
import Derived.Test.YtfdkncabicmmiaaArgI
import Derived.Test.YtfdkncabicmmiaaPlan3
namespace Go.Proofs.Ytfdkncabicmmiaa
open Go.RowKit Go.WideShapes Go.ChangeShapes Go.ChangeAt

set_option maxRecDepth 100000 in
set_option maxHeartbeats 8000000 in
theorem sketchPlays_let (n : Int) (xs : List (BitVec 64)) (a : Option Addr) (c : Nat) (w : World) (hml : xs.length ≤ maxLen) (h : 300 < xs.length ∨ (64 < n ∧ n ≤ 4096)) :
    Calls Try.prog 7 #[.int .i64 n, .slice a xs.length c] w fun e w' => e = .returned (.bool true) ∧ Below w.heap.size w w' := by
  by_cases h3 : 300 < xs.length
  · have d3 : decide ((xs.length : Int) > 300) = true := decide_eq_true (by omega)
    go_enter Try.func7, Try.ntmps7
    go_wp2_with fail
    go_ret
    exact ⟨rfl, Below.refl _ _⟩
  · have d3 : decide ((xs.length : Int) > 300) = false := decide_eq_false (by omega)
    have d4 : decide (n > 64) = true := decide_eq_true (by omega)
    have d5 : decide (n ≤ 4096) = true := decide_eq_true (by omega)
    clear h h3
    go_enter Try.func7, Try.ntmps7
    go_wp2_with fail
    go_ret
    exact ⟨rfl, Below.refl _ _⟩

set_option maxRecDepth 100000 in
set_option maxHeartbeats 8000000 in
theorem sketchPlays_no (n : Int) (xs : List (BitVec 64)) (a : Option Addr) (c : Nat) (w : World) (h3 : xs.length ≤ 300) (h4 : ¬ (64 < n ∧ n ≤ 4096)) (hno : ∀ m : Nat, n = m → ¬ Pow2 m) :
    Calls Try.prog 7 #[.int .i64 n, .slice a xs.length c] w fun e w' => e = .returned (.bool true) ∧ Below w.heap.size w w' := by
  have d3 : decide ((xs.length : Int) > 300) = false := decide_eq_false (by omega)
  have d4 : (decide (n > 64) = true ∧ decide (n ≤ 4096) = false) ∨ (decide (n > 64) = false) := by
    by_cases h : 64 < n
    · exact .inl ⟨decide_eq_true h, decide_eq_false (fun h2 => h4 ⟨h, h2⟩)⟩
    · exact .inr (decide_eq_false h)
  have HN := Lib.hid (fun W => knew_no n W hno)
  have HR := Lib.hid (fun W => rright_any n W)
  rw [pow2Z_no hno] at HR
  clear h3 h4 hno
  rcases d4 with ⟨d4, d5⟩ | d4
  all_goals
    go_enter Try.func7, Try.ntmps7
    go_wp2_with fail
    refine (HN.out _).mono ?_
    rintro e w1 ⟨rfl, rfl⟩
    go_wp2_with fail
    refine (HR.out _).mono ?_
    rintro e w1 ⟨rfl, rfl⟩
    go_wp2_with fail
    refine (width_nil _).mono ?_
    rintro e w1 ⟨rfl, rfl⟩
    go_wp2_with fail
    refine (kawake_any _).mono ?_
    rintro e w1 ⟨rfl, g1⟩
    have G1 := Lib.hid (below_grownBy g1)
    clear g1
    go_wp2_with fail
    go_ret
    exact ⟨rfl, G1.out⟩

set_option maxRecDepth 100000 in
set_option maxHeartbeats 8000000 in
theorem sketchPlays_yes (m : Nat) (xs : List (BitVec 64)) (a : Option Addr) (c : Nat) (w : World) (h3 : xs.length ≤ 300) (hm : m ≤ 64) (hp : Pow2 m) (hr : Rds w 1 (.slice a xs.length c) xs.length (u64sV xs)) :
    Calls Try.prog 7 #[.int .i64 m, .slice a xs.length c] w fun e w' => e = .returned (.bool true) ∧ Below w.heap.size w w' := by
  have hl := pow2_le hp
  have d3 : decide ((xs.length : Int) > 300) = false := decide_eq_false (by omega)
  have d4 : decide ((m : Int) > 64) = false := decide_eq_false (by omega)
  have HRT := Lib.hid (fun W => rright_any (m : Int) W)
  rw [pow2Z_nat, (pow2_iff m).2 hp] at HRT
  have HR := Lib.hid hr
  have HP := Lib.hid hp
  obtain ⟨n, hn⟩ : ∃ n, xs.length = n := ⟨_, rfl⟩
  have HN := Lib.hid hn
  rw [hn] at HR h3 d3 ⊢
  clear hn hr hp
  go_enter Try.func7, Try.ntmps7
  go_wp2_with fail
  refine (knew_any m HP.out _).mono ?_
  rintro e w1 ⟨B, g, rfl, s1, hB, hg, g1⟩
  have S1 := Lib.hid s1
  have G1 := Lib.hid g1
  have HBG : Hid (∀ j, KOwn B g j → w.heap.size ≤ j ∧ j < w1.heap.size) := Lib.hid (fun j hj => by
    rcases hj with rfl | ⟨i, hi, rfl⟩
    · exact ⟨hB, s1.lt.1⟩
    · exact ⟨hg i hi, s1.lt.2 i hi⟩)
  clear s1 hB hg g1
  go_wp2_with fail
  refine (HRT.out _).mono ?_
  rintro e w2 ⟨rfl, rfl⟩
  clear HRT d3 d4
  go_wp2_with fail
  refine (rnew_any m hl _).mono ?_
  rintro e w2 ⟨G, rfl, b2, n2, g2⟩
  have HB2 := Lib.hid b2
  have HN2 := Lib.hid n2
  have HG2 := Lib.hid g2
  clear b2 n2 g2
  unfold rvV
  go_wp2_with fail
  have hp0 : Play w (w2.alloc (.cells #[.int .i64 (m : Int), .int .i64 0, .slice (some ⟨G, 0, none⟩) (4 * m) (4 * m)] 40)) B g m 0 (fun _ => 0) 0 (fun _ => 0) w2.heap.size G (4 * m) := by
    have hg3 := World.grownBy_alloc w2 (.cells #[.int .i64 (m : Int), .int .i64 0, .slice (some ⟨G, 0, none⟩) (4 * m) (4 * m)] 40) none
    have h1 := HG2.out.size
    have h2 := HB2.out.lt
    have h3 := HN2.out
    have h4 := G1.out.size
    refine ⟨(S1.out.grown HG2.out).grown hg3, Blk.new w2 _ _, (RO.of_blk HB2.out).grown hg3 (by simp), by omega, by omega, fun j hj => ?_, by omega, by omega, grownBy_trans (grownBy_trans G1.out HG2.out) hg3⟩
    have := HBG.out j hj
    exact ⟨this.1, by omega, by omega⟩
  obtain ⟨Rb, hRb⟩ : ∃ Rb, w2.heap.size = Rb := ⟨_, rfl⟩
  rw [hRb] at hp0 ⊢
  have P0 := Lib.hid hp0
  clear hp0 hRb
  obtain ⟨w3, hw3⟩ : ∃ w3, w2.alloc (.cells #[.int .i64 (m : Int), .int .i64 0, .slice (some ⟨G, 0, none⟩) (4 * m) (4 * m)] 40) = w3 := ⟨_, rfl⟩
  rw [hw3] at P0 ⊢
  clear hw3 S1 G1 HBG HB2 HN2 HG2
  go_loopw [5, 7] (fun s i wr => ∃ (k B : Nat) (g : Nat → Nat) (C : Nat → Nat) (ag G c : Nat), k ≤ n ∧ i = .int .i64 k ∧ s = .pointer (some ⟨B, 0, none⟩) ∧ Play w wr B g m ag C ag C Rb G c) (fun _ i _ => n - (intOf i).toNat)
  case atStart => exact ⟨0, B, g, _, 0, G, _, by omega, rfl, rfl, P0.out⟩
  case round =>
    clear P0
    obtain ⟨k, B, g, C, ag, G, c2, hk, rfl, rfl, hA⟩ := hrel
    have HA := Lib.hid hA
    clear hA
    by_cases hlk : k < n
    · obtain ⟨bb, o, rfl, hc⟩ := HR.out.at' (by omega)
      have HA15 := Lib.hid HA.out.sk.le
      have hkx : k < xs.length := by have := HN.out; omega
      have hX := Lib.hid (hc k _ (u64sV_get xs k hkx))
      have hX0 := Lib.hid (hc 0 _ (u64sV_get xs 0 (by omega)))
      rw [Nat.add_zero] at hX0
      obtain ⟨q, hq⟩ : ∃ q, xs.getD k 0 = q := ⟨_, rfl⟩
      obtain ⟨q0, hq0⟩ : ∃ q0, xs.getD 0 0 = q0 := ⟨_, rfl⟩
      rw [hq] at hX
      rw [hq0] at hX0
      have x0 := HA.out.grown.cell hX.out (by simp)
      clear hc hkx hq hq0
      obtain ⟨t, ht⟩ : ∃ t, q.toNat % 16 = t := ⟨_, rfl⟩
      have hti : (U q).tmod 16 = (t : Int) := by rw [← ht]; rfl
      clear ht
      have hn0 : 0 < n := by omega
      by_cases t0 : t = 0
      · subst t0
        go_wp2_with fail
        refine (halve_any B g m ag C wr HA.out.sk).mono ?_
        rintro e w4 ⟨⟨v, rfl⟩, s4, t4⟩
        have HB4 := Lib.hid (HA.out.prog t4 s4 (by omega))
        clear x0 s4 t4 HA
        have b0 := HB4.out.rb.cell (j := 0) rfl
        have b1 := HB4.out.rb.cell (j := 1) rfl
        have b2 := HB4.out.rb.cell (j := 2) rfl
        have HRH := Lib.hid (rhalve_any m ag C G c2 hl HA15.out w4 (RO.rs hl.2 HB4.out.ro c2))
        unfold rvV at HRH
        go_wp2_with fail
        refine HRH.out.mono ?_
        rintro e w5 ⟨G5, rfl, b5, n5, g5⟩
        have hB5 := HB4.out.ref (c' := 4 * m) g5 (RO.of_blk b5) n5 (show 0 < 10 * m by omega)
        have HB5 : Hid (Play w (((w5.setCell ⟨Rb, 0, none⟩ (.int .i64 (m : Int))).setCell ⟨Rb, 1, none⟩ (.int .i64 0)).setCell ⟨Rb, 2, none⟩ (.slice (some ⟨G5, 0, none⟩) (4 * m) (4 * m))) B g m 0 (halfC C) 0 (halfC C) Rb G5 (4 * m)) := Lib.hid hB5
        have hl5 := HB4.out.later g5
        clear b0 b1 b2 hB5 HRH b5 n5 g5 HB4
        have b0 := hl5.rb.cell (j := 0) rfl
        have b1 := hl5.rb.cell (j := 1) rfl
        have b2 := hl5.rb.cell (j := 2) rfl
        have f0 := hl5.rb.frozen 0
        have f1 := hl5.rb.frozen 1
        have f2 := hl5.rb.frozen 2
        clear hl5
        go_wp2_with fail
        clear b0 b1 b2 f0 f1 f2
        obtain ⟨w6, hw6⟩ : ∃ w6, (((w5.setCell ⟨Rb, 0, none⟩ (.int .i64 (m : Int))).setCell ⟨Rb, 1, none⟩ (.int .i64 0)).setCell ⟨Rb, 2, none⟩ (.slice (some ⟨G5, 0, none⟩) (4 * m) (4 * m))) = w6 := ⟨_, rfl⟩
        rw [hw6] at HB5 ⊢
        clear hw6
        have hp9 := HB5.out
        have b0 := hp9.rb.cell (j := 0) rfl
        have b1 := hp9.rb.cell (j := 1) rfl
        have b2 := hp9.rb.cell (j := 2) rfl
        have y0 := hp9.grown.cell hX0.out (by simp)
        have yk := hp9.grown.cell hX.out (by simp)
        have BC := Lib.hid (And.intro b0 (And.intro b1 b2))
        have YC := Lib.hid (And.intro y0 yk)
        have hRS := fun W (hW : w6.grownBy W none) => RO.rs hl.2 (hp9.ro.grown hW (by simp)) (4 * m)
        have HRS := Lib.hid hRS
        have HSK := Lib.hid (fun W (hW : w6.grownBy W none) => hp9.sk.grown hW)
        have H15 := Lib.hid hp9.sk.le
        clear hp9 hRS b0 b1 b2 y0 yk
        obtain ⟨v0, hv0⟩ : ∃ v, gs m (halfC C) q0 = v := ⟨_, rfl⟩
        obtain ⟨vk, hvk⟩ : ∃ v, gs m (halfC C) q = v := ⟨_, rfl⟩
        have HGA := Lib.hid (fun W hW => guess_any B g m (0) (halfC C) q0 W (HSK.out W hW))
        have HGB := Lib.hid (fun W hW => admit_any B g m (0) (halfC C) q0 q W (HSK.out W hW))
        have HGC := Lib.hid (fun W hW => rguess_any m (0) (halfC C) G5 (4 * m) q0 hl H15.out W (HRS.out W hW))
        have HGD := Lib.hid (fun W hW => rguess_any m (0) (halfC C) G5 (4 * m) q hl H15.out W (HRS.out W hW))
        unfold rvV at HGC HGD
        rw [hv0] at HGA HGC
        rw [hvk] at HGD
        rw [hv0, hvk] at HGB
        clear hv0 hvk
        have hdd : (decide (vk < v0) != decide (vk < v0)) = false := by simp
        have b0 := gw_cell BC.out.1
        have b1 := gw_cell BC.out.2.1
        have b2 := gw_cell BC.out.2.2
        have y0 := gw_cell YC.out.1
        have yk := gw_cell YC.out.2
        have KA := Lib.hid (fun (W : World) (hW : w6.grownBy W none) => (age_any B g m _ _ W (HSK.out W hW)).mono (fun _ W' (h : _ ∧ W = W') => (⟨h.1, by rw [← h.2]; exact grownBy_refl _ _⟩ : _ ∧ W.grownBy W' none)))
        have KW := Lib.hid (fun (W : World) (hW : w6.grownBy W none) => (width_any B g m _ _ W (HSK.out W hW)).mono (fun _ W' (h : _ ∧ W = W') => (⟨h.1, by rw [← h.2]; exact grownBy_refl _ _⟩ : _ ∧ W.grownBy W' none)))
        refine wp_region_grown (by kernel_rfl) (by kernel_rfl) ?_
        repeat (go_big_quiet_step (fail))
        go_big_quiet_step ((go_at_call 11; exact calls_grown KA.out _))
        repeat (go_big_quiet_step (fail))
        go_big_quiet_step ((go_at_call 14; exact calls_grown KW.out _))
        repeat (go_big_quiet_step (fail))
        go_big_quiet_step ((go_at_call 10; exact calls_grown HGA.out _))
        repeat (go_big_quiet_step (fail))
        go_big_quiet_step ((go_at_call 24; exact calls_grown HGC.out _))
        repeat (go_big_quiet_step (fail))
        go_big_quiet_step ((go_at_call 15; exact calls_grown HGB.out _))
        repeat (go_big_quiet_step (fail))
        go_big_quiet_step ((go_at_call 24; exact calls_grown HGC.out _))
        repeat (go_big_quiet_step (fail))
        go_big_quiet_step ((go_at_call 24; exact calls_grown HGD.out _))
        repeat (go_big_quiet_step (fail))
        refine wpQuiet_nil ?_
        rintro _ ⟨gx, rfl⟩
        have HF := Lib.hid (HB5.out.later (gw_grown gx))
        obtain ⟨wf, hwf⟩ : ∃ wf, gw gx = wf := ⟨_, rfl⟩
        rw [hwf] at HF ⊢
        clear hwf b0 b1 b2 y0 yk KA KW BC YC HRS HSK HGA HGB HGC HGD
        go_wp2_with fail
        exact ⟨⟨k + 1, B, g, halfC C, 0, G5, (4 * m), by omega, by go_num, rfl, HF.out⟩, by simp [intOf]; omega⟩
      by_cases t1 : t = 1
      · subst t1
        clear t0
        go_wp2_with fail
        refine (kpack_any B g m ag C wr HA.out.sk).mono ?_
        rintro e w4 ⟨a4, c4, rfl, o4, g4⟩
        have HB4 := Lib.hid (HA.out.later g4)
        have R4 := Lib.hid (Rds.of_owns o4)
        clear x0 o4 g4 HA
        have hag := HB4.out.ag1
        have hpl := packS_len m ag C
        have HU := Lib.hid (kunpack_yes (packS m ag C) a4 c4 w4 (by omega) (packS_small HA15.out) R4.out (packS_reads HP.out hag))
        have HPC := Lib.hid (packS_cnt (m := m) (age := ag) HA15.out)
        unfold KYes at HU
        rw [packS_width _ _ _ (by omega), packS_age _ _ _ (by omega)] at HU
        have HPL := Lib.hid hpl
        clear hpl
        have hsq := strN_beq (packS m ag C)
        have HRP := Lib.hid (fun W hW => rpackS_any m ag C G c2 HP.out HA15.out (by omega) W hW)
        unfold rvV at HRP
        obtain ⟨ps, hps⟩ : ∃ ps, packS m ag C = ps := ⟨_, rfl⟩
        rw [hps] at R4 HU HPC HPL hsq HRP ⊢
        clear hps
        go_wp2_with fail
        refine HU.out.mono ?_
        rintro e w5 ⟨B5, g5', rfl, s5, hB5, hg5, g5⟩
        have HB5 := Lib.hid (HB4.out.swap g5 (s5.as (fun x hx => HPC.out x hx) HA15.out) hB5 hg5)
        have R5 := Lib.hid (R4.out.grown g5 (by simp))
        clear s5 hB5 hg5 g5 HU HPC HB4 R4
        go_wp2_with fail
        have b0 := HB5.out.rb.cell (j := 0) rfl
        have b1 := HB5.out.rb.cell (j := 1) rfl
        have b2 := HB5.out.rb.cell (j := 2) rfl
        have BC := Lib.hid (And.intro b0 (And.intro b1 b2))
        clear b0 b1 b2
        have b0 := BC.out.1
        have b1 := BC.out.2.1
        have b2 := BC.out.2.2
        refine wp_region_planM (fun W => w5.grownBy W none) [([0, 1, 2, 3, 4], [5], 6, true), ([], [7, 8], 9, false)] (by kernel_rfl) (by kernel_rfl) ?_
        refine wpPlanM_seg (grownBy_drewN w5 1 none) ?_
        iterate 5 ((apply wpReadD_step rfl (by rfl); (· intro wS hSw; (try have hSw := hSw rfl); (try dsimp only at hSw); (try have hcv := conv_rds (R5.out.grown hSw (by simp))); (try have b0 := hSw.cell BC.out.1 (by simp)); (try have b1 := hSw.cell BC.out.2.1 (by simp)); (try have b2 := hSw.cell BC.out.2.2 (by simp)); go_simp; (try with_reducible rfl))); try simp only [Act.put, List.setIfInBounds_toArray, List.set_cons_zero, List.set_cons_succ])
        refine wpReadD_nil ?_
        iterate 1 ((apply wpReadD_step rfl (by rfl); (· intro wS hSw; (try have hSw := hSw rfl); (try dsimp only at hSw); (try subst hSw); go_simp; (try with_reducible rfl))); try simp only [Act.put, List.setIfInBounds_toArray, List.set_cons_zero, List.set_cons_succ])
        refine wpReadD_nil ?_
        refine wpOp_list rfl (fun K hK => ?_)
        go_simp
        refine (HRP.out _ (RO.rs hl.2 (HB5.out.ro.grown (grownBy_drewN w5 1 none) (by simp)) c2)).mono ?_
        rintro e w6 ⟨a6, c6, rfl, r6, g6⟩
        dsimp only
        have hcv6 := conv_rds r6
        have G6 := Lib.hid (grownBy_trans (grownBy_drewN w5 1 none) g6)
        refine hK _ _ ⟨_, fun _ h => h, fun _ => G6.out, ?_⟩
        clear hK K g6 r6
        try simp only [Act.put, List.setIfInBounds_toArray, List.set_cons_zero, List.set_cons_succ]
        refine wpPlanM_here ?_
        iterate 2 ((apply wpReadD_step rfl (by rfl); (· intro wS hSw; (try have hSw := hSw rfl); (try dsimp only at hSw); (try subst hSw); go_simp; (try with_reducible rfl))); try simp only [Act.put, List.setIfInBounds_toArray, List.set_cons_zero, List.set_cons_succ])
        refine wpReadD_nil ?_
        refine wpOp_list rfl (fun K hK => ?_)
        go_simp
        refine hK _ _ ⟨_, fun _ h => h, fun hf => (by cases hf), ?_⟩
        clear hK K
        try simp only [Act.put, List.setIfInBounds_toArray, List.set_cons_zero, List.set_cons_succ]
        refine wpPlanM_nil (NoPanic.normal ?_)
        have HB6 := Lib.hid (HB5.out.later G6.out)
        clear b0 b1 b2 BC hcv6 HB5 R5 G6 hsq HRP HPL
        go_wp2_with fail
        have hp9 := HB6.out
        have b0 := hp9.rb.cell (j := 0) rfl
        have b1 := hp9.rb.cell (j := 1) rfl
        have b2 := hp9.rb.cell (j := 2) rfl
        have y0 := hp9.grown.cell hX0.out (by simp)
        have yk := hp9.grown.cell hX.out (by simp)
        have BC := Lib.hid (And.intro b0 (And.intro b1 b2))
        have YC := Lib.hid (And.intro y0 yk)
        have hRS := fun W (hW : w6.grownBy W none) => RO.rs hl.2 (hp9.ro.grown hW (by simp)) c2
        have HRS := Lib.hid hRS
        have HSK := Lib.hid (fun W (hW : w6.grownBy W none) => hp9.sk.grown hW)
        have H15 := Lib.hid hp9.sk.le
        clear hp9 hRS b0 b1 b2 y0 yk
        obtain ⟨v0, hv0⟩ : ∃ v, gs m (C) q0 = v := ⟨_, rfl⟩
        obtain ⟨vk, hvk⟩ : ∃ v, gs m (C) q = v := ⟨_, rfl⟩
        have HGA := Lib.hid (fun W hW => guess_any B5 g5' m (ag) (C) q0 W (HSK.out W hW))
        have HGB := Lib.hid (fun W hW => admit_any B5 g5' m (ag) (C) q0 q W (HSK.out W hW))
        have HGC := Lib.hid (fun W hW => rguess_any m (ag) (C) G c2 q0 hl H15.out W (HRS.out W hW))
        have HGD := Lib.hid (fun W hW => rguess_any m (ag) (C) G c2 q hl H15.out W (HRS.out W hW))
        unfold rvV at HGC HGD
        rw [hv0] at HGA HGC
        rw [hvk] at HGD
        rw [hv0, hvk] at HGB
        clear hv0 hvk
        have hdd : (decide (vk < v0) != decide (vk < v0)) = false := by simp
        have b0 := gw_cell BC.out.1
        have b1 := gw_cell BC.out.2.1
        have b2 := gw_cell BC.out.2.2
        have y0 := gw_cell YC.out.1
        have yk := gw_cell YC.out.2
        have KA := Lib.hid (fun (W : World) (hW : w6.grownBy W none) => (age_any B5 g5' m _ _ W (HSK.out W hW)).mono (fun _ W' (h : _ ∧ W = W') => (⟨h.1, by rw [← h.2]; exact grownBy_refl _ _⟩ : _ ∧ W.grownBy W' none)))
        have KW := Lib.hid (fun (W : World) (hW : w6.grownBy W none) => (width_any B5 g5' m _ _ W (HSK.out W hW)).mono (fun _ W' (h : _ ∧ W = W') => (⟨h.1, by rw [← h.2]; exact grownBy_refl _ _⟩ : _ ∧ W.grownBy W' none)))
        refine wp_region_grown (by kernel_rfl) (by kernel_rfl) ?_
        repeat (go_big_quiet_step (fail))
        go_big_quiet_step ((go_at_call 11; exact calls_grown KA.out _))
        repeat (go_big_quiet_step (fail))
        go_big_quiet_step ((go_at_call 14; exact calls_grown KW.out _))
        repeat (go_big_quiet_step (fail))
        go_big_quiet_step ((go_at_call 10; exact calls_grown HGA.out _))
        repeat (go_big_quiet_step (fail))
        go_big_quiet_step ((go_at_call 24; exact calls_grown HGC.out _))
        repeat (go_big_quiet_step (fail))
        go_big_quiet_step ((go_at_call 15; exact calls_grown HGB.out _))
        repeat (go_big_quiet_step (fail))
        go_big_quiet_step ((go_at_call 24; exact calls_grown HGC.out _))
        repeat (go_big_quiet_step (fail))
        go_big_quiet_step ((go_at_call 24; exact calls_grown HGD.out _))
        repeat (go_big_quiet_step (fail))
        refine wpQuiet_nil ?_
        rintro _ ⟨gx, rfl⟩
        have HF := Lib.hid (HB6.out.later (gw_grown gx))
        obtain ⟨wf, hwf⟩ : ∃ wf, gw gx = wf := ⟨_, rfl⟩
        rw [hwf] at HF ⊢
        clear hwf b0 b1 b2 y0 yk KA KW BC YC HRS HSK HGA HGB HGC HGD
        go_wp2_with fail
        exact ⟨⟨k + 1, B5, g5', C, ag, G, c2, by omega, by go_num, rfl, HF.out⟩, by simp [intOf]; omega⟩
      have e0 : ((t : Int) == 0) = false := by rw [beq_eq_false_iff_ne]; omega
      have e1 : ((t : Int) == 1) = false := by rw [beq_eq_false_iff_ne]; omega
      clear t0 t1
      have hag := HA.out.ag1
      have hma : markA m ag < 10 * m := by unfold markA; split <;> omega
      have HMA := Lib.hid hma
      clear hma
      go_wp2_with fail
      have b0 := HA.out.rb.cell (j := 0) rfl
      have b1 := HA.out.rb.cell (j := 1) rfl
      have b2 := HA.out.rb.cell (j := 2) rfl
      have HRM := Lib.hid (fun W hW => rmark_any m ag C q G c2 hl HA15.out hag W hW)
      unfold rvV at HRM
      have HMK := Lib.hid (fun W hW => mark_any B g m ag C q W hW hag)
      obtain ⟨ma, hma⟩ : ∃ ma, markA m ag = ma := ⟨_, rfl⟩
      obtain ⟨mD, hmD⟩ : ∃ mD, markD m ag C q = mD := ⟨_, rfl⟩
      rw [hma] at HRM HMK HMA
      rw [hmD] at HRM HMK
      clear hma hmD
      refine wp_region_planM (fun _ => True) [([], [0, 1, 2, 3, 4], 5, false), ([], [], 6, false)] (by kernel_rfl) (by kernel_rfl) ?_
      refine wpPlanM_here ?_
      iterate 5 ((apply wpReadD_step rfl (by rfl); (· intro wS hSw; (try have hSw := hSw rfl); (try dsimp only at hSw); (try subst hSw); go_simp; (try with_reducible rfl))); try simp only [Act.put, List.setIfInBounds_toArray, List.set_cons_zero, List.set_cons_succ])
      refine wpReadD_nil ?_
      refine wpOp_list rfl (fun K hK => ?_)
      go_simp
      refine (HRM.out _ (RO.rs hl.2 (HA.out.ro.grown (grownBy_drewN wr 1 none) (by simp)) c2)).mono ?_
      rintro e w5 ⟨G5, c5, rfl, b5, n5, g5⟩
      dsimp only
      have hg5 := grownBy_trans (grownBy_drewN wr 1 none) g5
      have hB5 := HA.out.ref (c' := c5) hg5 b5 n5 HMA.out
      have hl5 := HA.out.later hg5
      refine hK _ _ ⟨_, fun _ h => h, fun hf => (by cases hf), ?_⟩
      clear hK K b0 b1 b2 x0 HRM
      have HB5 : Hid (Play w (((w5.setCell ⟨Rb, 0, none⟩ (.int .i64 (m : Int))).setCell ⟨Rb, 1, none⟩ (.int .i64 (ma : Int))).setCell ⟨Rb, 2, none⟩ (.slice (some ⟨G5, 0, none⟩) (4 * m) c5)) B g m ag C ma mD Rb G5 c5) := Lib.hid hB5
      have b0 := hl5.rb.cell (j := 0) rfl
      have b1 := hl5.rb.cell (j := 1) rfl
      have b2 := hl5.rb.cell (j := 2) rfl
      have f0 := hl5.rb.frozen 0
      have f1 := hl5.rb.frozen 1
      have f2 := hl5.rb.frozen 2
      clear hl5 hB5 hg5 b5 n5 g5 HA
      try simp only [Act.put, List.setIfInBounds_toArray, List.set_cons_zero, List.set_cons_succ]
      refine wpPlanM_here ?_
      refine wpReadD_nil ?_
      refine wpOp_list rfl (fun K hK => ?_)
      go_simp
      refine hK _ _ ⟨_, fun _ h => h, fun hf => (by cases hf), ?_⟩
      clear hK K b0 b1 b2 f0 f1 f2
      try simp only [Act.put, List.setIfInBounds_toArray, List.set_cons_zero, List.set_cons_succ]
      refine wpPlanM_nil (NoPanic.normal ?_)
      obtain ⟨w6, hw6⟩ : ∃ w6, (((w5.setCell ⟨Rb, 0, none⟩ (.int .i64 (m : Int))).setCell ⟨Rb, 1, none⟩ (.int .i64 (ma : Int))).setCell ⟨Rb, 2, none⟩ (.slice (some ⟨G5, 0, none⟩) (4 * m) c5)) = w6 := ⟨_, rfl⟩
      rw [hw6] at HB5 ⊢
      clear hw6
      go_wp2_with fail
      have b0 := HB5.out.rb.cell (j := 0) rfl
      have b1 := HB5.out.rb.cell (j := 1) rfl
      have b2 := HB5.out.rb.cell (j := 2) rfl
      have yk := HB5.out.grown.cell hX.out (by simp)
      refine wp_region_planM (fun W => (W.cell? ⟨Rb, 0, none⟩ = some (.int .i64 (m : Int)) ∧ W.cell? ⟨Rb, 1, none⟩ = some (.int .i64 (ma : Int)) ∧ W.cell? ⟨Rb, 2, none⟩ = some (.slice (some ⟨G5, 0, none⟩) (4 * m) c5)) ∧ W.cell? ⟨bb, o + k, none⟩ = some (.int .u64 (U q))) [([6, 7, 8, 9, 10], [0, 1, 2, 3, 4], 5, true), ([], [], 11, false), ([], [], 12, false)] (by kernel_rfl) (by kernel_rfl) ?_
      refine wpPlanM_seg ⟨⟨b0, b1, b2⟩, yk⟩ ?_
      iterate 5 ((apply wpReadD_step rfl (by rfl); (· intro wS hSw; (try have hSw := hSw rfl); (try dsimp only at hSw); (try obtain ⟨⟨b0, b1, b2⟩, yk⟩ := hSw); go_simp; (try with_reducible rfl))); try simp only [Act.put, List.setIfInBounds_toArray, List.set_cons_zero, List.set_cons_succ])
      refine wpReadD_nil ?_
      iterate 5 ((apply wpReadD_step rfl (by rfl); (· intro wS hSw; (try have hSw := hSw rfl); (try dsimp only at hSw); (try subst hSw); go_simp; (try with_reducible rfl))); try simp only [Act.put, List.setIfInBounds_toArray, List.set_cons_zero, List.set_cons_succ])
      refine wpReadD_nil ?_
      refine wpOp_list rfl (fun K hK => ?_)
      go_simp
      refine (HMK.out _ (HB5.out.sk.grown (grownBy_drewN w6 1 none))).mono ?_
      rintro e w7 ⟨rfl, s7, t7⟩
      dsimp only
      have hB7 := (HB5.out.later (grownBy_drewN w6 1 none)).prog t7 s7 HMA.out
      have HB7 := Lib.hid hB7
      have yk7 := hB7.grown.cell hX.out (by simp)
      refine hK _ _ ⟨_, fun _ h => h, fun _ => ⟨⟨hB7.rb.cell (j := 0) rfl, hB7.rb.cell (j := 1) rfl, hB7.rb.cell (j := 2) rfl⟩, yk7⟩, ?_⟩
      clear hK K s7 t7 hB7 HB5 HMK b0 b1 b2 yk yk7
      have HGM := Lib.hid (rguess_any m ma mD G5 c5 q hl HB7.out.sk.le w7 (RO.rs hl.2 HB7.out.ro c5))
      unfold rvV at HGM
      obtain ⟨vm, hvm⟩ : ∃ v, gs m mD q = v := ⟨_, rfl⟩
      rw [hvm] at HGM ⊢
      clear hvm
      try simp only [Act.put, List.setIfInBounds_toArray, List.set_cons_zero, List.set_cons_succ]
      refine wpPlanM_here ?_
      refine wpReadD_nil ?_
      refine wpOp_list rfl (fun K hK => ?_)
      go_simp
      refine HGM.out.mono ?_
      rintro e w8 ⟨rfl, g8⟩
      dsimp only
      have HB8 := Lib.hid (HB7.out.later g8)
      refine hK _ _ ⟨_, fun _ h => h, fun hf => (by cases hf), ?_⟩
      clear hK K g8 HB7 HGM
      try simp only [Act.put, List.setIfInBounds_toArray, List.set_cons_zero, List.set_cons_succ]
      refine wpPlanM_here ?_
      refine wpReadD_nil ?_
      refine wpOp_list rfl (fun K hK => ?_)
      go_simp
      refine hK _ _ ⟨_, fun _ h => h, fun hf => (by cases hf), ?_⟩
      clear hK K
      try simp only [Act.put, List.setIfInBounds_toArray, List.set_cons_zero, List.set_cons_succ]
      refine wpPlanM_nil (NoPanic.normal ?_)
      go_wp2_with fail
      have hp9 := HB8.out
      have b0 := hp9.rb.cell (j := 0) rfl
      have b1 := hp9.rb.cell (j := 1) rfl
      have b2 := hp9.rb.cell (j := 2) rfl
      have y0 := hp9.grown.cell hX0.out (by simp)
      have yk := hp9.grown.cell hX.out (by simp)
      have BC := Lib.hid (And.intro b0 (And.intro b1 b2))
      have YC := Lib.hid (And.intro y0 yk)
      have hRS := fun W (hW : w8.grownBy W none) => RO.rs hl.2 (hp9.ro.grown hW (by simp)) c5
      have HRS := Lib.hid hRS
      have HSK := Lib.hid (fun W (hW : w8.grownBy W none) => hp9.sk.grown hW)
      have H15 := Lib.hid hp9.sk.le
      clear hp9 hRS b0 b1 b2 y0 yk
      obtain ⟨v0, hv0⟩ : ∃ v, gs m (mD) q0 = v := ⟨_, rfl⟩
      obtain ⟨vk, hvk⟩ : ∃ v, gs m (mD) q = v := ⟨_, rfl⟩
      have HGA := Lib.hid (fun W hW => guess_any B g m (ma) (mD) q0 W (HSK.out W hW))
      have HGB := Lib.hid (fun W hW => admit_any B g m (ma) (mD) q0 q W (HSK.out W hW))
      have HGC := Lib.hid (fun W hW => rguess_any m (ma) (mD) G5 c5 q0 hl H15.out W (HRS.out W hW))
      have HGD := Lib.hid (fun W hW => rguess_any m (ma) (mD) G5 c5 q hl H15.out W (HRS.out W hW))
      unfold rvV at HGC HGD
      rw [hv0] at HGA HGC
      rw [hvk] at HGD
      rw [hv0, hvk] at HGB
      clear hv0 hvk
      have hdd : (decide (vk < v0) != decide (vk < v0)) = false := by simp
      have b0 := gw_cell BC.out.1
      have b1 := gw_cell BC.out.2.1
      have b2 := gw_cell BC.out.2.2
      have y0 := gw_cell YC.out.1
      have yk := gw_cell YC.out.2
      have KA := Lib.hid (fun (W : World) (hW : w8.grownBy W none) => (age_any B g m _ _ W (HSK.out W hW)).mono (fun _ W' (h : _ ∧ W = W') => (⟨h.1, by rw [← h.2]; exact grownBy_refl _ _⟩ : _ ∧ W.grownBy W' none)))
      have KW := Lib.hid (fun (W : World) (hW : w8.grownBy W none) => (width_any B g m _ _ W (HSK.out W hW)).mono (fun _ W' (h : _ ∧ W = W') => (⟨h.1, by rw [← h.2]; exact grownBy_refl _ _⟩ : _ ∧ W.grownBy W' none)))
      refine wp_region_grown (by kernel_rfl) (by kernel_rfl) ?_
      repeat (go_big_quiet_step (fail))
      go_big_quiet_step ((go_at_call 11; exact calls_grown KA.out _))
      repeat (go_big_quiet_step (fail))
      go_big_quiet_step ((go_at_call 14; exact calls_grown KW.out _))
      repeat (go_big_quiet_step (fail))
      go_big_quiet_step ((go_at_call 10; exact calls_grown HGA.out _))
      repeat (go_big_quiet_step (fail))
      go_big_quiet_step ((go_at_call 24; exact calls_grown HGC.out _))
      repeat (go_big_quiet_step (fail))
      go_big_quiet_step ((go_at_call 15; exact calls_grown HGB.out _))
      repeat (go_big_quiet_step (fail))
      go_big_quiet_step ((go_at_call 24; exact calls_grown HGC.out _))
      repeat (go_big_quiet_step (fail))
      go_big_quiet_step ((go_at_call 24; exact calls_grown HGD.out _))
      repeat (go_big_quiet_step (fail))
      refine wpQuiet_nil ?_
      rintro _ ⟨gx, rfl⟩
      have HF := Lib.hid (HB8.out.later (gw_grown gx))
      obtain ⟨wf, hwf⟩ : ∃ wf, gw gx = wf := ⟨_, rfl⟩
      rw [hwf] at HF ⊢
      clear hwf b0 b1 b2 y0 yk KA KW BC YC HRS HSK HGA HGB HGC HGD
      go_wp2_with fail
      exact ⟨⟨k + 1, B, g, mD, ma, G5, c5, by omega, by go_num, rfl, HF.out⟩, by simp [intOf]; omega⟩
    · obtain rfl : n = k := by omega
      have HA15 := Lib.hid HA.out.sk.le
      have hag := HA.out.ag1
      go_wp2_with fail
      have b0 := HA.out.rb.cell (j := 0) rfl
      have b1 := HA.out.rb.cell (j := 1) rfl
      have b2 := HA.out.rb.cell (j := 2) rfl
      have BC := Lib.hid (And.intro b0 (And.intro b1 b2))
      clear b0 b1 b2
      have hsq := strN_beq (packS m ag C)
      have HPK := Lib.hid (fun W hW => kpack_any B g m ag C W hW)
      have HRP := Lib.hid (fun W hW => rpackS_any m ag C G c2 HP.out HA15.out (by omega) W hW)
      unfold rvV at HRP
      obtain ⟨ps, hps⟩ : ∃ ps, packS m ag C = ps := ⟨_, rfl⟩
      rw [hps] at hsq HPK HRP
      clear hps
      refine wp_region_planM (fun W => wr.grownBy W none) [([3], [0], 1, true), ([2], [], 4, true), ([], [5, 6, 7], 8, false), ([], [9], 10, false)] (by kernel_rfl) (by kernel_rfl) ?_
      refine wpPlanM_seg (grownBy_drewN wr 1 none) ?_
      iterate 1 ((apply wpReadD_step rfl (by rfl); (· intro wS hSw; (try have hSw := hSw rfl); (try dsimp only at hSw); (try have b0 := hSw.cell BC.out.1 (by simp)); (try have b1 := hSw.cell BC.out.2.1 (by simp)); (try have b2 := hSw.cell BC.out.2.2 (by simp)); go_simp; (try with_reducible rfl))); try simp only [Act.put, List.setIfInBounds_toArray, List.set_cons_zero, List.set_cons_succ])
      refine wpReadD_nil ?_
      iterate 1 ((apply wpReadD_step rfl (by rfl); (· intro wS hSw; (try have hSw := hSw rfl); (try dsimp only at hSw); (try subst hSw); go_simp; (try with_reducible rfl))); try simp only [Act.put, List.setIfInBounds_toArray, List.set_cons_zero, List.set_cons_succ])
      refine wpReadD_nil ?_
      refine wpOp_list rfl (fun K hK => ?_)
      go_simp
      refine (HPK.out _ (HA.out.sk.grown (grownBy_drewN wr 1 none))).mono ?_
      rintro e w6 ⟨a6, c6, rfl, o6, g6⟩
      dsimp only
      have H6 := Lib.hid (grownBy_trans (grownBy_drewN wr 1 none) g6)
      have R6 := Lib.hid (Rds.of_owns o6)
      refine hK _ _ ⟨fun W => wr.grownBy W none ∧ Rds W 1 (.slice a6 ps.length c6) ps.length (bytesV ps), fun _ h => h.1, fun _ => ⟨H6.out, R6.out⟩, ?_⟩
      clear hK K o6 g6
      try simp only [Act.put, List.setIfInBounds_toArray, List.set_cons_zero, List.set_cons_succ]
      refine wpPlanM_seg ⟨H6.out, R6.out⟩ ?_
      iterate 1 ((apply wpReadD_step rfl (by rfl); (· intro wS hSw; (try have hSw := hSw rfl); (try dsimp only at hSw); (try have hcv := conv_rds hSw.2); go_simp; (try with_reducible rfl))); try simp only [Act.put, List.setIfInBounds_toArray, List.set_cons_zero, List.set_cons_succ])
      refine wpReadD_nil ?_
      refine wpReadD_nil ?_
      refine wpOp_list rfl (fun K hK => ?_)
      go_simp
      refine (HRP.out _ (RO.rs hl.2 (HA.out.ro.grown H6.out (by simp)) c2)).mono ?_
      rintro e w7 ⟨a7, c7, rfl, r7, g7⟩
      dsimp only
      have H7 := Lib.hid (grownBy_trans H6.out g7)
      have hcv7 := conv_rds r7
      refine hK _ _ ⟨_, fun _ h => h, fun _ => ⟨H7.out, R6.out.grown g7 (by simp)⟩, ?_⟩
      clear hK K r7 g7 H6 R6
      try simp only [Act.put, List.setIfInBounds_toArray, List.set_cons_zero, List.set_cons_succ]
      refine wpPlanM_here ?_
      iterate 3 ((apply wpReadD_step rfl (by rfl); (· intro wS hSw; (try have hSw := hSw rfl); (try dsimp only at hSw); (try subst hSw); go_simp; (try with_reducible rfl))); try simp only [Act.put, List.setIfInBounds_toArray, List.set_cons_zero, List.set_cons_succ])
      refine wpReadD_nil ?_
      refine wpOp_list rfl (fun K hK => ?_)
      go_simp
      refine (kawake_any _).mono ?_
      rintro e w8 ⟨rfl, g8⟩
      dsimp only
      have H8 := Lib.hid (grownBy_trans HA.out.grown (grownBy_trans H7.out g8))
      refine hK _ _ ⟨_, fun _ h => h, fun hf => (by cases hf), ?_⟩
      clear hK K g8 H7 hcv7
      try simp only [Act.put, List.setIfInBounds_toArray, List.set_cons_zero, List.set_cons_succ]
      refine wpPlanM_here ?_
      iterate 1 ((apply wpReadD_step rfl (by rfl); (· intro wS hSw; (try have hSw := hSw rfl); (try dsimp only at hSw); (try subst hSw); go_simp; (try with_reducible rfl))); try simp only [Act.put, List.setIfInBounds_toArray, List.set_cons_zero, List.set_cons_succ])
      refine wpReadD_nil ?_
      refine wpOp_list rfl (fun K hK => ?_)
      go_simp
      refine hK _ _ ⟨_, fun _ h => h, fun hf => (by cases hf), ?_⟩
      clear hK K
      try simp only [Act.put, List.setIfInBounds_toArray, List.set_cons_zero, List.set_cons_succ]
      refine wpPlanM_nil (NoPanic.normal ?_)
      go_wp2_with fail
      go_ret
      exact ⟨rfl, below_grownBy H8.out⟩

section
variable {H : Type} {enc : TypeId × Value → H} {r : Reach} {b0 : Nat}
theorem sketchPlays_walk (w : World) {v0 v1 : Value} {d0 d1 : DataW H} {p0 p1 : List MemPlace} (k0 : Value.okWide Try.prog w r b0 3 v0) (k1 : Value.okWide Try.prog w r b0 22 v1) (h0 : DataW.Trod enc Try.prog w 0 (fun _ => true) true 3 v0 d0 p0) (h1 : DataW.Trod enc Try.prog w 0 (fun _ => true) true 22 v1 d1 p1) :
    Calls Try.prog 7 #[v0, v1] w fun e w' => e = .returned (.bool true) ∧ Below w.heap.size w w' := by
  obtain ⟨n, rfl, _⟩ := arg_int w k0 h0
  obtain ⟨xs, a, c, rfl, hr⟩ := arg_u64s w k1 h1
  by_cases hl : 300 < xs.length ∨ (64 < n ∧ n ≤ 4096)
  · exact sketchPlays_let n xs a c w hr.2.1 hl
  · by_cases hp : ∃ m : Nat, n = m ∧ Pow2 m
    · obtain ⟨m, rfl, hp⟩ := hp
      have := pow2_le hp
      exact sketchPlays_yes m xs a c w (by omega) (by omega) hp hr
    · exact sketchPlays_no n xs a c w (by omega) (fun h => hl (.inr h)) (fun m e h => hp ⟨m, e, h⟩)
end

end Go.Proofs.Ytfdkncabicmmiaa
