/- Layer 14: the walk of BucketHalves. -/
import Derived.Test.YtddpjfmogjcimaaBkHP
import Derived.Test.YtddpjfmogjcimaaBkRt
import Derived.Test.YtddpjfmogjcimaaBkOf
import Derived.Test.YtddpjfmogjcimaaBkAwake
import Derived.Test.YtddpjfmogjcimaaBkArgs
import Derived.Test.YtddpjfmogjcimaaBkF
import Derived.Test.YtddpjfmogjcimaaPlan2
import Derived.Test.YtddpjfmogjcimaaStepApp
namespace Go.Proofs.Ytddpjfmogjcimaa
open Go.RowKit Go.WideShapes Go.ChangeShapes Go.ChangeAt

set_option maxRecDepth 100000 in
set_option maxHeartbeats 16000000 in
theorem bucketHalves_walk0 (d p : Int) (xs : List Ent) (a : Option Addr) (c : Nat) (w : World) (hr : Rds w 4 (.slice a xs.length c) xs.length (entsV xs)) :
    Calls Try.prog 4 #[.agg #[.int .i64 d, .int .i64 p, .slice a xs.length c]] w fun e w' => e = .returned (.bool true) ∧ Below w.heap.size w w' := by
  obtain ⟨i0, hi, hz0, hz1, hz2⟩ := info_parts infoEnt
  by_cases hbig : 255 < xs.length
  · have hbi : (255 : Int) < xs.length := by omega
    have hm := hr.2.1
    unfold maxLen at hm
    go_enter Try.func4, Try.ntmps4
    go_wp2
    go_ret
    exact ⟨rfl, below_grownBy (World.grownBy_alloc _ _ none)⟩
  have hle : xs.length ≤ 255 := by omega
  have HR := Lib.hid hr
  have hri := fun W hW => rright_any d p 255 xs a c W hW
  clear hr hbig
  cases hB : rightB d p 255 xs
  · rw [hB] at hri
    have HRI := Lib.hid hri
    clear hri hB
    go_enter Try.func4, Try.ntmps4
    go_wp2_with fail
    refine (HRI.out _ (HR.out.alloc _)).mono ?_
    rintro e w1 ⟨rfl, g1⟩
    have h0 := ((Blk.new w 24 [.int .i64 d, .int .i64 p, .slice a xs.length c]).grown g1 (by simp)).cell (j := 2) rfl
    go_wp2_with fail
    refine (awake_any _).mono ?_
    rintro e w2 ⟨rfl, g2⟩
    go_wp2
    go_ret
    exact ⟨rfl, below_grownBy (grownBy_trans (grownBy_trans (World.grownBy_alloc _ _ none) g1) g2)⟩
  · rw [hB] at hri
    have HRI := Lib.hid hri
    obtain ⟨hd0, hd8, hp0, hp1, _, _⟩ := rightB_true hB
    have HWH := Lib.hid (halves_whole hB hd0 hd8)
    have HHR : Hid (d ≠ 8 → rightB (d + 1) (2 * p) 255 (xs.filter fun x => !oneS d x) = true ∧ rightB (d + 1) (2 * p + 1) 255 (xs.filter (oneS d)) = true) := Lib.hid (fun h8 => half_right d p 255 xs hB h8 hd0 hd8)
    clear hri hB
    have hF0 := List.length_filter_le (fun x => !oneS d x) xs
    have hF1 := List.length_filter_le (oneS d) xs
    have HSP := Lib.hid (fun W a' c' hr' => split_any d p hd0 hd8 hp0 (by omega) xs a' c' W (by omega) hr')
    generalize xs.filter (fun x => !oneS d x) = ys at *
    generalize xs.filter (oneS d) = zs at *
    go_enter Try.func4, Try.ntmps4
    go_wp2_with fail
    refine (HRI.out _ (HR.out.alloc _)).mono ?_
    rintro e w1 ⟨rfl, g1⟩
    have hb := (Blk.new w 24 [.int .i64 d, .int .i64 p, .slice a xs.length c]).grown g1 (by simp)
    have h0 := hb.cell (j := 0) rfl
    have h1 := hb.cell (j := 1) rfl
    have h2 := hb.cell (j := 2) rfl
    have HB := Lib.hid hb
    have G1 := Lib.hid (grownBy_trans (World.grownBy_alloc w _ none) g1)
    clear hb g1
    go_wp2_with fail
    refine (of14_any d p xs a c _ (by omega) (HR.out.grown G1.out (by simp))).mono ?_
    rintro e w2 ⟨v, rfl, o2, g2⟩
    obtain ⟨a2, c2, rfl⟩ := (Rds.of_owns o2).slice
    go_wp2_with fail
    refine (HSP.out _ a2 c2 (Rds.of_owns o2)).mono ?_
    rintro e w3 ⟨a0, c0, a1, c1, rfl, o3, o4, g3⟩
    have G3 := Lib.hid (grownBy_trans (grownBy_trans G1.out g2) g3)
    have B3 := Lib.hid (HB.out.grown (grownBy_trans g2 g3) (by simp))
    have R0 := Lib.hid (Rds.of_owns o3)
    have R1 := Lib.hid (Rds.of_owns o4)
    clear o2 o3 o4 g2 g3 HSP h0 h1 h2
    go_wp2_with fail
    obtain ⟨W4, hW4⟩ : ∃ W4, w3.alloc (.cells #[.int .i64 (d + 1), .int .i64 (2 * p), .slice a0 ys.length c0, .int .i64 (d + 1), .int .i64 (2 * p + 1), .slice a1 zs.length c1] 35) = W4 := ⟨_, rfl⟩
    have hbl : Blk W4 w3.heap.size 35 [.int .i64 (d + 1), .int .i64 (2 * p), .slice a0 ys.length c0, .int .i64 (d + 1), .int .i64 (2 * p + 1), .slice a1 zs.length c1] := by rw [← hW4]; exact Blk.new w3 _ _
    have g4 : w3.grownBy W4 none := by rw [← hW4]; exact World.grownBy_alloc _ _ none
    have BL := Lib.hid hbl
    have G4 := Lib.hid (grownBy_trans G3.out g4)
    have B4 := Lib.hid (B3.out.grown g4 (by simp))
    have R0 := Lib.hid (R0.out.grown g4 (by simp))
    have R1 := Lib.hid (R1.out.grown g4 (by simp))
    obtain ⟨L, hL⟩ : ∃ L, w3.heap.size = L := ⟨_, rfl⟩
    rw [hW4]
    rw [hL] at BL ⊢
    clear hW4 g4 hbl G3 B3 hL
    refine wp_region_planD (fun w' => W4.grownBy w' none) [([1, 2, 3, 5, 6, 7], 0, true), ([], 4, true), ([], 8, false), ([], 9, false)] (by kernel_rfl) (by kernel_rfl) ?_
    refine wpPlanD_seg (grownBy_drewN W4 1 none) ?_
    have l2 := BL.out.cell (j := 2) rfl
    have l5 := BL.out.cell (j := 5) rfl
    repeat (apply wpReadD_step rfl (by rfl); (· intro wS hSw; (try have hSw := hSw rfl); (try dsimp only at hSw); (try have l2 := hSw.cell l2 (by simp)); (try have l5 := hSw.cell l5 (by simp)); go_simp; (try with_reducible rfl)); try simp only [Act.put, List.setIfInBounds_toArray, List.set_cons_zero, List.set_cons_succ])
    refine wpReadD_nil ?_
    refine wpOp_list rfl (fun K hK => ?_)
    go_simp
    refine hK _ _ ⟨fun _ => grownBy_trans (World.grownBy_alloc W4 _ none) (grownBy_drewN _ 1 none), ?_⟩
    clear hK K l2 l5
    have o5 : ((W4.alloc (.cells #[] 41)).drew).ownsRow W4.heap.size 41 4 (.slice (some ⟨W4.heap.size, 0, none⟩) 0 0) 0 [] :=
      ⟨rfl, .inr ⟨W4.heap.size, 0, #[], rfl, Nat.le_refl _, World.alloc_heap_new W4 _, Nat.le_refl _, by unfold maxLen; omega, rfl, rfl⟩⟩
    have g5 : W4.grownBy ((W4.alloc (.cells #[] 41)).drew) none := grownBy_trans (World.grownBy_alloc W4 _ none) (grownBy_drewN _ 1 none)
    generalize (W4.alloc (.cells #[] 41)).drew = W5 at *
    have O5 := Lib.hid o5
    have G5 := Lib.hid g5
    clear o5 g5
    try simp only [Act.put, List.setIfInBounds_toArray, List.set_cons_zero, List.set_cons_succ]
    refine wpPlanD_one ?_
    refine wpOp_list rfl (fun K hK => ?_)
    refine step_append_rds (by rfl) _ _ 27 (by rfl) W4.heap.size 41 i0 _ 4 32 Try.underlying27 hi hz0 hz1 hz2 rfl (by decide) (v := .slice (some ⟨W4.heap.size, 0, none⟩) 0 0) (by rfl) O5.out (by rfl) (R0.out.grown G5.out (by simp)) (ents_one ys) (by unfold maxLen; omega) (by omega) G5.out.size ?_
    intro v6 W6 h1 h2 _
    rw [Nat.zero_add, List.nil_append] at h1
    obtain ⟨a6, c6, rfl⟩ := (Rds.of_owns h1).slice
    have G6 := Lib.hid (grownBy_own2 G5.out O5.out (Nat.le_refl _) h2)
    have O6 := Lib.hid h1
    refine hK _ _ ⟨fun _ => G6.out, ?_⟩
    clear hK K h1 h2 G5 O5
    try simp only [Act.put, List.setIfInBounds_toArray, List.set_cons_zero, List.set_cons_succ]
    refine wpPlanD_one ?_
    refine wpOp_list rfl (fun K hK => ?_)
    refine step_append_rds (by rfl) _ _ 27 (by rfl) W4.heap.size 41 i0 _ 4 32 Try.underlying27 hi hz0 hz1 hz2 rfl (by decide) (v := .slice a6 ys.length c6) (by rfl) O6.out (by rfl) (R1.out.grown G6.out (by simp)) (ents_one zs) (by unfold maxLen; omega) (by omega) G6.out.size ?_
    intro v8 W8 h1 h2 _
    rw [show ys.length + zs.length = xs.length by rw [← HWH.out, List.length_append], ← entsV_app, HWH.out] at h1
    obtain ⟨a8, c8, rfl⟩ := (Rds.of_owns h1).slice
    have g8 := grownBy_own2 G6.out O6.out (Nat.le_refl _) h2
    have G8 := Lib.hid (grownBy_trans G4.out g8)
    have RA := Lib.hid (Rds.of_owns h1)
    have R0 := Lib.hid (R0.out.grown g8 (by simp))
    have R1 := Lib.hid (R1.out.grown g8 (by simp))
    have BL := Lib.hid (BL.out.grown g8 (by simp))
    have B8 := Lib.hid (B4.out.grown g8 (by simp))
    refine hK _ _ ?_
    first | refine ⟨fun hf => (by cases hf), ?_⟩ | skip
    clear hK K h1 h2 G6 O6 g8 B4 G4 HWH
    try simp only [Act.put, List.setIfInBounds_toArray, List.set_cons_zero, List.set_cons_succ]
    refine wpPlanD_one ?_
    refine wpOp_list rfl (fun K hK => ?_)
    go_simp
    refine hK _ _ ?_
    first | refine ⟨fun hf => (by cases hf), ?_⟩ | skip
    clear hK K
    refine wpPlanD_nil (NoPanic.normal ?_)
    have h2 := B8.out.cell (j := 2) rfl
    have hl : ((xs.length : Int) != (xs.length : Int)) = false := by simp
    go_wp2
    have hm := RA.out.2.1
    unfold maxLen at hm
    clear h2
    go_loopw [5] (fun i wr => ∃ k : Nat, k ≤ xs.length ∧ i = .int .i64 k ∧ W8.grownBy wr none) (fun i _ => xs.length - (intOf i).toNat)
    case atStart => exact ⟨0, by omega, rfl, grownBy_refl _ _⟩
    case round =>
      obtain ⟨k, hk, rfl, hg⟩ := hrel
      have GR := Lib.hid hg
      by_cases hlt : k < xs.length
      · obtain ⟨b, o, rfl, hc⟩ := RA.out.at' (by omega)
        obtain ⟨b', o', rfl, hc'⟩ := (HR.out.grown G8.out (by simp)).at' (by omega)
        obtain ⟨e0, e1, e2, e3⟩ := entsV_cells xs k hlt
        have h1 := (B8.out.grown hg (by simp)).cell (j := 2) rfl
        have x0 := hg.cell (hc _ _ e0) (by simp)
        have x1 := hg.cell (hc _ _ e1) (by simp)
        have x2 := hg.cell (hc _ _ e2) (by simp)
        have x3 := hg.cell (hc _ _ e3) (by simp)
        have y0 := hg.cell (hc' _ _ e0) (by simp)
        have y1 := hg.cell (hc' _ _ e1) (by simp)
        have y2 := hg.cell (hc' _ _ e2) (by simp)
        have y3 := hg.cell (hc' _ _ e3) (by simp)
        simp only [← Nat.add_assoc] at x1 x2 x3 y1 y2 y3
        have hlti : (k : Int) < (xs.length : Int) := by omega
        have hk0 : (0 : Int) ≤ (k : Int) := by omega
        clear hc hc' e0 e1 e2 e3 hg
        generalize (xs.getD k Ent.zero).r = vr at *
        generalize (xs.getD k Ent.zero).a = va at *
        generalize (xs.getD k Ent.zero).s = vs at *
        generalize U (xs.getD k Ent.zero).h = vh at *
        go_wp2_with fail
        have x0 := gw_cell x0
        have x1 := gw_cell x1
        have x2 := gw_cell x2
        have x3 := gw_cell x3
        have y0 := gw_cell y0
        have y1 := gw_cell y1
        have y2 := gw_cell y2
        have y3 := gw_cell y3
        have h1 := gw_cell h1
        refine wp_region_grown (by kernel_rfl) (by kernel_rfl) ?_
        repeat (go_big_quiet_step ((go_at_call 16; exact calls_grown' (entry_any _ _ _ _) _)))
        refine wpQuiet_nil ?_
        rintro _ ⟨g, rfl⟩
        have G4 := Lib.hid (gw_grown g)
        go_wp2
        go_roundw
        case rel => exact ⟨k + 1, by omega, by go_num, grownBy_trans GR.out G4.out⟩
        case measure => simp [intOf]; omega
      · obtain rfl : k = xs.length := by omega
        have h0 := (B8.out.grown hg (by simp)).cell (j := 0) rfl
        have bl := BL.out.grown hg (by simp)
        have l0 := bl.cell (j := 0) rfl
        have l1 := bl.cell (j := 1) rfl
        have l2 := bl.cell (j := 2) rfl
        have l3 := bl.cell (j := 3) rfl
        have l4 := bl.cell (j := 4) rfl
        have l5 := bl.cell (j := 5) rfl
        by_cases h8 : d = 8
        · have h8' : (d == 8) = true := by simpa using h8
          clear bl l0 l1 l2 l3 l4 l5 hg
          go_wp2_with fail
          refine (awake_any _).mono ?_
          rintro e w9 ⟨rfl, g9⟩
          go_wp2
          go_ret
          exact ⟨rfl, below_grownBy (grownBy_trans (grownBy_trans G8.out GR.out) g9)⟩
        · have h8' : (d == 8) = false := by simpa using h8
          obtain ⟨q0, q1⟩ := HHR.out h8
          have c0 := bright_any (d + 1) (2 * p) 255 ys a0 c0 wr (R0.out.grown hg (by simp))
          rw [q0] at c0
          have c1 := fun (W : World) (hW : W8.grownBy W none) => bright_any (d + 1) (2 * p + 1) 255 zs a1 c1 W (R1.out.grown hW (by simp))
          rw [q1] at c1
          have C0 := Lib.hid c0
          have C1 := Lib.hid c1
          have HBL := Lib.hid bl
          clear c0 c1 q0 q1 bl hg l3 l4 l5
          go_wp2_with fail
          refine C0.out.mono ?_
          rintro e w9 ⟨rfl, g9⟩
          have G9 := Lib.hid (grownBy_trans GR.out g9)
          have bl := HBL.out.grown g9 (by simp)
          have l3 := bl.cell (j := 3) rfl
          have l4 := bl.cell (j := 4) rfl
          have l5 := bl.cell (j := 5) rfl
          clear g9 bl HBL l0 l1 l2
          go_wp2_with fail
          refine (C1.out _ G9.out).mono ?_
          rintro e w10 ⟨rfl, g10⟩
          clear l3 l4 l5
          go_wp2_with fail
          refine (awake_any _).mono ?_
          rintro e w11 ⟨rfl, g11⟩
          go_wp2
          go_ret
          exact ⟨rfl, below_grownBy (grownBy_trans (grownBy_trans G8.out (grownBy_trans G9.out g10)) g11)⟩

section
variable {H : Type} {enc : TypeId × Value → H} {r : Reach} {b0 : Nat}
set_option maxRecDepth 100000 in
theorem bucketHalves_walk (w : World) {v0 : Value} {d0 : DataW H} {p0 : List MemPlace} (k0 : Value.okWide Try.prog w r b0 24 v0)
    (h0 : DataW.Trod enc Try.prog w 0 (fun _ => true) true 24 v0 d0 p0) :
    Calls Try.prog 4 #[v0] w fun e w' => e = .returned (.bool true) ∧ Below w.heap.size w w' := by
  obtain ⟨d, p, xs, a, c, rfl, hr⟩ := arg_bucket w k0 h0
  exact bucketHalves_walk0 d p xs a c w hr
end

end Go.Proofs.Ytddpjfmogjcimaa
