/- Layer 23: the walk of SketchReads. -/
import Derived.Test.YtfdkncabicmmiaaSkR7
import Derived.Test.YtfdkncabicmmiaaSkAw
import Derived.Test.YtfdkncabicmmiaaStr
import Derived.Test.YtfdkncabicmmiaaArgBc
import Derived.Test.YtfdkncabicmmiaaPlan3
namespace Go.Proofs.Ytfdkncabicmmiaa
open Go.RowKit Go.WideShapes Go.ChangeShapes Go.ChangeAt

/-- A sketch's bytes are those it was read of. -/
theorem numB_at {xs : List Nat} (hs : ∀ x ∈ xs, x < 256) {o k : Nat} (h : o + k ≤ xs.length) : numB (numAt xs o k) k = segB xs o k := by
  rw [numAt_in h]
  have := numB_ofB (segB xs o k) (segB_small hs o k)
  rwa [segB_len h] at this
theorem packS_back {xs : List Nat} (hs : ∀ x ∈ xs, x < 256) (h : kreadB xs = true) : packS (numAt xs 0 2) (numAt xs 2 4) (cntAt xs) = xs := by
  obtain ⟨_, _, hl⟩ := (kread_iff xs).1 h
  generalize hm : numAt xs 0 2 = m at *
  unfold packS packK
  rw [← hm, numB_at hs (by omega), numB_at hs (by omega)]
  have e1 : segB xs 0 2 ++ segB xs 2 4 = xs.take 6 := by
    unfold segB
    rw [List.drop_zero, show (6 : Nat) = 2 + 4 from rfl, List.take_add]
  have e2 : (List.range (2 * m)).map (twoC (cntAt xs)) = xs.drop 6 := by
    apply List.ext_getElem
    · simp; omega
    · intro j h1 h2
      simp only [List.length_map, List.length_range] at h1
      rw [List.getElem_map, List.getElem_range, List.getElem_drop]
      have e : xs.getD (6 + j) 0 = xs[6 + j] := by simp [List.getD, show 6 + j < xs.length by omega]
      unfold twoC cntAt
      rw [if_pos (by omega), if_neg (by omega), show 2 * j / 2 = j by omega, show (2 * j + 1) / 2 = j by omega, e]
      omega
  rw [e1, hm, e2, List.take_append_drop]

set_option maxRecDepth 100000 in
set_option maxHeartbeats 8000000 in
theorem sketchReads_no (xs : List Nat) (a : Option Addr) (c : Nat) (w : World) (hx : xs.length ≤ 1000) (hcap : xs.length ≤ c) (hs : ∀ x ∈ xs, x < 256) (hr : Rds w 1 (.slice a xs.length c) xs.length (bytesV xs)) (hno : kreadB xs = false) :
    Calls Try.prog 6 #[.slice a xs.length c] w fun e w' => e = .returned (.bool true) ∧ Below w.heap.size w w' := by
  have hbi : decide ((1000 : Int) < (xs.length : Int)) = false := decide_eq_false (by omega)
  have HRU : Hid (∀ W, w.grownBy W none → Calls Try.prog 18 #[.slice a xs.length c] W (RUno W)) := Lib.hid (fun W hW => by
    by_cases h6 : xs.length < 6
    · exact runpackK_short xs a c W h6
    · exact runpackK_no xs a c W hs (by omega) hcap (hr.grown hW (by simp)) hno)
  have HSM := Lib.hid hs
  have HR := Lib.hid hr
  have HNO := Lib.hid hno
  obtain ⟨i0, hi, hz0, hz1, hz2⟩ := info_parts infoByte
  clear hs hr hno
  go_enter Try.func6, Try.ntmps6
  go_wp2_with (at_builtin; refine wpList_append_rds rfl _ _ 32 rfl w.heap.size 5 i0 (.int .u8 0) 1 1 Try.underlying32 hi hz0 hz1 hz2 rfl (by decide) (v := .slice (some ⟨w.heap.size, 0, none⟩) 0 0) (n := 0) (xs := []) (sv := .slice a xs.length c) rfl (World.ownsRow_made w #[] 0 (Nat.le_refl _) (by simp) (by simp)) rfl ((HR.out.alloc _)) (bytesV_one xs) (by unfold maxLen; omega) (by omega) (by simp) ?_; intro v1 w1 h1 h2 _; obtain ⟨a1, c1, rfl⟩ := (Rds.of_owns h1).slice; have h1' : w1.ownsRow w.heap.size 5 1 (.slice a1 xs.length c1) xs.length (bytesV xs) := (by have := h1; rw [Nat.zero_add, List.nil_append] at this; exact this); have O1 := Lib.hid h1'; have G1 := Lib.hid (grownBy_new h2); clear h1 h1' h2; rw [Nat.zero_add])
  refine (kunpack_no xs a1 c1 w1 (by omega) HSM.out (Rds.of_owns O1.out) HNO.out).mono ?_
  rintro e w2 ⟨rfl, g2⟩
  have G2 := Lib.hid (grownBy_trans G1.out g2)
  clear g2 O1 G1
  go_wp2_with fail
  refine (HRU.out w2 G2.out).mono ?_
  rintro e w3 ⟨rfl, g3⟩
  have G3 := Lib.hid (grownBy_trans G2.out g3)
  clear g3 G2 HRU
  go_wp2_with fail
  refine (kawake_any _).mono ?_
  rintro e w6 ⟨rfl, g6⟩
  have G6 := Lib.hid (grownBy_trans (grownBy_trans G3.out (World.grownBy_alloc w3 _ none)) g6)
  clear g6 G3
  go_wp2_with fail
  go_ret
  exact ⟨rfl, below_grownBy G6.out⟩

set_option maxRecDepth 100000 in
set_option maxHeartbeats 8000000 in
theorem sketchReads_yes (xs : List Nat) (a : Option Addr) (c : Nat) (w : World) (hx : xs.length ≤ 1000) (hcap : xs.length ≤ c) (hs : ∀ x ∈ xs, x < 256) (hr : Rds w 1 (.slice a xs.length c) xs.length (bytesV xs)) (hyes : kreadB xs = true) :
    Calls Try.prog 6 #[.slice a xs.length c] w fun e w' => e = .returned (.bool true) ∧ Below w.heap.size w w' := by
  have hbi : decide ((1000 : Int) < (xs.length : Int)) = false := decide_eq_false (by omega)
  have HRU : Hid (∀ W, w.grownBy W none → Calls Try.prog 18 #[.slice a xs.length c] W (RUyes W (numAt xs 0 2) (numAt xs 2 4))) := Lib.hid (fun W hW => runpackK_yes xs a c W hs hcap (hr.grown hW (by simp)) hyes)
  have HSM := Lib.hid hs
  have HR := Lib.hid hr
  have HYES := Lib.hid hyes
  have HBACK := Lib.hid (packS_back hs hyes)
  obtain ⟨i0, hi, hz0, hz1, hz2⟩ := info_parts infoByte
  clear hs hr hyes
  go_enter Try.func6, Try.ntmps6
  go_wp2_with (at_builtin; refine wpList_append_rds rfl _ _ 32 rfl w.heap.size 5 i0 (.int .u8 0) 1 1 Try.underlying32 hi hz0 hz1 hz2 rfl (by decide) (v := .slice (some ⟨w.heap.size, 0, none⟩) 0 0) (n := 0) (xs := []) (sv := .slice a xs.length c) rfl (World.ownsRow_made w #[] 0 (Nat.le_refl _) (by simp) (by simp)) rfl ((HR.out.alloc _)) (bytesV_one xs) (by unfold maxLen; omega) (by omega) (by simp) ?_; intro v1 w1 h1 h2 _; obtain ⟨a1, c1, rfl⟩ := (Rds.of_owns h1).slice; have h1' : w1.ownsRow w.heap.size 5 1 (.slice a1 xs.length c1) xs.length (bytesV xs) := (by have := h1; rw [Nat.zero_add, List.nil_append] at this; exact this); have O1 := Lib.hid h1'; have G1 := Lib.hid (grownBy_new h2); clear h1 h1' h2; rw [Nat.zero_add])
  refine (kunpack_yes xs a1 c1 w1 (by omega) HSM.out (Rds.of_owns O1.out) HYES.out).mono ?_
  rintro e w2 ⟨B, g, rfl, sk2, _, _, g2⟩
  have G2 := Lib.hid (grownBy_trans G1.out g2)
  have S2 := Lib.hid sk2
  clear g2 O1 G1 sk2
  go_wp2_with fail
  refine (HRU.out w2 G2.out).mono ?_
  rintro e w3 ⟨G, c3, rfl, g3⟩
  have G3 := Lib.hid (grownBy_trans G2.out g3)
  have S3 := Lib.hid (S2.out.grown g3)
  clear g3 G2 HRU S2
  generalize numAt xs 0 2 = m at *
  generalize numAt xs 2 4 = ag at *
  unfold rvV
  go_wp2_with fail
  have hg4 := World.grownBy_alloc w3 (.cells #[.int .i64 (m : Int), .int .i64 (ag : Int), .slice (some ⟨G, 0, none⟩) (4 * m) c3] 40) none
  have hb4 := Blk.new w3 40 [.int .i64 (m : Int), .int .i64 (ag : Int), .slice (some ⟨G, 0, none⟩) (4 * m) c3]
  have G4 := Lib.hid (grownBy_trans G3.out hg4)
  have S4 := Lib.hid (S3.out.grown hg4)
  have HB4 : Hid (Blk (w3.alloc (.cells #[.int .i64 (m : Int), .int .i64 (ag : Int), .slice (some ⟨G, 0, none⟩) (4 * m) c3] 40)) w3.heap.size 40 [.int .i64 (m : Int), .int .i64 (ag : Int), .slice (some ⟨G, 0, none⟩) (4 * m) c3]) := Lib.hid hb4
  obtain ⟨q, hq⟩ : ∃ q, w3.heap.size = q := ⟨_, rfl⟩
  rw [hq] at HB4 ⊢
  obtain ⟨w4, hw4⟩ : ∃ w4, w3.alloc (.cells #[.int .i64 (m : Int), .int .i64 (ag : Int), .slice (some ⟨G, 0, none⟩) (4 * m) c3] 40) = w4 := ⟨_, rfl⟩
  rw [hw4] at HB4 G4 S4 ⊢
  clear hg4 hb4 hq hw4 G3 S3
  have hsq := strN_beq xs
  refine wp_region_planM (fun W => w4.grownBy W none) [([2, 3], [0], 1, true), ([4, 5, 8, 9], [6], 7, true), ([10, 11, 12, 16, 17], [13], 14, true), ([], [15, 18, 19, 20], 21, false), ([], [22], 23, false)] (by kernel_rfl) (by kernel_rfl) ?_
  refine wpPlanM_seg (grownBy_drewN w4 1 none) ?_
  iterate 2 (apply wpReadD_step rfl (by rfl); (· intro wS hSw; (try have hSw := hSw rfl); (try dsimp only at hSw); (try have x0 := (HB4.out.grown hSw (by simp)).cell (j := 0) rfl); (try have x1 := (HB4.out.grown hSw (by simp)).cell (j := 1) rfl); (try have hcv := conv_rds (HR.out.grown (grownBy_trans G4.out hSw) (by simp))); go_simp; (try with_reducible rfl)); try simp only [Act.put, List.setIfInBounds_toArray, List.set_cons_zero, List.set_cons_succ])
  refine wpReadD_nil ?_
  repeat (apply wpReadD_step rfl (by rfl); (· intro wS hSw; (try have hSw := hSw rfl); (try dsimp only at hSw); (try subst hSw); go_simp; (try with_reducible rfl)); try simp only [Act.put, List.setIfInBounds_toArray, List.set_cons_zero, List.set_cons_succ])
  refine wpReadD_nil ?_
  refine wpOp_list rfl (fun K hK => ?_)
  go_simp
  refine (age_any B g m ag (cntAt xs) _ (S4.out.grown (grownBy_drewN w4 1 none))).mono ?_
  rintro e w6 ⟨rfl, rfl⟩
  dsimp only
  refine hK _ _ ⟨fun _ => grownBy_drewN w4 1 none, ?_⟩
  clear hK K
  try simp only [Act.put, List.setIfInBounds_toArray, List.set_cons_zero, List.set_cons_succ]
  refine wpPlanM_seg (grownBy_drewN w4 1 none) ?_
  iterate 4 (apply wpReadD_step rfl (by rfl); (· intro wS hSw; (try have hSw := hSw rfl); (try dsimp only at hSw); (try have x0 := (HB4.out.grown hSw (by simp)).cell (j := 0) rfl); (try have x1 := (HB4.out.grown hSw (by simp)).cell (j := 1) rfl); (try have hcv := conv_rds (HR.out.grown (grownBy_trans G4.out hSw) (by simp))); go_simp; (try with_reducible rfl)); try simp only [Act.put, List.setIfInBounds_toArray, List.set_cons_zero, List.set_cons_succ])
  refine wpReadD_nil ?_
  repeat (apply wpReadD_step rfl (by rfl); (· intro wS hSw; (try have hSw := hSw rfl); (try dsimp only at hSw); (try subst hSw); go_simp; (try with_reducible rfl)); try simp only [Act.put, List.setIfInBounds_toArray, List.set_cons_zero, List.set_cons_succ])
  refine wpReadD_nil ?_
  refine wpOp_list rfl (fun K hK => ?_)
  go_simp
  refine (width_any B g m ag (cntAt xs) _ (S4.out.grown (grownBy_drewN w4 1 none))).mono ?_
  rintro e w6 ⟨rfl, rfl⟩
  dsimp only
  refine hK _ _ ⟨fun _ => grownBy_drewN w4 1 none, ?_⟩
  clear hK K
  try simp only [Act.put, List.setIfInBounds_toArray, List.set_cons_zero, List.set_cons_succ]
  refine wpPlanM_seg (grownBy_drewN w4 1 none) ?_
  iterate 5 (apply wpReadD_step rfl (by rfl); (· intro wS hSw; (try have hSw := hSw rfl); (try dsimp only at hSw); (try have x0 := (HB4.out.grown hSw (by simp)).cell (j := 0) rfl); (try have x1 := (HB4.out.grown hSw (by simp)).cell (j := 1) rfl); (try have hcv := conv_rds (HR.out.grown (grownBy_trans G4.out hSw) (by simp))); go_simp; (try with_reducible rfl)); try simp only [Act.put, List.setIfInBounds_toArray, List.set_cons_zero, List.set_cons_succ])
  refine wpReadD_nil ?_
  repeat (apply wpReadD_step rfl (by rfl); (· intro wS hSw; (try have hSw := hSw rfl); (try dsimp only at hSw); (try subst hSw); go_simp; (try with_reducible rfl)); try simp only [Act.put, List.setIfInBounds_toArray, List.set_cons_zero, List.set_cons_succ])
  refine wpReadD_nil ?_
  refine wpOp_list rfl (fun K hK => ?_)
  go_simp
  refine (kpack_any B g m ag (cntAt xs) _ (S4.out.grown (grownBy_drewN w4 1 none))).mono ?_
  rintro e w6 ⟨a6, c6, rfl, o6, g6⟩
  rw [HBACK.out] at o6 ⊢
  dsimp only
  have hcv6 := conv_rds (Rds.of_owns o6)
  have g46 := grownBy_trans (grownBy_drewN w4 1 none) g6
  have H6 := Lib.hid (grownBy_trans G4.out g46)
  refine hK _ _ ⟨fun _ => g46, ?_⟩
  clear hK K o6 g6 g46
  try simp only [Act.put, List.setIfInBounds_toArray, List.set_cons_zero, List.set_cons_succ]
  refine wpPlanM_here ?_
  repeat (apply wpReadD_step rfl (by rfl); (· intro wS hSw; (try have hSw := hSw rfl); (try dsimp only at hSw); (try subst hSw); go_simp; (try with_reducible rfl)); try simp only [Act.put, List.setIfInBounds_toArray, List.set_cons_zero, List.set_cons_succ])
  refine wpReadD_nil ?_
  refine wpOp_list rfl (fun K hK => ?_)
  go_simp
  refine (kawake_any _).mono ?_
  rintro e w7 ⟨rfl, g7⟩
  dsimp only
  have H7 := Lib.hid (grownBy_trans H6.out g7)
  refine hK _ _ ⟨fun hf => (by cases hf), ?_⟩
  clear hK K g7 hcv6
  try simp only [Act.put, List.setIfInBounds_toArray, List.set_cons_zero, List.set_cons_succ]
  refine wpPlanM_here ?_
  repeat (apply wpReadD_step rfl (by rfl); (· intro wS hSw; (try have hSw := hSw rfl); (try dsimp only at hSw); (try subst hSw); go_simp; (try with_reducible rfl)); try simp only [Act.put, List.setIfInBounds_toArray, List.set_cons_zero, List.set_cons_succ])
  refine wpReadD_nil ?_
  refine wpOp_list rfl (fun K hK => ?_)
  go_simp
  refine hK _ _ ⟨fun hf => (by cases hf), ?_⟩
  clear hK K
  try simp only [Act.put, List.setIfInBounds_toArray, List.set_cons_zero, List.set_cons_succ]
  refine wpPlanM_nil (NoPanic.normal ?_)
  go_wp2_with fail
  go_ret
  exact ⟨rfl, below_grownBy H7.out⟩

theorem sketchReads_walk0 (xs : List Nat) (a : Option Addr) (c : Nat) (w : World) (hcap : xs.length ≤ c) (hs : ∀ x ∈ xs, x < 256) (hr : Rds w 1 (.slice a xs.length c) xs.length (bytesV xs)) :
    Calls Try.prog 6 #[.slice a xs.length c] w fun e w' => e = .returned (.bool true) ∧ Below w.heap.size w w' := by
  by_cases hbig : 1000 < xs.length
  · have hm := hr.2.1
    unfold maxLen at hm
    have hbi : decide ((1000 : Int) < (xs.length : Int)) = true := decide_eq_true (by omega)
    go_enter Try.func6, Try.ntmps6
    go_wp2_with fail
    go_ret
    exact ⟨rfl, Below.refl _ _⟩
  · cases hk : kreadB xs
    · exact sketchReads_no xs a c w (by omega) hcap hs hr hk
    · exact sketchReads_yes xs a c w (by omega) hcap hs hr hk

section
variable {H : Type} {enc : TypeId × Value → H} {r : Reach} {b0 : Nat}
set_option maxRecDepth 100000 in
theorem sketchReads_walk (w : World) {v0 : Value} {d0 : DataW H} {p0 : List MemPlace} (k0 : Value.okWide Try.prog w r b0 32 v0)
    (h0 : DataW.Trod enc Try.prog w 0 (fun _ => true) true 32 v0 d0 p0) :
    Calls Try.prog 6 #[v0] w fun e w' => e = .returned (.bool true) ∧ Below w.heap.size w w' := by
  obtain ⟨xs, a, c, rfl, hr, hc, hg⟩ := arg_bytesC w k0 h0
  exact sketchReads_walk0 xs a c w hc hg hr
end

end Go.Proofs.Ytfdkncabicmmiaa
