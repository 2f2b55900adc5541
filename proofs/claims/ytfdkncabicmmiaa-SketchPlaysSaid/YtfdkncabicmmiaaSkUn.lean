/- package sketch: Unpack. -/
import Derived.Test.YtfdkncabicmmiaaSkPk
import Derived.Test.YtfdkncabicmmiaaRdAt
import Derived.WalkMore
import Derived.Deep.LoopGhost
namespace Go.Proofs.Ytfdkncabicmmiaa
open Go.RowKit Go.Shelf

/-- Is it a sketch's bytes? -/
def kreadB (xs : List Nat) : Bool := pow2B (numAt xs 0 2) && (decide (numAt xs 2 4 < 10 * numAt xs 0 2) && decide (xs.length = 6 + 2 * numAt xs 0 2))
def cntAt (xs : List Nat) (x : Nat) : Nat := if x % 2 = 0 then xs.getD (6 + x / 2) 0 % 16 else xs.getD (6 + x / 2) 0 / 16
def fillC (xs : List Nat) (N : Nat) : Nat → Nat := fun x => if x < N then cntAt xs x else 0
theorem cntAt_le {xs : List Nat} (h : ∀ x ∈ xs, x < 256) (x : Nat) : cntAt xs x ≤ 15 := by
  have := getD_small xs h (6 + x / 2)
  unfold cntAt
  split <;> omega
theorem fillC_zero (xs : List Nat) : fillC xs 0 = fun _ => 0 := by funext x; simp [fillC]
theorem fillC_two (xs : List Nat) (N : Nat) : updC (updC (fillC xs (2 * N)) (2 * N) (xs.getD (6 + N) 0 % 16)) (2 * N + 1) (xs.getD (6 + N) 0 / 16) = fillC xs (2 * (N + 1)) := by
  funext x
  unfold updC fillC cntAt
  by_cases e1 : x = 2 * N + 1
  · subst e1
    rw [if_pos rfl, if_pos (by omega), if_neg (by omega), show (2 * N + 1) / 2 = N by omega]
  · by_cases e2 : x = 2 * N
    · subst e2
      rw [if_neg e1, if_pos rfl, if_pos (by omega), if_pos (by omega), show 2 * N / 2 = N by omega]
    · rw [if_neg e1, if_neg e2]
      by_cases h : x < 2 * N
      · rw [if_pos h, if_pos (show x < 2 * (N + 1) by omega)]
      · rw [if_neg h, if_neg (show ¬ x < 2 * (N + 1) by omega)]

/-- What an Unpack that says no leaves. -/
def KNo (w : World) (e : Ending) (w' : World) : Prop := e = .returned (.tuple #[.pointer none, .int .i64 5]) ∧ w.grownBy w' none

set_option maxRecDepth 100000 in
set_option maxHeartbeats 4000000 in
theorem kunpack_no (xs : List Nat) (a : Option Addr) (c : Nat) (w : World) (hx : xs.length ≤ 50000000) (hsm : ∀ x ∈ xs, x < 256) (hr : Rds w 1 (.slice a xs.length c) xs.length (bytesV xs)) (hno : kreadB xs = false) :
    Calls Try.prog 17 #[.slice a xs.length c] w (KNo w) := by
  have h2 : numAt xs 0 2 < 65536 := numAt_lt hsm 0 2
  have h4 : numAt xs 2 4 < 4294967296 := numAt_lt hsm 2 4
  have HN := Lib.hid (newReader_any xs a c w hx hsm hr)
  clear hsm hr hx
  go_enter Try.func17, Try.ntmps17
  go_wp2_with fail
  go_step3
  go_wp2_with fail
  refine HN.out.mono ?_
  rintro e w1 ⟨R, v0, rfl, hr1, hR, hv0, g1⟩
  have P0 : Hid (PR w w1 R v0 xs 0) := Lib.hid ⟨by rw [List.drop_zero, show pastB xs 0 = false from decide_eq_false (by omega)]; exact hr1, hR, hv0, g1⟩
  clear hr1 hR hv0 g1
  go_wp2_with fail
  refine (P0.out.num 2 (by decide)).mono ?_
  rintro e w2 ⟨v2, rfl, p2, _, _⟩
  have P2 := Lib.hid p2
  clear p2 P0
  unfold kreadB at hno
  generalize numAt xs 0 2 = m at *
  have hwm : IntKind.i64.wrap (m : Int) = m := IntWalk.i64_in _ ⟨by omega, by omega⟩
  by_cases hp : Pow2 m
  · have hl := pow2_le hp
    rw [(pow2_iff m).2 hp, Bool.true_and] at hno
    have HNO := Lib.hid hno
    clear hno
    go_wp2_with fail
    refine (knew_any m hp _).mono ?_
    rintro e w3 ⟨B, g, rfl, hs3, hB3, hg3, g3⟩
    have HS3 := Lib.hid hs3
    have P3 := Lib.hid (P2.out.later g3)
    have HBN : Hid (R < B) := Lib.hid (by have := P2.out.rr.blk.lt; omega)
    clear hs3 hB3 hg3 g3 P2 hp
    go_wp2_with fail
    refine (P3.out.num 4 (by decide)).mono ?_
    rintro e w4 ⟨v4, rfl, p4, _, g4⟩
    rw [show 0 + 2 = 2 from rfl]
    have P4 := Lib.hid p4
    have HG := Lib.hid p4.grown
    have b0 := g4.cell (HS3.out.blk.cell (j := 0) rfl) (by have := HBN.out; simp; omega)
    generalize numAt xs 2 4 = ag at *
    have hwa : IntKind.i64.wrap (ag : Int) = ag := IntWalk.i64_in _ ⟨by omega, by omega⟩
    have q10 : IntKind.i64.wrap (10 * (m : Int)) = 10 * (m : Int) := IntWalk.i64_in _ ⟨by omega, by omega⟩
    have q4 : IntKind.i64.wrap (4 * (m : Int)) = 4 * (m : Int) := IntWalk.i64_in _ ⟨by omega, by omega⟩
    have q2 : IntKind.i64.wrap ((4 * (m : Int)).tdiv 2) = 2 * (m : Int) := by
      rw [Int.tdiv_eq_ediv_of_nonneg (by omega), show (4 * (m : Int)) / 2 = 2 * (m : Int) by omega]
      exact IntWalk.i64_in _ ⟨by omega, by omega⟩
    clear p4 P3 HS3 HBN g4
    go_wp2_with fail
    by_cases hage : ag < 10 * m
    · have d1 : decide ((ag : Int) ≥ 10 * (m : Int)) = false := decide_eq_false (by omega)
      have hlen : ¬ xs.length = 6 + 2 * m := by
        have := HNO.out
        rw [decide_eq_true hage, Bool.true_and] at this
        exact of_decide_eq_false this
      have hdl : (xs.drop 6).length ≠ 2 * m := by rw [List.length_drop]; omega
      refine wp_region_planD (fun w' => w'.cell? ⟨B, 0, none⟩ = some (.int .i64 (m : Int))) [([0, 1, 2, 3, 4, 5, 6, 7, 8, 9, 10, 11, 12, 15, 16, 17, 18, 19, 20], 13, true), ([14, 21], 22, false)] (by kernel_rfl) (by kernel_rfl) ?_
      refine wpPlanD_seg b0 ?_
      repeat ((first | (apply wpReadD_step rfl (by rfl); (· intro wS hSw; (try have hSw := hSw rfl); (try dsimp only at hSw); go_simp; (try with_reducible rfl))) | (apply wpReadD_skip rfl (by rfl))); (try simp only [Act.put, List.setIfInBounds_toArray, List.set_cons_zero, List.set_cons_succ]))
      refine wpReadD_nil ?_
      refine wpOp_list rfl (fun K hK => ?_)
      go_simp
      have hp4 : PR w w4.drew R v4 xs 6 := P4.out.later (grownBy_drewN w4 1 none)
      refine (rrest_any R v4 _ _ w4.drew hp4.rr).mono ?_
      rintro e w5 ⟨a5, c5, rfl, _, g5⟩
      dsimp only
      have b5 := g5.cell (show w4.drew.cell? ⟨B, 0, none⟩ = some (.int .i64 (m : Int)) from b0) (by simp)
      refine hK _ _ ⟨fun _ => b5, ?_⟩
      have HG := Lib.hid (grownBy_trans hp4.grown g5)
      clear hK K hp4 g5 P4 hlen hage
      try simp only [Act.put, List.setIfInBounds_toArray, List.set_cons_zero, List.set_cons_succ]
      obtain ⟨dl, hdl2⟩ : ∃ dl, (xs.drop 6).length = dl := ⟨_, rfl⟩
      rw [hdl2] at hdl ⊢
      clear hdl2
      have hne : (((dl : Nat) : Int) != 2 * (m : Int)) = true := bne_iff_ne.2 (by omega)
      refine wpPlanD_seg b5 ?_
      repeat ((first | (apply wpReadD_step rfl (by rfl); (· intro wS hSw; (try have hSw := hSw rfl); (try dsimp only at hSw); go_simp; (try with_reducible rfl))) | (apply wpReadD_skip rfl (by rfl))); (try simp only [Act.put, List.setIfInBounds_toArray, List.set_cons_zero, List.set_cons_succ]))
      refine wpReadD_nil ?_
      refine wpOp_list rfl (fun K hK => ?_)
      go_simp
      refine hK _ _ ⟨fun hf => (by cases hf), ?_⟩
      clear hK K b0 q10 q4 q2 d1 b5 hne
      refine wpPlanD_nil (NoPanic.normal ?_)
      go_wp2
      rw [Exit.noGoto_ret]
      go_ret2
      exact ⟨rfl, HG.out⟩
    · have d1 : decide ((ag : Int) ≥ 10 * (m : Int)) = true := decide_eq_true (by omega)
      refine wp_region_planD (fun w' => w'.cell? ⟨B, 0, none⟩ = some (.int .i64 (m : Int))) [([0, 1, 2, 3, 4, 5, 6, 7, 8, 9, 10, 11, 12, 13, 14, 15, 16, 17, 18, 19, 20, 21], 22, false)] (by kernel_rfl) (by kernel_rfl) ?_
      refine wpPlanD_seg b0 ?_
      repeat ((first | (apply wpReadD_step rfl (by rfl); (· intro wS hSw; (try have hSw := hSw rfl); (try dsimp only at hSw); go_simp; (try with_reducible rfl))) | (apply wpReadD_skip rfl (by rfl))); (try simp only [Act.put, List.setIfInBounds_toArray, List.set_cons_zero, List.set_cons_succ]))
      refine wpReadD_nil ?_
      refine wpOp_list rfl (fun K hK => ?_)
      go_simp
      refine hK _ _ ⟨fun hf => (by cases hf), ?_⟩
      clear hK K b0 q10 q4 q2 d1
      refine wpPlanD_nil (NoPanic.normal ?_)
      go_wp2
      rw [Exit.noGoto_ret]
      go_ret2
      exact ⟨rfl, grownBy_trans HG.out (grownBy_drewN _ 1 none)⟩
  · go_wp2_with fail
    refine (knew_no m _ (fun k e => by cases (show m = k by omega); exact hp)).mono ?_
    rintro e w3 ⟨rfl, rfl⟩
    have HG := Lib.hid P2.out.grown
    go_wp2_with fail
    refine (P2.out.num 4 (by decide)).mono ?_
    rintro e w4 ⟨v4, rfl, p4, _, _⟩
    have HG := Lib.hid p4.grown
    rw [show 0 + 2 = 2 from rfl]
    generalize numAt xs 2 4 = ag at *
    have hwa : IntKind.i64.wrap (ag : Int) = ag := IntWalk.i64_in _ ⟨by omega, by omega⟩
    clear p4 P2 hno hp
    go_wp2_with fail
    refine wp_region_planD (fun w' => True) [([0, 1, 2, 3, 4, 5, 6, 7, 8, 9, 10, 11, 12, 13, 14, 15, 16, 17, 18, 19, 20, 21], 22, false)] (by kernel_rfl) (by kernel_rfl) ?_
    refine wpPlanD_seg trivial ?_
    repeat ((first | (apply wpReadD_step rfl (by rfl); (· intro wS hSw; (try have hSw := hSw rfl); (try dsimp only at hSw); go_simp; (try with_reducible rfl))) | (apply wpReadD_skip rfl (by rfl))); (try simp only [Act.put, List.setIfInBounds_toArray, List.set_cons_zero, List.set_cons_succ]))
    refine wpReadD_nil ?_
    refine wpOp_list rfl (fun K hK => ?_)
    go_simp
    refine hK _ _ ⟨fun hf => (by cases hf), ?_⟩
    clear hK K
    refine wpPlanD_nil (NoPanic.normal ?_)
    go_wp2
    rw [Exit.noGoto_ret]
    go_ret2
    exact ⟨rfl, grownBy_trans HG.out (grownBy_drewN _ 1 none)⟩

end Go.Proofs.Ytfdkncabicmmiaa
