/- Layer 14: the walk of BucketPacks. -/
import Derived.Test.YtddpjfmogjcimaaBkRPk
import Derived.Test.YtddpjfmogjcimaaBkOf
import Derived.Test.YtddpjfmogjcimaaBkAwake
import Derived.Test.YtddpjfmogjcimaaBkArgs
import Derived.Test.YtddpjfmogjcimaaStr
import Derived.Test.YtddpjfmogjcimaaPlan2
import Derived.Test.YtddpjfmogjcimaaArgI
namespace Go.Proofs.Ytddpjfmogjcimaa
open Go.RowKit Go.WideShapes Go.ChangeShapes Go.ChangeAt

def packR (d p slots : Int) (xs : List Ent) : List Nat := if rightB d p slots xs = true then packL d p xs else []
def errR (d p slots : Int) (xs : List Ent) : Int := if rightB d p slots xs = true then 0 else 5
theorem bpack_any (d p slots : Int) (xs : List Ent) (a : Option Addr) (c : Nat) (w : World) (hr : Rds w 4 (.slice a xs.length c) xs.length (entsV xs)) :
    Calls Try.prog 20 #[.agg #[.int .i64 d, .int .i64 p, .slice a xs.length c], .int .i64 slots] w fun e w' => ∃ a' c', e = .returned (.tuple #[.slice a' (packR d p slots xs).length c', .int .i64 (errR d p slots xs)]) ∧ Rds w' 1 (.slice a' (packR d p slots xs).length c') (packR d p slots xs).length (bytesV (packR d p slots xs)) ∧ w.grownBy w' none := by
  unfold packR errR
  cases hB : rightB d p slots xs
  · simp only [Bool.false_eq_true, if_false]
    refine (bpack_no d p slots xs a c w hr hB).mono ?_
    rintro e w' ⟨rfl, g⟩
    exact ⟨none, 0, rfl, Rds.nil _ 1, g⟩
  · simp only [if_true]
    refine (bpack_yes d p slots xs a c w hr hB).mono ?_
    rintro e w' ⟨a', c', rfl, o, g⟩
    exact ⟨a', c', rfl, Rds.of_owns o, g⟩
theorem rpack_any (d p slots : Int) (xs : List Ent) (a : Option Addr) (c : Nat) (w : World) (hr : Rds w 4 (.slice a xs.length c) xs.length (entsV xs)) :
    Calls Try.prog 21 #[.agg #[.int .i64 d, .int .i64 p, .slice a xs.length c], .int .i64 slots] w fun e w' => ∃ a' c', e = .returned (.tuple #[.slice a' (packR d p slots xs).length c', .int .i64 (errR d p slots xs)]) ∧ Rds w' 1 (.slice a' (packR d p slots xs).length c') (packR d p slots xs).length (bytesV (packR d p slots xs)) ∧ w.grownBy w' none := by
  unfold packR errR
  cases hB : rightB d p slots xs
  · simp only [Bool.false_eq_true, if_false]
    refine (rpack_no d p slots xs a c w hr hB).mono ?_
    rintro e w' ⟨rfl, g⟩
    exact ⟨none, 0, rfl, Rds.nil _ 1, g⟩
  · simp only [if_true]
    refine (rpack_yes d p slots xs a c w hr hB).mono ?_
    rintro e w' ⟨a', c', rfl, o, g⟩
    exact ⟨a', c', rfl, o, g⟩

set_option maxRecDepth 100000 in
set_option maxHeartbeats 16000000 in
theorem bucketPacks_walk0 (d p : Int) (xs : List Ent) (a : Option Addr) (c : Nat) (slots : Int) (w : World) (hr : Rds w 4 (.slice a xs.length c) xs.length (entsV xs)) :
    Calls Try.prog 6 #[.agg #[.int .i64 d, .int .i64 p, .slice a xs.length c], .int .i64 slots] w fun e w' => e = .returned (.bool true) ∧ Below w.heap.size w w' := by
  by_cases hbig : 300 < xs.length
  · have hbi : (300 : Int) < xs.length := by omega
    have hm := hr.2.1
    unfold maxLen at hm
    go_enter Try.func6, Try.ntmps6
    go_wp2
    go_ret
    exact ⟨rfl, below_grownBy (World.grownBy_alloc _ _ none)⟩
  have hle : xs.length ≤ 300 := by omega
  have HR := Lib.hid hr
  clear hr hbig
  have HP := Lib.hid (fun a c W h => bpack_any d p slots xs a c W h)
  have HRP := Lib.hid (fun a c W h => rpack_any d p slots xs a c W h)
  generalize packR d p slots xs = L at *
  generalize errR d p slots xs = er at *
  go_enter Try.func6, Try.ntmps6
  go_wp2_with fail
  refine (of14_any d p xs a c _ hle (HR.out.alloc _)).mono ?_
  rintro e w2 ⟨v, rfl, o2, g2⟩
  obtain ⟨a2, c2, rfl⟩ := (Rds.of_owns o2).slice
  have hb := (Blk.new w 24 [.int .i64 d, .int .i64 p, .slice a xs.length c]).grown g2 (by simp)
  have G2 := Lib.hid (grownBy_trans (World.grownBy_alloc w (.cells #[.int .i64 d, .int .i64 p, .slice a xs.length c] 24) none) g2)
  have HB := Lib.hid hb
  have O2 := Lib.hid (Rds.of_owns o2)
  clear hb g2 o2
  go_wp2_with fail
  refine (HP.out a2 c2 _ O2.out).mono ?_
  rintro e w3 ⟨a3, c3, rfl, r3, g3⟩
  have hb := HB.out.grown g3 (by simp)
  have h0 := hb.cell (j := 0) rfl
  have h1 := hb.cell (j := 1) rfl
  have h2 := hb.cell (j := 2) rfl
  have R3 := Lib.hid r3
  have G3 := Lib.hid (grownBy_trans G2.out g3)
  have HB3 := Lib.hid hb
  clear hb g3 r3 HB O2
  go_wp2_with fail
  refine (HRP.out a c _ (HR.out.grown G3.out (by simp))).mono ?_
  rintro e w4 ⟨a4, c4, rfl, r4, g4⟩
  have HB4 := Lib.hid (HB3.out.grown g4 (by simp))
  have R3 := Lib.hid (R3.out.grown g4 (by simp))
  have R4 := Lib.hid r4
  have G4 := Lib.hid (grownBy_trans G3.out g4)
  clear g4 r4 HB3 h0 h1 h2 HP HRP G3 G2
  have hbe := strN_beq L
  have hee : (er == er) = true := by simp
  go_wp2_with fail
  refine wp_region_planD (fun w' => w4.grownBy w' none) [([0, 1, 2, 3, 4, 5, 6, 7, 8, 9, 10, 11, 13, 15, 16], 12, true), ([], 14, true), ([], 17, true), ([18, 19, 20], 21, false), ([22], 23, false)] (by kernel_rfl) (by kernel_rfl) ?_
  refine wpPlanD_seg (grownBy_drewN w4 1 none) ?_
  repeat (apply wpReadD_step rfl (by rfl); (· intro wS hSw; (try have hSw := hSw rfl); (try dsimp only at hSw); (try have hcv3 := conv_rds (R3.out.grown hSw (by simp))); (try have hcv4 := conv_rds (R4.out.grown hSw (by simp))); (try have h0 := (HB4.out.grown hSw (by simp)).cell (j := 0) rfl); (try have h1 := (HB4.out.grown hSw (by simp)).cell (j := 1) rfl); (try have h2 := (HB4.out.grown hSw (by simp)).cell (j := 2) rfl); go_simp; (try with_reducible rfl)); try simp only [Act.put, List.setIfInBounds_toArray, List.set_cons_zero, List.set_cons_succ])
  refine wpReadD_nil ?_
  refine wpOp_list rfl (fun K hK => ?_)
  go_simp
  refine (of14_any d p xs a c _ hle (HR.out.grown (grownBy_trans G4.out (grownBy_drewN w4 1 none)) (by simp))).mono ?_
  rintro e w6 ⟨v, rfl, o6, g6⟩
  obtain ⟨a6, c6, rfl⟩ := (Rds.of_owns o6).slice
  dsimp only
  have G6 := Lib.hid (grownBy_trans (grownBy_drewN w4 1 none) g6)
  have R6 := Lib.hid (Rds.of_owns o6)
  refine hK _ _ ⟨fun _ => G6.out, ?_⟩
  clear hK K g6 o6
  try simp only [Act.put, List.setIfInBounds_toArray, List.set_cons_zero, List.set_cons_succ]
  refine wpPlanD_one ?_
  refine wpOp_list rfl (fun K hK => ?_)
  go_simp
  refine (bright_any d p slots xs a6 c6 _ R6.out).mono ?_
  rintro e w7 ⟨rfl, g7⟩
  dsimp only
  have G7 := Lib.hid (grownBy_trans G6.out g7)
  refine hK _ _ ⟨fun _ => G7.out, ?_⟩
  clear hK K g7 R6 G6
  try simp only [Act.put, List.setIfInBounds_toArray, List.set_cons_zero, List.set_cons_succ]
  refine wpPlanD_one ?_
  refine wpOp_list rfl (fun K hK => ?_)
  go_simp
  refine (rright_any d p slots xs a c _ (HR.out.grown (grownBy_trans G4.out G7.out) (by simp))).mono ?_
  rintro e w8 ⟨rfl, g8⟩
  dsimp only
  have G8 := Lib.hid (grownBy_trans G7.out g8)
  refine hK _ _ ⟨fun _ => G8.out, ?_⟩
  clear hK K g8 G7
  try simp only [Act.put, List.setIfInBounds_toArray, List.set_cons_zero, List.set_cons_succ]
  generalize rightB d p slots xs = rb at *
  have hrb : (rb == rb) = true := by simp
  refine wpPlanD_seg G8.out ?_
  repeat (apply wpReadD_step rfl (by rfl); (· intro wS hSw; go_simp; (try with_reducible rfl)); try simp only [Act.put, List.setIfInBounds_toArray, List.set_cons_zero, List.set_cons_succ])
  refine wpReadD_nil ?_
  refine wpOp_list rfl (fun K hK => ?_)
  go_simp
  refine (awake_any _).mono ?_
  rintro e w9 ⟨rfl, g9⟩
  dsimp only
  have G9 := Lib.hid (grownBy_trans G4.out (grownBy_trans G8.out g9))
  refine hK _ _ ?_
  first | refine ⟨fun hf => (by cases hf), ?_⟩ | skip
  clear hK K g9 G8
  try simp only [Act.put, List.setIfInBounds_toArray, List.set_cons_zero, List.set_cons_succ]
  refine wpPlanD_pure (by rfl) ?_
  repeat (apply wpReadD_step rfl (by rfl); (· intro wS hSw; go_simp; (try with_reducible rfl)); try simp only [Act.put, List.setIfInBounds_toArray, List.set_cons_zero, List.set_cons_succ])
  refine wpReadD_nil ?_
  refine wpOp_list rfl (fun K hK => ?_)
  go_simp
  refine hK _ _ ?_
  first | refine ⟨fun hf => (by cases hf), ?_⟩ | skip
  clear hK K
  try simp only [Act.put, List.setIfInBounds_toArray, List.set_cons_zero, List.set_cons_succ]
  refine wpPlanD_nil (NoPanic.normal ?_)
  go_wp2
  go_ret
  exact ⟨rfl, below_grownBy G9.out⟩

section
variable {H : Type} {enc : TypeId × Value → H} {r : Reach} {b0 : Nat}
set_option maxRecDepth 100000 in
theorem bucketPacks_walk (w : World) {v0 v1 : Value} {d0 d1 : DataW H} {p0 p1 : List MemPlace} (k0 : Value.okWide Try.prog w r b0 24 v0) (k1 : Value.okWide Try.prog w r b0 3 v1)
    (h0 : DataW.Trod enc Try.prog w 0 (fun _ => true) true 24 v0 d0 p0) (h1 : DataW.Trod enc Try.prog w 0 (fun _ => true) true 3 v1 d1 p1) :
    Calls Try.prog 6 #[v0, v1] w fun e w' => e = .returned (.bool true) ∧ Below w.heap.size w w' := by
  obtain ⟨d, p, xs, a, c, rfl, hr⟩ := arg_bucket w k0 h0
  obtain ⟨x, rfl, _⟩ := arg_int w k1 h1
  exact bucketPacks_walk0 d p xs a c x w hr
end

end Go.Proofs.Ytddpjfmogjcimaa
