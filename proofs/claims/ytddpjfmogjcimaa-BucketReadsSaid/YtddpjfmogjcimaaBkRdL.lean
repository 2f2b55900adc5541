/- Layer 14: the walk of BucketReads. -/
import Derived.Test.YtddpjfmogjcimaaBkRRd
import Derived.Test.YtddpjfmogjcimaaBkTold
import Derived.Test.YtddpjfmogjcimaaBkAwake
import Derived.Test.YtddpjfmogjcimaaArgI
import Derived.Test.YtddpjfmogjcimaaArgBc
namespace Go.Proofs.Ytddpjfmogjcimaa
open Go.RowKit Go.WideShapes Go.ChangeShapes Go.ChangeAt

set_option maxRecDepth 100000 in
set_option maxHeartbeats 8000000 in
theorem bucketReads_walk0 (xs : List Nat) (slots : Int) (a : Option Addr) (c : Nat) (w : World) (hcap : xs.length ≤ c) (hs : ∀ x ∈ xs, x < 256) (hr : Rds w 1 (.slice a xs.length c) xs.length (bytesV xs)) :
    Calls Try.prog 5 #[.slice a xs.length c, .int .i64 slots] w fun e w' => e = .returned (.bool true) ∧ Below w.heap.size w w' := by
  have hm := hr.2.1
  unfold maxLen at hm
  by_cases hbig : 700 < xs.length
  · have hbi : decide ((700 : Int) < (xs.length : Int)) = true := decide_eq_true (by omega)
    go_enter Try.func5, Try.ntmps5
    go_wp2_with fail
    go_ret
    exact ⟨rfl, Below.refl _ _⟩
  have hx : xs.length ≤ 700 := by omega
  have hbi : decide ((700 : Int) < (xs.length : Int)) = false := decide_eq_false (by omega)
  have HSM := Lib.hid hs
  have HR := Lib.hid hr
  obtain ⟨i0, hi, hz0, hz1, hz2⟩ := info_parts infoByte
  clear hs hr hbig
  go_enter Try.func5, Try.ntmps5
  go_wp2_with (at_builtin; refine wpList_append_rds rfl _ _ 47 rfl w.heap.size 5 i0 (.int .u8 0) 1 1 Try.underlying47 hi hz0 hz1 hz2 rfl (by decide) (v := .slice (some ⟨w.heap.size, 0, none⟩) 0 0) (n := 0) (xs := []) (sv := .slice a xs.length c) rfl (World.ownsRow_made w #[] 0 (Nat.le_refl _) (by simp) (by simp)) rfl ((HR.out.alloc _)) (bytesV_one xs) (by unfold maxLen; omega) (by omega) (by simp) ?_; intro v1 w1 h1 h2 _; obtain ⟨a1, c1, rfl⟩ := (Rds.of_owns h1).slice; have h1' : w1.ownsRow w.heap.size 5 1 (.slice a1 xs.length c1) xs.length (bytesV xs) := (by have := h1; rw [Nat.zero_add, List.nil_append] at this; exact this); have O1 := Lib.hid (Rds.of_owns h1'); have G1 : Hid (w.grownBy w1 none) := Lib.hid (grownBy_new h2); clear h1 h1' h2; rw [Nat.zero_add])
  refine (bunpack_any xs slots a1 c1 w1 hx HSM.out O1.out).mono ?_
  rintro e w2 ⟨a2, c2, rfl, r2, g2⟩
  have G2 := Lib.hid (grownBy_trans G1.out g2)
  have R2 := Lib.hid r2
  clear r2 g2 O1 G1
  go_wp2_with fail
  obtain ⟨w3, hw3⟩ : ∃ w3, w2.alloc (.cells #[.int .i64 (uD xs slots), .int .i64 (uP xs slots), .slice a2 (uE xs slots).length c2] 29) = w3 := ⟨_, rfl⟩
  have HB : Hid (Blk w3 w2.heap.size 29 [.int .i64 (uD xs slots), .int .i64 (uP xs slots), .slice a2 (uE xs slots).length c2]) := Lib.hid (by rw [← hw3]; exact Blk.new w2 _ _)
  have g3 : w2.grownBy w3 none := by rw [← hw3]; exact World.grownBy_alloc _ _ none
  have G3 := Lib.hid (grownBy_trans G2.out g3)
  have R3 := Lib.hid (R2.out.grown g3 (by simp))
  rw [hw3]
  clear hw3 g3 G2 R2
  refine (runpack_any xs slots a c w3 hx hcap HSM.out (HR.out.grown G3.out (by simp))).mono ?_
  rintro e w4 ⟨a4, c4, rfl, r4, g4⟩
  have HB := Lib.hid (HB.out.grown g4 (by simp))
  have R3 := Lib.hid (R3.out.grown g4 (by simp))
  have R4 := Lib.hid r4
  have G4 := Lib.hid (grownBy_trans G3.out g4)
  clear r4 g4 G3 HR HSM
  generalize uD xs slots = d at *
  generalize uP xs slots = p at *
  generalize uErr xs slots = er at *
  generalize uE xs slots = es at *
  have hee : (er == er) = true := by simp
  obtain ⟨ob, hob⟩ : ∃ ob, Obj.cells #[.int .i64 d, .int .i64 p, .slice a4 es.length c4] 24 = ob := ⟨_, rfl⟩
  have x0 := (HB.out.alloc (.cells #[.int .i64 d, .int .i64 p, .slice a4 es.length c4] 24)).cell (j := 0) rfl
  have x1 := (HB.out.alloc (.cells #[.int .i64 d, .int .i64 p, .slice a4 es.length c4] 24)).cell (j := 1) rfl
  have x2 := (HB.out.alloc (.cells #[.int .i64 d, .int .i64 p, .slice a4 es.length c4] 24)).cell (j := 2) rfl
  have R3 := Lib.hid (R3.out.alloc (.cells #[.int .i64 d, .int .i64 p, .slice a4 es.length c4] 24))
  have R4 := Lib.hid (R4.out.alloc (.cells #[.int .i64 d, .int .i64 p, .slice a4 es.length c4] 24))
  have G4 := Lib.hid (grownBy_trans G4.out (World.grownBy_alloc w4 (.cells #[.int .i64 d, .int .i64 p, .slice a4 es.length c4] 24) none))
  clear hob HB
  go_wp2_with fail
  refine (told_yes d p es a2 a4 c2 c4 _ R3.out R4.out).mono ?_
  rintro e w5 ⟨rfl, g5⟩
  have G5 := Lib.hid (grownBy_trans G4.out g5)
  clear g5 G4 R3 R4 x0 x1 x2
  go_wp2_with fail
  refine (awake_any _).mono ?_
  rintro e w6 ⟨rfl, g6⟩
  have G6 := Lib.hid (grownBy_trans G5.out g6)
  clear g6 G5
  go_wp2_with fail
  go_ret
  exact ⟨rfl, below_grownBy G6.out⟩

section
variable {H : Type} {enc : TypeId × Value → H} {r : Reach} {b0 : Nat}
set_option maxRecDepth 100000 in
theorem bucketReads_walk (w : World) {v0 v1 : Value} {d0 d1 : DataW H} {p0 p1 : List MemPlace} (k0 : Value.okWide Try.prog w r b0 47 v0) (k1 : Value.okWide Try.prog w r b0 3 v1)
    (h0 : DataW.Trod enc Try.prog w 0 (fun _ => true) true 47 v0 d0 p0) (h1 : DataW.Trod enc Try.prog w 0 (fun _ => true) true 3 v1 d1 p1) :
    Calls Try.prog 5 #[v0, v1] w fun e w' => e = .returned (.bool true) ∧ Below w.heap.size w w' := by
  obtain ⟨xs, a, c, rfl, hr, hc, hg⟩ := arg_bytesC w k0 h0
  obtain ⟨x, rfl, _⟩ := arg_int w k1 h1
  exact bucketReads_walk0 xs x a c w hc hg hr
end

end Go.Proofs.Ytddpjfmogjcimaa
