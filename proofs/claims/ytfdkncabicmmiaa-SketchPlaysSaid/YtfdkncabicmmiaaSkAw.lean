/- Layer 23: awake; the walk of SketchNil. -/
import Derived.Test.YtfdkncabicmmiaaSkM
import Derived.Test.YtfdkncabicmmiaaArgU
namespace Go.Proofs.Ytfdkncabicmmiaa
open Go.RowKit Go.WideShapes Go.ChangeShapes Go.ChangeAt

def Z0 : Nat → Nat := fun _ => 0
def five : BitVec 64 := 5#64
def A1 : Nat → Nat := markD 16 0 Z0 five
def A2 : Nat → Nat := markD 16 1 A1 five
theorem aw1 : gs 16 A1 five = 1 := by decide +kernel
theorem aw2 : gs 16 A2 five = 2 := by decide +kernel
theorem aw3 : gs 16 (halfC A2) five = 1 := by decide +kernel
theorem aw_age : markA 16 0 = 1 ∧ markA 16 1 = 2 := by decide
theorem pow16 : Pow2 16 := ⟨4, by omega, by omega, rfl⟩

set_option maxRecDepth 100000 in
set_option maxHeartbeats 1000000 in
theorem kawake_any (w : World) : Calls Try.prog 12 #[] w fun e w' => e = .returned (.bool true) ∧ w.grownBy w' none := by
  go_enter Try.func12, Try.ntmps12
  go_wp2_with fail
  refine (knew_any 16 pow16 w).mono ?_
  rintro e w1 ⟨B, g, rfl, s1, hB, hg, g1⟩
  have S1 : Hid (SK w1 B g 16 0 Z0) := Lib.hid s1
  have G1 := Lib.hid g1
  have HB := Lib.hid (And.intro hB hg)
  clear s1 g1 hB hg
  go_wp2_with fail
  refine (mark_any B g 16 0 Z0 five w1 S1.out (by omega)).mono ?_
  rintro e w2 ⟨rfl, s2, t2⟩
  rw [show gs 16 (markD 16 0 Z0 five) five = 1 from aw1]
  have S2 : Hid (SK w2 B g 16 1 A1) := Lib.hid s2
  have T2 := Lib.hid t2
  clear s2 t2
  go_wp2_with fail
  refine (mark_any B g 16 1 A1 five w2 S2.out (by omega)).mono ?_
  rintro e w3 ⟨rfl, s3, t3⟩
  rw [show gs 16 (markD 16 1 A1 five) five = 2 from aw2]
  have S3 : Hid (SK w3 B g 16 2 A2) := Lib.hid s3
  have T3 := Lib.hid t3
  clear s3 t3
  go_wp2_with fail
  refine (guess_any B g 16 2 A2 five w3 S3.out).mono ?_
  rintro e w4 ⟨rfl, g4⟩
  rw [aw2]
  have S4 := Lib.hid (S3.out.grown g4)
  have T4 := Lib.hid (T3.out.trans (Touch.of_none g4))
  clear g4 S3
  go_wp2_with fail
  refine (halve_any B g 16 2 A2 w4 S4.out).mono ?_
  rintro e w5 ⟨⟨v5, rfl⟩, s5, t5⟩
  have S5 := Lib.hid s5
  have T5 := Lib.hid ((T2.out.trans T4.out).trans t5)
  clear s5 t5 T4 S4 T3 T2
  go_wp2_with fail
  refine (guess_any B g 16 0 (halfC A2) five w5 S5.out).mono ?_
  rintro e w6 ⟨rfl, g6⟩
  rw [aw3]
  have S6 := Lib.hid (S5.out.grown g6)
  have T6 := Lib.hid (T5.out.trans (Touch.of_none g6))
  clear g6 T5 S5
  go_wp2_with fail
  refine (width_any B g 16 0 (halfC A2) w6 S6.out).mono ?_
  rintro e w7 ⟨rfl, rfl⟩
  go_wp2_with fail
  go_ret
  exact ⟨rfl, Touch.grown G1.out T6.out (fun j h => by
    rcases h with rfl | ⟨i, hi, rfl⟩
    · exact HB.out.1
    · exact HB.out.2 i hi)⟩

set_option maxRecDepth 100000 in
set_option maxHeartbeats 1000000 in
theorem sketchNil_walk0 (q : BitVec 64) (w : World) :
    Calls Try.prog 5 #[.int .u64 (U q)] w fun e w' => e = .returned (.bool true) ∧ Below w.heap.size w w' := by
  have hq : IntKind.u64.wrap (U q + 1) = U (q + 1#64) := U_add q 1#64
  go_enter Try.func5, Try.ntmps5
  go_wp2_with fail
  refine (halve_nil w).mono ?_
  rintro e w1 ⟨⟨v, rfl⟩, rfl⟩
  go_wp2_with fail
  refine (mark_nil _ w).mono ?_
  rintro e w1 ⟨rfl, rfl⟩
  go_wp2_with fail
  refine (guess_nil _ w).mono ?_
  rintro e w1 ⟨rfl, rfl⟩
  go_wp2_with fail
  refine (age_nil w).mono ?_
  rintro e w1 ⟨rfl, rfl⟩
  go_wp2_with fail
  refine (width_nil w).mono ?_
  rintro e w1 ⟨rfl, rfl⟩
  go_wp2_with fail
  refine (admit_nil _ _ w).mono ?_
  rintro e w1 ⟨rfl, g1⟩
  have G1 := Lib.hid g1
  clear g1
  go_wp2_with fail
  refine (pack_nil w1).mono ?_
  rintro e w2 ⟨rfl, rfl⟩
  go_wp2_with fail
  refine (kawake_any w1).mono ?_
  rintro e w2 ⟨rfl, g2⟩
  have G2 := Lib.hid (grownBy_trans G1.out g2)
  clear g2 G1
  go_wp2_with fail
  go_ret
  exact ⟨rfl, below_grownBy G2.out⟩

section
variable {H : Type} {enc : TypeId × Value → H} {r : Reach} {b0 : Nat}
theorem sketchNil_walk (w : World) {v0 : Value} {d0 : DataW H} {p0 : List MemPlace} (k0 : Value.okWide Try.prog w r b0 26 v0) (h0 : DataW.Trod enc Try.prog w 0 (fun _ => true) true 26 v0 d0 p0) :
    Calls Try.prog 5 #[v0] w fun e w' => e = .returned (.bool true) ∧ Below w.heap.size w w' := by
  obtain ⟨x, rfl⟩ := arg_u64 w k0 h0
  exact sketchNil_walk0 x w
end

end Go.Proofs.Ytfdkncabicmmiaa
