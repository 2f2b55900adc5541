/- Layer 7: the walk of BitsNil. -/
import Derived.Test.YtjbfnnfbdjjjbaaDoorSetNew
import Derived.Test.YtjbfnnfbdjjjbaaDoorArgI
namespace Go.Proofs.YtjbfnnfbdjjjbaaDoor
open Go.RowKit Go.WideShapes Go.ChangeShapes Go.ChangeAt

set_option maxHeartbeats 1000000 in
theorem bitsNil_walk0 (i : Int) (w : World) (hT : Tab w) (hG : 0 < w.heap.size) :
    Calls Tryd.prog 6 #[.int .i64 i] w fun e w' => e = .returned (.bool true) ∧ Below w.heap.size w w' := by
  have HTT := Lib.hid hT
  clear hT
  go_enter Tryd.func6, Tryd.ntmps6
  go_wp2_with fail
  refine (take_nil w).mono ?_
  rintro e w1 ⟨rfl, rfl⟩
  go_wp2_with fail
  refine (mark_nil i w).mono ?_
  rintro e w1 ⟨rfl, rfl⟩
  go_wp2_with fail
  refine (clear_nil i w).mono ?_
  rintro e w1 ⟨rfl, rfl⟩
  go_wp2_with fail
  refine (has_nil i w).mono ?_
  rintro e w1 ⟨rfl, rfl⟩
  go_wp2_with fail
  refine (count_nil w).mono ?_
  rintro e w1 ⟨rfl, rfl⟩
  go_wp2_with fail
  refine (all_nil w).mono ?_
  rintro e w1 ⟨rfl, g1⟩
  have G1 := Lib.hid g1
  have T1 := Lib.hid (HTT.out.same (g1.block _ hG (by simp)))
  have L1 := Lib.hid (Nat.lt_of_lt_of_le hG g1.size)
  clear g1
  go_wp2_with fail
  refine (room_nil w1).mono ?_
  rintro e w2 ⟨rfl, rfl⟩
  go_wp2_with fail
  refine (copy_nil w1).mono ?_
  rintro e w2 ⟨rfl, rfl⟩
  go_wp2_with fail
  refine (sawake_any w1 T1.out L1.out).mono ?_
  rintro e w2 ⟨rfl, g2⟩
  have G2 := Lib.hid (grownBy_trans G1.out g2)
  clear g2 G1
  go_wp2_with fail
  go_ret
  exact ⟨rfl, below_grownBy G2.out⟩

section
variable {H : Type} {enc : TypeId × Value → H} {r : Reach} {b0 : Nat}
theorem bitsNil_walk (w : World) (hT : Tab w) (hG : 0 < w.heap.size) {v0 : Value} {d0 : DataW H} {p0 : List MemPlace} (k0 : Value.okWide Tryd.prog w r b0 3 v0) (h0 : DataW.Trod enc Tryd.prog w 0 (fun _ => true) true 3 v0 d0 p0) :
    Calls Tryd.prog 6 #[v0] w fun e w' => e = .returned (.bool true) ∧ Below w.heap.size w w' := by
  obtain ⟨x, rfl, _⟩ := arg_int w k0 h0
  exact bitsNil_walk0 x w hT hG
end

end Go.Proofs.YtjbfnnfbdjjjbaaDoor
