/- The laws of layer 16: the walks. -/
import Derived.Test.YtndccejgljknkaaTally6
import Derived.Test.YtndccejgljknkaaOpen
namespace Go.Proofs.Ytndccejgljknkaa
open Go.RowKit Go.WideShapes Go.ChangeShapes Go.ChangeAt

/-- TallyNil: its walk. -/
theorem tallyNil_walk0 (k n : Int) (w : World) : Calls Try.prog 6 #[.int .i64 k, .int .i64 n] w fun e w' => e = .returned (.bool true) ∧ Below w.heap.size w w' := by
  go_enter Try.func6, Try.ntmps6
  go_wp2_with fail
  refine (treset_nil w).mono ?_
  rintro e w1 ⟨rfl, rfl⟩
  go_wp2_with (first
    | (go_at_call 9; refine (tadd_nil _ _ _).mono ?_; rintro e w1 ⟨rfl, rfl⟩)
    | (go_at_call 8; refine (tget_nil _ _).mono ?_; rintro e w1 ⟨rfl, rfl⟩)
    | (go_at_call 11; refine (tall_nil _).mono ?_; rintro e w1 ⟨rfl, rfl⟩)
    | (go_at_call 13; refine (tsince_nil _ _).mono ?_; rintro e w2 ⟨rfl, b2⟩)
    | (go_at_call 10; refine (awake_any _).mono ?_; rintro e w3 ⟨rfl, g3⟩))
  go_ret
  exact ⟨rfl, below_grownBy (grownBy_trans (grownBy_trans (World.grownBy_alloc w _ none) (grownBy_below b2)) g3)⟩

section
variable {H : Type} {enc : TypeId × Value → H} {r : Reach} {b0 : Nat}
theorem tallyNil_walk (w : World) {v0 v1 : Value} {d0 d1 : DataW H} {p0 p1 : List MemPlace} (k0 : Value.okWide Try.prog w r b0 3 v0) (k1 : Value.okWide Try.prog w r b0 3 v1)
    (h0 : DataW.Trod enc Try.prog w 0 (fun _ => true) true 3 v0 d0 p0) (h1 : DataW.Trod enc Try.prog w 0 (fun _ => true) true 3 v1 d1 p1) :
    Calls Try.prog 6 #[v0, v1] w fun e w' => e = .returned (.bool true) ∧ Below w.heap.size w w' := by
  obtain ⟨x, rfl, rfl, rfl, wx⟩ := open_int Try.underlying3 k0 h0
  obtain ⟨y, rfl, rfl, rfl, wy⟩ := open_int Try.underlying3 k1 h1
  exact tallyNil_walk0 x y w
end

end Go.Proofs.Ytndccejgljknkaa
