/- Layer 3: the walk of WireNil. -/
import Derived.Test.YtmmkfchijafjeaaWAwake
import Derived.Test.YtmmkfchijafjeaaArgI
import Derived.Test.YtmmkfchijafjeaaArgU
namespace Go.Proofs.Ytmmkfchijafjeaa
open Go.RowKit Go.WideShapes Go.ChangeShapes Go.ChangeAt

theorem rraw_nil (k : Int) (w : World) : Calls Try.prog 24 #[.pointer none, .int .i64 k] w fun e w' => e = .returned (.slice none 0 0) ∧ w = w' := by
  go_enter Try.func24, Try.ntmps24
  go_wp2
  go_ret
  exact ⟨rfl, rfl⟩
theorem rnum_nil (k : Int) (w : World) : Calls Try.prog 21 #[.pointer none, .int .i64 k] w fun e w' => e = .returned (.int .u64 0) ∧ w = w' := by
  have HM := Lib.hid (fun W => may_any k W)
  cases hm : mayB k
  all_goals
    rw [hm] at HM
    clear hm
    go_enter Try.func21, Try.ntmps21
    go_wp2_with fail
    refine (HM.out _).mono ?_
    rintro e w1 ⟨rfl, rfl⟩
    go_wp2_with fail
    refine (rraw_nil _ _).mono ?_
    rintro e w1 ⟨rfl, rfl⟩
    go_wp2
    refine wp_loop_rounds 1 ?_
    rw [rounds_succ]
    go_wp2
    go_ret
    exact ⟨rfl, rfl⟩
theorem rtext_nil (w : World) : Calls Try.prog 23 #[.pointer none] w fun e w' => e = .returned (.slice none 0 0) ∧ w = w' := by
  go_enter Try.func23, Try.ntmps23
  go_wp2_with fail
  refine (rnum_nil _ _).mono ?_
  rintro e w1 ⟨rfl, rfl⟩
  go_wp2_with fail
  refine (rraw_nil _ _).mono ?_
  rintro e w1 ⟨rfl, rfl⟩
  go_wp2
  go_ret
  exact ⟨rfl, rfl⟩

theorem wnumber_nil (n k : Int) (w : World) : Calls Try.prog 11 #[.pointer none, .int .u64 n, .int .i64 k] w fun e w' => e = .returned (.tuple #[]) ∧ w = w' := by
  go_enter Try.func11, Try.ntmps11
  go_wp2
  refine bodyPost_ret (results_none rfl _ _ _) rfl ?_
  exact ⟨rfl, rfl⟩
theorem wtext_nil (w : World) : Calls Try.prog 14 #[.pointer none, .slice none 0 0] w fun e w' => e = .returned (.tuple #[]) ∧ w = w' := by
  go_enter Try.func14, Try.ntmps14
  go_wp2
  refine bodyPost_ret (results_none rfl _ _ _) rfl ?_
  exact ⟨rfl, rfl⟩
theorem wraw_nil (w : World) : Calls Try.prog 15 #[.pointer none, .slice none 0 0] w fun e w' => e = .returned (.tuple #[]) ∧ w = w' := by
  go_enter Try.func15, Try.ntmps15
  go_wp2
  refine bodyPost_ret (results_none rfl _ _ _) rfl ?_
  exact ⟨rfl, rfl⟩
theorem wfull_nil (w : World) : Calls Try.prog 16 #[.pointer none] w fun e w' => e = .returned (.bool true) ∧ w = w' := by
  go_enter Try.func16, Try.ntmps16
  go_wp2
  go_ret
  exact ⟨rfl, rfl⟩
theorem wbytes_nil (w : World) : Calls Try.prog 17 #[.pointer none] w fun e w' => e = .returned (.slice none 0 0) ∧ w = w' := by
  go_enter Try.func17, Try.ntmps17
  go_wp2
  go_ret
  exact ⟨rfl, rfl⟩
theorem rrest_nil (w : World) : Calls Try.prog 26 #[.pointer none] w fun e w' => e = .returned (.slice none 0 0) ∧ w = w' := by
  go_enter Try.func26, Try.ntmps26
  go_wp2
  go_ret
  exact ⟨rfl, rfl⟩
theorem rbad_nil (w : World) : Calls Try.prog 25 #[.pointer none] w fun e w' => e = .returned (.bool true) ∧ w = w' := by
  go_enter Try.func25, Try.ntmps25
  go_wp2
  go_ret
  exact ⟨rfl, rfl⟩

set_option maxRecDepth 100000 in
set_option maxHeartbeats 1000000 in
theorem wireNil_walk0 (n k : Int) (w : World) : Calls Try.prog 7 #[.int .u64 n, .int .i64 k] w fun e w' => e = .returned (.bool true) ∧ Below w.heap.size w w' := by
  go_enter Try.func7, Try.ntmps7
  go_wp2_with (first | (go_at_call 11; refine (wnumber_nil _ _ _).mono ?_; rintro e w1 ⟨rfl, rfl⟩) | (go_at_call 14; refine (wtext_nil _).mono ?_; rintro e w1 ⟨rfl, rfl⟩) | (go_at_call 15; refine (wraw_nil _).mono ?_; rintro e w1 ⟨rfl, rfl⟩) | (go_at_call 16; refine (wfull_nil _).mono ?_; rintro e w1 ⟨rfl, rfl⟩) | (go_at_call 17; refine (wbytes_nil _).mono ?_; rintro e w1 ⟨rfl, rfl⟩) | (go_at_call 21; refine (rnum_nil _ _).mono ?_; rintro e w1 ⟨rfl, rfl⟩) | (go_at_call 23; refine (rtext_nil _).mono ?_; rintro e w1 ⟨rfl, rfl⟩) | (go_at_call 24; refine (rraw_nil _ _).mono ?_; rintro e w1 ⟨rfl, rfl⟩) | (go_at_call 26; refine (rrest_nil _).mono ?_; rintro e w1 ⟨rfl, rfl⟩) | (go_at_call 25; refine (rbad_nil _).mono ?_; rintro e w1 ⟨rfl, rfl⟩) | (go_at_call 18; refine (awake_any _).mono ?_; rintro e wA ⟨rfl, gA⟩))
  go_ret
  exact ⟨rfl, below_grownBy gA⟩

section
variable {H : Type} {enc : TypeId × Value → H} {r : Reach} {b0 : Nat}
theorem wireNil_walk (w : World) {v0 v1 : Value} {d0 d1 : DataW H} {p0 p1 : List MemPlace} (k0 : Value.okWide Try.prog w r b0 29 v0) (k1 : Value.okWide Try.prog w r b0 3 v1)
    (h0 : DataW.Trod enc Try.prog w 0 (fun _ => true) true 29 v0 d0 p0) (h1 : DataW.Trod enc Try.prog w 0 (fun _ => true) true 3 v1 d1 p1) :
    Calls Try.prog 7 #[v0, v1] w fun e w' => e = .returned (.bool true) ∧ Below w.heap.size w w' := by
  obtain ⟨x, rfl⟩ := arg_u64 w k0 h0
  obtain ⟨y, rfl, _⟩ := arg_int w k1 h1
  exact wireNil_walk0 _ _ w
end

end Go.Proofs.Ytmmkfchijafjeaa
