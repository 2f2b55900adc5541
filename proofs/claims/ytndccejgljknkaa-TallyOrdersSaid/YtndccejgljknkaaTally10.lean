/- The laws of layer 16: TallyCounts, its other ways. -/
import Derived.Test.YtndccejgljknkaaTally9
namespace Go.Proofs.Ytndccejgljknkaa
open Go.RowKit Go.WideShapes Go.ChangeShapes Go.ChangeAt

theorem tallyCounts_big (x : Int) (a ua : Option Addr) (n cap m ucap : Nat) (w : World) (hn : n ≤ maxLen) (hm : m ≤ maxLen) (h : 100 < n ∨ 100 < m) :
    Calls Try.prog 5 #[.int .i64 x, .slice a n cap, .slice ua m ucap] w fun e w' => e = .returned (.bool true) ∧ Below w.heap.size w w' := by
  unfold maxLen at hn hm
  by_cases h1 : 100 < n
  · have h1' : (100 : Int) < n := by omega
    clear h
    go_enter Try.func5, Try.ntmps5
    go_wp2
    go_ret
    exact ⟨rfl, Below.refl _ _⟩
  · have h1' : ¬ (100 : Int) < n := by omega
    have h2 : (100 : Int) < m := by omega
    clear h
    go_enter Try.func5, Try.ntmps5
    go_wp2
    go_ret
    exact ⟨rfl, Below.refl _ _⟩

theorem tallyCounts_no (x : Int) (a ua : Option Addr) (n cap m ucap : Nat) (w : World) (hn : n ≤ 100) (hm : m ≤ 100) (h : x < 1 ∨ 64 < x) :
    Calls Try.prog 5 #[.int .i64 x, .slice a n cap, .slice ua m ucap] w fun e w' => e = .returned (.bool true) ∧ Below w.heap.size w w' := by
  have h1' : ¬ (100 : Int) < n := by omega
  have h2' : ¬ (100 : Int) < m := by omega
  have hnew := tnew_no x w h
  have HNEW := Lib.hid hnew
  clear hnew
  by_cases h1 : x < 1
  · clear h
    go_enter Try.func5, Try.ntmps5
    go_wp2_with fail
    refine HNEW.out.mono ?_
    rintro e w1 ⟨rfl, rfl⟩
    go_wp2_with (first
      | (go_at_call 11; refine (tall_nil _).mono ?_; rintro e w1 ⟨rfl, rfl⟩)
      | (go_at_call 10; refine (awake_any _).mono ?_; rintro e w3 ⟨rfl, g3⟩))
    go_ret
    exact ⟨rfl, below_grownBy g3⟩
  · have h3 : 64 < x := by omega
    clear h
    go_enter Try.func5, Try.ntmps5
    go_wp2_with fail
    refine HNEW.out.mono ?_
    rintro e w1 ⟨rfl, rfl⟩
    go_wp2_with (first
      | (go_at_call 11; refine (tall_nil _).mono ?_; rintro e w1 ⟨rfl, rfl⟩)
      | (go_at_call 10; refine (awake_any _).mono ?_; rintro e w3 ⟨rfl, g3⟩))
    go_ret
    exact ⟨rfl, below_grownBy g3⟩

section
variable {H : Type} {enc : TypeId × Value → H} {r : Reach} {b0 : Nat}
theorem arg_ints (w : World) {v0 : Value} {d0 : DataW H} {p0 : List MemPlace} (k0 : Value.okWide Try.prog w r b0 22 v0) (h0 : DataW.Trod enc Try.prog w 0 (fun _ => true) true 22 v0 d0 p0) :
    ∃ (xs : List Int) (a : Option Addr) (cap : Nat), v0 = .slice a xs.length cap ∧ Rds w 1 v0 xs.length (xs.map (Value.int .i64)) ∧ ∀ x ∈ xs, -9223372036854775808 ≤ x ∧ x ≤ 9223372036854775807 := by
  obtain ⟨xs, a, cap, hv, hr, _, hg⟩ := arg_slice (fun x : Int => [Value.int .i64 x]) (fun x => (Lit.int .i64 x).wf = true) 1 (by omega) Try.underlying22 (by kernel_rfl) (fun _ => rfl) (el_int Try.underlying3) k0 h0
  rw [ints_flat] at hr
  exact ⟨xs, a, cap, hv, hr, fun x hx => wf_i64 (hg x hx)⟩
theorem arg_pairs (w : World) {v0 : Value} {d0 : DataW H} {p0 : List MemPlace} (k0 : Value.okWide Try.prog w r b0 30 v0) (h0 : DataW.Trod enc Try.prog w 0 (fun _ => true) true 30 v0 d0 p0) :
    ∃ (xs : List (Int × Int)) (a : Option Addr) (cap : Nat), v0 = .slice a xs.length cap ∧ Rds w 2 v0 xs.length (xs.flatMap fun x => [Value.int .i64 x.1, Value.int .i64 x.2]) ∧ ∀ x ∈ xs, (-9223372036854775808 ≤ x.1 ∧ x.1 ≤ 9223372036854775807) ∧ (-9223372036854775808 ≤ x.2 ∧ x.2 ≤ 9223372036854775807) := by
  obtain ⟨xs, a, cap, hv, hr, _, hg⟩ := arg_slice (fun x : Int × Int => [Value.int .i64 x.1, Value.int .i64 x.2]) (fun x => (Lit.int .i64 x.1).wf = true ∧ (Lit.int .i64 x.2).wf = true) 2 (by omega) Try.underlying30 (by kernel_rfl) (fun _ => rfl) (el_pair Try.underlying33 Try.underlying3 (by kernel_rfl) (by kernel_rfl)) k0 h0
  exact ⟨xs, a, cap, hv, hr, fun x hx => ⟨wf_i64 (hg x hx).1, wf_i64 (hg x hx).2⟩⟩

theorem tallyCounts_walk (w : World) {v0 v1 v2 : Value} {d0 d1 d2 : DataW H} {p0 p1 p2 : List MemPlace} (k0 : Value.okWide Try.prog w r b0 3 v0) (k1 : Value.okWide Try.prog w r b0 30 v1) (k2 : Value.okWide Try.prog w r b0 22 v2)
    (h0 : DataW.Trod enc Try.prog w 0 (fun _ => true) true 3 v0 d0 p0) (h1 : DataW.Trod enc Try.prog w 0 (fun _ => true) true 30 v1 d1 p1) (h2 : DataW.Trod enc Try.prog w 0 (fun _ => true) true 22 v2 d2 p2) :
    Calls Try.prog 5 #[v0, v1, v2] w fun e w' => e = .returned (.bool true) ∧ Below w.heap.size w w' := by
  obtain ⟨x, rfl, rfl, rfl, wx⟩ := open_int Try.underlying3 k0 h0
  obtain ⟨ps, a, cap, rfl, hr, hg⟩ := arg_pairs w k1 h1
  obtain ⟨was, ua, ucap, rfl, hu, hwas⟩ := arg_ints w k2 h2
  by_cases hbig : 100 < ps.length ∨ 100 < was.length
  · exact tallyCounts_big x a ua _ cap _ ucap w hr.2.1 hu.2.1 hbig
  · by_cases hx : x < 1 ∨ 64 < x
    · exact tallyCounts_no x a ua _ cap _ ucap w (by omega) (by omega) hx
    · obtain ⟨n, rfl⟩ := Int.eq_ofNat_of_zero_le (show 0 ≤ x by omega)
      exact tallyCounts_yes n (by omega) ps a cap was ua ucap w (by omega) (by omega) hr hg hu hwas
end

end Go.Proofs.Ytndccejgljknkaa
