/- Layer 2: awake, MixBack. -/
import Derived.Test.YtnlcjelmdfjkcaaSlots
import Derived.Test.YtnlcjelmdfjkcaaArgU
import Derived.Test.YtnlcjelmdfjkcaaArgI
import Derived.Test.YtnlcjelmdfjkcaaArgB
import Derived.OpenShut
namespace Go.Proofs.Ytnlcjelmdfjkcaa
open Go.RowKit Go.WideShapes Go.ChangeShapes Go.ChangeAt

theorem lit_scr (n : Int) (h0 : 0 ≤ n) (h1 : n ≤ 18446744073709551615) (w : World) :
    Calls Try.prog 12 #[.int .u64 n] w fun e w' => e = .returned (.int .u64 (U (scr (BitVec.ofNat 64 n.toNat)))) ∧ w.grownBy w' none := by
  have h := scramble_any (BitVec.ofNat 64 n.toNat) w
  rwa [U_of n h0 h1] at h

theorem slots_ex : slotsL 1 1 3 = [4, 5, 6, 7] := by decide

set_option maxHeartbeats 400000 in
theorem awake_any (w : World) : Calls Try.prog 10 #[] w fun e w' => e = .returned (.bool true) ∧ w.grownBy w' none := by
  have e1 : U (scr 0#64) = 0 := by decide +kernel
  have c1 : Calls Try.prog 12 #[.int .u64 0] = Calls Try.prog 12 #[.int .u64 (U 0#64)] := rfl
  have hs0 := fun W => scramble_any 0#64 W
  have hp : ∀ W : World, Calls Try.prog 13 #[.int .u64 9223372036854775808, .int .i64 2] W fun e w' => e = .returned (.int .i64 2) ∧ W = w' := fun W => prefix_any 9223372036854775808#64 2 W
  have hs5 : ∀ W : World, Calls Try.prog 12 #[.int .u64 5] W fun e w' => e = .returned (.int .u64 (U (scr 5#64))) ∧ W.grownBy w' none := fun W => scramble_any 5#64 W
  have hu5 : ∀ W : World, Calls Try.prog 11 #[.int .u64 (U (scr 5#64))] W fun e w' => e = .returned (.int .u64 5) ∧ W.grownBy w' none := by
    intro W
    have h := unscramble_any (scr 5#64) W
    rw [uns_scr] at h
    exact h
  have HS0 : Hid (∀ W : World, Calls Try.prog 12 #[.int .u64 0] W fun e w' => e = .returned (.int .u64 0) ∧ W.grownBy w' none) := Lib.hid (fun W => by
    have h := scramble_any 0#64 W
    rw [e1] at h
    exact h)
  have HP := Lib.hid hp
  have HS5 := Lib.hid hs5
  have HU5 := Lib.hid hu5
  clear e1 c1 hs0 hp hs5 hu5
  go_enter Try.func10, Try.ntmps10
  go_wp2_with fail
  refine (slotsl_any 1 1 3 w).mono ?_
  rintro e w1 ⟨v, rfl, o1, g1⟩
  rw [slots_ex] at o1
  obtain ⟨g, cap, rfl⟩ := ownsRow_pos o1 (by simp)
  go_wp2_with fail
  refine (HS0.out _).mono ?_
  rintro e w2 ⟨rfl, g2⟩
  go_wp2_with fail
  refine (HP.out _).mono ?_
  rintro e w3 ⟨rfl, rfl⟩
  have o2 := o1.kept g2 (.inr (by simp [Value.ownBlock]))
  have c0 : w2.cell? ⟨g, 0, none⟩ = some (.int .i64 4) := (o2.cellAt 0 (by simp)).trans rfl
  have c3 : w2.cell? ⟨g, 3, none⟩ = some (.int .i64 7) := (o2.cellAt 3 (by simp)).trans rfl
  clear o2 o1
  go_wp2_with fail
  refine (HS5.out _).mono ?_
  rintro e w4 ⟨rfl, g4⟩
  go_wp2_with fail
  refine (HU5.out _).mono ?_
  rintro e w5 ⟨rfl, g5⟩
  go_wp2
  go_ret
  exact ⟨rfl, grownBy_trans (grownBy_trans (grownBy_trans g1 g2) g4) g5⟩

theorem mixBack_walk0 (x y : BitVec 64) (w : World) :
    Calls Try.prog 4 #[.int .u64 (U x), .int .u64 (U y)] w fun e w' => e = .returned (.bool true) ∧ Below w.heap.size w w' := by
  have hu1 := fun W => unscramble_any (scr x) W
  have hs1 := fun W => scramble_any (uns x) W
  rw [uns_scr] at hu1
  rw [scr_uns] at hs1
  have HU1 := Lib.hid hu1
  have HS1 := Lib.hid hs1
  have e1 : (U x == U x) = true := by simp
  have e2 : (U (scr x) == U (scr y)) = (U x == U y) := by
    rw [U_eq, U_eq, Bool.eq_iff_iff]
    simp only [beq_iff_eq]
    exact ⟨scr_inj, fun h => by rw [h]⟩
  have E2 := Lib.hid e2
  have e3 : ((U x == U y) == (U x == U y)) = true := by simp
  clear hu1 hs1 e2
  go_enter Try.func4, Try.ntmps4
  go_wp2_with fail
  refine (scramble_any x _).mono ?_
  rintro e w1 ⟨rfl, g1⟩
  go_wp2_with fail
  refine (HU1.out _).mono ?_
  rintro e w2 ⟨rfl, g2⟩
  go_wp2_with fail
  refine (unscramble_any x _).mono ?_
  rintro e w3 ⟨rfl, g3⟩
  go_wp2_with fail
  refine (HS1.out _).mono ?_
  rintro e w4 ⟨rfl, g4⟩
  go_wp2_with fail
  refine (scramble_any x _).mono ?_
  rintro e w5 ⟨rfl, g5⟩
  go_wp2_with fail
  refine (scramble_any y _).mono ?_
  rintro e w6 ⟨rfl, g6⟩
  have e2 := E2.out
  go_wp2_with fail
  refine (awake_any _).mono ?_
  rintro e w7 ⟨rfl, g7⟩
  go_wp2
  go_ret
  exact ⟨rfl, below_grownBy (grownBy_trans (grownBy_trans (grownBy_trans (grownBy_trans (grownBy_trans (grownBy_trans g1 g2) g3) g4) g5) g6) g7)⟩

section
variable {H : Type} {enc : TypeId × Value → H} {r : Reach} {b0 : Nat}
theorem mixBack_walk (w : World) {v0 v1 : Value} {d0 d1 : DataW H} {p0 p1 : List MemPlace} (k0 : Value.okWide Try.prog w r b0 26 v0) (k1 : Value.okWide Try.prog w r b0 26 v1)
    (h0 : DataW.Trod enc Try.prog w 0 (fun _ => true) true 26 v0 d0 p0) (h1 : DataW.Trod enc Try.prog w 0 (fun _ => true) true 26 v1 d1 p1) :
    Calls Try.prog 4 #[v0, v1] w fun e w' => e = .returned (.bool true) ∧ Below w.heap.size w w' := by
  obtain ⟨x, rfl⟩ := arg_u64 w k0 h0
  obtain ⟨y, rfl⟩ := arg_u64 w k1 h1
  exact mixBack_walk0 x y w
end

end Go.Proofs.Ytnlcjelmdfjkcaa
