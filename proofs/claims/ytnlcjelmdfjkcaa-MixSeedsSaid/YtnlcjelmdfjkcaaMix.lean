/- The walks of package mix: what undoes a scramble. -/
import Derived.Test.YtnlcjelmdfjkcaaScr
import Derived.Test.YtnlcjelmdfjkcaaPreW
namespace Go.Proofs.Ytnlcjelmdfjkcaa
open Go.RowKit

theorem inverse_any (f : BitVec 64) (w : World) :
    Calls Try.prog 20 #[.int .u64 (U f)] w fun e w' => e = .returned (.int .u64 (U (inv f))) ∧ w = w' := by
  have hf0 := U_lo f
  have hf1 := U_hi f
  go_enter Try.func20, Try.ntmps20
  go_wp2
  go_loop [3, 5] (fun o i => ∃ k : Nat, k ≤ 5 ∧ i = .int .i64 k ∧ o = .int .u64 (U (invs f k))) (fun _ i => 5 - (intOf i).toNat)
  case atStart => exact ⟨0, by omega, rfl, rfl⟩
  case round =>
    obtain ⟨k, hk, rfl, rfl⟩ := hrel
    have e1 := U_mul f (invs f k)
    have e2 := U_sub 2#64 (f * invs f k)
    have e3 := U_mul (invs f k) (2#64 - f * invs f k)
    have e4 : U 2#64 = 2 := rfl
    have e5 : invs f (k + 1) = invs f k * (2#64 - f * invs f k) := rfl
    rw [e4] at e2
    have E5 := Lib.hid e5
    clear e4 e5
    by_cases hlt : k < 5
    · go_wp2
      go_round
      case rel => exact ⟨k + 1, by omega, by go_num, by rw [E5.out]⟩
      case measure => simp [intOf]; omega
    · obtain rfl : k = 5 := by omega
      go_wp2
      go_ret
      exact ⟨rfl, rfl⟩

theorem raised_any (x : BitVec 64) (d : Nat) (hd : 22 ≤ d) (hd2 : d ≤ 31) (w : World) :
    Calls Try.prog 21 #[.int .u64 (U x), .int .u64 d] w fun e w' => e = .returned (.int .u64 (U (bwd d x))) ∧ w = w' := by
  have hx0 := U_lo x
  have hx1 := U_hi x
  go_enter Try.func21, Try.ntmps21
  go_wp2
  go_loop [5, 6] (fun o i => (i = .int .u64 d ∧ o = .int .u64 (U x)) ∨ (i = .int .u64 (d + d) ∧ o = .int .u64 (U (x ^^^ x >>> d))) ∨ (i = .int .u64 (d + d + d) ∧ o = .int .u64 (U (bwd d x)))) (fun _ i => 100 - (intOf i).toNat)
  case atStart => exact .inl ⟨rfl, rfl⟩
  case round =>
    rcases hrel with ⟨rfl, rfl⟩ | ⟨rfl, rfl⟩ | ⟨rfl, rfl⟩
    · have e1 := U_shr x d
      have e2 := U_xor x (x >>> d)
      go_wp2
      go_round
      case rel => exact .inr (.inl ⟨rfl, rfl⟩)
      case measure => simp [intOf]; omega
    · have e1 := U_shr (x ^^^ x >>> d) d
      have e2 := U_xor x ((x ^^^ x >>> d) >>> d)
      have hy0 := U_lo (x ^^^ x >>> d)
      have hy1 := U_hi (x ^^^ x >>> d)
      go_wp2
      go_round
      case rel => exact .inr (.inr ⟨rfl, rfl⟩)
      case measure => simp [intOf]; omega
    · have hy0 := U_lo (bwd d x)
      have hy1 := U_hi (bwd d x)
      go_wp2
      go_ret
      exact ⟨rfl, rfl⟩

/-- What is undone, step by step from the last. -/
def unss (x : BitVec 64) : Nat → BitVec 64
  | 0 => x
  | 1 => bwd 31 (x * inv 1#64)
  | 2 => bwd 27 (bwd 31 (x * inv 1#64) * inv c2)
  | _ => uns x

theorem raised_30 (x : BitVec 64) (w : World) : Calls Try.prog 21 #[.int .u64 (U x), .int .u64 30] w fun e w' => e = .returned (.int .u64 (U (bwd 30 x))) ∧ w = w' := raised_any x 30 (by omega) (by omega) w
theorem raised_27 (x : BitVec 64) (w : World) : Calls Try.prog 21 #[.int .u64 (U x), .int .u64 27] w fun e w' => e = .returned (.int .u64 (U (bwd 27 x))) ∧ w = w' := raised_any x 27 (by omega) (by omega) w
theorem raised_31 (x : BitVec 64) (w : World) : Calls Try.prog 21 #[.int .u64 (U x), .int .u64 31] w fun e w' => e = .returned (.int .u64 (U (bwd 31 x))) ∧ w = w' := raised_any x 31 (by omega) (by omega) w
theorem inverse_c1 (w : World) : Calls Try.prog 20 #[.int .u64 13787848793156543929] w fun e w' => e = .returned (.int .u64 (U (inv c1))) ∧ w = w' := inverse_any c1 w
theorem inverse_c2 (w : World) : Calls Try.prog 20 #[.int .u64 10723151780598845931] w fun e w' => e = .returned (.int .u64 (U (inv c2))) ∧ w = w' := inverse_any c2 w
theorem inverse_1 (w : World) : Calls Try.prog 20 #[.int .u64 1] w fun e w' => e = .returned (.int .u64 (U (inv 1#64))) ∧ w = w' := inverse_any 1#64 w

theorem unscramble_any (x : BitVec 64) (w : World) :
    Calls Try.prog 11 #[.int .u64 (U x)] w fun e w' => e = .returned (.int .u64 (U (uns x))) ∧ w.grownBy w' none := by
  go_enter Try.func11, Try.ntmps11
  go_wp2_with (go_at_call 19; refine (steps_any _).mono ?_; rintro e w1 ⟨rfl, g1⟩)
  go_loop [0, 4] (fun o i => (i = .int .i64 2 ∧ o = .int .u64 (U x)) ∨ (i = .int .i64 1 ∧ o = .int .u64 (U (unss x 1))) ∨ (i = .int .i64 0 ∧ o = .int .u64 (U (unss x 2))) ∨ (i = .int .i64 (-1) ∧ o = .int .u64 (U (unss x 3)))) (fun _ i => (intOf i + 1).toNat)
  case atStart => exact .inl ⟨rfl, rfl⟩
  case round =>
    rcases hrel with ⟨rfl, rfl⟩ | ⟨rfl, rfl⟩ | ⟨rfl, rfl⟩ | ⟨rfl, rfl⟩
    · have e1 := U_mul x (inv 1#64)
      go_wp2_with (first
        | (go_at_call 20; refine (inverse_1 _).mono ?_; rintro e w2 ⟨rfl, rfl⟩)
        | (go_at_call 21; refine (raised_31 _ _).mono ?_; rintro e w2 ⟨rfl, rfl⟩))
      go_round
      case rel => exact .inr (.inl ⟨rfl, rfl⟩)
      case measure => simp [intOf]
    · have e1 := U_mul (unss x 1) (inv c2)
      go_wp2_with (first
        | (go_at_call 20; refine (inverse_c2 _).mono ?_; rintro e w2 ⟨rfl, rfl⟩)
        | (go_at_call 21; refine (raised_27 _ _).mono ?_; rintro e w2 ⟨rfl, rfl⟩))
      go_round
      case rel => exact .inr (.inr (.inl ⟨rfl, rfl⟩))
      case measure => simp [intOf]
    · have e1 := U_mul (unss x 2) (inv c1)
      go_wp2_with (first
        | (go_at_call 20; refine (inverse_c1 _).mono ?_; rintro e w2 ⟨rfl, rfl⟩)
        | (go_at_call 21; refine (raised_30 _ _).mono ?_; rintro e w2 ⟨rfl, rfl⟩))
      go_round
      case rel => exact .inr (.inr (.inr ⟨rfl, rfl⟩))
      case measure => simp [intOf]
    · go_wp2
      go_ret
      exact ⟨rfl, grownBy_trans g1 (World.grownBy_alloc _ _ none)⟩

end Go.Proofs.Ytnlcjelmdfjkcaa
