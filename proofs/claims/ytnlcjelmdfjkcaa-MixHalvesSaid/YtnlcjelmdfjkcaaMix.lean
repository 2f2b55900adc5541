/- The walks of package mix, without its iterator. -/
import Derived.Test.YtnlcjelmdfjkcaaProg
import Derived.WalkKit
import Derived.WalkSpells
import Derived.WalkLawsBesides
import Derived.Lib.Hide
import Derived.Test.YtnlcjelmdfjkcaaMem
import Derived.Test.YtnlcjelmdfjkcaaBv
namespace Go.Proofs.Ytnlcjelmdfjkcaa
open Go.RowKit

theorem steps_any (w : World) :
    Calls Try.prog 19 #[] w fun e w' => e = .returned (.agg #[.int .u64 30, .int .u64 13787848793156543929, .int .u64 27, .int .u64 10723151780598845931, .int .u64 31, .int .u64 1]) ∧ w.grownBy w' none := by
  go_enter Try.func19, Try.ntmps19
  go_wp2
  exact bodyPost_ret (v := .agg #[.int .u64 30, .int .u64 13787848793156543929, .int .u64 27, .int .u64 10723151780598845931, .int .u64 31, .int .u64 1]) (by simp [results, Try.results19, go_sem]) rfl ⟨rfl, World.grownBy_alloc w _ none⟩

theorem inverse_any (f : BitVec 64) (w : World) :
    Calls Try.prog 20 #[.int .u64 (U f)] w fun e w' => e = .returned (.int .u64 (U (inv f))) ∧ w = w' := by
  have hf0 := U_lo f
  have hf1 := U_hi f
  go_enter Try.func20, Try.ntmps20
  go_wp2
  go_loop [3, 5] (fun o i => ∃ k : Nat, k ≤ 5 ∧ i = .int .i64 k ∧ o = .int .u64 (U (invs f k))) (fun _ i => 5 - (intOf i).toNat)
  case atStart => exact ⟨0, by omega, rfl, rfl⟩
  case round =>
    obtain ⟨k, hk, rfl, rfl⟩ := hrel
    have e1 := U_mul f (invs f k)
    have e2 := U_sub 2#64 (f * invs f k)
    have e3 := U_mul (invs f k) (2#64 - f * invs f k)
    have e4 : U 2#64 = 2 := rfl
    have e5 : invs f (k + 1) = invs f k * (2#64 - f * invs f k) := rfl
    rw [e4] at e2
    have E5 := Lib.hid e5
    clear e4 e5
    by_cases hlt : k < 5
    · go_wp2
      go_round
      case rel => exact ⟨k + 1, by omega, by go_num, by rw [E5.out]⟩
      case measure => simp [intOf]; omega
    · obtain rfl : k = 5 := by omega
      go_wp2
      go_ret
      exact ⟨rfl, rfl⟩

theorem raised_any (x : BitVec 64) (d : Nat) (hd : 22 ≤ d) (hd2 : d ≤ 31) (w : World) :
    Calls Try.prog 21 #[.int .u64 (U x), .int .u64 d] w fun e w' => e = .returned (.int .u64 (U (bwd d x))) ∧ w = w' := by
  have hx0 := U_lo x
  have hx1 := U_hi x
  go_enter Try.func21, Try.ntmps21
  go_wp2
  go_loop [5, 6] (fun o i => (i = .int .u64 d ∧ o = .int .u64 (U x)) ∨ (i = .int .u64 (d + d) ∧ o = .int .u64 (U (x ^^^ x >>> d))) ∨ (i = .int .u64 (d + d + d) ∧ o = .int .u64 (U (bwd d x)))) (fun _ i => 100 - (intOf i).toNat)
  case atStart => exact .inl ⟨rfl, rfl⟩
  case round =>
    rcases hrel with ⟨rfl, rfl⟩ | ⟨rfl, rfl⟩ | ⟨rfl, rfl⟩
    · have e1 := U_shr x d
      have e2 := U_xor x (x >>> d)
      go_wp2
      go_round
      case rel => exact .inr (.inl ⟨rfl, rfl⟩)
      case measure => simp [intOf]; omega
    · have e1 := U_shr (x ^^^ x >>> d) d
      have e2 := U_xor x ((x ^^^ x >>> d) >>> d)
      have hy0 := U_lo (x ^^^ x >>> d)
      have hy1 := U_hi (x ^^^ x >>> d)
      go_wp2
      go_round
      case rel => exact .inr (.inr ⟨rfl, rfl⟩)
      case measure => simp [intOf]; omega
    · have hy0 := U_lo (bwd d x)
      have hy1 := U_hi (bwd d x)
      go_wp2
      go_ret
      exact ⟨rfl, rfl⟩

/-- A scramble, step by step. -/
def scrs (x : BitVec 64) : Nat → BitVec 64
  | 0 => x
  | 1 => fwd 30 x * c1
  | 2 => fwd 27 (fwd 30 x * c1) * c2
  | _ => scr x

theorem fwd_eq (d : Nat) (x : BitVec 64) : bits BinOp.xor IntKind.u64 (U x) (U x / 2 ^ d) = U (fwd d x) := by rw [U_shr, U_xor]; rfl

theorem sstep1 (x : BitVec 64) : IntKind.u64.wrap (bits BinOp.xor IntKind.u64 (U x) (U x / 1073741824) * 13787848793156543929) = U (fwd 30 x * c1) := by
  rw [show (1073741824 : Int) = 2 ^ 30 from rfl, fwd_eq 30 x, show (13787848793156543929 : Int) = U c1 from rfl, U_mul]
theorem sstep2 (x : BitVec 64) : IntKind.u64.wrap (bits BinOp.xor IntKind.u64 (U x) (U x / 134217728) * 10723151780598845931) = U (fwd 27 x * c2) := by
  rw [show (134217728 : Int) = 2 ^ 27 from rfl, fwd_eq 27 x, show (10723151780598845931 : Int) = U c2 from rfl, U_mul]
theorem sstep3 (x : BitVec 64) : IntKind.u64.wrap (bits BinOp.xor IntKind.u64 (U x) (U x / 2147483648)) = U (fwd 31 x * 1#64) := by
  rw [show (2147483648 : Int) = 2 ^ 31 from rfl, fwd_eq 31 x, BitVec.mul_one]
  exact IntWalk.u64_in _ ⟨U_lo _, U_hi _⟩

theorem scramble_any (x : BitVec 64) (w : World) :
    Calls Try.prog 12 #[.int .u64 (U x)] w fun e w' => e = .returned (.int .u64 (U (scr x))) ∧ w.grownBy w' none := by
  have i0 : ∀ W, (Instr.index 40 (.agg #[.int .u64 30, .int .u64 13787848793156543929, .int .u64 27, .int .u64 10723151780598845931, .int .u64 31, .int .u64 1]) (.int .i64 0)).run Try.prog W = .ok (.agg #[.int .u64 30, .int .u64 13787848793156543929]) W := fun _ => by kernel_rfl
  have i1 : ∀ W, (Instr.index 40 (.agg #[.int .u64 30, .int .u64 13787848793156543929, .int .u64 27, .int .u64 10723151780598845931, .int .u64 31, .int .u64 1]) (.int .i64 1)).run Try.prog W = .ok (.agg #[.int .u64 27, .int .u64 10723151780598845931]) W := fun _ => by kernel_rfl
  have i2 : ∀ W, (Instr.index 40 (.agg #[.int .u64 30, .int .u64 13787848793156543929, .int .u64 27, .int .u64 10723151780598845931, .int .u64 31, .int .u64 1]) (.int .i64 2)).run Try.prog W = .ok (.agg #[.int .u64 31, .int .u64 1]) W := fun _ => by kernel_rfl
  go_enter Try.func12, Try.ntmps12
  go_wp2_with (go_at_call 19; refine (steps_any _).mono ?_; rintro e w1 ⟨rfl, g1⟩)
  go_loopw [0, 6] (fun o i wr => ∃ k : Nat, k ≤ 3 ∧ i = .int .i64 k ∧ o = .int .u64 (U (scrs x k)) ∧ w.grownBy wr none) (fun _ i _ => 3 - (intOf i).toNat)
  case atStart => exact ⟨0, by omega, rfl, rfl, g1⟩
  case round =>
    obtain ⟨k, hk, rfl, rfl, hg⟩ := hrel
    have HG := Lib.hid hg
    have h0 := U_lo (scrs x k)
    have h1 := U_hi (scrs x k)
    clear hg g1
    rcases (show k = 0 ∨ k = 1 ∨ k = 2 ∨ k = 3 by omega) with rfl | rfl | rfl | rfl
    · clear i1 i2
      go_wp2
      go_roundw
      case rel => exact ⟨1, by omega, rfl, by rw [sstep1]; rfl, grownBy_trans HG.out (World.grownBy_alloc _ _ none)⟩
      case measure => simp [intOf]
    · clear i0 i2
      go_wp2
      go_roundw
      case rel => exact ⟨2, by omega, rfl, by rw [sstep2]; rfl, grownBy_trans HG.out (World.grownBy_alloc _ _ none)⟩
      case measure => simp [intOf]
    · clear i0 i1
      go_wp2
      go_roundw
      case rel => exact ⟨3, by omega, rfl, by rw [sstep3]; rfl, grownBy_trans HG.out (World.grownBy_alloc _ _ none)⟩
      case measure => simp [intOf]
    · clear i0 i1 i2
      go_wp2
      go_ret
      exact ⟨rfl, HG.out⟩

/-- What is undone, step by step from the last. -/
def unss (x : BitVec 64) : Nat → BitVec 64
  | 0 => x
  | 1 => bwd 31 (x * inv 1#64)
  | 2 => bwd 27 (bwd 31 (x * inv 1#64) * inv c2)
  | _ => uns x

theorem raised_30 (x : BitVec 64) (w : World) : Calls Try.prog 21 #[.int .u64 (U x), .int .u64 30] w fun e w' => e = .returned (.int .u64 (U (bwd 30 x))) ∧ w = w' := raised_any x 30 (by omega) (by omega) w
theorem raised_27 (x : BitVec 64) (w : World) : Calls Try.prog 21 #[.int .u64 (U x), .int .u64 27] w fun e w' => e = .returned (.int .u64 (U (bwd 27 x))) ∧ w = w' := raised_any x 27 (by omega) (by omega) w
theorem raised_31 (x : BitVec 64) (w : World) : Calls Try.prog 21 #[.int .u64 (U x), .int .u64 31] w fun e w' => e = .returned (.int .u64 (U (bwd 31 x))) ∧ w = w' := raised_any x 31 (by omega) (by omega) w
theorem inverse_c1 (w : World) : Calls Try.prog 20 #[.int .u64 13787848793156543929] w fun e w' => e = .returned (.int .u64 (U (inv c1))) ∧ w = w' := inverse_any c1 w
theorem inverse_c2 (w : World) : Calls Try.prog 20 #[.int .u64 10723151780598845931] w fun e w' => e = .returned (.int .u64 (U (inv c2))) ∧ w = w' := inverse_any c2 w
theorem inverse_1 (w : World) : Calls Try.prog 20 #[.int .u64 1] w fun e w' => e = .returned (.int .u64 (U (inv 1#64))) ∧ w = w' := inverse_any 1#64 w

theorem unscramble_any (x : BitVec 64) (w : World) :
    Calls Try.prog 11 #[.int .u64 (U x)] w fun e w' => e = .returned (.int .u64 (U (uns x))) ∧ w.grownBy w' none := by
  go_enter Try.func11, Try.ntmps11
  go_wp2_with (go_at_call 19; refine (steps_any _).mono ?_; rintro e w1 ⟨rfl, g1⟩)
  go_loop [0, 4] (fun o i => (i = .int .i64 2 ∧ o = .int .u64 (U x)) ∨ (i = .int .i64 1 ∧ o = .int .u64 (U (unss x 1))) ∨ (i = .int .i64 0 ∧ o = .int .u64 (U (unss x 2))) ∨ (i = .int .i64 (-1) ∧ o = .int .u64 (U (unss x 3)))) (fun _ i => (intOf i + 1).toNat)
  case atStart => exact .inl ⟨rfl, rfl⟩
  case round =>
    rcases hrel with ⟨rfl, rfl⟩ | ⟨rfl, rfl⟩ | ⟨rfl, rfl⟩ | ⟨rfl, rfl⟩
    · have e1 := U_mul x (inv 1#64)
      go_wp2_with (first
        | (go_at_call 20; refine (inverse_1 _).mono ?_; rintro e w2 ⟨rfl, rfl⟩)
        | (go_at_call 21; refine (raised_31 _ _).mono ?_; rintro e w2 ⟨rfl, rfl⟩))
      go_round
      case rel => exact .inr (.inl ⟨rfl, rfl⟩)
      case measure => simp [intOf]
    · have e1 := U_mul (unss x 1) (inv c2)
      go_wp2_with (first
        | (go_at_call 20; refine (inverse_c2 _).mono ?_; rintro e w2 ⟨rfl, rfl⟩)
        | (go_at_call 21; refine (raised_27 _ _).mono ?_; rintro e w2 ⟨rfl, rfl⟩))
      go_round
      case rel => exact .inr (.inr (.inl ⟨rfl, rfl⟩))
      case measure => simp [intOf]
    · have e1 := U_mul (unss x 2) (inv c1)
      go_wp2_with (first
        | (go_at_call 20; refine (inverse_c1 _).mono ?_; rintro e w2 ⟨rfl, rfl⟩)
        | (go_at_call 21; refine (raised_30 _ _).mono ?_; rintro e w2 ⟨rfl, rfl⟩))
      go_round
      case rel => exact .inr (.inr (.inr ⟨rfl, rfl⟩))
      case measure => simp [intOf]
    · go_wp2
      go_ret
      exact ⟨rfl, grownBy_trans g1 (World.grownBy_alloc _ _ none)⟩

theorem ret_int {k : IntKind} {a b : Int} (h : a = b) : Ending.returned (.int k a) = .returned (.int k b) := by rw [h]

theorem prefix_no (h b : Int) (w : World) (hb : b < 1 ∨ 30 < b) :
    Calls Try.prog 13 #[.int .u64 h, .int .i64 b] w fun e w' => e = .returned (.int .i64 0) ∧ w = w' := by
  rcases hb with hb | hb
  · go_enter Try.func13, Try.ntmps13
    go_wp2
    go_ret
    exact ⟨rfl, rfl⟩
  · have h1 : ¬ b < 1 := by omega
    go_enter Try.func13, Try.ntmps13
    go_wp2
    go_ret
    exact ⟨rfl, rfl⟩

/-- The highest bits, as a number. -/
def pre (x : BitVec 64) (b : Int) : Int := if b < 1 ∨ 30 < b then 0 else U x / 2 ^ (64 - b).toNat

theorem pre_bound (x : BitVec 64) (b : Int) (h1 : 1 ≤ b) (h2 : b ≤ 30) : 0 ≤ U x / 2 ^ (64 - b).toNat ∧ U x / 2 ^ (64 - b).toNat < 2 ^ b.toNat := by
  obtain ⟨n, rfl⟩ := Int.eq_ofNat_of_zero_le (show 0 ≤ b by omega)
  have e1 : ((64 : Int) - n).toNat = 64 - n := by omega
  rw [e1, U_shr]
  refine ⟨U_lo _, ?_⟩
  unfold U
  rw [BitVec.toNat_ushiftRight, Nat.shiftRight_eq_div_pow, Int.toNat_natCast]
  have hx := x.isLt
  have : 2 ^ 64 = 2 ^ n * 2 ^ (64 - n) := by rw [← Nat.pow_add]; congr 1; omega
  have h3 : x.toNat / 2 ^ (64 - n) < 2 ^ n := Nat.div_lt_of_lt_mul (by rw [Nat.mul_comm, ← this]; exact hx)
  exact_mod_cast h3

theorem prefix_any (x : BitVec 64) (b : Int) (w : World) :
    Calls Try.prog 13 #[.int .u64 (U x), .int .i64 b] w fun e w' => e = .returned (.int .i64 (pre x b)) ∧ w = w' := by
  by_cases hb : b < 1 ∨ 30 < b
  · have := prefix_no (U x) b w hb
    rw [show pre x b = 0 from if_pos hb]
    exact this
  · have h1 : 1 ≤ b := by omega
    have h2 : b ≤ 30 := by omega
    have hx0 := U_lo x
    have hx1 := U_hi x
    have hp := pre_bound x b h1 h2
    have hpow : (2 : Int) ^ b.toNat ≤ 2 ^ 30 := by exact_mod_cast Nat.pow_le_pow_right (by omega) (by omega)
    have e1 : pre x b = U x / 2 ^ (64 - b).toNat := if_neg hb
    have e2 : wrap64 (U x / 2 ^ (64 - b).toNat) = U x / 2 ^ (64 - b).toNat := IntWalk.wrap64_in _ (by omega)
    rw [e1]
    have E2 := Lib.hid e2
    clear hb e1 e2 hp hpow
    go_enter Try.func13, Try.ntmps13
    go_wp2
    go_ret
    exact ⟨ret_int (by rw [E2.out]), rfl⟩

end Go.Proofs.Ytnlcjelmdfjkcaa
