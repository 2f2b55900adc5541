/- mix.Scramble. -/
import Derived.Test.YtnlcjelmdfjkcaaProg
import Derived.WalkKit
import Derived.WalkSpells
import Derived.WalkLawsBesides
import Derived.Lib.Hide
import Derived.Test.YtnlcjelmdfjkcaaMem
import Derived.Test.YtnlcjelmdfjkcaaBv
namespace Go.Proofs.Ytnlcjelmdfjkcaa
open Go.RowKit

theorem steps_any (w : World) :
    Calls Try.prog 19 #[] w fun e w' => e = .returned (.agg #[.int .u64 30, .int .u64 13787848793156543929, .int .u64 27, .int .u64 10723151780598845931, .int .u64 31, .int .u64 1]) ∧ w.grownBy w' none := by
  go_enter Try.func19, Try.ntmps19
  go_wp2
  exact bodyPost_ret (v := .agg #[.int .u64 30, .int .u64 13787848793156543929, .int .u64 27, .int .u64 10723151780598845931, .int .u64 31, .int .u64 1]) (by simp [results, Try.results19, go_sem]) rfl ⟨rfl, World.grownBy_alloc w _ none⟩

/-- A scramble, step by step. -/
def scrs (x : BitVec 64) : Nat → BitVec 64
  | 0 => x
  | 1 => fwd 30 x * c1
  | 2 => fwd 27 (fwd 30 x * c1) * c2
  | _ => scr x

theorem fwd_eq (d : Nat) (x : BitVec 64) : bits BinOp.xor IntKind.u64 (U x) (U x / 2 ^ d) = U (fwd d x) := by rw [U_shr, U_xor]; rfl

theorem sstep1 (x : BitVec 64) : IntKind.u64.wrap (bits BinOp.xor IntKind.u64 (U x) (U x / 1073741824) * 13787848793156543929) = U (fwd 30 x * c1) := by
  rw [show (1073741824 : Int) = 2 ^ 30 from rfl, fwd_eq 30 x, show (13787848793156543929 : Int) = U c1 from rfl, U_mul]
theorem sstep2 (x : BitVec 64) : IntKind.u64.wrap (bits BinOp.xor IntKind.u64 (U x) (U x / 134217728) * 10723151780598845931) = U (fwd 27 x * c2) := by
  rw [show (134217728 : Int) = 2 ^ 27 from rfl, fwd_eq 27 x, show (10723151780598845931 : Int) = U c2 from rfl, U_mul]
theorem sstep3 (x : BitVec 64) : IntKind.u64.wrap (bits BinOp.xor IntKind.u64 (U x) (U x / 2147483648)) = U (fwd 31 x * 1#64) := by
  rw [show (2147483648 : Int) = 2 ^ 31 from rfl, fwd_eq 31 x, BitVec.mul_one]
  exact IntWalk.u64_in _ ⟨U_lo _, U_hi _⟩

theorem scramble_any (x : BitVec 64) (w : World) :
    Calls Try.prog 12 #[.int .u64 (U x)] w fun e w' => e = .returned (.int .u64 (U (scr x))) ∧ w.grownBy w' none := by
  have i0 : ∀ W, (Instr.index 40 (.agg #[.int .u64 30, .int .u64 13787848793156543929, .int .u64 27, .int .u64 10723151780598845931, .int .u64 31, .int .u64 1]) (.int .i64 0)).run Try.prog W = .ok (.agg #[.int .u64 30, .int .u64 13787848793156543929]) W := fun _ => by kernel_rfl
  have i1 : ∀ W, (Instr.index 40 (.agg #[.int .u64 30, .int .u64 13787848793156543929, .int .u64 27, .int .u64 10723151780598845931, .int .u64 31, .int .u64 1]) (.int .i64 1)).run Try.prog W = .ok (.agg #[.int .u64 27, .int .u64 10723151780598845931]) W := fun _ => by kernel_rfl
  have i2 : ∀ W, (Instr.index 40 (.agg #[.int .u64 30, .int .u64 13787848793156543929, .int .u64 27, .int .u64 10723151780598845931, .int .u64 31, .int .u64 1]) (.int .i64 2)).run Try.prog W = .ok (.agg #[.int .u64 31, .int .u64 1]) W := fun _ => by kernel_rfl
  go_enter Try.func12, Try.ntmps12
  go_wp2_with (go_at_call 19; refine (steps_any _).mono ?_; rintro e w1 ⟨rfl, g1⟩)
  go_loopw [0, 6] (fun o i wr => ∃ k : Nat, k ≤ 3 ∧ i = .int .i64 k ∧ o = .int .u64 (U (scrs x k)) ∧ w.grownBy wr none) (fun _ i _ => 3 - (intOf i).toNat)
  case atStart => exact ⟨0, by omega, rfl, rfl, g1⟩
  case round =>
    obtain ⟨k, hk, rfl, rfl, hg⟩ := hrel
    have HG := Lib.hid hg
    have h0 := U_lo (scrs x k)
    have h1 := U_hi (scrs x k)
    clear hg g1
    rcases (show k = 0 ∨ k = 1 ∨ k = 2 ∨ k = 3 by omega) with rfl | rfl | rfl | rfl
    · clear i1 i2
      go_wp2
      go_roundw
      case rel => exact ⟨1, by omega, rfl, by rw [sstep1]; rfl, grownBy_trans HG.out (World.grownBy_alloc _ _ none)⟩
      case measure => simp [intOf]
    · clear i0 i2
      go_wp2
      go_roundw
      case rel => exact ⟨2, by omega, rfl, by rw [sstep2]; rfl, grownBy_trans HG.out (World.grownBy_alloc _ _ none)⟩
      case measure => simp [intOf]
    · clear i0 i1
      go_wp2
      go_roundw
      case rel => exact ⟨3, by omega, rfl, by rw [sstep3]; rfl, grownBy_trans HG.out (World.grownBy_alloc _ _ none)⟩
      case measure => simp [intOf]
    · clear i0 i1 i2
      go_wp2
      go_ret
      exact ⟨rfl, HG.out⟩

end Go.Proofs.Ytnlcjelmdfjkcaa
