/- mix.Prefix. -/
import Derived.Test.YtddpjfmogjcimaaProg
import Derived.WalkKit
import Derived.WalkSpells
import Derived.WalkLawsBesides
import Derived.Lib.Hide
import Derived.Test.YtddpjfmogjcimaaMem
import Derived.Test.YtddpjfmogjcimaaBv
namespace Go.Proofs.Ytddpjfmogjcimaa
open Go.RowKit

theorem ret_int {k : IntKind} {a b : Int} (h : a = b) : Ending.returned (.int k a) = .returned (.int k b) := by rw [h]

theorem prefix_no (h b : Int) (w : World) (hb : b < 1 ∨ 30 < b) :
    Calls Try.prog 36 #[.int .u64 h, .int .i64 b] w fun e w' => e = .returned (.int .i64 0) ∧ w = w' := by
  rcases hb with hb | hb
  · go_enter Try.func36, Try.ntmps36
    go_wp2
    go_ret
    exact ⟨rfl, rfl⟩
  · have h1 : ¬ b < 1 := by omega
    go_enter Try.func36, Try.ntmps36
    go_wp2
    go_ret
    exact ⟨rfl, rfl⟩

/-- The highest bits, as a number. -/
def pre (x : BitVec 64) (b : Int) : Int := if b < 1 ∨ 30 < b then 0 else U x / 2 ^ (64 - b).toNat

theorem pre_bound (x : BitVec 64) (b : Int) (h1 : 1 ≤ b) (h2 : b ≤ 30) : 0 ≤ U x / 2 ^ (64 - b).toNat ∧ U x / 2 ^ (64 - b).toNat < 2 ^ b.toNat := by
  obtain ⟨n, rfl⟩ := Int.eq_ofNat_of_zero_le (show 0 ≤ b by omega)
  have e1 : ((64 : Int) - n).toNat = 64 - n := by omega
  rw [e1, U_shr]
  refine ⟨U_lo _, ?_⟩
  unfold U
  rw [BitVec.toNat_ushiftRight, Nat.shiftRight_eq_div_pow, Int.toNat_natCast]
  have hx := x.isLt
  have : 2 ^ 64 = 2 ^ n * 2 ^ (64 - n) := by rw [← Nat.pow_add]; congr 1; omega
  have h3 : x.toNat / 2 ^ (64 - n) < 2 ^ n := Nat.div_lt_of_lt_mul (by rw [Nat.mul_comm, ← this]; exact hx)
  exact_mod_cast h3

theorem prefix_any (x : BitVec 64) (b : Int) (w : World) :
    Calls Try.prog 36 #[.int .u64 (U x), .int .i64 b] w fun e w' => e = .returned (.int .i64 (pre x b)) ∧ w = w' := by
  by_cases hb : b < 1 ∨ 30 < b
  · have := prefix_no (U x) b w hb
    rw [show pre x b = 0 from if_pos hb]
    exact this
  · have h1 : 1 ≤ b := by omega
    have h2 : b ≤ 30 := by omega
    have hx0 := U_lo x
    have hx1 := U_hi x
    have hp := pre_bound x b h1 h2
    have hpow : (2 : Int) ^ b.toNat ≤ 2 ^ 30 := by exact_mod_cast Nat.pow_le_pow_right (by omega) (by omega)
    have e1 : pre x b = U x / 2 ^ (64 - b).toNat := if_neg hb
    have e2 : wrap64 (U x / 2 ^ (64 - b).toNat) = U x / 2 ^ (64 - b).toNat := IntWalk.wrap64_in _ (by omega)
    rw [e1]
    have E2 := Lib.hid e2
    clear hb e1 e2 hp hpow
    go_enter Try.func36, Try.ntmps36
    go_wp2
    go_ret
    exact ⟨ret_int (by rw [E2.out]), rfl⟩

end Go.Proofs.Ytddpjfmogjcimaa
