/- Layer 14: which bucket any bytes are the load of: the plain law. -/
import Derived.Test.YtddpjfmogjcimaaRdAt
import Derived.Test.YtddpjfmogjcimaaBkHP
namespace Go.Proofs.Ytddpjfmogjcimaa
open Go.RowKit

/-- The entry at a place of a load. -/
def entAt (xs : List Nat) (j : Nat) : Ent := ⟨BitVec.ofNat 64 (numAt xs (10 + 20 * j) 8), IntKind.i64.wrap (numAt xs (18 + 20 * j) 8 : Nat), (numAt xs (26 + 20 * j) 2 : Nat), (numAt xs (28 + 20 * j) 2 : Nat)⟩
def entsK (xs : List Nat) (k : Nat) : List Ent := (List.range k).map (entAt xs)
theorem entsK_len (xs : List Nat) (k : Nat) : (entsK xs k).length = k := by simp [entsK]
theorem entsK_next (xs : List Nat) (k : Nat) : entsK xs (k + 1) = entsK xs k ++ [entAt xs k] := by simp [entsK, List.range_succ]
theorem entsK_get (xs : List Nat) (n k : Nat) (h : k < n) : (entsK xs n).getD k Ent.zero = entAt xs k := by
  simp [entsK, List.getD, h]
theorem entAt_h (xs : List Nat) (hs : ∀ x ∈ xs, x < 256) (j : Nat) : U (entAt xs j).h = ((numAt xs (10 + 20 * j) 8 : Nat) : Int) := by
  have h := numAt_lt hs (10 + 20 * j) 8
  have e : (256 : Nat) ^ 8 = 2 ^ 64 := by decide
  show ((BitVec.ofNat 64 (numAt xs (10 + 20 * j) 8)).toNat : Int) = _
  rw [BitVec.toNat_ofNat, Nat.mod_eq_of_lt (by omega)]

def dAt (xs : List Nat) : Int := (numAt xs 0 1 : Nat)
def nAt (xs : List Nat) : Nat := numAt xs 1 1
def pAt (xs : List Nat) : Int := IntKind.i64.wrap (numAt xs 2 8 : Nat)
def sizeB (xs : List Nat) : Bool := decide (xs.length = 10 + 20 * nAt xs)
/-- Are bytes the load of a bucket? -/
def readB (xs : List Nat) (slots : Int) : Bool := sizeB xs && rightB (dAt xs) (pAt xs) slots (entsK xs (nAt xs))

theorem wrap_big (n : Nat) (lim : Int) (h : lim < n) (h0 : 0 ≤ lim) (hn : n < 18446744073709551616) : IntKind.i64.wrap (n : Int) < 0 ∨ lim < IntKind.i64.wrap (n : Int) := by
  rw [IntKind.wrap_i64]
  omega
set_option maxRecDepth 100000 in
theorem right_bigP (xs : List Nat) (slots d : Int) (es : List Ent) (hs : ∀ x ∈ xs, x < 256) (h : 255 < numAt xs 2 8) : rightB d (pAt xs) slots es = false := by
  refine rightB_head (fun hc => ?_)
  have h1 := numAt_lt hs 2 8
  have e : (256 : Nat) ^ 8 = 18446744073709551616 := by decide
  have h2 := wrap_big (numAt xs 2 8) 255 (by omega) (by omega) (by rw [e] at h1; exact h1)
  obtain ⟨n, hn⟩ := Int.eq_ofNat_of_zero_le (show 0 ≤ d by omega)
  have h3 : 2 ^ n ≤ 256 := pow8 n (by omega)
  have h4 := hc.2.2.2.2.2.2
  rw [hn, Int.toNat_natCast] at h4
  have h5 : (2 : Int) ^ n ≤ 256 := by exact_mod_cast h3
  unfold pAt at *
  omega
theorem right_bigR (xs : List Nat) (slots d p : Int) (n k : Nat) (hk : k < n) (hs : ∀ x ∈ xs, x < 256) (h : 1099511627776 < numAt xs (18 + 20 * k) 8) : rightB d p slots (entsK xs n) = false := by
  refine rightB_at k (by rw [entsK_len]; exact hk) ?_
  have h1 := numAt_lt hs (18 + 20 * k) 8
  have e : (256 : Nat) ^ 8 = 18446744073709551616 := by decide
  have h2 := wrap_big (numAt xs (18 + 20 * k) 8) 1099511627776 (by omega) (by omega) (by rw [e] at h1; exact h1)
  unfold okI
  rw [entsK_get xs n k hk]
  have : okE d p (entAt xs k) = false := by
    unfold okE
    rw [Bool.and_eq_false_iff]
    exact .inl (decide_eq_false (fun hc => by
      have := hc.1
      have := hc.2.1
      unfold entAt at *
      simp only at *
      omega))
  rw [this]
  rfl

end Go.Proofs.Ytddpjfmogjcimaa
