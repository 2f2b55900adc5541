/- Layer 3: what is written is read as it was: the plain law. -/
import Derived.Test.YtmmkfchijafjeaaWLimP
import Derived.Test.YtmmkfchijafjeaaReader3
import Derived.Test.YtmmkfchijafjeaaWActs
namespace Go.Proofs.Ytmmkfchijafjeaa
open Go.RowKit

def WAct.d (x : WAct) : Nat := ((x.k.tmod 3 + 3) % 3).toNat
/-- The bytes of a call. -/
def WAct.enc (x : WAct) : List Nat := if x.d = 0 then numB x.n x.b.toNat else if x.d = 1 then numB x.B.length 2 ++ x.B else x.B
def WAct.may (x : WAct) : Prop := x.d = 0 → mayB x.b = true
def encL (l : List WAct) : List Nat := l.flatMap WAct.enc

theorem putW_kept {xs ys : List Nat} {lim : Int} {full : Bool} (h : (putW xs lim full ys).2 = false) : full = false ∧ (putW xs lim full ys).1 = xs ++ ys := by
  unfold putW at *
  split at h
  · cases h
  · rename_i h1
    rw [if_neg h1]
    exact ⟨by cases full <;> simp_all, rfl⟩
theorem putNum_kept {xs : List Nat} {lim : Int} {full : Bool} {n : Nat} {k : Int} (h : (putNum xs lim full n k).2 = false) : full = false ∧ mayB k = true ∧ (putNum xs lim full n k).1 = xs ++ numB n k.toNat := by
  unfold putNum at *
  split at h
  · rename_i h1
    rw [if_pos h1]
    obtain ⟨h2, h3⟩ := putW_kept h
    exact ⟨h2, h1, h3⟩
  · cases h
theorem putText_kept {xs ys : List Nat} {lim : Int} {full : Bool} (h : (putText xs lim full ys).2 = false) : full = false ∧ (putText xs lim full ys).1 = xs ++ (numB ys.length 2 ++ ys) := by
  unfold putText at *
  split at h
  · cases h
  · rename_i h1
    rw [if_neg h1]
    exact putW_kept h

theorem takeN_app (xs ys : List Nat) (n : Int) (h : (xs.length : Int) = n) : takeN (xs ++ ys) n = xs ∧ leftN (xs ++ ys) n = ys ∧ badN (xs ++ ys) false n = false := by
  have ho : overB (xs ++ ys) n = false := decide_eq_false (by rw [List.length_append]; omega)
  have hn : n.toNat = xs.length := by omega
  refine ⟨?_, ?_, ?_⟩
  · unfold takeN; rw [ho, if_neg Bool.false_ne_true, hn, List.take_left]
  · unfold leftN; rw [ho, if_neg Bool.false_ne_true, hn, List.drop_left]
  · unfold badN; rw [ho]; rfl

theorem num_read (n : Nat) (k : Int) (rest : List Nat) (hm : mayB k = true) :
    ofB (takeN (numB n k.toNat ++ rest) (askN k)) = n % 256 ^ k.toNat ∧ leftN (numB n k.toNat ++ rest) (askN k) = rest ∧ badN (numB n k.toNat ++ rest) false (askN k) = false := by
  have hk : 1 ≤ k := by have := of_decide_eq_true hm; omega
  have h := takeN_app (numB n k.toNat) rest k (by rw [numB_len]; omega)
  rw [askN_yes hm]
  exact ⟨by rw [h.1, ofB_numB], h.2⟩
theorem text_read (B rest : List Nat) (hB : B.length ≤ 300) :
    takeN (leftN ((numB B.length 2 ++ B) ++ rest) 2) (textL ((numB B.length 2 ++ B) ++ rest)) = B ∧ leftN (leftN ((numB B.length 2 ++ B) ++ rest) 2) (textL ((numB B.length 2 ++ B) ++ rest)) = rest ∧ badN (leftN ((numB B.length 2 ++ B) ++ rest) 2) (badN ((numB B.length 2 ++ B) ++ rest) false 2) (textL ((numB B.length 2 ++ B) ++ rest)) = false := by
  rw [List.append_assoc]
  have h := takeN_app (numB B.length 2) (B ++ rest) 2 (by rw [numB_len]; rfl)
  have ht : textL (numB B.length 2 ++ (B ++ rest)) = (B.length : Int) := by
    unfold textL
    rw [h.1, ofB_numB, Nat.mod_eq_of_lt (by omega)]
  rw [ht, h.2.1, h.2.2]
  exact takeN_app B rest _ rfl

/-- Times 256, m times, in 64 bits. -/
def up8 (n m : Nat) : Nat := n * 256 ^ m % 18446744073709551616
theorem up8_zero {n : Nat} (h : n < 18446744073709551616) : up8 n 0 = n := by unfold up8; rw [Nat.pow_zero, Nat.mul_one, Nat.mod_eq_of_lt h]
theorem up8_lt (n m : Nat) : up8 n m < 18446744073709551616 := Nat.mod_lt _ (by omega)
theorem up8_succ (n m : Nat) : IntKind.u64.wrap ((up8 n m : Nat) * 256 : Int) = ((up8 n (m + 1) : Nat) : Int) := by
  rw [IntKind.wrap_u64]
  unfold up8
  rw [Nat.pow_succ, ← Nat.mul_assoc]
  omega
theorem up8_cut (n k : Nat) (hk : k ≤ 8) : up8 (n % 256 ^ k) (8 - k) = up8 n (8 - k) := by
  unfold up8
  have e : (18446744073709551616 : Nat) = 256 ^ k * 256 ^ (8 - k) := by rw [← Nat.pow_add, show k + (8 - k) = 8 by omega]
  rw [e, Nat.mul_mod_mul_right, Nat.mul_mod_mul_right, Nat.mod_mod]

end Go.Proofs.Ytmmkfchijafjeaa
