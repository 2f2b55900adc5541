/- Numbers as rows of bytes, plainly. -/
import Derived.Test.YtbjpjnkaaiajlaaIter
namespace Go.Proofs.Ytbjpjnkaaiajlaa

def byN (n i : Nat) : Nat := n / 256 ^ i % 256
theorem byN_lt (n i : Nat) : byN n i < 256 := Nat.mod_lt _ (by omega)
/-- A number's bytes, the lowest first. -/
def numB (n k : Nat) : List Nat := upto (byN n) k
theorem numB_len (n k : Nat) : (numB n k).length = k := upto_length _ _
theorem numB_succ (n k : Nat) : numB n (k + 1) = numB n k ++ [byN n k] := upto_succ _ _
theorem numB_lt (n k : Nat) : ∀ x ∈ numB n k, x < 256 := by
  intro x hx
  unfold numB upto at hx
  rw [List.mem_map] at hx
  obtain ⟨i, _, rfl⟩ := hx
  exact byN_lt n i
theorem div256 (n k : Nat) : n / 256 ^ k / 256 = n / 256 ^ (k + 1) := by rw [Nat.div_div_eq_div_mul, Nat.pow_succ]
/-- The number of bytes. -/
def ofB : List Nat → Nat
  | [] => 0
  | b :: l => b + 256 * ofB l
theorem ofB_app : ∀ (l : List Nat) (x : Nat), ofB (l ++ [x]) = ofB l + x * 256 ^ l.length
  | [], x => by simp [ofB]
  | b :: l, x => by
    have := ofB_app l x
    simp only [List.cons_append, ofB, List.length_cons, Nat.pow_succ, this]
    rw [Nat.mul_add, ← Nat.mul_assoc x, Nat.mul_comm (x * 256 ^ l.length) 256]
    omega
theorem ofB_numB (n : Nat) : ∀ k, ofB (numB n k) = n % 256 ^ k
  | 0 => by simp [numB, upto, ofB, Nat.mod_one]
  | k + 1 => by
    rw [numB_succ, ofB_app, ofB_numB n k, numB_len, Nat.pow_succ, Nat.mod_mul, byN, Nat.mul_comm]
theorem ofB_lt : ∀ l : List Nat, (∀ x ∈ l, x < 256) → ofB l < 256 ^ l.length
  | [], _ => by simp [ofB]
  | b :: l, h => by
    have h1 := ofB_lt l (fun x hx => h x (by simp [hx]))
    have h2 := h b (by simp)
    simp only [ofB, List.length_cons, Nat.pow_succ]
    omega
theorem byN_ofB : ∀ (l : List Nat) (i : Nat), (∀ x ∈ l, x < 256) → i < l.length → byN (ofB l) i = l.getD i 0
  | [], i, _, h => by simp at h
  | b :: l, 0, h, _ => by
    have h2 := h b (by simp)
    simp only [byN, ofB, Nat.pow_zero, Nat.div_one, List.getD_cons_zero]
    omega
  | b :: l, i + 1, h, hi => by
    have h2 := h b (by simp)
    have ih := byN_ofB l i (fun x hx => h x (by simp [hx])) (by simpa using hi)
    simp only [List.getD_cons_succ]
    rw [← ih]
    have e : ofB (b :: l) = b + 256 * ofB l := rfl
    rw [byN, byN, e, Nat.pow_succ, Nat.mul_comm (256 ^ i), ← Nat.div_div_eq_div_mul, show (b + 256 * ofB l) / 256 = ofB l by omega]
theorem numB_ofB (l : List Nat) (h : ∀ x ∈ l, x < 256) : numB (ofB l) l.length = l := by
  apply List.ext_getElem?
  intro i
  by_cases h2 : i < l.length
  · have := byN_ofB l i h h2
    have e : (numB (ofB l) l.length)[i]? = some (byN (ofB l) i) := by simp [numB, upto, h2]
    rw [e, this]
    simp [List.getD, h2]
  · rw [List.getElem?_eq_none (by rw [numB_len]; omega), List.getElem?_eq_none (by omega)]
theorem ofB_drop (l : List Nat) (i : Nat) (h : i < l.length) : ofB (l.drop i) = l.getD i 0 + 256 * ofB (l.drop (i + 1)) := by
  rw [List.drop_eq_getElem_cons h, ofB]
  simp [List.getD, h]
theorem ofB_take (l : List Nat) (i : Nat) (h : i < l.length) : ofB (l.take (i + 1)) = ofB (l.take i) + l.getD i 0 * 256 ^ i := by
  rw [List.take_succ_eq_append_getElem h, ofB_app, List.length_take, Nat.min_eq_left (by omega)]
  simp [List.getD, h]
/-- May a number have so many bytes? -/
def mayB (k : Int) : Bool := decide (k = 1 ∨ k = 2 ∨ k = 4 ∨ k = 8)
theorem pow256 (k : Nat) (h : k ≤ 8) : 256 ^ k ≤ 18446744073709551616 := by
  rw [show (18446744073709551616 : Nat) = 256 ^ 8 from rfl]
  exact Nat.pow_le_pow_right (by omega) h

end Go.Proofs.Ytbjpjnkaaiajlaa
