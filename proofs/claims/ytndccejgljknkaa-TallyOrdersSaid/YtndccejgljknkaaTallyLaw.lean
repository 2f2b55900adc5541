/- The plain law of layer 16: counts, added up. -/
import Derived.Test.YtndccejgljknkaaTally2
namespace Go.Proofs.Ytndccejgljknkaa

/-- What is counted of kind j. -/
def total (j : Nat) (l : List (Nat × Int)) : Int := (l.map fun p => if p.1 = j then p.2 else 0).sum
def cnt (l : List (Nat × Int)) : List Int := (List.range 8).map fun j => total j l

theorem total_snoc (j : Nat) (l : List (Nat × Int)) (p : Nat × Int) : total j (l ++ [p]) = total j l + if p.1 = j then p.2 else 0 := by simp [total]
theorem total_append (j : Nat) (l m : List (Nat × Int)) : total j (l ++ m) = total j l + total j m := by simp [total]
theorem total_reverse (j : Nat) (l : List (Nat × Int)) : total j l.reverse = total j l := by
  induction l with
  | nil => rfl
  | cons p l ih =>
    rw [List.reverse_cons, total_snoc, ih]
    simp only [total, List.map_cons, List.sum_cons]
    omega
theorem total_bound (j : Nat) (B : Int) (hB : 0 ≤ B) (l : List (Nat × Int)) (h : ∀ p ∈ l, 0 ≤ p.2 ∧ p.2 ≤ B) : 0 ≤ total j l ∧ total j l ≤ l.length * B := by
  induction l with
  | nil => simp [total]
  | cons p l ih =>
    have h1 := ih fun q hq => h q (by simp [hq])
    have h2 := h p (by simp)
    have e : total j (p :: l) = (if p.1 = j then p.2 else 0) + total j l := by simp [total]
    rw [e]
    have e2 : ((p :: l).length : Int) * B = l.length * B + B := by
      rw [List.length_cons, Int.natCast_add, Int.add_mul]
      simp
    rw [e2]
    split <;> omega

theorem cnt_length (l : List (Nat × Int)) : (cnt l).length = 8 := by simp [cnt]
theorem cnt_nil : cnt [] = List.replicate 8 0 := by decide
theorem cnt_getD (l : List (Nat × Int)) (k : Nat) (hk : k < 8) : (cnt l).getD k 0 = total k l := by simp [cnt, List.getD, hk]
theorem cnt_reverse (l : List (Nat × Int)) : cnt l.reverse = cnt l := by simp [cnt, total_reverse]

theorem cnt_add (l : List (Nat × Int)) (p : Nat × Int) (hp : p.1 < 8) (h : total p.1 l + p.2 ≤ 1152921504606846976) :
    (cnt l).set p.1 (capN ((cnt l).getD p.1 0) p.2) = cnt (l ++ [p]) := by
  rw [cnt_getD l _ hp]
  have hc : capN (total p.1 l) p.2 = total p.1 l + p.2 := if_pos h
  rw [hc]
  apply List.ext_getElem
  · simp [cnt]
  · intro i h1 h2
    rw [List.getElem_set]
    simp only [cnt, List.getElem_map, List.getElem_range]
    rw [total_snoc]
    split <;> simp_all

theorem cnt_since (l : List (Nat × Int)) (k : Nat) (h : ∀ p ∈ l, 0 ≤ p.2) : upto (sinceF (cnt l) (cnt (l.take k))) 8 = cnt (l.drop k) := by
  unfold upto
  show _ = (List.range 8).map fun j => total j (l.drop k)
  apply List.map_congr_left
  intro j hj
  have hj8 : j < 8 := by simpa using hj
  unfold sinceF
  rw [cnt_getD _ _ hj8, cnt_getD _ _ hj8]
  have h1 : total j l = total j (l.take k) + total j (l.drop k) := by rw [← total_append, List.take_append_drop]
  have nonneg : ∀ m : List (Nat × Int), (∀ p ∈ m, 0 ≤ p.2) → 0 ≤ total j m := by
    intro m hm
    induction m with
    | nil => simp [total]
    | cons p m ih =>
      have e : total j (p :: m) = (if p.1 = j then p.2 else 0) + total j m := by simp [total]
      have := ih fun q hq => hm q (by simp [hq])
      have := hm p (by simp)
      rw [e]
      split <;> omega
  have h2 := nonneg (l.take k) fun p hp => h p (List.mem_of_mem_take hp)
  have h3 := nonneg (l.drop k) fun p hp => h p (List.mem_of_mem_drop hp)
  unfold over
  omega

/-- What a pair of numbers counts: its kind, its amount. -/
def dec (p : Int × Int) : Nat × Int := ((p.1 % 18446744073709551616 % 8).toNat, p.2 % 18446744073709551616 % 1125899906842624)
theorem dec_kind (p : Int × Int) : (dec p).1 < 8 := by unfold dec; simp only []; omega
theorem dec_amount (p : Int × Int) : 0 ≤ (dec p).2 ∧ (dec p).2 ≤ 1125899906842623 := by unfold dec; simp only []; omega

theorem take_step {α : Type} (l : List α) (k : Nat) (d : α) (hk : k < l.length) : l.take (k + 1) = l.take k ++ [l.getD k d] := by
  rw [List.take_succ_eq_append_getElem hk]
  simp [List.getD, hk]
theorem drop_step {α : Type} (l : List α) (k i : Nat) (d : α) (hk : i < l.length) (h : k ≤ i) : (l.take (i + 1)).drop k = (l.take i).drop k ++ [l.getD i d] := by
  rw [take_step l i d hk, List.drop_append_of_le_length]
  simp
  omega
theorem drop_none {α : Type} (l : List α) (k i : Nat) (h : i ≤ k) : (l.take i).drop k = [] := by
  apply List.drop_eq_nil_of_le
  simp
  omega
theorem getD_reverse {α : Type} (l : List α) (k : Nat) (d : α) (hk : k < l.length) : l.reverse.getD k d = l.getD (l.length - 1 - k) d := by
  have : l.length - 1 - k < l.length := by omega
  simp [List.getD, hk, this]
theorem getD_map_dec (ps : List (Int × Int)) (k : Nat) (hk : k < ps.length) : (ps.map dec).getD k (0, 0) = dec (ps.getD k (0, 0)) := by simp [List.getD, hk]

end Go.Proofs.Ytndccejgljknkaa
