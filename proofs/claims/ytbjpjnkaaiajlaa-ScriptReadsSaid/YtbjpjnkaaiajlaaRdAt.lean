/- A reader of some bytes, at a place: what it reads there (0 behind the end). -/
import Derived.Test.YtbjpjnkaaiajlaaReaderN
namespace Go.Proofs.Ytbjpjnkaaiajlaa
open Go.RowKit

def segB (xs : List Nat) (o k : Nat) : List Nat := (xs.drop o).take k
/-- The number of k bytes at a place; 0: there are not so many. -/
def numAt (xs : List Nat) (o k : Nat) : Nat := if o + k ≤ xs.length then ofB (segB xs o k) else 0
def pastB (xs : List Nat) (o : Nat) : Bool := decide (xs.length < o)
theorem numAt_in {xs : List Nat} {o k : Nat} (h : o + k ≤ xs.length) : numAt xs o k = ofB (segB xs o k) := if_pos h
theorem segB_len {xs : List Nat} {o k : Nat} (h : o + k ≤ xs.length) : (segB xs o k).length = k := by
  unfold segB
  rw [List.length_take, List.length_drop]
  omega
theorem segB_small {xs : List Nat} (hs : ∀ x ∈ xs, x < 256) (o k : Nat) : ∀ x ∈ segB xs o k, x < 256 := fun x h => hs x (List.mem_of_mem_drop (List.mem_of_mem_take h))
theorem numAt_lt {xs : List Nat} (hs : ∀ x ∈ xs, x < 256) (o k : Nat) : numAt xs o k < 256 ^ k := by
  unfold numAt
  split
  · rename_i h
    have := ofB_lt _ (segB_small hs o k)
    rwa [segB_len h] at this
  · exact Nat.pow_pos (by omega)
theorem numAt_one {xs : List Nat} {o : Nat} (h : o < xs.length) : numAt xs o 1 = xs.getD o 0 := by
  rw [numAt_in (by omega)]
  unfold segB
  rw [List.take_one, List.head?_drop, List.getD_eq_getElem?_getD, List.getElem?_eq_getElem h]
  simp [ofB]
theorem over_at (xs : List Nat) (o k : Nat) (hk : 1 ≤ k) : overB (xs.drop o) (k : Int) = decide (xs.length < o + k) := by
  unfold overB
  rw [decide_eq_decide, List.length_drop]
  omega
theorem take_at (xs : List Nat) (o k : Nat) (hk : 1 ≤ k) : ofB (takeN (xs.drop o) (k : Int)) = numAt xs o k := by
  unfold takeN numAt
  rw [over_at xs o k hk]
  by_cases h : o + k ≤ xs.length
  · rw [if_pos h, if_neg (by simp; omega), Int.toNat_natCast]
    rfl
  · rw [if_neg h, if_pos (by simp; omega)]
    rfl
theorem left_at (xs : List Nat) (o k : Nat) (hk : 1 ≤ k) : leftN (xs.drop o) (k : Int) = xs.drop (o + k) := by
  unfold leftN
  rw [over_at xs o k hk]
  by_cases h : o + k ≤ xs.length
  · rw [if_neg (by simp; omega), Int.toNat_natCast, List.drop_drop]
  · rw [if_pos (by simp; omega), List.drop_eq_nil_of_le (by omega)]
theorem bad_at (xs : List Nat) (o k : Nat) (hk : 1 ≤ k) : badN (xs.drop o) (pastB xs o) (k : Int) = pastB xs (o + k) := by
  unfold badN pastB
  rw [over_at xs o k hk, Bool.eq_iff_iff]
  simp
  omega

/-- A reader of the call's own at a place. -/
structure PR (w0 w : World) (B : Nat) (v : Value) (xs : List Nat) (o : Nat) : Prop where
  rr : RR w B v (xs.drop o) (pastB xs o)
  newB : w0.heap.size ≤ B
  newV : ∀ b, v.ownBlock = some b → w0.heap.size ≤ b
  grown : w0.grownBy w none
theorem PR.later {w0 w w' : World} {B : Nat} {v : Value} {xs : List Nat} {o : Nat} (h : PR w0 w B v xs o) (hg : w.grownBy w' none) : PR w0 w' B v xs o := ⟨h.rr.grown hg, h.newB, h.newV, grownBy_trans h.grown hg⟩
theorem PR.touch {S : Nat → Prop} {w0 w w' : World} {B : Nat} {v : Value} {xs : List Nat} {o : Nat} (h : PR w0 w B v xs o) (ht : Touch S w w') (hs : ∀ k, k = B ∨ v.ownBlock = some k → ¬ S k) (hg : w0.grownBy w' none) : PR w0 w' B v xs o := ⟨h.rr.touch ht hs, h.newB, h.newV, hg⟩
theorem RR.touch' {S : Nat → Prop} {w w' : World} {B : Nat} {v : Value} {xs : List Nat} {bad : Bool} (h : RR w B v xs bad) (ht : Touch S w w') (hB : ¬ S B) (hs : xs ≠ [] → ∀ k, v.ownBlock = some k → ¬ S k) : RR w' B v xs bad :=
  ⟨ht.blk h.blk hB, h.rds.same (fun hne b hb hlt => ht.block b hlt (hs (fun e => hne (by rw [e]; rfl)) b hb)), h.apart, h.cap, h.few, h.spot, h.small⟩
theorem PR.touch' {S : Nat → Prop} {w0 w w' : World} {B : Nat} {v : Value} {xs : List Nat} {o : Nat} (h : PR w0 w B v xs o) (ht : Touch S w w') (hB : ¬ S B) (hs : xs.drop o ≠ [] → ∀ k, v.ownBlock = some k → ¬ S k) (hg : w0.grownBy w' none) : PR w0 w' B v xs o := ⟨h.rr.touch' ht hB hs, h.newB, h.newV, hg⟩
theorem drop_more {xs : List Nat} {o k : Nat} (h : xs.drop (o + k) ≠ []) : xs.drop o ≠ [] := by
  intro e
  apply h
  rw [← List.drop_drop, e, List.drop_nil]
theorem PR.num {w0 w : World} {B : Nat} {v : Value} {xs : List Nat} {o : Nat} (h : PR w0 w B v xs o) (k : Nat) (hk : mayB k = true) :
    Calls Try.prog 30 #[.pointer (some ⟨B, 0, none⟩), .int .i64 k] w fun e w' => ∃ v', e = .returned (.int .u64 ((numAt xs o k : Nat) : Int)) ∧ PR w0 w' B v' xs (o + k) ∧ (∀ b, v'.ownBlock = some b → v.ownBlock = some b) ∧ w.grownBy w' (some B) := by
  have hk1 : 1 ≤ k := by have := of_decide_eq_true hk; omega
  refine (rnum_any B v (xs.drop o) (pastB xs o) k w h.rr).mono ?_
  rintro e w' ⟨v', rfl, hr, hv, hg⟩
  rw [askN_yes hk] at *
  rw [left_at xs o k hk1, bad_at xs o k hk1] at hr
  rw [take_at xs o k hk1]
  exact ⟨v', rfl, ⟨hr, h.newB, fun b hb => h.newV b (hv b hb), grownBy_base2 h.grown hg h.newB⟩, hv, hg⟩

end Go.Proofs.Ytbjpjnkaaiajlaa
