/- Layer 3: what calls make of a writer: the plain law. -/
import Derived.Test.YtmmkfchijafjeaaWW
import Derived.Test.YtmmkfchijafjeaaStr
import Derived.Test.YtmmkfchijafjeaaWriter2
namespace Go.Proofs.Ytmmkfchijafjeaa
open Go.RowKit

/-- What bytes make of a writer: more behind what was, within the limit; a full one stays as it is. -/
def Longer (xs : List Nat) (lim : Int) (full : Bool) (n : Nat) (p : List Nat × Bool) : Prop := ∃ t, p.1 = xs ++ t ∧ (p.1.length : Int) ≤ lim ∧ t.length ≤ n ∧ (full = true → t = [] ∧ p.2 = true)
theorem putW_longer (xs ys : List Nat) (lim : Int) (full : Bool) (n : Nat) (h : (xs.length : Int) ≤ lim) (hn : ys.length ≤ n) : Longer xs lim full n (putW xs lim full ys) := by
  unfold putW
  split
  · exact ⟨[], by simp, h, by simp, fun _ => ⟨rfl, rfl⟩⟩
  · rename_i h1
    rw [not_or] at h1
    exact ⟨ys, rfl, by simp only [List.length_append]; omega, hn, fun hf => absurd hf h1.1⟩
theorem Longer.stay (xs : List Nat) (lim : Int) (full : Bool) (n : Nat) (h : (xs.length : Int) ≤ lim) : Longer xs lim full n (xs, true) := ⟨[], by simp, h, by simp, fun _ => ⟨rfl, rfl⟩⟩
theorem putNum_longer (xs : List Nat) (lim : Int) (full : Bool) (n : Nat) (k : Int) (h : (xs.length : Int) ≤ lim) : Longer xs lim full 302 (putNum xs lim full n k) := by
  unfold putNum
  split
  · rename_i hm
    refine putW_longer _ _ _ _ _ h ?_
    have := of_decide_eq_true hm
    rw [numB_len]
    omega
  · exact Longer.stay _ _ _ _ h
theorem putText_longer (xs ys : List Nat) (lim : Int) (full : Bool) (h : (xs.length : Int) ≤ lim) (hy : ys.length ≤ 300) : Longer xs lim full 302 (putText xs lim full ys) := by
  unfold putText
  split
  · exact Longer.stay _ _ _ _ h
  · refine putW_longer _ _ _ _ _ h ?_
    rw [List.length_append, numB_len]
    omega

theorem strN_pre (xs t : List Nat) : (strN (xs ++ t)).extract 0 xs.length = strN xs := by
  apply ByteArray.ext
  apply Array.toList_inj.1
  have h1 := strN_list (xs ++ t)
  have h2 := strN_list xs
  rw [ByteArray.toList_eq] at h1 h2
  rw [ByteArray.data_extract, Array.toList_extract, h1, h2]
  simp [List.extract_eq_take_drop]

theorem kind2 (k : Int) (h1 : -9223372036854775808 ≤ k) (h2 : k ≤ 9223372036854775807) : ∃ t : Int, k.tmod 2 = t ∧ -1 ≤ t ∧ t ≤ 1 ∧ IntKind.i64.wrap t = t ∧ wrap64 t = t ∧ ∃ d : Nat, d < 2 ∧ (t + 2) % 2 = (d : Int) := by
  have ht : -1 ≤ k.tmod 2 ∧ k.tmod 2 ≤ 1 := by
    rcases Int.le_total 0 k with h | h
    · rw [Int.tmod_eq_emod_of_nonneg h]; omega
    · have e : k.tmod 2 = -((-k).tmod 2) := by rw [Int.neg_tmod]; omega
      rw [e, Int.tmod_eq_emod_of_nonneg (by omega)]; omega
  refine ⟨_, rfl, ht.1, ht.2, IntWalk.i64_in _ (by omega), IntWalk.wrap64_in _ (by omega), ((k.tmod 2 + 2) % 2).toNat, by omega, by omega⟩

/-- The writer, and what it has. -/
structure LSt (w0 w : World) (Bw : Nat) (v : Value) (xs : List Nat) (lim : Int) (full : Bool) : Prop where
  wr : WR w Bw v xs lim full
  newW : ∀ k, WOwn Bw v k → w0.heap.size ≤ k
  grown : w0.grownBy w none
  few : (xs.length : Int) ≤ lim
theorem LSt.later {w0 w w' : World} {Bw : Nat} {v : Value} {xs : List Nat} {lim : Int} {full : Bool} (h : LSt w0 w Bw v xs lim full) (hg : w.grownBy w' none) : LSt w0 w' Bw v xs lim full :=
  ⟨h.wr.grown hg, h.newW, grownBy_trans h.grown hg, h.few⟩
theorem LSt.step {w0 w w' : World} {Bw : Nat} {v v' : Value} {xs xs' : List Nat} {lim : Int} {full full' : Bool} (h : LSt w0 w Bw v xs lim full) (hw : WR w' Bw v' xs' lim full') (ht : Touch (WOwn Bw v) w w') (hs : ∀ k, WOwn Bw v' k → WOwn Bw v k ∨ w.heap.size ≤ k) (hf : (xs'.length : Int) ≤ lim) : LSt w0 w' Bw v' xs' lim full' :=
  ⟨hw, fun k hk => by
    rcases hs k hk with h1 | h1
    · exact h.newW k h1
    · exact Nat.le_trans h.grown.size h1, ht.grown h.grown h.newW, hf⟩

end Go.Proofs.Ytmmkfchijafjeaa
