/- Rows filtered; rows that lie apart. -/
import Derived.Test.YtddpjfmogjcimaaEnt
namespace Go.Proofs.Ytddpjfmogjcimaa
open Go.RowKit

theorem filt_next_yes (so : Ent → Bool) (xs : List Ent) (k : Nat) (h : k < xs.length) (hy : so (xs.getD k Ent.zero) = true) : (xs.take (k + 1)).filter so = (xs.take k).filter so ++ [xs.getD k Ent.zero] := by
  rw [ent_take xs k h, List.filter_append]
  simp only [List.filter_cons, List.filter_nil]
  rw [if_pos hy]
theorem filt_next_no (so : Ent → Bool) (xs : List Ent) (k : Nat) (h : k < xs.length) (hy : so (xs.getD k Ent.zero) = false) : (xs.take (k + 1)).filter so = (xs.take k).filter so := by
  rw [ent_take xs k h, List.filter_append]
  simp only [List.filter_cons, List.filter_nil]
  rw [if_neg (by rw [hy]; exact Bool.false_ne_true)]
  simp
theorem filt_take_len (so : Ent → Bool) (xs : List Ent) (k : Nat) : ((xs.take k).filter so).length ≤ k := Nat.le_trans (List.length_filter_le _ _) (by simp; omega)

/-- Two rows of the call's own lie apart. -/
def RowsApart (v u : Value) : Prop := ∀ b, v.ownBlock = some b → u.ownBlock ≠ some b
theorem RowsApart.symm {v u : Value} (h : RowsApart v u) : RowsApart u v := fun b hu hv => h b hv hu
theorem RowsApart.nil (u : Value) : RowsApart (.slice none 0 0) u := fun b h => by simp [Value.ownBlock] at h
theorem RowsApart.kept {w w' : World} {base : Nat} {e : TypeId} {sz n : Nat} {v u : Value} {xs : List Value} (ha : RowsApart v u) (h : w.ownsRow base e sz u n xs) (hg : w.grownBy w' v.ownBlock) : w'.ownsRow base e sz u n xs := by
  refine h.kept hg ?_
  cases hv : v.ownBlock with
  | none =>
    cases hu : u.ownBlock with
    | none => exact .inl rfl
    | some b => exact .inr (by simp)
  | some b => exact .inr (ha b hv)
/-- Behind an append to v (or to a new block). -/
theorem RowsApart.next {w : World} {base : Nat} {e : TypeId} {sz n m cap g H : Nat} {v u : Value} {xs : List Value} (ha : RowsApart v u) (h : w.ownsRow base e sz u n xs) (hat : v.ownBlock = some g ∨ g = H) (hH : w.heap.size ≤ H) : RowsApart (.slice (some ⟨g, 0, none⟩) m cap) u := by
  intro b hb hu
  simp [Value.ownBlock] at hb
  subst hb
  rcases hat with h1 | h1
  · exact ha _ h1 hu
  · have := (h.lt _ hu).2
    omega

end Go.Proofs.Ytddpjfmogjcimaa
