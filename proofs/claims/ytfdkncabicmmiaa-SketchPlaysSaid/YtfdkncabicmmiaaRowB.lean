/- A row of bytes of the call's own. -/
import Derived.Test.YtfdkncabicmmiaaWireNum
namespace Go.Proofs.Ytfdkncabicmmiaa
open Go.RowKit

/-- A row of bytes of the call's own. -/
structure RowB (base : Nat) (w0 w : World) (v : Value) (xs : List Nat) : Prop where
  own : w.ownsRow base 5 1 v xs.length (bytesV xs)
  grown : w0.grownBy w none
  new : w0.heap.size ≤ base
  size : base ≤ w.heap.size
theorem RowB.later {base : Nat} {w0 w w' : World} {v : Value} {xs : List Nat} (h : RowB base w0 w v xs) (hg : w.grownBy w' none) : RowB base w0 w' v xs := ⟨owns_grown h.own hg, grownBy_trans h.grown hg, h.new, Nat.le_trans h.size hg.size⟩
theorem RowB.app {base : Nat} {w0 w wn w' : World} {v v' : Value} {xs zs : List Nat} (h : RowB base w0 w v xs) (hg : w.grownBy wn none) (ho : w'.ownsRow base 5 1 v' zs.length (bytesV zs)) (h2 : wn.grownBy w' v.ownBlock) : RowB base w0 w' v' zs :=
  ⟨ho, grownBy_own2 (grownBy_trans h.grown hg) (owns_grown h.own hg) h.new h2, h.new, Nat.le_trans (Nat.le_trans h.size hg.size) h2.size⟩
theorem RowB.keep {base : Nat} {w0 w wn w' : World} {v v' : Value} {xs : List Nat} (h : RowB base w0 w v xs) (hg : w.grownBy wn none) (h2 : wn.grownBy w' v.ownBlock) (h3 : v'.ownBlock = v.ownBlock ∨ v'.ownBlock = some wn.heap.size) {b : Nat} {t : TypeId} {vs : List Value} (hb : Blk w b t vs) (hne : v.ownBlock ≠ some b) : Blk w' b t vs ∧ v'.ownBlock ≠ some b := by
  have h4 := hb.grown hg (by simp)
  refine ⟨h4.grown h2 (Ne.symm hne), fun e => ?_⟩
  rcases h3 with h5 | h5
  · exact hne (h5 ▸ e)
  · rw [h5] at e
    have := h4.lt
    simp at e
    omega
theorem RowB.apart {base : Nat} {w0 w : World} {v : Value} {xs : List Nat} (h : RowB base w0 w v xs) {b : Nat} (hb : w.heap.size ≤ b) : v.ownBlock ≠ some b := fun e => by
  have := (h.own.lt b e).2
  omega

end Go.Proofs.Ytfdkncabicmmiaa
