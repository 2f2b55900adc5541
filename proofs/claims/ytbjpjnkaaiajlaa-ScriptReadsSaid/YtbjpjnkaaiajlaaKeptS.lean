/- What a round keeps: all blocks below some number but those of a set. -/
import Derived.Test.YtbjpjnkaaiajlaaIter
namespace Go.Proofs.Ytbjpjnkaaiajlaa
open Go.RowKit Go.Shelf

def KeptS (n : Nat) (S : Nat → Prop) (w w' : World) : Prop := w.heap.size ≤ w'.heap.size ∧ ∀ k, k < n → ¬ S k → w'.heap[k]? = w.heap[k]?
theorem KeptS.refl (n : Nat) (S : Nat → Prop) (w : World) : KeptS n S w w := ⟨Nat.le_refl _, fun _ _ _ => rfl⟩
theorem KeptS.trans {n : Nat} {S : Nat → Prop} {A B C : World} (h : KeptS n S A B) (k : KeptS n S B C) : KeptS n S A C := ⟨Nat.le_trans h.1 k.1, fun i hi hx => (k.2 i hi hx).trans (h.2 i hi hx)⟩
theorem KeptS.putObj {n : Nat} {S : Nat → Prop} {w : World} (hn : n ≤ w.heap.size) (W : World) (l : Nat) (o o' : Obj) (hl : w.heap.size ≤ l) (_ : W.heap[l]? = some o) (_ : o.isCells = false) (_ : o.isWalk = false) : KeptS n S W (W.putObj l o') :=
  ⟨by simp, fun k hk _ => World.putObj_heap_other (by omega)⟩
theorem KeptS.cell {n : Nat} {S : Nat → Prop} {w w' : World} (h : KeptS n S w w') {p : Addr} (hp : p.block < n) (hx : ¬ S p.block) : w'.cell? p = w.cell? p := World.cell?_of_block (w := w) (h.2 p.block hp hx)
theorem Blk.keptS {n : Nat} {S : Nat → Prop} {w w' : World} {a : Nat} {e : TypeId} {vs : List Value} (h : Blk w a e vs) (hk : KeptS n S w w') (ha : a < n) (hx : ¬ S a) : Blk w' a e vs := h.same (hk.2 a ha hx)
theorem keptS_of_below {n : Nat} {S : Nat → Prop} {w w' : World} (h : Below n w w') : KeptS n S w w' := ⟨h.size, fun k hk _ => h.block k hk⟩
theorem keptS_grown {n : Nat} {S : Nat → Prop} {w w' : World} (h : w.grownBy w' none) (hn : n ≤ w.heap.size) : KeptS n S w w' := ⟨h.size, fun k hk _ => h.block k (by omega) (by simp)⟩
theorem keptS_set {n : Nat} {S : Nat → Prop} (w : World) {p : Addr} (v : Value) (hp : n ≤ p.block ∨ S p.block) : KeptS n S w (w.setCell p v) := ⟨by simp [World.setCell], fun k hk hs => Below.heap_setCell _ _ _ _ (by
  intro e
  subst e
  rcases hp with h | h
  · omega
  · exact hs h)⟩

end Go.Proofs.Ytbjpjnkaaiajlaa
