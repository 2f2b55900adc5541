/- Loops over iterators that collect: what a round keeps. -/
import Derived.RangeFuncNested
import Derived.RangeFuncBound
import Derived.RangeFuncCalls
import Derived.RangeFuncLeaves
import Derived.RangeFuncBox
import Derived.Shelf.Abstract
import Derived.Shelf.RegionOpen
import Derived.WalkKit
import Derived.OwnWalkIn
import Derived.TacticsInMore
import Derived.LoopNIn
import Derived.LoopIn
import Derived.Maps.AppendAt
import Derived.Test.YtddpjfmogjcimaaMem
namespace Go.Proofs.Ytddpjfmogjcimaa
open Go.RowKit Go.Shelf

/-- Blocks below n lie as they lay, but for block x. -/
def KeptX (n x : Nat) (w w' : World) : Prop := ∀ k, k < n → k ≠ x → w'.heap[k]? = w.heap[k]?
theorem KeptX.refl (n x : Nat) (w : World) : KeptX n x w w := fun _ _ _ => rfl
theorem KeptX.trans {n x : Nat} {A B C : World} (h : KeptX n x A B) (k : KeptX n x B C) : KeptX n x A C := fun i hi hx => (k i hi hx).trans (h i hi hx)
theorem KeptX.putObj {n x : Nat} {w : World} (hn : n ≤ w.heap.size) (W : World) (l : Nat) (o o' : Obj) (hl : w.heap.size ≤ l) (_ : W.heap[l]? = some o) (_ : o.isCells = false) (_ : o.isWalk = false) : KeptX n x W (W.putObj l o') :=
  fun k hk _ => World.putObj_heap_other (by omega)
theorem KeptX.cell {n x : Nat} {w w' : World} (h : KeptX n x w w') {p : Addr} (hp : p.block < n) (hx : p.block ≠ x) : w'.cell? p = w.cell? p := World.cell?_of_block (w := w) (h p.block hp hx)
theorem Blk.keptX {n x : Nat} {w w' : World} {a : Nat} {e : TypeId} {vs : List Value} (h : Blk w a e vs) (hk : KeptX n x w w') (ha : a < n) (hx : a ≠ x) : Blk w' a e vs := h.same (hk a ha hx)
theorem Rds.keptX {n x : Nat} {w w' : World} {sz m : Nat} {v : Value} {xs : List Value} (h : Rds w sz v m xs) (hk : KeptX n x w w') (hv : xs ≠ [] → ∀ b, v.ownBlock = some b → b < n ∧ b ≠ x) : Rds w' sz v m xs :=
  h.same fun hne b hb _ => hk b (hv hne b hb).1 (hv hne b hb).2
theorem keptX_of_below {n x : Nat} {w w' : World} (h : Below n w w') : KeptX n x w w' := fun k hk _ => h.block k hk

/-- What has come when k rounds are over. -/
def upto {α : Type} (f : Nat → α) (k : Nat) : List α := (List.range k).map f
theorem upto_succ {α : Type} (f : Nat → α) (k : Nat) : upto f (k + 1) = upto f k ++ [f k] := by simp [upto, List.range_succ]
theorem upto_length {α : Type} (f : Nat → α) (k : Nat) : (upto f k).length = k := by simp [upto]

theorem set_upto_g {α : Type} (f : Nat → α) (cs : List α) (k : Nat) (hk : k < cs.length) : (upto f k ++ cs.drop k).set k (f k) = upto f (k + 1) ++ cs.drop (k + 1) := by
  rw [upto_succ, List.set_append, upto_length, if_neg (Nat.lt_irrefl _), Nat.sub_self, List.drop_eq_getElem_cons hk, List.set_cons_zero]
  simp
theorem upto_keep_g {α : Type} (f : Nat → α) (cs : List α) (k : Nat) (hk : k < cs.length) (h : cs[k]? = some (f k)) : upto f k ++ cs.drop k = upto f (k + 1) ++ cs.drop (k + 1) := by
  rw [upto_succ, List.drop_eq_getElem_cons hk]
  have : cs[k] = f k := by rw [List.getElem?_eq_getElem hk] at h; exact Option.some.inj h
  rw [this]
  simp

/-- 'out = append(out, ..)' behind the append law, where the rows lie from n on and the box B below. -/
theorem appendedX {W w1 : World} {n B : Nat} {t e : TypeId} {size : Nat} {v v' : Value} {k m : Nat} {xs ys : List Value} {tmp : Obj}
    (hv : Boxed W B t v) (hte : t ≠ e) (hrow : W.ownsRow n e size v k xs) (hn : n ≤ W.heap.size)
    (hown' : w1.ownsRow n e size v' m ys) (hgrow : (W.alloc tmp).grownBy w1 v.ownBlock) :
    Boxed w1 B t v ∧ Boxed (w1.setCell ⟨B, 0, none⟩ v') B t v' ∧ (w1.setCell ⟨B, 0, none⟩ v').ownsRow n e size v' m ys ∧ KeepsOthers W (w1.setCell ⟨B, 0, none⟩ v') ∧ KeptX n B W (w1.setCell ⟨B, 0, none⟩ v') ∧ (∀ m, m ≤ B → m ≤ n → Below m W (w1.setCell ⟨B, 0, none⟩ v')) := by
  have hv1 : Boxed w1 B t v := (hv.alloc tmp).kept hgrow (hv.not_row hte hrow)
  refine ⟨hv1, hv1.set v', hown'.kept (grownBy_setCell' w1 B v') (.inr (hv1.not_row hte hown').symm), ?_, ?_, ?_⟩
  · refine ((KeepsOthers.alloc W tmp).trans (KeepsOthers.of_grownBy hgrow fun j o ej hj => ?_)).trans (KeepsOthers.setCell _ _ _)
    rcases (hrow.alloc tmp).2 with ⟨rfl, _⟩ | ⟨g, cap, cur, rfl, _, hgb, _⟩
    · simp [Value.ownBlock] at ej
    · obtain rfl : g = j := by simpa [Value.ownBlock] using ej
      rw [hgb] at hj; cases hj; rfl
  · intro j hj hx
    rw [Below.heap_setCell _ _ _ _ hx, hgrow.block j (by simp; omega) ?_, Below.heap_alloc _ _ _ (by omega)]
    rcases hrow.2 with ⟨rfl, _⟩ | ⟨g, cap, cur, rfl, hb, _, _⟩
    · simp [Value.ownBlock]
    · simp [Value.ownBlock]; omega
  · intro m hmB hmn
    refine (((Below.refl m W).alloc (Nat.le_trans hmn hn) tmp).grown hgrow (by simp; omega) fun j ej => ?_).setCell (p := ⟨B, 0, none⟩) hmB v'
    rcases hrow.2 with ⟨rfl, _⟩ | ⟨g, cap, cur, rfl, hb, _, _⟩
    · simp [Value.ownBlock] at ej
    · obtain rfl : g = j := by simpa [Value.ownBlock] using ej
      omega

end Go.Proofs.Ytddpjfmogjcimaa
