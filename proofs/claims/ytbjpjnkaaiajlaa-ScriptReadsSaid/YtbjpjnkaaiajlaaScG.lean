/- package script: what a region that looks a kind up (forms, the look, a variable for it) knows as it goes, whatever order it draws. -/
import Derived.Test.YtbjpjnkaaiajlaaScN
import Derived.Test.YtbjpjnkaaiajlaaFreeG
import Derived.Test.YtbjpjnkaaiajlaaGrown
namespace Go.Proofs.Ytbjpjnkaaiajlaa
open Go.RowKit

def Form.cells (f : Form) : List Value := [.string f.name, .bool f.key, .bool f.value, .bool f.num, .int .i64 (f.nums : Int), .bool f.just]
structure GF (w0 : World) (f : Form) (al st : Nat) (D : Nat → Bool) (vals : Nat → Value) (W : World) : Prop where
  grown : w0.grownBy W none
  map : D 0 = true → D st = false → ∃ b, vals 0 = .map (some b) ∧ W.heap[b]? = some (formO 10)
  var : D al = true → ∃ b, vals al = .pointer (some ⟨b, 0, none⟩) ∧ w0.heap.size ≤ b ∧ (D st = false → Blk W b 64 noForm.cells) ∧ (D st = true → Blk W b 64 f.cells)
  ord : D st = true → D al = true ∧ D 0 = true ∧ D 3 = true
theorem setD_le {D : Nat → Bool} {k j : Nat} (h : D j = true) : setD D k j = true := by
  unfold setD
  rw [h, Bool.or_true]
theorem setD_ne {D : Nat → Bool} {k j : Nat} (h : j ≠ k) : setD D k j = D j := by
  unfold setD
  rw [beq_eq_false_iff_ne.2 h, Bool.false_or]
theorem setD_eq {D : Nat → Bool} {k : Nat} : setD D k k = true := by simp [setD]
theorem setV_no {vals : Nat → Value} {i j : Nat} {v : Value} (h : j ≠ i) : setV vals i v j = vals j := by unfold setV; rw [if_neg h]
theorem setV_at {vals : Nat → Value} {i : Nat} {v : Value} : setV vals i v i = v := by unfold setV; rw [if_pos rfl]
theorem GF.begin {w0 : World} {f : Form} {al st : Nat} {vals : Nat → Value} : GF w0 f al st (fun _ => false) vals w0.drew :=
  ⟨grownBy_drewN w0 1 none, fun h => (by cases h), fun h => (by cases h), fun h => (by cases h)⟩
theorem GF.keep {w0 W : World} {f : Form} {al st : Nat} {D : Nat → Bool} {vals : Nat → Value} (h : GF w0 f al st D vals W) (k : Nat) (v : Value) (h0 : k ≠ 0) (h1 : k ≠ al) (h2 : k ≠ st) : GF w0 f al st (setD D k) (setV vals k v) W := by
  have e0 : setD D k 0 = D 0 := setD_ne (Ne.symm h0)
  have e1 : setD D k al = D al := setD_ne (Ne.symm h1)
  have e2 : setD D k st = D st := setD_ne (Ne.symm h2)
  have v0 : setV vals k v 0 = vals 0 := setV_no (Ne.symm h0)
  have v1 : setV vals k v al = vals al := setV_no (Ne.symm h1)
  refine ⟨h.grown, ?_, ?_, ?_⟩
  · rw [e0, e2, v0]; exact h.map
  · rw [e1, e2, v1]; exact h.var
  · rw [e0, e1, e2]; exact fun hs => ⟨(h.ord hs).1, (h.ord hs).2.1, setD_le (h.ord hs).2.2⟩
theorem GF.forms {w0 W : World} {f : Form} {al st : Nat} {D : Nat → Bool} {vals : Nat → Value} (h : GF w0 f al st D vals W) (h1 : 0 ≠ al) (h2 : 0 ≠ st) : GF w0 f al st (setD D 0) (setV vals 0 (.map (some W.heap.size))) (W.alloc (formO 10)) := by
  have hg := World.grownBy_alloc W (formO 10) none
  have e1 : setD D 0 al = D al := setD_ne (Ne.symm h1)
  have e2 : setD D 0 st = D st := setD_ne (Ne.symm h2)
  have v1 : setV vals 0 (.map (some W.heap.size)) al = vals al := setV_no (Ne.symm h1)
  refine ⟨grownBy_trans h.grown hg, fun _ _ => ⟨_, setV_at, new_formO W⟩, ?_, ?_⟩
  · rw [e1, e2, v1]
    intro hd
    obtain ⟨b, h3, h4, h5, h6⟩ := h.var hd
    exact ⟨b, h3, h4, fun hs => (h5 hs).grown hg (by simp), fun hs => (h6 hs).grown hg (by simp)⟩
  · rw [e1, e2]
    exact fun hs => ⟨(h.ord hs).1, setD_eq, setD_le (h.ord hs).2.2⟩
theorem GF.fresh {w0 W : World} {f : Form} {al st : Nat} {D : Nat → Bool} {vals : Nat → Value} (h : GF w0 f al st D vals W) (h1 : al ≠ 0) (h2 : st ≠ al) (hD : D al = false) : GF w0 f al st (setD D al) (setV vals al (.pointer (some ⟨W.heap.size, 0, none⟩))) (W.alloc (.cells noForm.cells.toArray 64)) := by
  have hg := World.grownBy_alloc W (.cells noForm.cells.toArray 64) none
  have hs : D st = false := by
    cases hs : D st
    · rfl
    · rw [(h.ord hs).1] at hD; cases hD
  have e0 : setD D al 0 = D 0 := setD_ne (Ne.symm h1)
  have e2 : setD D al st = D st := setD_ne h2
  have v0 : setV vals al (.pointer (some ⟨W.heap.size, 0, none⟩)) 0 = vals 0 := setV_no (Ne.symm h1)
  refine ⟨grownBy_trans h.grown hg, ?_, fun _ => ⟨_, setV_at, h.grown.size, fun _ => Blk.new W _ _, fun hc => ?_⟩, ?_⟩
  · rw [e0, e2, v0]
    intro a b
    obtain ⟨m, h3, h4⟩ := h.map a b
    exact ⟨m, h3, (hg.block m (Array.getElem?_eq_some_iff.1 h4).1 (by simp)).trans h4⟩
  · rw [e2, hs] at hc; cases hc
  · rw [e2, hs]; intro hc; cases hc
/-- The store: the variable holds what was looked up. -/
theorem GF.stored {w0 W W' : World} {f : Form} {al st : Nat} {D : Nat → Bool} {vals : Nat → Value} (h : GF w0 f al st D vals W) (b : Nat) (h0 : D 0 = true) (h3 : D 3 = true) (h1 : D al = true) (h2 : al ≠ st) (hst : 0 ≠ st) (hb : vals al = .pointer (some ⟨b, 0, none⟩)) (hn : w0.heap.size ≤ b) (hW : Blk W' b 64 f.cells) (hg : W.grownBy W' (some b)) : GF w0 f al st (setD D st) (setV vals st undef) W' := by
  refine ⟨grownBy_base2 h.grown hg hn, fun _ hc => ?_, fun _ => ⟨b, ?_, hn, fun hc => ?_, fun _ => hW⟩, fun _ => ⟨?_, ?_, setD_le h3⟩⟩
  · rw [setD_eq] at hc; cases hc
  · rw [setV_no h2]; exact hb
  · rw [setD_eq] at hc; cases hc
  · rw [setD_ne h2]; exact h1
  · rw [setD_ne hst]; exact h0

end Go.Proofs.Ytbjpjnkaaiajlaa
