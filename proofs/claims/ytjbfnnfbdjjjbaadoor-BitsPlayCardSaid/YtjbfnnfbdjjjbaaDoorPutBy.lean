/- A slot's write by the kit's stepper. -/
import Derived.Test.YtjbfnnfbdjjjbaaDoorFreeG
namespace Go.Proofs.YtjbfnnfbdjjjbaaDoor
open Go
/-- The slot's write, as an operation of its own (so that the kit's stepper writes it). -/
def putOp (d : Option Tmp) (v : Value) : Oper := { dst := d, op := .assign (.const v), type := 0, pos := "", after := #[], guard := none }
theorem put_of_wp {P : Program} {ops : Array Oper} {K : Act → Prop} {d : Option Tmp} {v : Value} {a : Act} {w : World} (h : wpList P ops (fun _ a' _ => K a') [putOp d v] a w) : K (a.put d v) := by
  unfold wpList at h
  have hw : Region.wanted (putOp d v) (yielded ops a.tmps) = true := rfl
  rw [if_pos hw] at h
  rcases h with h | ⟨h, _⟩
  · exact h
  · exact absurd h (by
      intro h
      have e : (Sem.runT P (execOp a.eval (putOp d v)) w #[]).2 = #[] := rfl
      have h1 := h.1
      rw [e] at h1
      simp at h1)
end Go.Proofs.YtjbfnnfbdjjjbaaDoor
