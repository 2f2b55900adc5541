/- A guarded operation that is wanted steps as if it had no guard. -/
import Derived.Test.YtnlcjelmdfjkcaaMem
namespace Go.Proofs.Ytnlcjelmdfjkcaa
open Go

theorem wpList_unguard {P : Program} {w : World} {ops : Array Oper} {rest : List Oper} {o : Oper} {a : Act} {Q : Exit → Act → World → Prop} (hw : Region.wanted o (yielded ops a.tmps) = true)
    (h : wpList P ops Q ({ o with guard := none } :: rest) a w) : wpList P ops Q (o :: rest) a w := by
  simp only [wpList] at h ⊢
  rw [if_pos hw]
  rw [if_pos (by simp [Region.wanted])] at h
  exact h

end Go.Proofs.Ytnlcjelmdfjkcaa
