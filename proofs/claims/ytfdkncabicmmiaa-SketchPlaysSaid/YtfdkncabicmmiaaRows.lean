/-
  No cell of these rows narrows 'for every input' (looked for: loops, veiled, ifaces, maps, wideKeys, modest, calm, conditions, laid).
  DERIVED. THE GIVEN ROWS OF THIS SEAT. 5 by the template 'for every input the law returns true; each argument reads behind the call as it read before'; 0 by the template 'total and deterministic' (their statements: YtfdkncabicmmiaaTotals.lean).
  GIVEN WITH THE SEED: the statements are not yours to turn. If you find one false, say at which input.
  Laid BY PROGRAM, IN A SANDBOX (cutbox-rows.mjs): the forced cells as the released guide's own fill.sh prints them over the translation 35287b66b668c306… (all of the seat's roots in one cut). By AI agents, Wed Nov 11 2026. No macro, syntax, notation, axiom, sorry.
-/
import Derived.Test.YtfdkncabicmmiaaChecked
import GoSem.Claim
import GoSem.ClaimJoined
import GoSem.ClaimMapViews
import Derived.JoinedTies
import Derived.KernelRfl
namespace Go.Proofs.Ytfdkncabicmmiaa
/- THE CELL 'sum', in the pinned program and in every row, IS THE sha256 OF THE DUMP (.gsa) THAT YtfdkncabicmmiaaProg.lean LOADS. Nothing in Lean hashes anything: it is a label: what it is worth is what the hold of that sum in a sandbox is worth. -/
noncomputable def Try.pinned : Pinned := { name := "ytfdkncabicmmiaa", sum := "35287b66b668c3066bcad1f3ced2cafc08625cd3eff907e11d39cfa220a8f3ba", checked := Try.checked }
namespace Rows
def none {H : Type} : Left H := { results := [], args := [] }

/-- 'sgraffitolaw23.SketchLeast': WHATEVER THE INPUT: true; the input reads as it did. -/
def sketchLeastSpec : ChangeSpec := { name := "sketchLeast", fn := fun _ => fun
  | [d1, d2] => { results := [.lit (.bool true)], args := [d1, d2] }
  | _ => none }
def sketchLeastRow : OpenClaim := { program := "ytfdkncabicmmiaa", sum := "35287b66b668c3066bcad1f3ced2cafc08625cd3eff907e11d39cfa220a8f3ba", func := "sgraffito/sgraffitolaw23.SketchLeast", spec := "sketchLeast", unfollowed := true, recurses := true, apart := false }
def SketchLeastSaid : Prop := sketchLeastRow.holds Try.pinned (OpenSpec.ofChange sketchLeastSpec)

/-- ITS FALSE NEIGHBOUR: 'it returns false'. Refute it at one input. -/
def sketchLeastWrong : ChangeSpec := { name := "sketchLeast", fn := fun _ => fun
  | [d1, d2] => { results := [.lit (.bool false)], args := [d1, d2] }
  | _ => none }
def SketchLeastWrongFalsely : Prop := sketchLeastRow.holds Try.pinned (OpenSpec.ofChange sketchLeastWrong)

/-- 'sgraffitolaw23.SketchAges': WHATEVER THE INPUT: true; the input reads as it did. -/
def sketchAgesSpec : ChangeSpec := { name := "sketchAges", fn := fun _ => fun
  | [d1, d2] => { results := [.lit (.bool true)], args := [d1, d2] }
  | _ => none }
def sketchAgesRow : OpenClaim := { program := "ytfdkncabicmmiaa", sum := "35287b66b668c3066bcad1f3ced2cafc08625cd3eff907e11d39cfa220a8f3ba", func := "sgraffito/sgraffitolaw23.SketchAges", spec := "sketchAges", unfollowed := true, recurses := true, apart := false }
def SketchAgesSaid : Prop := sketchAgesRow.holds Try.pinned (OpenSpec.ofChange sketchAgesSpec)

/-- ITS FALSE NEIGHBOUR: 'it returns false'. Refute it at one input. -/
def sketchAgesWrong : ChangeSpec := { name := "sketchAges", fn := fun _ => fun
  | [d1, d2] => { results := [.lit (.bool false)], args := [d1, d2] }
  | _ => none }
def SketchAgesWrongFalsely : Prop := sketchAgesRow.holds Try.pinned (OpenSpec.ofChange sketchAgesWrong)

/-- 'sgraffitolaw23.SketchNil': WHATEVER THE INPUT: true; the input reads as it did. -/
def sketchNilSpec : ChangeSpec := { name := "sketchNil", fn := fun _ => fun
  | [d] => { results := [.lit (.bool true)], args := [d] }
  | _ => none }
def sketchNilRow : OpenClaim := { program := "ytfdkncabicmmiaa", sum := "35287b66b668c3066bcad1f3ced2cafc08625cd3eff907e11d39cfa220a8f3ba", func := "sgraffito/sgraffitolaw23.SketchNil", spec := "sketchNil", unfollowed := true, recurses := true, apart := false }
def SketchNilSaid : Prop := sketchNilRow.holds Try.pinned (OpenSpec.ofChange sketchNilSpec)

/-- ITS FALSE NEIGHBOUR: 'it returns false'. Refute it at one input. -/
def sketchNilWrong : ChangeSpec := { name := "sketchNil", fn := fun _ => fun
  | [d] => { results := [.lit (.bool false)], args := [d] }
  | _ => none }
def SketchNilWrongFalsely : Prop := sketchNilRow.holds Try.pinned (OpenSpec.ofChange sketchNilWrong)

/-- 'sgraffitolaw23.SketchReads': WHATEVER THE INPUT: true; the input reads as it did. -/
def sketchReadsSpec : ChangeSpec := { name := "sketchReads", fn := fun _ => fun
  | [d] => { results := [.lit (.bool true)], args := [d] }
  | _ => none }
def sketchReadsRow : OpenClaim := { program := "ytfdkncabicmmiaa", sum := "35287b66b668c3066bcad1f3ced2cafc08625cd3eff907e11d39cfa220a8f3ba", func := "sgraffito/sgraffitolaw23.SketchReads", spec := "sketchReads", unfollowed := true, recurses := true, apart := false }
def SketchReadsSaid : Prop := sketchReadsRow.holds Try.pinned (OpenSpec.ofChange sketchReadsSpec)

/-- ITS FALSE NEIGHBOUR: 'it returns false'. Refute it at one input. -/
def sketchReadsWrong : ChangeSpec := { name := "sketchReads", fn := fun _ => fun
  | [d] => { results := [.lit (.bool false)], args := [d] }
  | _ => none }
def SketchReadsWrongFalsely : Prop := sketchReadsRow.holds Try.pinned (OpenSpec.ofChange sketchReadsWrong)

/-- 'sgraffitolaw23.SketchPlays': WHATEVER THE INPUT: true; the input reads as it did. -/
def sketchPlaysSpec : ChangeSpec := { name := "sketchPlays", fn := fun _ => fun
  | [d1, d2] => { results := [.lit (.bool true)], args := [d1, d2] }
  | _ => none }
def sketchPlaysRow : OpenClaim := { program := "ytfdkncabicmmiaa", sum := "35287b66b668c3066bcad1f3ced2cafc08625cd3eff907e11d39cfa220a8f3ba", func := "sgraffito/sgraffitolaw23.SketchPlays", spec := "sketchPlays", unfollowed := true, recurses := true, apart := false }
def SketchPlaysSaid : Prop := sketchPlaysRow.holds Try.pinned (OpenSpec.ofChange sketchPlaysSpec)

/-- ITS FALSE NEIGHBOUR: 'it returns false'. Refute it at one input. -/
def sketchPlaysWrong : ChangeSpec := { name := "sketchPlays", fn := fun _ => fun
  | [d1, d2] => { results := [.lit (.bool false)], args := [d1, d2] }
  | _ => none }
def SketchPlaysWrongFalsely : Prop := sketchPlaysRow.holds Try.pinned (OpenSpec.ofChange sketchPlaysWrong)

/- THE SECOND FORM. 'bulk': how many values and letters a reading holds, each counted each time it is reached (what is shared counts as often as it is met; a slice's spare places count too). A statement '..UptoSaid' is the law's where the arguments, and the package variables that the reading takes, are together of bulk at most 1048576: NARROWER than '..Said'. Prove '..Said' where nothing that the law and all that it calls make is longer than what came in: it says more and counts as full. Else prove '..UptoSaid'. A law counts once. -/
mutual
def uptoBulk {H : Type} : DataW H → Nat
  | .lit (.string bytes) => bytes.length + 1
  | .lit _ => 1
  | .nil => 1
  | .ptr d => uptoBulk d + 1
  | .slice elems spare => uptoBulkAll elems + uptoBulkAll spare + 1
  | .agg parts => uptoBulkAll parts + 1
  | .iface _ d => uptoBulk d + 1
  | .map entries => uptoBulkEntries entries + 1
  | .held _ => 1
def uptoBulkAll {H : Type} : List (DataW H) → Nat
  | [] => 0
  | d :: r => uptoBulk d + uptoBulkAll r
def uptoBulkEntries {H : Type} : List (Lit × DataW H) → Nat
  | [] => 0
  | x :: r => uptoBulkEntry x + uptoBulkEntries r
def uptoBulkEntry {H : Type} : Lit × DataW H → Nat
  | (.string bytes, d) => bytes.length + uptoBulk d + 1
  | (_, d) => uptoBulk d + 1
 end
def uptoSmall : (H : Type) → List (DataW H) → Bool := fun _ ds => decide (uptoBulkAll ds ≤ 1048576)
def OpenSpec.upto (s : _root_.Go.ChangeSpec) : _root_.Go.OpenSpec := { _root_.Go.OpenSpec.ofChange s with cond := some uptoSmall }

/-- 'sgraffitolaw23.SketchLeast', WHERE WHAT IT READS IS OF BULK AT MOST 1048576: true; the input reads as it did. -/
def sketchLeastUptoRow : OpenClaim := { program := "ytfdkncabicmmiaa", sum := "35287b66b668c3066bcad1f3ced2cafc08625cd3eff907e11d39cfa220a8f3ba", func := "sgraffito/sgraffitolaw23.SketchLeast", spec := "sketchLeast", unfollowed := true, recurses := true, apart := false, narrowed := true }
def SketchLeastUptoSaid : Prop := sketchLeastUptoRow.holds Try.pinned (OpenSpec.upto sketchLeastSpec)

/-- 'sgraffitolaw23.SketchAges', WHERE WHAT IT READS IS OF BULK AT MOST 1048576: true; the input reads as it did. -/
def sketchAgesUptoRow : OpenClaim := { program := "ytfdkncabicmmiaa", sum := "35287b66b668c3066bcad1f3ced2cafc08625cd3eff907e11d39cfa220a8f3ba", func := "sgraffito/sgraffitolaw23.SketchAges", spec := "sketchAges", unfollowed := true, recurses := true, apart := false, narrowed := true }
def SketchAgesUptoSaid : Prop := sketchAgesUptoRow.holds Try.pinned (OpenSpec.upto sketchAgesSpec)

/-- 'sgraffitolaw23.SketchNil', WHERE WHAT IT READS IS OF BULK AT MOST 1048576: true; the input reads as it did. -/
def sketchNilUptoRow : OpenClaim := { program := "ytfdkncabicmmiaa", sum := "35287b66b668c3066bcad1f3ced2cafc08625cd3eff907e11d39cfa220a8f3ba", func := "sgraffito/sgraffitolaw23.SketchNil", spec := "sketchNil", unfollowed := true, recurses := true, apart := false, narrowed := true }
def SketchNilUptoSaid : Prop := sketchNilUptoRow.holds Try.pinned (OpenSpec.upto sketchNilSpec)

/-- 'sgraffitolaw23.SketchReads', WHERE WHAT IT READS IS OF BULK AT MOST 1048576: true; the input reads as it did. -/
def sketchReadsUptoRow : OpenClaim := { program := "ytfdkncabicmmiaa", sum := "35287b66b668c3066bcad1f3ced2cafc08625cd3eff907e11d39cfa220a8f3ba", func := "sgraffito/sgraffitolaw23.SketchReads", spec := "sketchReads", unfollowed := true, recurses := true, apart := false, narrowed := true }
def SketchReadsUptoSaid : Prop := sketchReadsUptoRow.holds Try.pinned (OpenSpec.upto sketchReadsSpec)

/-- 'sgraffitolaw23.SketchPlays', WHERE WHAT IT READS IS OF BULK AT MOST 1048576: true; the input reads as it did. -/
def sketchPlaysUptoRow : OpenClaim := { program := "ytfdkncabicmmiaa", sum := "35287b66b668c3066bcad1f3ced2cafc08625cd3eff907e11d39cfa220a8f3ba", func := "sgraffito/sgraffitolaw23.SketchPlays", spec := "sketchPlays", unfollowed := true, recurses := true, apart := false, narrowed := true }
def SketchPlaysUptoSaid : Prop := sketchPlaysUptoRow.holds Try.pinned (OpenSpec.upto sketchPlaysSpec)

end Rows
end Go.Proofs.Ytfdkncabicmmiaa
