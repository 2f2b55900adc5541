/-
  No cell of these rows narrows 'for every input' (looked for: loops, veiled, ifaces, maps, wideKeys, modest, calm, conditions, laid).
  DERIVED. THE GIVEN ROWS OF THIS SEAT. 6 by the template 'for every input the law returns true; each argument reads behind the call as it read before'; 0 by the template 'total and deterministic' (their statements: YtddpjfmogjcimaaTotals.lean).
  GIVEN WITH THE SEED: the statements are not yours to turn. If you find one false, say at which input.
  Laid BY PROGRAM, IN A SANDBOX (cutbox-rows.mjs): the forced cells as the released guide's own fill.sh prints them over the translation 121de12c8722611d… (all of the seat's roots in one cut). By AI agents, Wed Nov 11 2026. No macro, syntax, notation, axiom, sorry.
-/
import Derived.Test.YtddpjfmogjcimaaChecked
import GoSem.Claim
import GoSem.ClaimJoined
import GoSem.ClaimMapViews
import Derived.JoinedTies
import Derived.KernelRfl
namespace Go.Proofs.Ytddpjfmogjcimaa
/- THE CELL 'sum', in the pinned program and in every row, IS THE sha256 OF THE DUMP (.gsa) THAT YtddpjfmogjcimaaProg.lean LOADS. Nothing in Lean hashes anything: it is a label: what it is worth is what the hold of that sum in a sandbox is worth. -/
noncomputable def Try.pinned : Pinned := { name := "ytddpjfmogjcimaa", sum := "121de12c8722611db5c9b99d14403c7f3b23a222e0c62f3d5861a641a9255999", checked := Try.checked }
namespace Rows
def none {H : Type} : Left H := { results := [], args := [] }

/-- 'sgraffitolaw14.BucketFresh': WHATEVER THE INPUT: true; the input reads as it did. -/
def bucketFreshSpec : ChangeSpec := { name := "bucketFresh", fn := fun _ => fun
  | [d1, d2, d3] => { results := [.lit (.bool true)], args := [d1, d2, d3] }
  | _ => none }
def bucketFreshRow : OpenClaim := { program := "ytddpjfmogjcimaa", sum := "121de12c8722611db5c9b99d14403c7f3b23a222e0c62f3d5861a641a9255999", func := "sgraffito/sgraffitolaw14.BucketFresh", spec := "bucketFresh", unfollowed := true, recurses := true, apart := false }
def BucketFreshSaid : Prop := bucketFreshRow.holds Try.pinned (OpenSpec.ofChange bucketFreshSpec)

/-- ITS FALSE NEIGHBOUR: 'it returns false'. Refute it at one input. -/
def bucketFreshWrong : ChangeSpec := { name := "bucketFresh", fn := fun _ => fun
  | [d1, d2, d3] => { results := [.lit (.bool false)], args := [d1, d2, d3] }
  | _ => none }
def BucketFreshWrongFalsely : Prop := bucketFreshRow.holds Try.pinned (OpenSpec.ofChange bucketFreshWrong)

/-- 'sgraffitolaw14.BucketHalves': WHATEVER THE INPUT: true; the input reads as it did. -/
def bucketHalvesSpec : ChangeSpec := { name := "bucketHalves", fn := fun _ => fun
  | [d] => { results := [.lit (.bool true)], args := [d] }
  | _ => none }
def bucketHalvesRow : OpenClaim := { program := "ytddpjfmogjcimaa", sum := "121de12c8722611db5c9b99d14403c7f3b23a222e0c62f3d5861a641a9255999", func := "sgraffito/sgraffitolaw14.BucketHalves", spec := "bucketHalves", unfollowed := true, recurses := true, apart := false }
def BucketHalvesSaid : Prop := bucketHalvesRow.holds Try.pinned (OpenSpec.ofChange bucketHalvesSpec)

/-- ITS FALSE NEIGHBOUR: 'it returns false'. Refute it at one input. -/
def bucketHalvesWrong : ChangeSpec := { name := "bucketHalves", fn := fun _ => fun
  | [d] => { results := [.lit (.bool false)], args := [d] }
  | _ => none }
def BucketHalvesWrongFalsely : Prop := bucketHalvesRow.holds Try.pinned (OpenSpec.ofChange bucketHalvesWrong)

/-- 'sgraffitolaw14.BucketReads': WHATEVER THE INPUT: true; the input reads as it did. -/
def bucketReadsSpec : ChangeSpec := { name := "bucketReads", fn := fun _ => fun
  | [d1, d2] => { results := [.lit (.bool true)], args := [d1, d2] }
  | _ => none }
def bucketReadsRow : OpenClaim := { program := "ytddpjfmogjcimaa", sum := "121de12c8722611db5c9b99d14403c7f3b23a222e0c62f3d5861a641a9255999", func := "sgraffito/sgraffitolaw14.BucketReads", spec := "bucketReads", unfollowed := true, recurses := true, apart := false }
def BucketReadsSaid : Prop := bucketReadsRow.holds Try.pinned (OpenSpec.ofChange bucketReadsSpec)

/-- ITS FALSE NEIGHBOUR: 'it returns false'. Refute it at one input. -/
def bucketReadsWrong : ChangeSpec := { name := "bucketReads", fn := fun _ => fun
  | [d1, d2] => { results := [.lit (.bool false)], args := [d1, d2] }
  | _ => none }
def BucketReadsWrongFalsely : Prop := bucketReadsRow.holds Try.pinned (OpenSpec.ofChange bucketReadsWrong)

/-- 'sgraffitolaw14.BucketPacks': WHATEVER THE INPUT: true; the input reads as it did. -/
def bucketPacksSpec : ChangeSpec := { name := "bucketPacks", fn := fun _ => fun
  | [d1, d2] => { results := [.lit (.bool true)], args := [d1, d2] }
  | _ => none }
def bucketPacksRow : OpenClaim := { program := "ytddpjfmogjcimaa", sum := "121de12c8722611db5c9b99d14403c7f3b23a222e0c62f3d5861a641a9255999", func := "sgraffito/sgraffitolaw14.BucketPacks", spec := "bucketPacks", unfollowed := true, recurses := true, apart := false }
def BucketPacksSaid : Prop := bucketPacksRow.holds Try.pinned (OpenSpec.ofChange bucketPacksSpec)

/-- ITS FALSE NEIGHBOUR: 'it returns false'. Refute it at one input. -/
def bucketPacksWrong : ChangeSpec := { name := "bucketPacks", fn := fun _ => fun
  | [d1, d2] => { results := [.lit (.bool false)], args := [d1, d2] }
  | _ => none }
def BucketPacksWrongFalsely : Prop := bucketPacksRow.holds Try.pinned (OpenSpec.ofChange bucketPacksWrong)

/-- 'sgraffitolaw14.BucketElders': WHATEVER THE INPUT: true; the input reads as it did. -/
def bucketEldersSpec : ChangeSpec := { name := "bucketElders", fn := fun _ => fun
  | [d] => { results := [.lit (.bool true)], args := [d] }
  | _ => none }
def bucketEldersRow : OpenClaim := { program := "ytddpjfmogjcimaa", sum := "121de12c8722611db5c9b99d14403c7f3b23a222e0c62f3d5861a641a9255999", func := "sgraffito/sgraffitolaw14.BucketElders", spec := "bucketElders", unfollowed := true, recurses := true, apart := false }
def BucketEldersSaid : Prop := bucketEldersRow.holds Try.pinned (OpenSpec.ofChange bucketEldersSpec)

/-- ITS FALSE NEIGHBOUR: 'it returns false'. Refute it at one input. -/
def bucketEldersWrong : ChangeSpec := { name := "bucketElders", fn := fun _ => fun
  | [d] => { results := [.lit (.bool false)], args := [d] }
  | _ => none }
def BucketEldersWrongFalsely : Prop := bucketEldersRow.holds Try.pinned (OpenSpec.ofChange bucketEldersWrong)

/-- 'sgraffitolaw14.BucketTurns': WHATEVER THE INPUT: true; the input reads as it did. -/
def bucketTurnsSpec : ChangeSpec := { name := "bucketTurns", fn := fun _ => fun
  | [d1, d2, d3] => { results := [.lit (.bool true)], args := [d1, d2, d3] }
  | _ => none }
def bucketTurnsRow : OpenClaim := { program := "ytddpjfmogjcimaa", sum := "121de12c8722611db5c9b99d14403c7f3b23a222e0c62f3d5861a641a9255999", func := "sgraffito/sgraffitolaw14.BucketTurns", spec := "bucketTurns", inPlace := ["slices.overlaps[sgraffito/bucket.Entry]"], unfollowed := true, recurses := true, apart := false }
def BucketTurnsSaid : Prop := bucketTurnsRow.holds Try.pinned (OpenSpec.ofChange bucketTurnsSpec)

/-- ITS FALSE NEIGHBOUR: 'it returns false'. Refute it at one input. -/
def bucketTurnsWrong : ChangeSpec := { name := "bucketTurns", fn := fun _ => fun
  | [d1, d2, d3] => { results := [.lit (.bool false)], args := [d1, d2, d3] }
  | _ => none }
def BucketTurnsWrongFalsely : Prop := bucketTurnsRow.holds Try.pinned (OpenSpec.ofChange bucketTurnsWrong)

/- THE SECOND FORM. 'bulk': how many values and letters a reading holds, each counted each time it is reached (what is shared counts as often as it is met; a slice's spare places count too). A statement '..UptoSaid' is the law's where the arguments, and the package variables that the reading takes, are together of bulk at most 1048576: NARROWER than '..Said'. Prove '..Said' where nothing that the law and all that it calls make is longer than what came in: it says more and counts as full. Else prove '..UptoSaid'. A law counts once. -/
mutual
def uptoBulk {H : Type} : DataW H → Nat
  | .lit (.string bytes) => bytes.length + 1
  | .lit _ => 1
  | .nil => 1
  | .ptr d => uptoBulk d + 1
  | .slice elems spare => uptoBulkAll elems + uptoBulkAll spare + 1
  | .agg parts => uptoBulkAll parts + 1
  | .iface _ d => uptoBulk d + 1
  | .map entries => uptoBulkEntries entries + 1
  | .held _ => 1
def uptoBulkAll {H : Type} : List (DataW H) → Nat
  | [] => 0
  | d :: r => uptoBulk d + uptoBulkAll r
def uptoBulkEntries {H : Type} : List (Lit × DataW H) → Nat
  | [] => 0
  | x :: r => uptoBulkEntry x + uptoBulkEntries r
def uptoBulkEntry {H : Type} : Lit × DataW H → Nat
  | (.string bytes, d) => bytes.length + uptoBulk d + 1
  | (_, d) => uptoBulk d + 1
 end
def uptoSmall : (H : Type) → List (DataW H) → Bool := fun _ ds => decide (uptoBulkAll ds ≤ 1048576)
def OpenSpec.upto (s : _root_.Go.ChangeSpec) : _root_.Go.OpenSpec := { _root_.Go.OpenSpec.ofChange s with cond := some uptoSmall }

/-- 'sgraffitolaw14.BucketFresh', WHERE WHAT IT READS IS OF BULK AT MOST 1048576: true; the input reads as it did. -/
def bucketFreshUptoRow : OpenClaim := { program := "ytddpjfmogjcimaa", sum := "121de12c8722611db5c9b99d14403c7f3b23a222e0c62f3d5861a641a9255999", func := "sgraffito/sgraffitolaw14.BucketFresh", spec := "bucketFresh", unfollowed := true, recurses := true, apart := false, narrowed := true }
def BucketFreshUptoSaid : Prop := bucketFreshUptoRow.holds Try.pinned (OpenSpec.upto bucketFreshSpec)

/-- 'sgraffitolaw14.BucketHalves', WHERE WHAT IT READS IS OF BULK AT MOST 1048576: true; the input reads as it did. -/
def bucketHalvesUptoRow : OpenClaim := { program := "ytddpjfmogjcimaa", sum := "121de12c8722611db5c9b99d14403c7f3b23a222e0c62f3d5861a641a9255999", func := "sgraffito/sgraffitolaw14.BucketHalves", spec := "bucketHalves", unfollowed := true, recurses := true, apart := false, narrowed := true }
def BucketHalvesUptoSaid : Prop := bucketHalvesUptoRow.holds Try.pinned (OpenSpec.upto bucketHalvesSpec)

/-- 'sgraffitolaw14.BucketReads', WHERE WHAT IT READS IS OF BULK AT MOST 1048576: true; the input reads as it did. -/
def bucketReadsUptoRow : OpenClaim := { program := "ytddpjfmogjcimaa", sum := "121de12c8722611db5c9b99d14403c7f3b23a222e0c62f3d5861a641a9255999", func := "sgraffito/sgraffitolaw14.BucketReads", spec := "bucketReads", unfollowed := true, recurses := true, apart := false, narrowed := true }
def BucketReadsUptoSaid : Prop := bucketReadsUptoRow.holds Try.pinned (OpenSpec.upto bucketReadsSpec)

/-- 'sgraffitolaw14.BucketPacks', WHERE WHAT IT READS IS OF BULK AT MOST 1048576: true; the input reads as it did. -/
def bucketPacksUptoRow : OpenClaim := { program := "ytddpjfmogjcimaa", sum := "121de12c8722611db5c9b99d14403c7f3b23a222e0c62f3d5861a641a9255999", func := "sgraffito/sgraffitolaw14.BucketPacks", spec := "bucketPacks", unfollowed := true, recurses := true, apart := false, narrowed := true }
def BucketPacksUptoSaid : Prop := bucketPacksUptoRow.holds Try.pinned (OpenSpec.upto bucketPacksSpec)

/-- 'sgraffitolaw14.BucketElders', WHERE WHAT IT READS IS OF BULK AT MOST 1048576: true; the input reads as it did. -/
def bucketEldersUptoRow : OpenClaim := { program := "ytddpjfmogjcimaa", sum := "121de12c8722611db5c9b99d14403c7f3b23a222e0c62f3d5861a641a9255999", func := "sgraffito/sgraffitolaw14.BucketElders", spec := "bucketElders", unfollowed := true, recurses := true, apart := false, narrowed := true }
def BucketEldersUptoSaid : Prop := bucketEldersUptoRow.holds Try.pinned (OpenSpec.upto bucketEldersSpec)

/-- 'sgraffitolaw14.BucketTurns', WHERE WHAT IT READS IS OF BULK AT MOST 1048576: true; the input reads as it did. -/
def bucketTurnsUptoRow : OpenClaim := { program := "ytddpjfmogjcimaa", sum := "121de12c8722611db5c9b99d14403c7f3b23a222e0c62f3d5861a641a9255999", func := "sgraffito/sgraffitolaw14.BucketTurns", spec := "bucketTurns", inPlace := ["slices.overlaps[sgraffito/bucket.Entry]"], unfollowed := true, recurses := true, apart := false, narrowed := true }
def BucketTurnsUptoSaid : Prop := bucketTurnsUptoRow.holds Try.pinned (OpenSpec.upto bucketTurnsSpec)

end Rows
end Go.Proofs.Ytddpjfmogjcimaa
