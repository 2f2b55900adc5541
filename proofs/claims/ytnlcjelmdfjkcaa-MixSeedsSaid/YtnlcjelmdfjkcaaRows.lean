/-
  No cell of these rows narrows 'for every input' (looked for: loops, veiled, ifaces, maps, wideKeys, modest, calm, conditions, laid).
  DERIVED. THE GIVEN ROWS OF THIS SEAT. 5 by the template 'for every input the law returns true; each argument reads behind the call as it read before'; 0 by the template 'total and deterministic' (their statements: YtnlcjelmdfjkcaaTotals.lean).
  GIVEN WITH THE SEED: the statements are not yours to turn. If you find one false, say at which input.
  Laid BY PROGRAM, IN A SANDBOX (cutbox-rows.mjs): the forced cells as the released guide's own fill.sh prints them over the translation dee799c34dc9e7b5… (all of the seat's roots in one cut). By AI agents, Wed Nov 11 2026. No macro, syntax, notation, axiom, sorry.
-/
import Derived.Test.YtnlcjelmdfjkcaaChecked
import GoSem.Claim
import GoSem.ClaimJoined
import GoSem.ClaimMapViews
import Derived.JoinedTies
import Derived.KernelRfl
namespace Go.Proofs.Ytnlcjelmdfjkcaa
/- THE CELL 'sum', in the pinned program and in every row, IS THE sha256 OF THE DUMP (.gsa) THAT YtnlcjelmdfjkcaaProg.lean LOADS. Nothing in Lean hashes anything: it is a label: what it is worth is what the hold of that sum in a sandbox is worth. -/
noncomputable def Try.pinned : Pinned := { name := "ytnlcjelmdfjkcaa", sum := "dee799c34dc9e7b55895c28e908685a1f3ba49b9e4d1475ffbdfc49afb85ac21", checked := Try.checked }
namespace Rows
def none {H : Type} : Left H := { results := [], args := [] }

/-- 'sgraffitolaw02.MixSlots': WHATEVER THE INPUT: true; the input reads as it did. -/
def mixSlotsSpec : ChangeSpec := { name := "mixSlots", fn := fun _ => fun
  | [d1, d2, d3] => { results := [.lit (.bool true)], args := [d1, d2, d3] }
  | _ => none }
def mixSlotsRow : OpenClaim := { program := "ytnlcjelmdfjkcaa", sum := "dee799c34dc9e7b55895c28e908685a1f3ba49b9e4d1475ffbdfc49afb85ac21", func := "sgraffito/sgraffitolaw02.MixSlots", spec := "mixSlots", unfollowed := true, recurses := true, apart := false }
def MixSlotsSaid : Prop := mixSlotsRow.holds Try.pinned (OpenSpec.ofChange mixSlotsSpec)

/-- ITS FALSE NEIGHBOUR: 'it returns false'. Refute it at one input. -/
def mixSlotsWrong : ChangeSpec := { name := "mixSlots", fn := fun _ => fun
  | [d1, d2, d3] => { results := [.lit (.bool false)], args := [d1, d2, d3] }
  | _ => none }
def MixSlotsWrongFalsely : Prop := mixSlotsRow.holds Try.pinned (OpenSpec.ofChange mixSlotsWrong)

/-- 'sgraffitolaw02.MixBack': WHATEVER THE INPUT: true; the input reads as it did. -/
def mixBackSpec : ChangeSpec := { name := "mixBack", fn := fun _ => fun
  | [d1, d2] => { results := [.lit (.bool true)], args := [d1, d2] }
  | _ => none }
def mixBackRow : OpenClaim := { program := "ytnlcjelmdfjkcaa", sum := "dee799c34dc9e7b55895c28e908685a1f3ba49b9e4d1475ffbdfc49afb85ac21", func := "sgraffito/sgraffitolaw02.MixBack", spec := "mixBack", unfollowed := true, recurses := true, apart := false }
def MixBackSaid : Prop := mixBackRow.holds Try.pinned (OpenSpec.ofChange mixBackSpec)

/-- ITS FALSE NEIGHBOUR: 'it returns false'. Refute it at one input. -/
def mixBackWrong : ChangeSpec := { name := "mixBack", fn := fun _ => fun
  | [d1, d2] => { results := [.lit (.bool false)], args := [d1, d2] }
  | _ => none }
def MixBackWrongFalsely : Prop := mixBackRow.holds Try.pinned (OpenSpec.ofChange mixBackWrong)

/-- 'sgraffitolaw02.MixHalves': WHATEVER THE INPUT: true; the input reads as it did. -/
def mixHalvesSpec : ChangeSpec := { name := "mixHalves", fn := fun _ => fun
  | [d1, d2, d3] => { results := [.lit (.bool true)], args := [d1, d2, d3] }
  | _ => none }
def mixHalvesRow : OpenClaim := { program := "ytnlcjelmdfjkcaa", sum := "dee799c34dc9e7b55895c28e908685a1f3ba49b9e4d1475ffbdfc49afb85ac21", func := "sgraffito/sgraffitolaw02.MixHalves", spec := "mixHalves", unfollowed := true, recurses := true, apart := false }
def MixHalvesSaid : Prop := mixHalvesRow.holds Try.pinned (OpenSpec.ofChange mixHalvesSpec)

/-- ITS FALSE NEIGHBOUR: 'it returns false'. Refute it at one input. -/
def mixHalvesWrong : ChangeSpec := { name := "mixHalves", fn := fun _ => fun
  | [d1, d2, d3] => { results := [.lit (.bool false)], args := [d1, d2, d3] }
  | _ => none }
def MixHalvesWrongFalsely : Prop := mixHalvesRow.holds Try.pinned (OpenSpec.ofChange mixHalvesWrong)

/-- 'sgraffitolaw02.MixHashes': WHATEVER THE INPUT: true; the input reads as it did. -/
def mixHashesSpec : ChangeSpec := { name := "mixHashes", fn := fun _ => fun
  | [d1, d2, d3] => { results := [.lit (.bool true)], args := [d1, d2, d3] }
  | _ => none }
def mixHashesRow : OpenClaim := { program := "ytnlcjelmdfjkcaa", sum := "dee799c34dc9e7b55895c28e908685a1f3ba49b9e4d1475ffbdfc49afb85ac21", func := "sgraffito/sgraffitolaw02.MixHashes", spec := "mixHashes", unfollowed := true, recurses := true, apart := false }
def MixHashesSaid : Prop := mixHashesRow.holds Try.pinned (OpenSpec.ofChange mixHashesSpec)

/-- ITS FALSE NEIGHBOUR: 'it returns false'. Refute it at one input. -/
def mixHashesWrong : ChangeSpec := { name := "mixHashes", fn := fun _ => fun
  | [d1, d2, d3] => { results := [.lit (.bool false)], args := [d1, d2, d3] }
  | _ => none }
def MixHashesWrongFalsely : Prop := mixHashesRow.holds Try.pinned (OpenSpec.ofChange mixHashesWrong)

/-- 'sgraffitolaw02.MixSeeds': WHATEVER THE INPUT: true; the input reads as it did. -/
def mixSeedsSpec : ChangeSpec := { name := "mixSeeds", fn := fun _ => fun
  | [d1, d2, d3] => { results := [.lit (.bool true)], args := [d1, d2, d3] }
  | _ => none }
def mixSeedsRow : OpenClaim := { program := "ytnlcjelmdfjkcaa", sum := "dee799c34dc9e7b55895c28e908685a1f3ba49b9e4d1475ffbdfc49afb85ac21", func := "sgraffito/sgraffitolaw02.MixSeeds", spec := "mixSeeds", unfollowed := true, recurses := true, apart := false }
def MixSeedsSaid : Prop := mixSeedsRow.holds Try.pinned (OpenSpec.ofChange mixSeedsSpec)

/-- ITS FALSE NEIGHBOUR: 'it returns false'. Refute it at one input. -/
def mixSeedsWrong : ChangeSpec := { name := "mixSeeds", fn := fun _ => fun
  | [d1, d2, d3] => { results := [.lit (.bool false)], args := [d1, d2, d3] }
  | _ => none }
def MixSeedsWrongFalsely : Prop := mixSeedsRow.holds Try.pinned (OpenSpec.ofChange mixSeedsWrong)

/- THE SECOND FORM. 'bulk': how many values and letters a reading holds, each counted each time it is reached (what is shared counts as often as it is met; a slice's spare places count too). A statement '..UptoSaid' is the law's where the arguments, and the package variables that the reading takes, are together of bulk at most 1048576: NARROWER than '..Said'. Prove '..Said' where nothing that the law and all that it calls make is longer than what came in: it says more and counts as full. Else prove '..UptoSaid'. A law counts once. -/
mutual
def uptoBulk {H : Type} : DataW H → Nat
  | .lit (.string bytes) => bytes.length + 1
  | .lit _ => 1
  | .nil => 1
  | .ptr d => uptoBulk d + 1
  | .slice elems spare => uptoBulkAll elems + uptoBulkAll spare + 1
  | .agg parts => uptoBulkAll parts + 1
  | .iface _ d => uptoBulk d + 1
  | .map entries => uptoBulkEntries entries + 1
  | .held _ => 1
def uptoBulkAll {H : Type} : List (DataW H) → Nat
  | [] => 0
  | d :: r => uptoBulk d + uptoBulkAll r
def uptoBulkEntries {H : Type} : List (Lit × DataW H) → Nat
  | [] => 0
  | x :: r => uptoBulkEntry x + uptoBulkEntries r
def uptoBulkEntry {H : Type} : Lit × DataW H → Nat
  | (.string bytes, d) => bytes.length + uptoBulk d + 1
  | (_, d) => uptoBulk d + 1
 end
def uptoSmall : (H : Type) → List (DataW H) → Bool := fun _ ds => decide (uptoBulkAll ds ≤ 1048576)
def OpenSpec.upto (s : _root_.Go.ChangeSpec) : _root_.Go.OpenSpec := { _root_.Go.OpenSpec.ofChange s with cond := some uptoSmall }

/-- 'sgraffitolaw02.MixSlots', WHERE WHAT IT READS IS OF BULK AT MOST 1048576: true; the input reads as it did. -/
def mixSlotsUptoRow : OpenClaim := { program := "ytnlcjelmdfjkcaa", sum := "dee799c34dc9e7b55895c28e908685a1f3ba49b9e4d1475ffbdfc49afb85ac21", func := "sgraffito/sgraffitolaw02.MixSlots", spec := "mixSlots", unfollowed := true, recurses := true, apart := false, narrowed := true }
def MixSlotsUptoSaid : Prop := mixSlotsUptoRow.holds Try.pinned (OpenSpec.upto mixSlotsSpec)

/-- 'sgraffitolaw02.MixBack', WHERE WHAT IT READS IS OF BULK AT MOST 1048576: true; the input reads as it did. -/
def mixBackUptoRow : OpenClaim := { program := "ytnlcjelmdfjkcaa", sum := "dee799c34dc9e7b55895c28e908685a1f3ba49b9e4d1475ffbdfc49afb85ac21", func := "sgraffito/sgraffitolaw02.MixBack", spec := "mixBack", unfollowed := true, recurses := true, apart := false, narrowed := true }
def MixBackUptoSaid : Prop := mixBackUptoRow.holds Try.pinned (OpenSpec.upto mixBackSpec)

/-- 'sgraffitolaw02.MixHalves', WHERE WHAT IT READS IS OF BULK AT MOST 1048576: true; the input reads as it did. -/
def mixHalvesUptoRow : OpenClaim := { program := "ytnlcjelmdfjkcaa", sum := "dee799c34dc9e7b55895c28e908685a1f3ba49b9e4d1475ffbdfc49afb85ac21", func := "sgraffito/sgraffitolaw02.MixHalves", spec := "mixHalves", unfollowed := true, recurses := true, apart := false, narrowed := true }
def MixHalvesUptoSaid : Prop := mixHalvesUptoRow.holds Try.pinned (OpenSpec.upto mixHalvesSpec)

/-- 'sgraffitolaw02.MixHashes', WHERE WHAT IT READS IS OF BULK AT MOST 1048576: true; the input reads as it did. -/
def mixHashesUptoRow : OpenClaim := { program := "ytnlcjelmdfjkcaa", sum := "dee799c34dc9e7b55895c28e908685a1f3ba49b9e4d1475ffbdfc49afb85ac21", func := "sgraffito/sgraffitolaw02.MixHashes", spec := "mixHashes", unfollowed := true, recurses := true, apart := false, narrowed := true }
def MixHashesUptoSaid : Prop := mixHashesUptoRow.holds Try.pinned (OpenSpec.upto mixHashesSpec)

/-- 'sgraffitolaw02.MixSeeds', WHERE WHAT IT READS IS OF BULK AT MOST 1048576: true; the input reads as it did. -/
def mixSeedsUptoRow : OpenClaim := { program := "ytnlcjelmdfjkcaa", sum := "dee799c34dc9e7b55895c28e908685a1f3ba49b9e4d1475ffbdfc49afb85ac21", func := "sgraffito/sgraffitolaw02.MixSeeds", spec := "mixSeeds", unfollowed := true, recurses := true, apart := false, narrowed := true }
def MixSeedsUptoSaid : Prop := mixSeedsUptoRow.holds Try.pinned (OpenSpec.upto mixSeedsSpec)

end Rows
end Go.Proofs.Ytnlcjelmdfjkcaa
