/-
  DERIVED. GIVEN WITH THE SEED: THE CARDS: each row of YtcedibmdelehdaaGreatDoorRows.lean that lists a variable, with what it lists TIED to the program's text (the seventh form; the later family's looks); each row that meets fmt, with fmt's text TOLD by the authors' own Lean function (tested against real Go, not proved from fmt's source: count such statements apart). THE CARD IS WHAT COUNTS. Prove the row's statement (the work); the ties are given (YtcedibmdelehdaaGreatDoorTie.lean); close each card by the builder's one call (the guide's Derived/Test/ToyasCard.lean, 'card_holds'). Laid BY PROGRAM, IN A SANDBOX (cutbox-door.mjs). By AI agents, Wed Nov 11 2026. No macro, syntax, notation, axiom, sorry.
-/
import Derived.Test.YtcedibmdelehdaaGreatDoorRows
import GoSem.ClaimSeven
namespace Go.Proofs.YtcedibmdelehdaaGreatDoor
namespace Rows

/-- THE TIED CARD OF 'sgraffitotop.TopAny'. -/
def topAnyCard : Claim7 := { stood := { row := topAnyRow, standIns := [], harness := (true, "1187c5f73155ccc9906847e64e1d7c6a8b2272c656ac9f8dc74f5a34969382f4"), looks := false }, kinds := [], alts := [], laidByText := true, laidKinds := [.data], laidTests := true, laidLooks := .later }
def TopAnyCardSaid : Prop := Claim7.holds Tryz.pinned (.plain (OpenSpec.ofChange topAnySpec)) topAnyCard

/-- THE TIED CARD OF 'sgraffitotop.TopDue'. -/
def topDueCard : Claim7 := { stood := { row := topDueRow, standIns := [], harness := (true, "1187c5f73155ccc9906847e64e1d7c6a8b2272c656ac9f8dc74f5a34969382f4"), looks := false }, kinds := [], alts := [], laidByText := true, laidKinds := [.data], laidTests := true, laidLooks := .later }
def TopDueCardSaid : Prop := Claim7.holds Tryz.pinned (.plain (OpenSpec.ofChange topDueSpec)) topDueCard

/-- THE SECOND FORM's CARD OF 'sgraffitotop.TopAny'. -/
def topAnyUptoCard : Claim7 := { stood := { row := topAnyUptoRow, standIns := [], harness := (true, "1187c5f73155ccc9906847e64e1d7c6a8b2272c656ac9f8dc74f5a34969382f4"), looks := false }, kinds := [], alts := [], laidByText := true, laidKinds := [.data], laidTests := true, laidLooks := .later }
def TopAnyUptoCardSaid : Prop := Claim7.holds Tryz.pinned (.plain (OpenSpec.upto topAnySpec)) topAnyUptoCard

/-- THE SECOND FORM's CARD OF 'sgraffitotop.TopDue'. -/
def topDueUptoCard : Claim7 := { stood := { row := topDueUptoRow, standIns := [], harness := (true, "1187c5f73155ccc9906847e64e1d7c6a8b2272c656ac9f8dc74f5a34969382f4"), looks := false }, kinds := [], alts := [], laidByText := true, laidKinds := [.data], laidTests := true, laidLooks := .later }
def TopDueUptoCardSaid : Prop := Claim7.holds Tryz.pinned (.plain (OpenSpec.upto topDueSpec)) topDueUptoCard
end Rows
end Go.Proofs.YtcedibmdelehdaaGreatDoor
