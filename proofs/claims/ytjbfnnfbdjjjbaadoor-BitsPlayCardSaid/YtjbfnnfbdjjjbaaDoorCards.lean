/-
  DERIVED. GIVEN WITH THE SEED: THE CARDS: each row of YtjbfnnfbdjjjbaaDoorRows.lean that lists a variable, with what it lists TIED to the program's text (the seventh form; the later family's looks); each row that meets fmt, with fmt's text TOLD by the authors' own Lean function (tested against real Go, not proved from fmt's source: count such statements apart). THE CARD IS WHAT COUNTS. Prove the row's statement (the work); the ties are given (YtjbfnnfbdjjjbaaDoorTie.lean); close each card by the builder's one call (the guide's Derived/Test/ToyasCard.lean, 'card_holds'). Laid BY PROGRAM, IN A SANDBOX (cutbox-door.mjs). By AI agents, Wed Nov 11 2026. No macro, syntax, notation, axiom, sorry.
-/
import Derived.Test.YtjbfnnfbdjjjbaaDoorRows
import GoSem.ClaimSeven
namespace Go.Proofs.YtjbfnnfbdjjjbaaDoor
namespace Rows

/-- THE TIED CARD OF 'sgraffitolaw07.BitsRounds'. -/
def bitsRoundsCard : Claim7 := { stood := { row := bitsRoundsRow, standIns := [], harness := (true, "df6b06426da3dc38b917f2a7594e9643efbc965f6b851d95dcb67cc82cb29fb0"), looks := false }, kinds := [], alts := [], laidByText := true, laidKinds := [.data], laidTests := true, laidLooks := .later }
def BitsRoundsCardSaid : Prop := Claim7.holds Tryd.pinned (.plain (OpenSpec.ofChange bitsRoundsSpec)) bitsRoundsCard

/-- THE TIED CARD OF 'sgraffitolaw07.BitsAll'. -/
def bitsAllCard : Claim7 := { stood := { row := bitsAllRow, standIns := [], harness := (true, "df6b06426da3dc38b917f2a7594e9643efbc965f6b851d95dcb67cc82cb29fb0"), looks := false }, kinds := [], alts := [], laidByText := true, laidKinds := [.data], laidTests := true, laidLooks := .later }
def BitsAllCardSaid : Prop := Claim7.holds Tryd.pinned (.plain (OpenSpec.ofChange bitsAllSpec)) bitsAllCard

/-- THE TIED CARD OF 'sgraffitolaw07.BitsPlay'. -/
def bitsPlayCard : Claim7 := { stood := { row := bitsPlayRow, standIns := [], harness := (true, "df6b06426da3dc38b917f2a7594e9643efbc965f6b851d95dcb67cc82cb29fb0"), looks := false }, kinds := [], alts := [], laidByText := true, laidKinds := [.data], laidTests := true, laidLooks := .later }
def BitsPlayCardSaid : Prop := Claim7.holds Tryd.pinned (.plain (OpenSpec.ofChange bitsPlaySpec)) bitsPlayCard

/-- THE TIED CARD OF 'sgraffitolaw07.BitsNil'. -/
def bitsNilCard : Claim7 := { stood := { row := bitsNilRow, standIns := [], harness := (true, "df6b06426da3dc38b917f2a7594e9643efbc965f6b851d95dcb67cc82cb29fb0"), looks := false }, kinds := [], alts := [], laidByText := true, laidKinds := [.data], laidTests := true, laidLooks := .later }
def BitsNilCardSaid : Prop := Claim7.holds Tryd.pinned (.plain (OpenSpec.ofChange bitsNilSpec)) bitsNilCard

/-- THE SECOND FORM's CARD OF 'sgraffitolaw07.BitsRounds'. -/
def bitsRoundsUptoCard : Claim7 := { stood := { row := bitsRoundsUptoRow, standIns := [], harness := (true, "df6b06426da3dc38b917f2a7594e9643efbc965f6b851d95dcb67cc82cb29fb0"), looks := false }, kinds := [], alts := [], laidByText := true, laidKinds := [.data], laidTests := true, laidLooks := .later }
def BitsRoundsUptoCardSaid : Prop := Claim7.holds Tryd.pinned (.plain (OpenSpec.upto bitsRoundsSpec)) bitsRoundsUptoCard

/-- THE SECOND FORM's CARD OF 'sgraffitolaw07.BitsAll'. -/
def bitsAllUptoCard : Claim7 := { stood := { row := bitsAllUptoRow, standIns := [], harness := (true, "df6b06426da3dc38b917f2a7594e9643efbc965f6b851d95dcb67cc82cb29fb0"), looks := false }, kinds := [], alts := [], laidByText := true, laidKinds := [.data], laidTests := true, laidLooks := .later }
def BitsAllUptoCardSaid : Prop := Claim7.holds Tryd.pinned (.plain (OpenSpec.upto bitsAllSpec)) bitsAllUptoCard

/-- THE SECOND FORM's CARD OF 'sgraffitolaw07.BitsPlay'. -/
def bitsPlayUptoCard : Claim7 := { stood := { row := bitsPlayUptoRow, standIns := [], harness := (true, "df6b06426da3dc38b917f2a7594e9643efbc965f6b851d95dcb67cc82cb29fb0"), looks := false }, kinds := [], alts := [], laidByText := true, laidKinds := [.data], laidTests := true, laidLooks := .later }
def BitsPlayUptoCardSaid : Prop := Claim7.holds Tryd.pinned (.plain (OpenSpec.upto bitsPlaySpec)) bitsPlayUptoCard

/-- THE SECOND FORM's CARD OF 'sgraffitolaw07.BitsNil'. -/
def bitsNilUptoCard : Claim7 := { stood := { row := bitsNilUptoRow, standIns := [], harness := (true, "df6b06426da3dc38b917f2a7594e9643efbc965f6b851d95dcb67cc82cb29fb0"), looks := false }, kinds := [], alts := [], laidByText := true, laidKinds := [.data], laidTests := true, laidLooks := .later }
def BitsNilUptoCardSaid : Prop := Claim7.holds Tryd.pinned (.plain (OpenSpec.upto bitsNilSpec)) bitsNilUptoCard
end Rows
end Go.Proofs.YtjbfnnfbdjjjbaaDoor
