/-
  DERIVED. GIVEN WITH THE SEED: THE CARDS: each row of YtfmhplcpejmkhaaDoorRows.lean that lists a variable, with what it lists TIED to the program's text (the seventh form; the later family's looks); each row that meets fmt, with fmt's text TOLD by the authors' own Lean function (tested against real Go, not proved from fmt's source: count such statements apart). THE CARD IS WHAT COUNTS. Prove the row's statement (the work); the ties are given (YtfmhplcpejmkhaaDoorTie.lean); close each card by the builder's one call (the guide's Derived/Test/ToyasCard.lean, 'card_holds'). Laid BY PROGRAM, IN A SANDBOX (cutbox-door.mjs). By AI agents, Wed Nov 11 2026. No macro, syntax, notation, axiom, sorry.
-/
import Derived.Test.YtfmhplcpejmkhaaDoorRows
import GoSem.ClaimSeven
namespace Go.Proofs.YtfmhplcpejmkhaaDoor
namespace Rows

/-- THE TIED CARD OF 'inequalitylaw01.NumberMiddles'. -/
def numberMiddlesCard : Claim7 := { stood := { row := numberMiddlesRow, standIns := [], harness := (true, "e355234fa9c4584186e0a3e35d828c7755b7e6a21ca1b510f164a4fadfb90185"), looks := false }, kinds := [], alts := [], laidByText := true, laidKinds := [.data], laidTests := true, laidLooks := .later }
def NumberMiddlesCardSaid : Prop := Claim7.holds Tryd.pinned (.plain (OpenSpec.ofChange numberMiddlesSpec)) numberMiddlesCard

/-- THE TIED CARD OF 'inequalitylaw01.NumberAdds'. -/
def numberAddsCard : Claim7 := { stood := { row := numberAddsRow, standIns := [], harness := (true, "e355234fa9c4584186e0a3e35d828c7755b7e6a21ca1b510f164a4fadfb90185"), looks := false }, kinds := [], alts := [], laidByText := true, laidKinds := [.data], laidTests := true, laidLooks := .later }
def NumberAddsCardSaid : Prop := Claim7.holds Tryd.pinned (.plain (OpenSpec.ofChange numberAddsSpec)) numberAddsCard

/-- THE TIED CARD OF 'inequalitylaw01.NumberBits'. -/
def numberBitsCard : Claim7 := { stood := { row := numberBitsRow, standIns := [], harness := (true, "e355234fa9c4584186e0a3e35d828c7755b7e6a21ca1b510f164a4fadfb90185"), looks := false }, kinds := [], alts := [], laidByText := true, laidKinds := [.data], laidTests := true, laidLooks := .later }
def NumberBitsCardSaid : Prop := Claim7.holds Tryd.pinned (.plain (OpenSpec.ofChange numberBitsSpec)) numberBitsCard

/-- THE TIED CARD OF 'inequalitylaw01.NumberCanons'. -/
def numberCanonsCard : Claim7 := { stood := { row := numberCanonsRow, standIns := [], harness := (true, "e355234fa9c4584186e0a3e35d828c7755b7e6a21ca1b510f164a4fadfb90185"), looks := false }, kinds := [], alts := [], laidByText := true, laidKinds := [.data], laidTests := true, laidLooks := .later }
def NumberCanonsCardSaid : Prop := Claim7.holds Tryd.pinned (.plain (OpenSpec.ofChange numberCanonsSpec)) numberCanonsCard

/-- THE TIED CARD OF 'inequalitylaw01.NumberInts'. -/
def numberIntsCard : Claim7 := { stood := { row := numberIntsRow, standIns := [], harness := (true, "e355234fa9c4584186e0a3e35d828c7755b7e6a21ca1b510f164a4fadfb90185"), looks := false }, kinds := [], alts := [], laidByText := true, laidKinds := [.data], laidTests := true, laidLooks := .later }
def NumberIntsCardSaid : Prop := Claim7.holds Tryd.pinned (.plain (OpenSpec.ofChange numberIntsSpec)) numberIntsCard

/-- THE TIED CARD OF 'inequalitylaw01.NumberDecimals'. -/
def numberDecimalsCard : Claim7 := { stood := { row := numberDecimalsRow, standIns := [], harness := (true, "e355234fa9c4584186e0a3e35d828c7755b7e6a21ca1b510f164a4fadfb90185"), looks := false }, kinds := [], alts := [], laidByText := true, laidKinds := [.data], laidTests := true, laidLooks := .later }
def NumberDecimalsCardSaid : Prop := Claim7.holds Tryd.pinned (.plain (OpenSpec.ofChange numberDecimalsSpec)) numberDecimalsCard

/-- THE TIED CARD OF 'inequalitylaw01.NumberMuls'. -/
def numberMulsCard : Claim7 := { stood := { row := numberMulsRow, standIns := [], harness := (true, "e355234fa9c4584186e0a3e35d828c7755b7e6a21ca1b510f164a4fadfb90185"), looks := false }, kinds := [], alts := [], laidByText := true, laidKinds := [.data], laidTests := true, laidLooks := .later }
def NumberMulsCardSaid : Prop := Claim7.holds Tryd.pinned (.plain (OpenSpec.ofChange numberMulsSpec)) numberMulsCard

/-- THE TIED CARD OF 'inequalitylaw01.NumberPowers'. -/
def numberPowersCard : Claim7 := { stood := { row := numberPowersRow, standIns := [], harness := (true, "e355234fa9c4584186e0a3e35d828c7755b7e6a21ca1b510f164a4fadfb90185"), looks := false }, kinds := [], alts := [], laidByText := true, laidKinds := [.data], laidTests := true, laidLooks := .later }
def NumberPowersCardSaid : Prop := Claim7.holds Tryd.pinned (.plain (OpenSpec.ofChange numberPowersSpec)) numberPowersCard

/-- THE TIED CARD OF 'inequalitylaw01.NumberFloors'. -/
def numberFloorsCard : Claim7 := { stood := { row := numberFloorsRow, standIns := [], harness := (true, "e355234fa9c4584186e0a3e35d828c7755b7e6a21ca1b510f164a4fadfb90185"), looks := false }, kinds := [], alts := [], laidByText := true, laidKinds := [.data], laidTests := true, laidLooks := .later }
def NumberFloorsCardSaid : Prop := Claim7.holds Tryd.pinned (.plain (OpenSpec.ofChange numberFloorsSpec)) numberFloorsCard

/-- THE TIED CARD OF 'inequalitylaw01.NumberGrids'. -/
def numberGridsCard : Claim7 := { stood := { row := numberGridsRow, standIns := [], harness := (true, "e355234fa9c4584186e0a3e35d828c7755b7e6a21ca1b510f164a4fadfb90185"), looks := false }, kinds := [], alts := [], laidByText := true, laidKinds := [.data], laidTests := true, laidLooks := .later }
def NumberGridsCardSaid : Prop := Claim7.holds Tryd.pinned (.plain (OpenSpec.ofChange numberGridsSpec)) numberGridsCard

/-- THE TIED CARD OF 'inequalitylaw01.NumberField'. -/
def numberFieldCard : Claim7 := { stood := { row := numberFieldRow, standIns := [], harness := (true, "e355234fa9c4584186e0a3e35d828c7755b7e6a21ca1b510f164a4fadfb90185"), looks := false }, kinds := [], alts := [], laidByText := true, laidKinds := [.data], laidTests := true, laidLooks := .later }
def NumberFieldCardSaid : Prop := Claim7.holds Tryd.pinned (.plain (OpenSpec.ofChange numberFieldSpec)) numberFieldCard

/-- THE TIED CARD OF 'inequalitylaw01.NumberCompares'. -/
def numberComparesCard : Claim7 := { stood := { row := numberComparesRow, standIns := [], harness := (true, "e355234fa9c4584186e0a3e35d828c7755b7e6a21ca1b510f164a4fadfb90185"), looks := false }, kinds := [], alts := [], laidByText := true, laidKinds := [.data], laidTests := true, laidLooks := .later }
def NumberComparesCardSaid : Prop := Claim7.holds Tryd.pinned (.plain (OpenSpec.ofChange numberComparesSpec)) numberComparesCard

/-- THE SECOND FORM's CARD OF 'inequalitylaw01.NumberMiddles'. -/
def numberMiddlesUptoCard : Claim7 := { stood := { row := numberMiddlesUptoRow, standIns := [], harness := (true, "e355234fa9c4584186e0a3e35d828c7755b7e6a21ca1b510f164a4fadfb90185"), looks := false }, kinds := [], alts := [], laidByText := true, laidKinds := [.data], laidTests := true, laidLooks := .later }
def NumberMiddlesUptoCardSaid : Prop := Claim7.holds Tryd.pinned (.plain (OpenSpec.upto numberMiddlesSpec)) numberMiddlesUptoCard

/-- THE SECOND FORM's CARD OF 'inequalitylaw01.NumberAdds'. -/
def numberAddsUptoCard : Claim7 := { stood := { row := numberAddsUptoRow, standIns := [], harness := (true, "e355234fa9c4584186e0a3e35d828c7755b7e6a21ca1b510f164a4fadfb90185"), looks := false }, kinds := [], alts := [], laidByText := true, laidKinds := [.data], laidTests := true, laidLooks := .later }
def NumberAddsUptoCardSaid : Prop := Claim7.holds Tryd.pinned (.plain (OpenSpec.upto numberAddsSpec)) numberAddsUptoCard

/-- THE SECOND FORM's CARD OF 'inequalitylaw01.NumberBits'. -/
def numberBitsUptoCard : Claim7 := { stood := { row := numberBitsUptoRow, standIns := [], harness := (true, "e355234fa9c4584186e0a3e35d828c7755b7e6a21ca1b510f164a4fadfb90185"), looks := false }, kinds := [], alts := [], laidByText := true, laidKinds := [.data], laidTests := true, laidLooks := .later }
def NumberBitsUptoCardSaid : Prop := Claim7.holds Tryd.pinned (.plain (OpenSpec.upto numberBitsSpec)) numberBitsUptoCard

/-- THE SECOND FORM's CARD OF 'inequalitylaw01.NumberCanons'. -/
def numberCanonsUptoCard : Claim7 := { stood := { row := numberCanonsUptoRow, standIns := [], harness := (true, "e355234fa9c4584186e0a3e35d828c7755b7e6a21ca1b510f164a4fadfb90185"), looks := false }, kinds := [], alts := [], laidByText := true, laidKinds := [.data], laidTests := true, laidLooks := .later }
def NumberCanonsUptoCardSaid : Prop := Claim7.holds Tryd.pinned (.plain (OpenSpec.upto numberCanonsSpec)) numberCanonsUptoCard

/-- THE SECOND FORM's CARD OF 'inequalitylaw01.NumberInts'. -/
def numberIntsUptoCard : Claim7 := { stood := { row := numberIntsUptoRow, standIns := [], harness := (true, "e355234fa9c4584186e0a3e35d828c7755b7e6a21ca1b510f164a4fadfb90185"), looks := false }, kinds := [], alts := [], laidByText := true, laidKinds := [.data], laidTests := true, laidLooks := .later }
def NumberIntsUptoCardSaid : Prop := Claim7.holds Tryd.pinned (.plain (OpenSpec.upto numberIntsSpec)) numberIntsUptoCard

/-- THE SECOND FORM's CARD OF 'inequalitylaw01.NumberDecimals'. -/
def numberDecimalsUptoCard : Claim7 := { stood := { row := numberDecimalsUptoRow, standIns := [], harness := (true, "e355234fa9c4584186e0a3e35d828c7755b7e6a21ca1b510f164a4fadfb90185"), looks := false }, kinds := [], alts := [], laidByText := true, laidKinds := [.data], laidTests := true, laidLooks := .later }
def NumberDecimalsUptoCardSaid : Prop := Claim7.holds Tryd.pinned (.plain (OpenSpec.upto numberDecimalsSpec)) numberDecimalsUptoCard

/-- THE SECOND FORM's CARD OF 'inequalitylaw01.NumberMuls'. -/
def numberMulsUptoCard : Claim7 := { stood := { row := numberMulsUptoRow, standIns := [], harness := (true, "e355234fa9c4584186e0a3e35d828c7755b7e6a21ca1b510f164a4fadfb90185"), looks := false }, kinds := [], alts := [], laidByText := true, laidKinds := [.data], laidTests := true, laidLooks := .later }
def NumberMulsUptoCardSaid : Prop := Claim7.holds Tryd.pinned (.plain (OpenSpec.upto numberMulsSpec)) numberMulsUptoCard

/-- THE SECOND FORM's CARD OF 'inequalitylaw01.NumberPowers'. -/
def numberPowersUptoCard : Claim7 := { stood := { row := numberPowersUptoRow, standIns := [], harness := (true, "e355234fa9c4584186e0a3e35d828c7755b7e6a21ca1b510f164a4fadfb90185"), looks := false }, kinds := [], alts := [], laidByText := true, laidKinds := [.data], laidTests := true, laidLooks := .later }
def NumberPowersUptoCardSaid : Prop := Claim7.holds Tryd.pinned (.plain (OpenSpec.upto numberPowersSpec)) numberPowersUptoCard

/-- THE SECOND FORM's CARD OF 'inequalitylaw01.NumberFloors'. -/
def numberFloorsUptoCard : Claim7 := { stood := { row := numberFloorsUptoRow, standIns := [], harness := (true, "e355234fa9c4584186e0a3e35d828c7755b7e6a21ca1b510f164a4fadfb90185"), looks := false }, kinds := [], alts := [], laidByText := true, laidKinds := [.data], laidTests := true, laidLooks := .later }
def NumberFloorsUptoCardSaid : Prop := Claim7.holds Tryd.pinned (.plain (OpenSpec.upto numberFloorsSpec)) numberFloorsUptoCard

/-- THE SECOND FORM's CARD OF 'inequalitylaw01.NumberGrids'. -/
def numberGridsUptoCard : Claim7 := { stood := { row := numberGridsUptoRow, standIns := [], harness := (true, "e355234fa9c4584186e0a3e35d828c7755b7e6a21ca1b510f164a4fadfb90185"), looks := false }, kinds := [], alts := [], laidByText := true, laidKinds := [.data], laidTests := true, laidLooks := .later }
def NumberGridsUptoCardSaid : Prop := Claim7.holds Tryd.pinned (.plain (OpenSpec.upto numberGridsSpec)) numberGridsUptoCard

/-- THE SECOND FORM's CARD OF 'inequalitylaw01.NumberField'. -/
def numberFieldUptoCard : Claim7 := { stood := { row := numberFieldUptoRow, standIns := [], harness := (true, "e355234fa9c4584186e0a3e35d828c7755b7e6a21ca1b510f164a4fadfb90185"), looks := false }, kinds := [], alts := [], laidByText := true, laidKinds := [.data], laidTests := true, laidLooks := .later }
def NumberFieldUptoCardSaid : Prop := Claim7.holds Tryd.pinned (.plain (OpenSpec.upto numberFieldSpec)) numberFieldUptoCard

/-- THE SECOND FORM's CARD OF 'inequalitylaw01.NumberCompares'. -/
def numberComparesUptoCard : Claim7 := { stood := { row := numberComparesUptoRow, standIns := [], harness := (true, "e355234fa9c4584186e0a3e35d828c7755b7e6a21ca1b510f164a4fadfb90185"), looks := false }, kinds := [], alts := [], laidByText := true, laidKinds := [.data], laidTests := true, laidLooks := .later }
def NumberComparesUptoCardSaid : Prop := Claim7.holds Tryd.pinned (.plain (OpenSpec.upto numberComparesSpec)) numberComparesUptoCard
end Rows
end Go.Proofs.YtfmhplcpejmkhaaDoor
