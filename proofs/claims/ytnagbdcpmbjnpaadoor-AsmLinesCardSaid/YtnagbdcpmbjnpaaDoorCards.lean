/-
  DERIVED. GIVEN WITH THE SEED: THE CARDS: each row of YtnagbdcpmbjnpaaDoorRows.lean that lists a variable, with what it lists TIED to the program's text (the seventh form; the later family's looks); each row that meets fmt, with fmt's text TOLD by the authors' own Lean function (tested against real Go, not proved from fmt's source: count such statements apart). THE CARD IS WHAT COUNTS. Prove the row's statement (the work); the ties are given (YtnagbdcpmbjnpaaDoorTie.lean); close each card by the builder's one call (the guide's Derived/Test/ToyasCard.lean, 'card_holds'). Laid BY PROGRAM, IN A SANDBOX (cutbox-door.mjs). By AI agents, Wed Nov 11 2026. No macro, syntax, notation, axiom, sorry.
-/
import Derived.Test.YtnagbdcpmbjnpaaDoorRows
import GoSem.ClaimSeven
namespace Go.Proofs.YtnagbdcpmbjnpaaDoor
namespace Rows

/-- THE TIED CARD OF 'tamislaw05.AsmLines'. -/
def asmLinesCard : Claim7 := { stood := { row := asmLinesRow, standIns := [], harness := (true, "058f8c6c10db4b7d94f8f322adace66690a8fd2e27c19ca23c17c710e3ff2ac4"), looks := true }, kinds := [], alts := [], laidByText := true, laidKinds := [.data, .data, .data, .data, .sentinel, .sentinel, .pinned], laidTests := true, laidLooks := .later }
def AsmLinesCardSaid : Prop := Claim7.holds Tryd.pinned (.plain (OpenSpec.ofChange asmLinesSpec)) asmLinesCard

/-- THE TIED CARD OF 'tamislaw05.AsmReads'. -/
def asmReadsCard : Claim7 := { stood := { row := asmReadsRow, standIns := [], harness := (true, "058f8c6c10db4b7d94f8f322adace66690a8fd2e27c19ca23c17c710e3ff2ac4"), looks := true }, kinds := [], alts := [], laidByText := true, laidKinds := [.data, .data, .data, .data, .sentinel, .sentinel, .pinned], laidTests := true, laidLooks := .later }
def AsmReadsCardSaid : Prop := Claim7.holds Tryd.pinned (.plain (OpenSpec.ofChange asmReadsSpec)) asmReadsCard

/-- THE TIED CARD OF 'tamislaw05.AsmPrints'. -/
def asmPrintsCard : Claim7 := { stood := { row := asmPrintsRow, standIns := [], harness := (true, "058f8c6c10db4b7d94f8f322adace66690a8fd2e27c19ca23c17c710e3ff2ac4"), looks := true }, kinds := [], alts := [], laidByText := true, laidKinds := [.data, .data, .data, .data, .sentinel, .sentinel, .pinned], laidTests := true, laidLooks := .later }
def AsmPrintsCardSaid : Prop := Claim7.holds Tryd.pinned (.plain (OpenSpec.ofChange asmPrintsSpec)) asmPrintsCard

/-- THE TIED CARD OF 'tamislaw05.AsmPlace'. -/
def asmPlaceCard : Claim7 := { stood := { row := asmPlaceRow, standIns := [], harness := (true, "058f8c6c10db4b7d94f8f322adace66690a8fd2e27c19ca23c17c710e3ff2ac4"), looks := true }, kinds := [], alts := [], laidByText := true, laidKinds := [.data, .data, .data, .data, .sentinel, .sentinel, .pinned], laidTests := true, laidLooks := .later }
def AsmPlaceCardSaid : Prop := Claim7.holds Tryd.pinned (.plain (OpenSpec.ofChange asmPlaceSpec)) asmPlaceCard

/-- THE TIED CARD OF 'tamislaw05.AsmNumber'. -/
def asmNumberCard : Claim7 := { stood := { row := asmNumberRow, standIns := [], harness := (true, "058f8c6c10db4b7d94f8f322adace66690a8fd2e27c19ca23c17c710e3ff2ac4"), looks := true }, kinds := [], alts := [], laidByText := true, laidKinds := [.data, .data, .data, .data, .sentinel, .sentinel, .pinned], laidTests := true, laidLooks := .later }
def AsmNumberCardSaid : Prop := Claim7.holds Tryd.pinned (.plain (OpenSpec.ofChange asmNumberSpec)) asmNumberCard

/-- THE TIED CARD OF 'tamislaw05.AsmJoins'. -/
def asmJoinsCard : Claim7 := { stood := { row := asmJoinsRow, standIns := [], harness := (true, "058f8c6c10db4b7d94f8f322adace66690a8fd2e27c19ca23c17c710e3ff2ac4"), looks := true }, kinds := [], alts := [], laidByText := true, laidKinds := [.data, .data, .data, .data, .sentinel, .sentinel, .pinned], laidTests := true, laidLooks := .later }
def AsmJoinsCardSaid : Prop := Claim7.holds Tryd.pinned (.plain (OpenSpec.ofChange asmJoinsSpec)) asmJoinsCard

/-- THE SECOND FORM's CARD OF 'tamislaw05.AsmLines'. -/
def asmLinesUptoCard : Claim7 := { stood := { row := asmLinesUptoRow, standIns := [], harness := (true, "058f8c6c10db4b7d94f8f322adace66690a8fd2e27c19ca23c17c710e3ff2ac4"), looks := true }, kinds := [], alts := [], laidByText := true, laidKinds := [.data, .data, .data, .data, .sentinel, .sentinel, .pinned], laidTests := true, laidLooks := .later }
def AsmLinesUptoCardSaid : Prop := Claim7.holds Tryd.pinned (.plain (OpenSpec.upto asmLinesSpec)) asmLinesUptoCard

/-- THE SECOND FORM's CARD OF 'tamislaw05.AsmReads'. -/
def asmReadsUptoCard : Claim7 := { stood := { row := asmReadsUptoRow, standIns := [], harness := (true, "058f8c6c10db4b7d94f8f322adace66690a8fd2e27c19ca23c17c710e3ff2ac4"), looks := true }, kinds := [], alts := [], laidByText := true, laidKinds := [.data, .data, .data, .data, .sentinel, .sentinel, .pinned], laidTests := true, laidLooks := .later }
def AsmReadsUptoCardSaid : Prop := Claim7.holds Tryd.pinned (.plain (OpenSpec.upto asmReadsSpec)) asmReadsUptoCard

/-- THE SECOND FORM's CARD OF 'tamislaw05.AsmPrints'. -/
def asmPrintsUptoCard : Claim7 := { stood := { row := asmPrintsUptoRow, standIns := [], harness := (true, "058f8c6c10db4b7d94f8f322adace66690a8fd2e27c19ca23c17c710e3ff2ac4"), looks := true }, kinds := [], alts := [], laidByText := true, laidKinds := [.data, .data, .data, .data, .sentinel, .sentinel, .pinned], laidTests := true, laidLooks := .later }
def AsmPrintsUptoCardSaid : Prop := Claim7.holds Tryd.pinned (.plain (OpenSpec.upto asmPrintsSpec)) asmPrintsUptoCard

/-- THE SECOND FORM's CARD OF 'tamislaw05.AsmPlace'. -/
def asmPlaceUptoCard : Claim7 := { stood := { row := asmPlaceUptoRow, standIns := [], harness := (true, "058f8c6c10db4b7d94f8f322adace66690a8fd2e27c19ca23c17c710e3ff2ac4"), looks := true }, kinds := [], alts := [], laidByText := true, laidKinds := [.data, .data, .data, .data, .sentinel, .sentinel, .pinned], laidTests := true, laidLooks := .later }
def AsmPlaceUptoCardSaid : Prop := Claim7.holds Tryd.pinned (.plain (OpenSpec.upto asmPlaceSpec)) asmPlaceUptoCard

/-- THE SECOND FORM's CARD OF 'tamislaw05.AsmNumber'. -/
def asmNumberUptoCard : Claim7 := { stood := { row := asmNumberUptoRow, standIns := [], harness := (true, "058f8c6c10db4b7d94f8f322adace66690a8fd2e27c19ca23c17c710e3ff2ac4"), looks := true }, kinds := [], alts := [], laidByText := true, laidKinds := [.data, .data, .data, .data, .sentinel, .sentinel, .pinned], laidTests := true, laidLooks := .later }
def AsmNumberUptoCardSaid : Prop := Claim7.holds Tryd.pinned (.plain (OpenSpec.upto asmNumberSpec)) asmNumberUptoCard

/-- THE SECOND FORM's CARD OF 'tamislaw05.AsmJoins'. -/
def asmJoinsUptoCard : Claim7 := { stood := { row := asmJoinsUptoRow, standIns := [], harness := (true, "058f8c6c10db4b7d94f8f322adace66690a8fd2e27c19ca23c17c710e3ff2ac4"), looks := true }, kinds := [], alts := [], laidByText := true, laidKinds := [.data, .data, .data, .data, .sentinel, .sentinel, .pinned], laidTests := true, laidLooks := .later }
def AsmJoinsUptoCardSaid : Prop := Claim7.holds Tryd.pinned (.plain (OpenSpec.upto asmJoinsSpec)) asmJoinsUptoCard
end Rows
end Go.Proofs.YtnagbdcpmbjnpaaDoor
