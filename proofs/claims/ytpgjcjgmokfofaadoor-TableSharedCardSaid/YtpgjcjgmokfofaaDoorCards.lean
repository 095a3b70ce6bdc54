/-
  DERIVED. GIVEN WITH THE SEED: THE CARDS: each row of YtpgjcjgmokfofaaDoorRows.lean that lists a variable, with what it lists TIED to the program's text (the seventh form; the later family's looks); each row that meets fmt, with fmt's text TOLD by the authors' own Lean function (tested against real Go, not proved from fmt's source: count such statements apart). THE CARD IS WHAT COUNTS. Prove the row's statement (the work); the ties are given (YtpgjcjgmokfofaaDoorTie.lean); close each card by the builder's one call (the guide's Derived/Test/ToyasCard.lean, 'card_holds'). Laid BY PROGRAM, IN A SANDBOX (cutbox-door.mjs). By AI agents, Wed Nov 11 2026. No macro, syntax, notation, axiom, sorry.
-/
import Derived.Test.YtpgjcjgmokfofaaDoorRows
import GoSem.ClaimSeven
namespace Go.Proofs.YtpgjcjgmokfofaaDoor
namespace Rows

/-- THE TIED CARD OF 'tamislaw19.TableNames'. -/
def tableNamesCard : Claim7 := { stood := { row := tableNamesRow, standIns := [], harness := (true, "3ee0ff4b5ac20035b57059eb0b311438cfaed3512065bc63f8f6013dc0a114bb"), looks := true }, kinds := [], alts := [], laidByText := true, laidKinds := [.data, .data, .data, .sentinel, .sentinel], laidTests := true, laidLooks := .later }
def TableNamesCardSaid : Prop := Claim7.holds Tryd.pinned (.plain (OpenSpec.ofChange tableNamesSpec)) tableNamesCard

/-- THE TIED CARD OF 'tamislaw19.TableAll'. -/
def tableAllCard : Claim7 := { stood := { row := tableAllRow, standIns := [], harness := (true, "3ee0ff4b5ac20035b57059eb0b311438cfaed3512065bc63f8f6013dc0a114bb"), looks := true }, kinds := [], alts := [], laidByText := true, laidKinds := [.data, .data, .data, .sentinel, .sentinel], laidTests := true, laidLooks := .later }
def TableAllCardSaid : Prop := Claim7.holds Tryd.pinned (.plain (OpenSpec.ofChange tableAllSpec)) tableAllCard

/-- THE TIED CARD OF 'tamislaw19.TableReads'. -/
def tableReadsCard : Claim7 := { stood := { row := tableReadsRow, standIns := [], harness := (true, "3ee0ff4b5ac20035b57059eb0b311438cfaed3512065bc63f8f6013dc0a114bb"), looks := true }, kinds := [], alts := [], laidByText := true, laidKinds := [.data, .data, .data, .sentinel, .sentinel], laidTests := true, laidLooks := .later }
def TableReadsCardSaid : Prop := Claim7.holds Tryd.pinned (.plain (OpenSpec.ofChange tableReadsSpec)) tableReadsCard

/-- THE TIED CARD OF 'tamislaw19.TableOne'. -/
def tableOneCard : Claim7 := { stood := { row := tableOneRow, standIns := [], harness := (true, "3ee0ff4b5ac20035b57059eb0b311438cfaed3512065bc63f8f6013dc0a114bb"), looks := true }, kinds := [], alts := [], laidByText := true, laidKinds := [.data, .data, .data, .sentinel, .sentinel], laidTests := true, laidLooks := .later }
def TableOneCardSaid : Prop := Claim7.holds Tryd.pinned (.plain (OpenSpec.ofChange tableOneSpec)) tableOneCard

/-- THE TIED CARD OF 'tamislaw19.TableShared'. -/
def tableSharedCard : Claim7 := { stood := { row := tableSharedRow, standIns := [], harness := (true, "3ee0ff4b5ac20035b57059eb0b311438cfaed3512065bc63f8f6013dc0a114bb"), looks := true }, kinds := [], alts := [], laidByText := true, laidKinds := [.data, .data, .data, .sentinel, .sentinel], laidTests := true, laidLooks := .later }
def TableSharedCardSaid : Prop := Claim7.holds Tryd.pinned (.plain (OpenSpec.ofChange tableSharedSpec)) tableSharedCard

/-- THE SECOND FORM's CARD OF 'tamislaw19.TableNames'. -/
def tableNamesUptoCard : Claim7 := { stood := { row := tableNamesUptoRow, standIns := [], harness := (true, "3ee0ff4b5ac20035b57059eb0b311438cfaed3512065bc63f8f6013dc0a114bb"), looks := true }, kinds := [], alts := [], laidByText := true, laidKinds := [.data, .data, .data, .sentinel, .sentinel], laidTests := true, laidLooks := .later }
def TableNamesUptoCardSaid : Prop := Claim7.holds Tryd.pinned (.plain (OpenSpec.upto tableNamesSpec)) tableNamesUptoCard

/-- THE SECOND FORM's CARD OF 'tamislaw19.TableAll'. -/
def tableAllUptoCard : Claim7 := { stood := { row := tableAllUptoRow, standIns := [], harness := (true, "3ee0ff4b5ac20035b57059eb0b311438cfaed3512065bc63f8f6013dc0a114bb"), looks := true }, kinds := [], alts := [], laidByText := true, laidKinds := [.data, .data, .data, .sentinel, .sentinel], laidTests := true, laidLooks := .later }
def TableAllUptoCardSaid : Prop := Claim7.holds Tryd.pinned (.plain (OpenSpec.upto tableAllSpec)) tableAllUptoCard

/-- THE SECOND FORM's CARD OF 'tamislaw19.TableReads'. -/
def tableReadsUptoCard : Claim7 := { stood := { row := tableReadsUptoRow, standIns := [], harness := (true, "3ee0ff4b5ac20035b57059eb0b311438cfaed3512065bc63f8f6013dc0a114bb"), looks := true }, kinds := [], alts := [], laidByText := true, laidKinds := [.data, .data, .data, .sentinel, .sentinel], laidTests := true, laidLooks := .later }
def TableReadsUptoCardSaid : Prop := Claim7.holds Tryd.pinned (.plain (OpenSpec.upto tableReadsSpec)) tableReadsUptoCard

/-- THE SECOND FORM's CARD OF 'tamislaw19.TableOne'. -/
def tableOneUptoCard : Claim7 := { stood := { row := tableOneUptoRow, standIns := [], harness := (true, "3ee0ff4b5ac20035b57059eb0b311438cfaed3512065bc63f8f6013dc0a114bb"), looks := true }, kinds := [], alts := [], laidByText := true, laidKinds := [.data, .data, .data, .sentinel, .sentinel], laidTests := true, laidLooks := .later }
def TableOneUptoCardSaid : Prop := Claim7.holds Tryd.pinned (.plain (OpenSpec.upto tableOneSpec)) tableOneUptoCard

/-- THE SECOND FORM's CARD OF 'tamislaw19.TableShared'. -/
def tableSharedUptoCard : Claim7 := { stood := { row := tableSharedUptoRow, standIns := [], harness := (true, "3ee0ff4b5ac20035b57059eb0b311438cfaed3512065bc63f8f6013dc0a114bb"), looks := true }, kinds := [], alts := [], laidByText := true, laidKinds := [.data, .data, .data, .sentinel, .sentinel], laidTests := true, laidLooks := .later }
def TableSharedUptoCardSaid : Prop := Claim7.holds Tryd.pinned (.plain (OpenSpec.upto tableSharedSpec)) tableSharedUptoCard
end Rows
end Go.Proofs.YtpgjcjgmokfofaaDoor
