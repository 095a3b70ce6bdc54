/-
  No cell of these rows narrows 'for every input' (looked for: loops, veiled, ifaces, maps, wideKeys, modest, calm, conditions, laid).
  DERIVED. THE GIVEN ROWS OF THIS SEAT. 5 by the template 'for every input the law returns true; each argument reads behind the call as it read before'; 0 by the template 'total and deterministic' (their statements: YtjgapcidhoecfaaTotals.lean).
  GIVEN WITH THE SEED: the statements are not yours to turn. If you find one false, say at which input.
  Laid BY PROGRAM, IN A SANDBOX (cutbox-rows.mjs): the forced cells as the released guide's own fill.sh prints them over the translation a097d1acfeab351f… (all of the seat's roots in one cut). By AI agents, Wed Nov 11 2026. No macro, syntax, notation, axiom, sorry.
-/
import Derived.Test.YtjgapcidhoecfaaChecked
import GoSem.Claim
import GoSem.ClaimJoined
import GoSem.ClaimMapViews
import Derived.JoinedTies
import Derived.KernelRfl
namespace Go.Proofs.Ytjgapcidhoecfaa
/- THE CELL 'sum', in the pinned program and in every row, IS THE sha256 OF THE DUMP (.gsa) THAT YtjgapcidhoecfaaProg.lean LOADS. Nothing in Lean hashes anything: it is a label: what it is worth is what the hold of that sum in a sandbox is worth. -/
noncomputable def Try.pinned : Pinned := { name := "ytjgapcidhoecfaa", sum := "a097d1acfeab351f1b53e5edd508b61d83e8897a60355b2457d65a5991f2edfb", checked := Try.checked }
namespace Rows
def none {H : Type} : Left H := { results := [], args := [] }

/-- 'tamislaw02.InstrReads': WHATEVER THE INPUT: true; the input reads as it did. -/
def instrReadsSpec : ChangeSpec := { name := "instrReads", fn := fun _ => fun
  | [d] => { results := [.lit (.bool true)], args := [d] }
  | _ => none }
def instrReadsRow : OpenClaim := { program := "ytjgapcidhoecfaa", sum := "a097d1acfeab351f1b53e5edd508b61d83e8897a60355b2457d65a5991f2edfb", func := "tamis/tamislaw02.InstrReads", spec := "instrReads", inPlace := ["internal/abi.NoEscape"], apart := false }
def InstrReadsSaid : Prop := instrReadsRow.holds Try.pinned (OpenSpec.ofChange instrReadsSpec)

/-- ITS FALSE NEIGHBOUR: 'it returns false'. Refute it at one input. -/
def instrReadsWrong : ChangeSpec := { name := "instrReads", fn := fun _ => fun
  | [d] => { results := [.lit (.bool false)], args := [d] }
  | _ => none }
def InstrReadsWrongFalsely : Prop := instrReadsRow.holds Try.pinned (OpenSpec.ofChange instrReadsWrong)

/-- 'tamislaw02.InstrPrints': WHATEVER THE INPUT: true; the input reads as it did. -/
def instrPrintsSpec : ChangeSpec := { name := "instrPrints", fn := fun _ => fun
  | [d] => { results := [.lit (.bool true)], args := [d] }
  | _ => none }
def instrPrintsRow : OpenClaim := { program := "ytjgapcidhoecfaa", sum := "a097d1acfeab351f1b53e5edd508b61d83e8897a60355b2457d65a5991f2edfb", func := "tamis/tamislaw02.InstrPrints", spec := "instrPrints", inPlace := ["internal/abi.NoEscape"], apart := false }
def InstrPrintsSaid : Prop := instrPrintsRow.holds Try.pinned (OpenSpec.ofChange instrPrintsSpec)

/-- ITS FALSE NEIGHBOUR: 'it returns false'. Refute it at one input. -/
def instrPrintsWrong : ChangeSpec := { name := "instrPrints", fn := fun _ => fun
  | [d] => { results := [.lit (.bool false)], args := [d] }
  | _ => none }
def InstrPrintsWrongFalsely : Prop := instrPrintsRow.holds Try.pinned (OpenSpec.ofChange instrPrintsWrong)

/-- 'tamislaw02.InstrParts': WHATEVER THE INPUT: true; the input reads as it did. -/
def instrPartsSpec : ChangeSpec := { name := "instrParts", fn := fun _ => fun
  | [d] => { results := [.lit (.bool true)], args := [d] }
  | _ => none }
def instrPartsRow : OpenClaim := { program := "ytjgapcidhoecfaa", sum := "a097d1acfeab351f1b53e5edd508b61d83e8897a60355b2457d65a5991f2edfb", func := "tamis/tamislaw02.InstrParts", spec := "instrParts", inPlace := ["internal/abi.NoEscape"], apart := false }
def InstrPartsSaid : Prop := instrPartsRow.holds Try.pinned (OpenSpec.ofChange instrPartsSpec)

/-- ITS FALSE NEIGHBOUR: 'it returns false'. Refute it at one input. -/
def instrPartsWrong : ChangeSpec := { name := "instrParts", fn := fun _ => fun
  | [d] => { results := [.lit (.bool false)], args := [d] }
  | _ => none }
def InstrPartsWrongFalsely : Prop := instrPartsRow.holds Try.pinned (OpenSpec.ofChange instrPartsWrong)

/-- 'tamislaw02.InstrJoins': WHATEVER THE INPUT: true; the input reads as it did. -/
def instrJoinsSpec : ChangeSpec := { name := "instrJoins", fn := fun _ => fun
  | [d1, d2] => { results := [.lit (.bool true)], args := [d1, d2] }
  | _ => none }
def instrJoinsRow : OpenClaim := { program := "ytjgapcidhoecfaa", sum := "a097d1acfeab351f1b53e5edd508b61d83e8897a60355b2457d65a5991f2edfb", func := "tamis/tamislaw02.InstrJoins", spec := "instrJoins", inPlace := ["internal/abi.NoEscape"], apart := false }
def InstrJoinsSaid : Prop := instrJoinsRow.holds Try.pinned (OpenSpec.ofChange instrJoinsSpec)

/-- ITS FALSE NEIGHBOUR: 'it returns false'. Refute it at one input. -/
def instrJoinsWrong : ChangeSpec := { name := "instrJoins", fn := fun _ => fun
  | [d1, d2] => { results := [.lit (.bool false)], args := [d1, d2] }
  | _ => none }
def InstrJoinsWrongFalsely : Prop := instrJoinsRow.holds Try.pinned (OpenSpec.ofChange instrJoinsWrong)

/-- 'tamislaw02.InstrCuts': WHATEVER THE INPUT: true; the input reads as it did. -/
def instrCutsSpec : ChangeSpec := { name := "instrCuts", fn := fun _ => fun
  | [d1, d2] => { results := [.lit (.bool true)], args := [d1, d2] }
  | _ => none }
def instrCutsRow : OpenClaim := { program := "ytjgapcidhoecfaa", sum := "a097d1acfeab351f1b53e5edd508b61d83e8897a60355b2457d65a5991f2edfb", func := "tamis/tamislaw02.InstrCuts", spec := "instrCuts", inPlace := ["internal/abi.NoEscape"], apart := false }
def InstrCutsSaid : Prop := instrCutsRow.holds Try.pinned (OpenSpec.ofChange instrCutsSpec)

/-- ITS FALSE NEIGHBOUR: 'it returns false'. Refute it at one input. -/
def instrCutsWrong : ChangeSpec := { name := "instrCuts", fn := fun _ => fun
  | [d1, d2] => { results := [.lit (.bool false)], args := [d1, d2] }
  | _ => none }
def InstrCutsWrongFalsely : Prop := instrCutsRow.holds Try.pinned (OpenSpec.ofChange instrCutsWrong)

/- THE SECOND FORM. 'bulk': how many values and letters a reading holds, each counted each time it is reached (what is shared counts as often as it is met; a slice's spare places count too). A statement '..UptoSaid' is the law's where the arguments, and the package variables that the reading takes, are together of bulk at most 1048576: NARROWER than '..Said'. Prove '..Said' where nothing that the law and all that it calls make is longer than what came in: it says more and counts as full. Else prove '..UptoSaid'. A law counts once. -/
mutual
def uptoBulk {H : Type} : DataW H → Nat
  | .lit (.string bytes) => bytes.length + 1
  | .lit _ => 1
  | .nil => 1
  | .ptr d => uptoBulk d + 1
  | .slice elems spare => uptoBulkAll elems + uptoBulkAll spare + 1
  | .agg parts => uptoBulkAll parts + 1
  | .iface _ d => uptoBulk d + 1
  | .map entries => uptoBulkEntries entries + 1
  | .held _ => 1
def uptoBulkAll {H : Type} : List (DataW H) → Nat
  | [] => 0
  | d :: r => uptoBulk d + uptoBulkAll r
def uptoBulkEntries {H : Type} : List (Lit × DataW H) → Nat
  | [] => 0
  | x :: r => uptoBulkEntry x + uptoBulkEntries r
def uptoBulkEntry {H : Type} : Lit × DataW H → Nat
  | (.string bytes, d) => bytes.length + uptoBulk d + 1
  | (_, d) => uptoBulk d + 1
 end
def uptoSmall : (H : Type) → List (DataW H) → Bool := fun _ ds => decide (uptoBulkAll ds ≤ 1048576)
def OpenSpec.upto (s : _root_.Go.ChangeSpec) : _root_.Go.OpenSpec := { _root_.Go.OpenSpec.ofChange s with cond := some uptoSmall }

/-- 'tamislaw02.InstrReads', WHERE WHAT IT READS IS OF BULK AT MOST 1048576: true; the input reads as it did. -/
def instrReadsUptoRow : OpenClaim := { program := "ytjgapcidhoecfaa", sum := "a097d1acfeab351f1b53e5edd508b61d83e8897a60355b2457d65a5991f2edfb", func := "tamis/tamislaw02.InstrReads", spec := "instrReads", inPlace := ["internal/abi.NoEscape"], apart := false, narrowed := true }
def InstrReadsUptoSaid : Prop := instrReadsUptoRow.holds Try.pinned (OpenSpec.upto instrReadsSpec)

/-- 'tamislaw02.InstrPrints', WHERE WHAT IT READS IS OF BULK AT MOST 1048576: true; the input reads as it did. -/
def instrPrintsUptoRow : OpenClaim := { program := "ytjgapcidhoecfaa", sum := "a097d1acfeab351f1b53e5edd508b61d83e8897a60355b2457d65a5991f2edfb", func := "tamis/tamislaw02.InstrPrints", spec := "instrPrints", inPlace := ["internal/abi.NoEscape"], apart := false, narrowed := true }
def InstrPrintsUptoSaid : Prop := instrPrintsUptoRow.holds Try.pinned (OpenSpec.upto instrPrintsSpec)

/-- 'tamislaw02.InstrParts', WHERE WHAT IT READS IS OF BULK AT MOST 1048576: true; the input reads as it did. -/
def instrPartsUptoRow : OpenClaim := { program := "ytjgapcidhoecfaa", sum := "a097d1acfeab351f1b53e5edd508b61d83e8897a60355b2457d65a5991f2edfb", func := "tamis/tamislaw02.InstrParts", spec := "instrParts", inPlace := ["internal/abi.NoEscape"], apart := false, narrowed := true }
def InstrPartsUptoSaid : Prop := instrPartsUptoRow.holds Try.pinned (OpenSpec.upto instrPartsSpec)

/-- 'tamislaw02.InstrJoins', WHERE WHAT IT READS IS OF BULK AT MOST 1048576: true; the input reads as it did. -/
def instrJoinsUptoRow : OpenClaim := { program := "ytjgapcidhoecfaa", sum := "a097d1acfeab351f1b53e5edd508b61d83e8897a60355b2457d65a5991f2edfb", func := "tamis/tamislaw02.InstrJoins", spec := "instrJoins", inPlace := ["internal/abi.NoEscape"], apart := false, narrowed := true }
def InstrJoinsUptoSaid : Prop := instrJoinsUptoRow.holds Try.pinned (OpenSpec.upto instrJoinsSpec)

/-- 'tamislaw02.InstrCuts', WHERE WHAT IT READS IS OF BULK AT MOST 1048576: true; the input reads as it did. -/
def instrCutsUptoRow : OpenClaim := { program := "ytjgapcidhoecfaa", sum := "a097d1acfeab351f1b53e5edd508b61d83e8897a60355b2457d65a5991f2edfb", func := "tamis/tamislaw02.InstrCuts", spec := "instrCuts", inPlace := ["internal/abi.NoEscape"], apart := false, narrowed := true }
def InstrCutsUptoSaid : Prop := instrCutsUptoRow.holds Try.pinned (OpenSpec.upto instrCutsSpec)

end Rows
end Go.Proofs.Ytjgapcidhoecfaa
