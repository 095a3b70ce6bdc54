/-
  No cell of these rows narrows 'for every input' (looked for: loops, veiled, ifaces, maps, wideKeys, modest, calm, conditions, laid).
  DERIVED. THE GIVEN ROWS OF THIS SEAT. 5 by the template 'for every input the law returns true; each argument reads behind the call as it read before'; 0 by the template 'total and deterministic' (their statements: YtkcecfoeimpfeaaTotals.lean).
  GIVEN WITH THE SEED: the statements are not yours to turn. If you find one false, say at which input.
  Laid BY PROGRAM, IN A SANDBOX (cutbox-rows.mjs): the forced cells as the released guide's own fill.sh prints them over the translation 3ed4c3f7b2154eef… (all of the seat's roots in one cut). By AI agents, Wed Nov 11 2026. No macro, syntax, notation, axiom, sorry.
-/
import Derived.Test.YtkcecfoeimpfeaaChecked
import GoSem.Claim
import GoSem.ClaimJoined
import GoSem.ClaimMapViews
import Derived.JoinedTies
import Derived.KernelRfl
namespace Go.Proofs.Ytkcecfoeimpfeaa
/- THE CELL 'sum', in the pinned program and in every row, IS THE sha256 OF THE DUMP (.gsa) THAT YtkcecfoeimpfeaaProg.lean LOADS. Nothing in Lean hashes anything: it is a label: what it is worth is what the hold of that sum in a sandbox is worth. -/
noncomputable def Try.pinned : Pinned := { name := "ytkcecfoeimpfeaa", sum := "3ed4c3f7b2154eef0d434b16d06b2effa70b5153b8a17af56d6a286c04d7842c", checked := Try.checked }
namespace Rows
def none {H : Type} : Left H := { results := [], args := [] }

/-- 'tamislaw04.CodeTells': WHATEVER THE INPUT: true; the input reads as it did. -/
def codeTellsSpec : ChangeSpec := { name := "codeTells", fn := fun _ => fun
  | [d] => { results := [.lit (.bool true)], args := [d] }
  | _ => none }
def codeTellsRow : OpenClaim := { program := "ytkcecfoeimpfeaa", sum := "3ed4c3f7b2154eef0d434b16d06b2effa70b5153b8a17af56d6a286c04d7842c", func := "tamis/tamislaw04.CodeTells", spec := "codeTells", unfollowed := true, recurses := true, apart := false }
def CodeTellsSaid : Prop := codeTellsRow.holds Try.pinned (OpenSpec.ofChange codeTellsSpec)

/-- ITS FALSE NEIGHBOUR: 'it returns false'. Refute it at one input. -/
def codeTellsWrong : ChangeSpec := { name := "codeTells", fn := fun _ => fun
  | [d] => { results := [.lit (.bool false)], args := [d] }
  | _ => none }
def CodeTellsWrongFalsely : Prop := codeTellsRow.holds Try.pinned (OpenSpec.ofChange codeTellsWrong)

/-- 'tamislaw04.CodeNames': WHATEVER THE INPUT: true; the input reads as it did. -/
def codeNamesSpec : ChangeSpec := { name := "codeNames", fn := fun _ => fun
  | [d1, d2] => { results := [.lit (.bool true)], args := [d1, d2] }
  | _ => none }
def codeNamesRow : OpenClaim := { program := "ytkcecfoeimpfeaa", sum := "3ed4c3f7b2154eef0d434b16d06b2effa70b5153b8a17af56d6a286c04d7842c", func := "tamis/tamislaw04.CodeNames", spec := "codeNames", unfollowed := true, recurses := true, apart := false }
def CodeNamesSaid : Prop := codeNamesRow.holds Try.pinned (OpenSpec.ofChange codeNamesSpec)

/-- ITS FALSE NEIGHBOUR: 'it returns false'. Refute it at one input. -/
def codeNamesWrong : ChangeSpec := { name := "codeNames", fn := fun _ => fun
  | [d1, d2] => { results := [.lit (.bool false)], args := [d1, d2] }
  | _ => none }
def CodeNamesWrongFalsely : Prop := codeNamesRow.holds Try.pinned (OpenSpec.ofChange codeNamesWrong)

/-- 'tamislaw04.CodeAll': WHATEVER THE INPUT: true; the input reads as it did. -/
def codeAllSpec : ChangeSpec := { name := "codeAll", fn := fun _ => fun
  | [d] => { results := [.lit (.bool true)], args := [d] }
  | _ => none }
def codeAllRow : OpenClaim := { program := "ytkcecfoeimpfeaa", sum := "3ed4c3f7b2154eef0d434b16d06b2effa70b5153b8a17af56d6a286c04d7842c", func := "tamis/tamislaw04.CodeAll", spec := "codeAll", unfollowed := true, recurses := true, apart := false }
def CodeAllSaid : Prop := codeAllRow.holds Try.pinned (OpenSpec.ofChange codeAllSpec)

/-- ITS FALSE NEIGHBOUR: 'it returns false'. Refute it at one input. -/
def codeAllWrong : ChangeSpec := { name := "codeAll", fn := fun _ => fun
  | [d] => { results := [.lit (.bool false)], args := [d] }
  | _ => none }
def CodeAllWrongFalsely : Prop := codeAllRow.holds Try.pinned (OpenSpec.ofChange codeAllWrong)

/-- 'tamislaw04.CodeX': WHATEVER THE INPUT: true; the input reads as it did. -/
def codeXSpec : ChangeSpec := { name := "codeX", fn := fun _ => fun
  | [d] => { results := [.lit (.bool true)], args := [d] }
  | _ => none }
def codeXRow : OpenClaim := { program := "ytkcecfoeimpfeaa", sum := "3ed4c3f7b2154eef0d434b16d06b2effa70b5153b8a17af56d6a286c04d7842c", func := "tamis/tamislaw04.CodeX", spec := "codeX", unfollowed := true, recurses := true, apart := false }
def CodeXSaid : Prop := codeXRow.holds Try.pinned (OpenSpec.ofChange codeXSpec)

/-- ITS FALSE NEIGHBOUR: 'it returns false'. Refute it at one input. -/
def codeXWrong : ChangeSpec := { name := "codeX", fn := fun _ => fun
  | [d] => { results := [.lit (.bool false)], args := [d] }
  | _ => none }
def CodeXWrongFalsely : Prop := codeXRow.holds Try.pinned (OpenSpec.ofChange codeXWrong)

/-- 'tamislaw04.CodePairs': WHATEVER THE INPUT: true; the input reads as it did. -/
def codePairsSpec : ChangeSpec := { name := "codePairs", fn := fun _ => fun
  | [d] => { results := [.lit (.bool true)], args := [d] }
  | _ => none }
def codePairsRow : OpenClaim := { program := "ytkcecfoeimpfeaa", sum := "3ed4c3f7b2154eef0d434b16d06b2effa70b5153b8a17af56d6a286c04d7842c", func := "tamis/tamislaw04.CodePairs", spec := "codePairs", unfollowed := true, recurses := true, apart := false }
def CodePairsSaid : Prop := codePairsRow.holds Try.pinned (OpenSpec.ofChange codePairsSpec)

/-- ITS FALSE NEIGHBOUR: 'it returns false'. Refute it at one input. -/
def codePairsWrong : ChangeSpec := { name := "codePairs", fn := fun _ => fun
  | [d] => { results := [.lit (.bool false)], args := [d] }
  | _ => none }
def CodePairsWrongFalsely : Prop := codePairsRow.holds Try.pinned (OpenSpec.ofChange codePairsWrong)

/- THE SECOND FORM. 'bulk': how many values and letters a reading holds, each counted each time it is reached (what is shared counts as often as it is met; a slice's spare places count too). A statement '..UptoSaid' is the law's where the arguments, and the package variables that the reading takes, are together of bulk at most 1048576: NARROWER than '..Said'. Prove '..Said' where nothing that the law and all that it calls make is longer than what came in: it says more and counts as full. Else prove '..UptoSaid'. A law counts once. -/
mutual
def uptoBulk {H : Type} : DataW H → Nat
  | .lit (.string bytes) => bytes.length + 1
  | .lit _ => 1
  | .nil => 1
  | .ptr d => uptoBulk d + 1
  | .slice elems spare => uptoBulkAll elems + uptoBulkAll spare + 1
  | .agg parts => uptoBulkAll parts + 1
  | .iface _ d => uptoBulk d + 1
  | .map entries => uptoBulkEntries entries + 1
  | .held _ => 1
def uptoBulkAll {H : Type} : List (DataW H) → Nat
  | [] => 0
  | d :: r => uptoBulk d + uptoBulkAll r
def uptoBulkEntries {H : Type} : List (Lit × DataW H) → Nat
  | [] => 0
  | x :: r => uptoBulkEntry x + uptoBulkEntries r
def uptoBulkEntry {H : Type} : Lit × DataW H → Nat
  | (.string bytes, d) => bytes.length + uptoBulk d + 1
  | (_, d) => uptoBulk d + 1
 end
def uptoSmall : (H : Type) → List (DataW H) → Bool := fun _ ds => decide (uptoBulkAll ds ≤ 1048576)
def OpenSpec.upto (s : _root_.Go.ChangeSpec) : _root_.Go.OpenSpec := { _root_.Go.OpenSpec.ofChange s with cond := some uptoSmall }

/-- 'tamislaw04.CodeTells', WHERE WHAT IT READS IS OF BULK AT MOST 1048576: true; the input reads as it did. -/
def codeTellsUptoRow : OpenClaim := { program := "ytkcecfoeimpfeaa", sum := "3ed4c3f7b2154eef0d434b16d06b2effa70b5153b8a17af56d6a286c04d7842c", func := "tamis/tamislaw04.CodeTells", spec := "codeTells", unfollowed := true, recurses := true, apart := false, narrowed := true }
def CodeTellsUptoSaid : Prop := codeTellsUptoRow.holds Try.pinned (OpenSpec.upto codeTellsSpec)

/-- 'tamislaw04.CodeNames', WHERE WHAT IT READS IS OF BULK AT MOST 1048576: true; the input reads as it did. -/
def codeNamesUptoRow : OpenClaim := { program := "ytkcecfoeimpfeaa", sum := "3ed4c3f7b2154eef0d434b16d06b2effa70b5153b8a17af56d6a286c04d7842c", func := "tamis/tamislaw04.CodeNames", spec := "codeNames", unfollowed := true, recurses := true, apart := false, narrowed := true }
def CodeNamesUptoSaid : Prop := codeNamesUptoRow.holds Try.pinned (OpenSpec.upto codeNamesSpec)

/-- 'tamislaw04.CodeAll', WHERE WHAT IT READS IS OF BULK AT MOST 1048576: true; the input reads as it did. -/
def codeAllUptoRow : OpenClaim := { program := "ytkcecfoeimpfeaa", sum := "3ed4c3f7b2154eef0d434b16d06b2effa70b5153b8a17af56d6a286c04d7842c", func := "tamis/tamislaw04.CodeAll", spec := "codeAll", unfollowed := true, recurses := true, apart := false, narrowed := true }
def CodeAllUptoSaid : Prop := codeAllUptoRow.holds Try.pinned (OpenSpec.upto codeAllSpec)

/-- 'tamislaw04.CodeX', WHERE WHAT IT READS IS OF BULK AT MOST 1048576: true; the input reads as it did. -/
def codeXUptoRow : OpenClaim := { program := "ytkcecfoeimpfeaa", sum := "3ed4c3f7b2154eef0d434b16d06b2effa70b5153b8a17af56d6a286c04d7842c", func := "tamis/tamislaw04.CodeX", spec := "codeX", unfollowed := true, recurses := true, apart := false, narrowed := true }
def CodeXUptoSaid : Prop := codeXUptoRow.holds Try.pinned (OpenSpec.upto codeXSpec)

/-- 'tamislaw04.CodePairs', WHERE WHAT IT READS IS OF BULK AT MOST 1048576: true; the input reads as it did. -/
def codePairsUptoRow : OpenClaim := { program := "ytkcecfoeimpfeaa", sum := "3ed4c3f7b2154eef0d434b16d06b2effa70b5153b8a17af56d6a286c04d7842c", func := "tamis/tamislaw04.CodePairs", spec := "codePairs", unfollowed := true, recurses := true, apart := false, narrowed := true }
def CodePairsUptoSaid : Prop := codePairsUptoRow.holds Try.pinned (OpenSpec.upto codePairsSpec)

end Rows
end Go.Proofs.Ytkcecfoeimpfeaa
