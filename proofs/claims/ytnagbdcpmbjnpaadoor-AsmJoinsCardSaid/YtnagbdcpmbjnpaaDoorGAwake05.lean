/- The program is awake: what the laws of layer 5 ask first. Condition: GlobW. -/
import Derived.Test.YtnagbdcpmbjnpaaDoorFTamislaw05Awake
namespace Go.Proofs.YtnagbdcpmbjnpaaDoor.Pr
open Go.RowKit Go.Proofs.YtnagbdcpmbjnpaaDoorW.PrintWords Go.Proofs.YtnagbdcpmbjnpaaDoorW.PrintLast

theorem awake_true : tamislaw05_awake.f 60 = some true := by decide +kernel
def awake05.f : Option Bool := some true
theorem awake05.calls (r : Bool) (w : World) (hG : GlobW w) (h : awake05.f = some r) : Calls Tryd.prog 9 #[] w fun e w' => e = .returned (.bool r) ∧ Below w.heap.size w w' := by
  have h1 : r = true := (Option.some.inj h).symm
  subst h1
  exact tamislaw05_awake.calls 60 true w rfl hG awake_true
end Go.Proofs.YtnagbdcpmbjnpaaDoor.Pr
