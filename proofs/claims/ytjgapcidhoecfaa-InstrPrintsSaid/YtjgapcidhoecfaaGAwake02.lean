/- awake of layer 2 answers true. -/
import Derived.Test.YtjgapcidhoecfaaFTamislaw02Awake
namespace Go.Proofs.Ytjgapcidhoecfaa.Pr
open Go.RowKit

def awake02.f : Option Bool := some true
theorem awake02_true : tamislaw02_awake.f 8 = some true := by kernel_rfl
theorem awake02.calls (r : Bool) (w : World) (h : awake02.f = some r) : Calls Try.prog 8 #[] w fun e w' => e = .returned (.bool r) ∧ Below w.heap.size w w' := by
  obtain rfl := Option.some.inj h
  exact tamislaw02_awake.calls 8 true w rfl awake02_true
end Go.Proofs.Ytjgapcidhoecfaa.Pr
