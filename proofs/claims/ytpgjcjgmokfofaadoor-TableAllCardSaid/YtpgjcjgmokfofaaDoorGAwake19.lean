/- The program is awake: what the laws of layer 19 ask first. Condition: GlobW. -/
import Derived.Test.YtpgjcjgmokfofaaDoorFTamislaw19Awake
namespace Go.Proofs.YtpgjcjgmokfofaaDoor.Pr
open Go.RowKit Go.Proofs.YtpgjcjgmokfofaaDoorW.PrintWords Go.Proofs.YtpgjcjgmokfofaaDoorW.PrintLast

/-- The tables lie in rising order. -/
theorem tab_sorted (a : Int) : ((tabOf a).map (·.1)).Pairwise (fun x y => decide (x ≤ y) = true) := by
  unfold tabOf
  split
  · decide +kernel
  split
  · decide +kernel
  split
  · decide +kernel
  · simp
theorem sortI_tab (a : Int) : sortI ((tabOf a).map (·.1)) = (tabOf a).map (·.1) := List.mergeSort_of_pairwise (tab_sorted a)
theorem all_eq (a : Int) : table_All.f a = if (Lit.int .u32 a).wf = true then some ((tabOf a).map (·.1)) else none := by
  unfold table_All.f
  rw [sortI_tab]
theorem awake_true : tamislaw19_awake.f 60 = some true := by
  unfold tamislaw19_awake.f
  simp only [all_eq]
  decide +kernel
def awake19.f : Option Bool := some true
theorem awake19.calls (r : Bool) (w : World) (hG : GlobW w) (h : awake19.f = some r) : Calls Tryd.prog 8 #[] w fun e w' => e = .returned (.bool r) ∧ Below w.heap.size w w' := by
  have h1 : r = true := (Option.some.inj h).symm
  subst h1
  exact tamislaw19_awake.calls 60 true w rfl hG awake_true
end Go.Proofs.YtpgjcjgmokfofaaDoor.Pr
