/- The plain facts on the codes that the five laws of layer 4 share: what Kind, Name and Find answer at a code that is not in the table. -/
import Derived.Test.YtkcecfoeimpfeaaGCodeAll
import Derived.Test.YtkcecfoeimpfeaaGCodeFind
import Derived.Test.YtkcecfoeimpfeaaGCodeLook
import Derived.Test.YtkcecfoeimpfeaaFTamislaw04Awake
import Derived.Test.YtkcecfoeimpfeaaFTamisref04All
namespace Go.Proofs.Ytkcecfoeimpfeaa.Pure
open Go.RowKit Go.Proofs.Ytkcecfoeimpfeaa.Pr Go.Proofs.YtkcecfoeimpfeaaW.PrintWords Go.Proofs.YtkcecfoeimpfeaaW.PrintLast

def codes : List Int := cSorted.map (·.1)

theorem wf_codes : ∀ c ∈ codes, (Lit.int .u16 c).wf = true := by decide +kernel
theorem cAt_miss {c : Int} (h : c ∉ codes) : cAt c = (0, ⟨#[]⟩) := by
  unfold cAt
  rw [List.find?_eq_none.2 (fun e he => by
    intro hc
    exact h (List.mem_map.2 ⟨e, he, by simpa using hc⟩))]
theorem kind_miss {c : Int} (hw : (Lit.int .u16 c).wf = true) (h : c ∉ codes) : code_Kind.f c = some 0 := by unfold code_Kind.f; rw [if_pos hw, cAt_miss h]
theorem name_miss {c : Int} (hw : (Lit.int .u16 c).wf = true) (h : c ∉ codes) : code_Name.f c = some ⟨#[]⟩ := by unfold code_Name.f; rw [if_pos hw, cAt_miss h]
theorem awake_true : tamislaw04_awake.f 60 = some true := by decide +kernel
end Go.Proofs.Ytkcecfoeimpfeaa.Pure
