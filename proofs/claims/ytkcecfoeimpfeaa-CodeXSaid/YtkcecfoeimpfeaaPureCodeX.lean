/- CodeX: at the 41 codes of the table by running the plain functions; at every other code Kind answers 0. -/
import Derived.Test.YtkcecfoeimpfeaaFTamislaw04CodeX
import Derived.Test.YtkcecfoeimpfeaaGPure04
namespace Go.Proofs.Ytkcecfoeimpfeaa.Pure
open Go.RowKit Go.Proofs.Ytkcecfoeimpfeaa.Pr Go.Proofs.YtkcecfoeimpfeaaW.PrintWords Go.Proofs.YtkcecfoeimpfeaaW.PrintLast

theorem codeX_hit : ∀ c ∈ codes, tamislaw04_CodeX.f 60 c = some true := by decide +kernel
theorem x_out (a0 : Int) (k : Nat) (hk : tamislaw04_awake.f k = some true) : tamislaw04_CodeX.j0 (k + 1) a0 true = some true := by
  simp [tamislaw04_CodeX.j0, hk]
theorem CodeX : tamislaw04_CodeX.Pure := by
  intro a0 hw
  refine ⟨61, ?_⟩
  by_cases h : a0 ∈ codes
  · exact tamislaw04_CodeX.mono a0 60 _ (codeX_hit a0 h)
  · have ha : tamislaw04_awake.f 61 = some true := tamislaw04_awake.mono 60 _ awake_true
    unfold tamislaw04_CodeX.f
    rw [ha, kind_miss hw h]
    exact x_out a0 60 awake_true
end Go.Proofs.Ytkcecfoeimpfeaa.Pure
