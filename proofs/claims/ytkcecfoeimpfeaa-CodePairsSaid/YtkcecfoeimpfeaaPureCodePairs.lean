/- CodePairs: at the 41 codes of the table by running the plain functions; at every other code Kind answers 0. -/
import Derived.Test.YtkcecfoeimpfeaaFTamislaw04CodePairs
import Derived.Test.YtkcecfoeimpfeaaGPure04
namespace Go.Proofs.Ytkcecfoeimpfeaa.Pure
open Go.RowKit Go.Proofs.Ytkcecfoeimpfeaa.Pr Go.Proofs.YtkcecfoeimpfeaaW.PrintWords Go.Proofs.YtkcecfoeimpfeaaW.PrintLast

theorem codePairs_hit : ∀ c ∈ codes, tamislaw04_CodePairs.f 60 c = some true := by decide +kernel
theorem pairs_out (a0 t : Int) (k : Nat) (hk : tamislaw04_awake.f k = some true) : tamislaw04_CodePairs.j0 (k + 1) a0 t true = some true := by
  simp [tamislaw04_CodePairs.j0, hk]
theorem CodePairs : tamislaw04_CodePairs.Pure := by
  intro a0 hw
  refine ⟨61, ?_⟩
  by_cases h : a0 ∈ codes
  · exact tamislaw04_CodePairs.mono a0 60 _ (codePairs_hit a0 h)
  · have ha : tamislaw04_awake.f 61 = some true := tamislaw04_awake.mono 60 _ awake_true
    unfold tamislaw04_CodePairs.f
    rw [ha, kind_miss hw h]
    exact pairs_out a0 0 60 awake_true
end Go.Proofs.Ytkcecfoeimpfeaa.Pure
