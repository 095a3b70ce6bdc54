/- Any program has the text that the document says, or none, and is read as it was. No condition. -/
import Derived.Test.YtnagbdcpmbjnpaaDoorFTamislaw05AsmPrints
import Derived.Test.YtnagbdcpmbjnpaaDoorGPure05D
import Derived.Test.YtnagbdcpmbjnpaaDoorGRow
namespace Go.Proofs.YtnagbdcpmbjnpaaDoor.Pure
set_option linter.unusedSimpArgs false
set_option linter.unusedVariables false
open Go.RowKit Go.Proofs.YtnagbdcpmbjnpaaDoor.Pr Go.Proofs.YtnagbdcpmbjnpaaDoorW.PrintWords Go.Proofs.YtnagbdcpmbjnpaaDoorW.PrintLast

theorem AsmPrints (l0 : List (S25)) (w0 : ∀ x ∈ l0, okS25 x) (z0 : l0.length * 8 ≤ 140737488351232) : ∃ k, tamislaw05_AsmPrints.f k l0 = some true := by
  unfold tamislaw05_AsmPrints.f awake05.f
  by_cases hb : ((l0.length : Int)) > 100
  · refine ⟨1, ?_⟩
    rw [decide_eq_true hb, Option.bind_some, if_pos rfl]
    rfl
  · have hx : ∀ x ∈ l0, okX x := fun x h => okS_range x (w0 x h)
    have hlen : l0.length ≤ 100 := by omega
    have hP := asmPrint l0 hx
    obtain ⟨K2, h2⟩ := refPrint l0 hx (by omega)
    have hs : (printX l0).1.length ≤ 51 * l0.length := by
      by_cases hz : (printX l0).2 = 0
      · obtain ⟨_, _, _, e⟩ := printX_good hx hz
        rw [e]
        exact textX_len l0 hx
      · rw [printX_bad hz]
        simp
    obtain ⟨K1, h1⟩ := asmRead (printX l0).1 (by omega)
    obtain ⟨K3, h3⟩ := same l0 (by omega)
    refine ⟨K1 + K2 + K3 + 1, ?_⟩
    have e1 := h1 (K1 + K2 + K3) (by omega)
    have e2 := h2 (K1 + K2 + K3) (by omega)
    have e3 := h3 (K1 + K2 + K3) (by omega)
    simp only at e1 e2 e3
    rw [decide_eq_false hb, Option.bind_some, if_pos rfl]
    simp only [tamislaw05_AsmPrints.j0]
    rw [if_neg (by decide), Option.bind_some, if_pos (by simp only [List.length_nil]; omega), List.nil_append, hP, Option.bind_some, e2, Option.bind_some, e1, Option.bind_some, if_pos rfl, if_pos rfl]
    by_cases hz : (printX l0).2 = 0
    · obtain ⟨hg, hne, hle, e⟩ := printX_good hx hz
      rw [if_pos hz, e, readX_text hg hne hle, if_pos rfl, if_pos rfl, e3]
      rfl
    · rw [if_neg hz]

end Go.Proofs.YtnagbdcpmbjnpaaDoor.Pure
