/- Two calls printed alike are one; a call without a name is printed by its number. No condition. -/
import Derived.Test.YtpgjcjgmokfofaaDoorFTamislaw19TableOne
import Derived.Test.YtpgjcjgmokfofaaDoorGPure19
namespace Go.Proofs.YtpgjcjgmokfofaaDoor.Pure
set_option linter.unusedSimpArgs false
set_option linter.unusedVariables false
open Go.RowKit Go.Proofs.YtpgjcjgmokfofaaDoor.Pr Go.Proofs.YtpgjcjgmokfofaaDoorW.PrintWords Go.Proofs.YtpgjcjgmokfofaaDoorW.PrintLast Go.Proofs.YtpgjcjgmokfofaaDoorW.PrintMore

theorem TableOne (a0 a1 a2 : Int) (w0 : (Lit.int .u32 a0).wf = true) (w1 : (Lit.int .u32 a1).wf = true) (w2 : (Lit.int .u32 a2).wf = true) : ∃ k, tamislaw19_TableOne.f k a0 a1 a2 = some true := by
  obtain ⟨K, hK⟩ := refNumber (wf32 w1).1 (wf32 w1).2
  refine ⟨K, ?_⟩
  have e := hK K (Nat.le_refl _)
  simp only at e
  have hq : (((printT a0 a1).toList == (printT a0 a2).toList) == (a1 == a2)) = true := by
    by_cases h : a1 = a2
    · subst h; simp
    · have h1 : (printT a0 a1).toList ≠ (printT a0 a2).toList := fun q => h (print_inj w1 w2 (te.1 q))
      rw [beq_eq_false_iff_ne.2 h1, beq_eq_false_iff_ne.2 h]; rfl
  unfold tamislaw19_TableOne.f awake19.f
  simp only [print_f w0 w1, print_f w0 w2, name_f w0 w1, Option.bind_some, hq, if_true, e]
  by_cases hz : tAt (tabOf a0) a1 = ⟨#[]⟩
  · rw [if_pos (tn.2 hz), if_pos (by rw [print_num hz]), if_pos (tn.2 hz)]
  · rw [if_neg (fun q => hz (tn.1 q)), if_neg (fun q => hz (tn.1 q)), print_name hz]
    simp
end Go.Proofs.YtpgjcjgmokfofaaDoor.Pure
