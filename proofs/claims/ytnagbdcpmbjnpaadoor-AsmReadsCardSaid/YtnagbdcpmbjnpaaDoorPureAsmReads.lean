/- Any text is the program that the document says, or is refused where it says; printed it is the same text. No condition. -/
import Derived.Test.YtnagbdcpmbjnpaaDoorFTamislaw05AsmReads
import Derived.Test.YtnagbdcpmbjnpaaDoorGPure05D
import Derived.Test.YtnagbdcpmbjnpaaDoorGRow
namespace Go.Proofs.YtnagbdcpmbjnpaaDoor.Pure
set_option linter.unusedSimpArgs false
set_option linter.unusedVariables false
open Go.RowKit Go.Proofs.YtnagbdcpmbjnpaaDoor.Pr Go.Proofs.YtnagbdcpmbjnpaaDoorW.PrintWords Go.Proofs.YtnagbdcpmbjnpaaDoorW.PrintLast

theorem AsmReads (a0 : ByteArray) (w0 : a0.size ≤ 140737488351232) : ∃ k, tamislaw05_AsmReads.f k a0 = some true := by
  rw [mk_list a0] at w0 ⊢
  generalize a0.data.toList = s at w0 ⊢
  unfold tamislaw05_AsmReads.f awake05.f
  by_cases hb : ((mk s).size : Int) > 3000
  · refine ⟨1, ?_⟩
    rw [decide_eq_true hb, Option.bind_some, if_pos rfl]
    rfl
  · have hl : s.length < 4294967281 := by rw [mk_size] at hb; omega
    obtain ⟨K1, h1⟩ := asmRead s hl
    obtain ⟨K2, h2⟩ := refRead s hl
    have hR : (readX s).1.length < 4611686018427387904 ∧ (readX s).1.length ≤ s.length := by
      have := go_short s
      omega
    obtain ⟨K3, h3⟩ := same (readX s).1 hR.1
    refine ⟨K1 + K2 + K3 + 1, ?_⟩
    have e1 := h1 (K1 + K2 + K3) (by omega)
    have e2 := h2 (K1 + K2 + K3) (by omega)
    have e3 := h3 (K1 + K2 + K3) (by omega)
    simp only at e1 e2 e3
    rw [decide_eq_false hb, Option.bind_some, if_pos rfl]
    simp only [tamislaw05_AsmReads.j0]
    rw [if_neg (by decide), e1, Option.bind_some, e2, Option.bind_some, if_pos rfl, if_pos rfl, e3, Option.bind_some, if_pos rfl]
    by_cases hz : (readX s).2.2 = 0
    · obtain ⟨hp, hs, hg, hne, hle⟩ := readX_back (s := s) (l := (readX s).1) (p := (readX s).2.1) (Prod.ext rfl (Prod.ext rfl hz))
      rw [asmPrint _ (fun x hx => (hg x hx).1), Option.bind_some, if_pos hz, printX_of hg hne hle, if_pos rfl, mk_toList, mk_toList, ← hs]
      simp
    · have hnil := read_none s hz
      rw [hnil, asmPrint [] (by simp), Option.bind_some, if_neg hz]

end Go.Proofs.YtnagbdcpmbjnpaaDoor.Pure
