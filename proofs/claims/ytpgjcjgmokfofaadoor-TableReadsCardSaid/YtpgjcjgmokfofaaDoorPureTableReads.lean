/- What is printed is read as that call; any text is the call that the document says. No condition. -/
import Derived.Test.YtpgjcjgmokfofaaDoorFTamislaw19TableReads
import Derived.Test.YtpgjcjgmokfofaaDoorGPure19
namespace Go.Proofs.YtpgjcjgmokfofaaDoor.Pure
set_option linter.unusedSimpArgs false
set_option linter.unusedVariables false
open Go.RowKit Go.Proofs.YtpgjcjgmokfofaaDoor.Pr Go.Proofs.YtpgjcjgmokfofaaDoorW.PrintWords Go.Proofs.YtpgjcjgmokfofaaDoorW.PrintLast Go.Proofs.YtpgjcjgmokfofaaDoorW.PrintMore

theorem TableReads (a0 a1 : Int) (a2 : ByteArray) (w0 : (Lit.int .u32 a0).wf = true) (w1 : (Lit.int .u32 a1).wf = true) (w2 : a2.size ≤ 140737488351232) : ∃ k, tamislaw19_TableReads.f k a0 a1 a2 = some true := by
  obtain ⟨K1, h1⟩ := refRead a0 a2 (by omega)
  obtain ⟨K2, h2⟩ := refPrint a0 (wf32 w1).1 (wf32 w1).2
  refine ⟨K1 + K2 + 1, ?_⟩
  have e1 := h1 (K1 + K2) (by omega)
  have e2 := h2 (K1 + K2) (by omega)
  simp only at e1 e2
  unfold tamislaw19_TableReads.f awake19.f
  rw [Option.bind_some, if_pos rfl]
  rw [tamislaw19_TableReads.j0]
  unfold awake19.f
  by_cases hb : (a2.size : Int) > 50
  · rw [decide_eq_true hb, if_pos rfl]
    rfl
  · obtain ⟨hw, hp⟩ := read_wf a0 a2
    rw [decide_eq_false hb, if_neg (by decide)]
    rw [print_f w0 w1, Option.bind_some, read_f w0 (print_size a0 w1), Option.bind_some, read_f w0 (by omega), Option.bind_some, e1, Option.bind_some, e2, Option.bind_some, if_pos rfl, read_print w1, if_pos rfl, if_pos rfl, ← read_same, if_pos rfl, if_pos (by simp)]
    by_cases hr : (readT a0 a2).2 = true
    · rw [if_pos hr, print_f w0 hw, Option.bind_some, hp hr]
      simp
    · rw [if_neg hr]
end Go.Proofs.YtpgjcjgmokfofaaDoor.Pure
