/- Any instruction has the line that the document says, or none, and is read as it was; any text is the instruction that it says, or none. No condition. -/
import Derived.Test.YtnagbdcpmbjnpaaDoorFTamislaw05AsmLines
import Derived.Test.YtnagbdcpmbjnpaaDoorGPure05
import Derived.Test.YtnagbdcpmbjnpaaDoorGRow
namespace Go.Proofs.YtnagbdcpmbjnpaaDoor.Pure
set_option linter.unusedSimpArgs false
set_option linter.unusedVariables false
open Go.RowKit Go.Proofs.YtnagbdcpmbjnpaaDoor.Pr Go.Proofs.YtnagbdcpmbjnpaaDoorW.PrintWords Go.Proofs.YtnagbdcpmbjnpaaDoorW.PrintLast

theorem AsmLines (c a b d : Int) (a1 : ByteArray) (w0 : okS25 ⟨c, a, b, d⟩) (w1 : a1.size ≤ 140737488351232) : ∃ k, tamislaw05_AsmLines.f k c a b d a1 = some true := by
  have hx : okX ⟨c, a, b, d⟩ := okS_range _ w0
  rw [mk_list a1] at *
  generalize a1.data.toList = s at *
  unfold tamislaw05_AsmLines.f awake05.f
  by_cases hb : ((mk s).size : Int) > 100
  · refine ⟨1, ?_⟩
    rw [decide_eq_true hb, Option.bind_some, if_pos rfl, tamislaw05_AsmLines.j0, if_pos rfl]
    rfl
  · have hs : s.length ≤ 100 := by rw [mk_size] at hb; omega
    have hok2 : ∀ o : Option I, o = parseX s → okX ⟨(packP o).1, (packP o).2.1, (packP o).2.2.1, (packP o).2.2.2.1⟩ := by
      intro o ho
      cases o with
      | none => exact ⟨by decide, by decide, by decide, by decide⟩
      | some x => exact ((parseX_iff s x).1 ho.symm).1
    obtain ⟨K1, h1⟩ := asmLine ⟨c, a, b, d⟩ hx
    obtain ⟨K2, h2⟩ := refLine ⟨c, a, b, d⟩ hx
    obtain ⟨K3, h3⟩ := refParse s (by omega)
    obtain ⟨K4, h4⟩ := asmLine _ (hok2 (parseX s) rfl)
    have hL := line_len ⟨c, a, b, d⟩ hx
    refine ⟨K1 + K2 + K3 + K4 + 1, ?_⟩
    have e1 := h1 (K1 + K2 + K3 + K4) (by omega)
    have e2 := h2 (K1 + K2 + K3 + K4) (by omega)
    have e3 := h3 (K1 + K2 + K3 + K4) (by omega)
    have e4 := h4 (K1 + K2 + K3 + K4) (by omega)
    simp only at e1 e2 e3 e4
    rw [decide_eq_false hb, Option.bind_some, if_pos rfl, tamislaw05_AsmLines.j0, if_neg (by decide), e1, Option.bind_some, e2, Option.bind_some, asmParse _ (by omega), Option.bind_some, asmParse _ (by omega), Option.bind_some, e3, Option.bind_some, e4, Option.bind_some, if_pos rfl, if_pos rfl]
    have tail : (if ((packP (parseX s)).1 == (packB (parseX s)).1 && ((packP (parseX s)).2.1 == (packB (parseX s)).2.1 && ((packP (parseX s)).2.2.1 == (packB (parseX s)).2.2.1 && ((packP (parseX s)).2.2.2.1 == (packB (parseX s)).2.2.2.1)))) = true then (if (((packP (parseX s)).2.2.2.2 == 0) == (packB (parseX s)).2.2.2.2) = true then (if (packB (parseX s)).2.2.2.2 = true then (if (mk (lineX ⟨(packP (parseX s)).1, (packP (parseX s)).2.1, (packP (parseX s)).2.2.1, (packP (parseX s)).2.2.2.1⟩).1).toList = (mk s).toList then (some ((lineX ⟨(packP (parseX s)).1, (packP (parseX s)).2.1, (packP (parseX s)).2.2.1, (packP (parseX s)).2.2.2.1⟩).2 == 0)) else (some false)) else (if (packP (parseX s)).2.2.2.2 = 3 then (some true) else (some false))) else (some false)) else (some false)) = some true := by
      cases hp : parseX s with
      | none => rfl
      | some x =>
        obtain ⟨_, hlx⟩ := (parseX_iff s x).1 hp
        have hlx' : lineX ⟨x.f0, x.f1, x.f2, x.f3⟩ = (s, 0) := hlx
        simp [packP, packB, hlx', mk_toList]
    by_cases hz : (lineX ⟨c, a, b, d⟩).2 = 0
    · have hp : parseX (lineX ⟨c, a, b, d⟩).1 = some ⟨c, a, b, d⟩ := (parseX_iff _ _).2 ⟨hx, Prod.ext rfl hz⟩
      rw [if_pos hz, hp, if_pos (by simp [packP]), if_pos (by simp [packP])]
      exact tail
    · rw [if_neg hz]
      exact tail

end Go.Proofs.YtnagbdcpmbjnpaaDoor.Pure
