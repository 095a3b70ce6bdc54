/- CodeNames: the code of the table by running the plain functions; the name, whatever it is, is one of the table's or is not found. -/
import Derived.Test.YtkcecfoeimpfeaaFTamislaw04CodeNames
import Derived.Test.YtkcecfoeimpfeaaGPure04
namespace Go.Proofs.Ytkcecfoeimpfeaa.Pure
open Go.RowKit Go.Proofs.Ytkcecfoeimpfeaa.Pr Go.Proofs.YtkcecfoeimpfeaaW.PrintWords Go.Proofs.YtkcecfoeimpfeaaW.PrintLast

theorem self_name : ∀ c ∈ codes, findOf (cAt c).2 = (c, true) ∧ ((cAt c).2.toList != ([] : List UInt8)) = true := by decide +kernel
theorem no_name : findOf ⟨#[]⟩ = (0, false) := by decide +kernel
theorem entry_name : ∀ e ∈ cSorted, (cAt e.1).2 = e.2.2 ∧ (Lit.int .u16 e.1).wf = true ∧ (e.2.2.toList != ([] : List UInt8)) = true := by decide +kernel
theorem find_any (name : ByteArray) : findOf name = (0, false) ∨ ∃ e, findOf name = (e, true) ∧ ∃ s, code_Name.f e = some s ∧ s.toList = name.toList ∧ (name.toList != ([] : List UInt8)) = true := by
  unfold findOf
  cases hf : cSorted.find? (fun e => e.2.2.data.toList == name.data.toList) with
  | none => exact .inl rfl
  | some e =>
    have hm := List.mem_of_find?_eq_some hf
    have hs := List.find?_some hf
    simp only [beq_iff_eq] at hs
    obtain ⟨h1, h2, h3⟩ := entry_name e hm
    have hn : e.2.2.toList = name.toList := by rw [ByteArray.toList_eq, ByteArray.toList_eq]; exact hs
    refine .inr ⟨e.1, rfl, e.2.2, ?_, hn, ?_⟩
    · unfold code_Name.f
      rw [if_pos h2, h1]
    · rw [← hn]; exact h3

theorem CodeNames : tamislaw04_CodeNames.Pure := by
  intro a0 a1 hw _
  refine ⟨61, ?_⟩
  have ha : tamislaw04_awake.f 61 = some true := tamislaw04_awake.mono 60 _ awake_true
  unfold tamislaw04_CodeNames.f
  rw [ha]
  show tamislaw04_CodeNames.j0 (60 + 1) a0 a1 (decide ((a1.size : Int) > 50)) = some true
  have hk := awake_true
  generalize 60 = k at hk ⊢
  simp only [tamislaw04_CodeNames.j0]
  by_cases hz : (a1.size : Int) > 50
  · rw [decide_eq_true hz, if_pos rfl, hk]
    rfl
  · rw [decide_eq_false hz, if_neg (by simp)]
    have hn : code_Name.f a0 = some (cAt a0).2 := by unfold code_Name.f; rw [if_pos hw]
    have hf : (code_Find.f (cAt a0).2 = some (a0, true) ∧ ((cAt a0).2.toList != ([] : List UInt8)) = true) ∨ (code_Find.f (cAt a0).2 = some (0, false) ∧ ((cAt a0).2.toList != ([] : List UInt8)) = false) := by
      by_cases h : a0 ∈ codes
      · obtain ⟨h1, h2⟩ := self_name a0 h
        exact .inl ⟨congrArg some h1, h2⟩
      · rw [cAt_miss h]
        exact .inr ⟨congrArg some no_name, by decide +kernel⟩
    have hg : ∀ b : Bool, ((code_Find.f a1).bind fun bt160 => (if bt160.2 = true then ((code_Name.f bt160.1).bind fun t163 => (if t163.toList = a1.toList then (some (a1.toList != ([] : List UInt8))) else (some false))) else (if bt160.1 = 0 then (some true) else (some false)))) = some true := fun _ => by
      show (some (findOf a1)).bind _ = _
      rcases find_any a1 with h | ⟨e, h, s, h1, h2, h3⟩
      · rw [h]; rfl
      · rw [h]
        simp only [Option.bind_some, if_true]
        rw [h1]
        simp only [Option.bind_some]
        rw [if_pos h2, h3]
    rw [hn]
    simp only [Option.bind_some]
    rcases hf with ⟨h1, h2⟩ | ⟨h1, h2⟩
    · rw [h1, h2]
      simpa using hg true
    · rw [h1, h2]
      simpa using hg true
end Go.Proofs.Ytkcecfoeimpfeaa.Pure
