/- CodeTells: at the 41 codes of the table by running the plain functions; at every other code Kind and Name answer nothing, and so does the document's walk over its list. -/
import Derived.Test.YtkcecfoeimpfeaaFTamislaw04CodeTells
import Derived.Test.YtkcecfoeimpfeaaGPure04
namespace Go.Proofs.Ytkcecfoeimpfeaa.Pure
open Go.RowKit Go.Proofs.Ytkcecfoeimpfeaa.Pr Go.Proofs.YtkcecfoeimpfeaaW.PrintWords Go.Proofs.YtkcecfoeimpfeaaW.PrintLast

theorem codeTells_hit : ∀ c ∈ codes, tamislaw04_CodeTells.f 60 c = some true := by decide +kernel

theorem refName_l0 (a0 : Int) (ns : List ByteArray) (l : List Int) (hl : l.length ≤ 1000) (h : a0 ∉ l) : ∀ (n i : Nat), i + n = l.length → tamisref04_Name.l0 (n + 1) a0 ns l i = some ⟨#[]⟩
  | 0, i, e => by
    unfold tamisref04_Name.l0
    rw [if_neg (by omega)]
  | n + 1, i, e => by
    unfold tamisref04_Name.l0
    have hi : i < l.length := by omega
    have hr : rd l (i : Int) ≠ a0 := by
      intro e
      apply h
      rw [← e]
      unfold rd
      simp [hi]
    rw [if_pos (by omega), if_pos (by omega), if_neg hr]
    have hw : wrap64 ((i : Int) + 1) = ((i + 1 : Nat) : Int) := by unfold wrap64; omega
    rw [hw]
    exact refName_l0 a0 ns l hl h n (i + 1) (by omega)
theorem refName_miss {c : Int} (h : c ∉ codes) : tamisref04_Name.f 42 c = some ⟨#[]⟩ := by
  have hc : codes = [0, 1, 2, 3, 4, 5, 6, 7, 12, 20, 21, 22, 28, 29, 32, 36, 37, 44, 45, 52, 53, 60, 61, 68, 69, 76, 77, 84, 92, 96, 97, 100, 108, 116, 124, 128, 129, 132, 135, 164, 172] := by decide +kernel
  rw [hc] at h
  exact refName_l0 c _ _ (by decide) h 41 0 rfl
theorem refName_miss60 {c : Int} (h : c ∉ codes) : tamisref04_Name.f 60 c = some ⟨#[]⟩ := by
  have : ∀ n, tamisref04_Name.f (42 + n) c = some ⟨#[]⟩ := fun n => by
    induction n with
    | zero => exact refName_miss h
    | succ n ih => exact tamisref04_Name.mono c (42 + n) _ ih
  exact this 18
theorem CodeTells : tamislaw04_CodeTells.Pure := by
  intro a0 hw
  refine ⟨60, ?_⟩
  by_cases h : a0 ∈ codes
  · exact codeTells_hit a0 h
  · have h1 := kind_miss hw h
    have h2 := name_miss hw h
    have h3 := refName_miss60 h
    have h4 : tamisref04_Kind.f 60 a0 = some 0 := by
      unfold tamisref04_Kind.f
      have he : (⟨#[]⟩ : ByteArray).toList = ([] : List UInt8) := by decide +kernel
      rw [h3]
      simp only [Option.bind_some, he, if_true]
    have h5 : code_Reads.f 60 a0 = some (false, false) := by unfold code_Reads.f; rw [h1]; rfl
    have h6 : code_Writes.f 60 a0 = some (false, false) := by unfold code_Writes.f; rw [h1]; rfl
    have h7 : code_Ends.f a0 = some false := by unfold code_Ends.f; rw [h1]; rfl
    have h8 : tamisref04_ReadsA.f 60 a0 = some false := by unfold tamisref04_ReadsA.f; rw [h4]; rfl
    have h9 : tamisref04_ReadsX.f 60 a0 = some false := by unfold tamisref04_ReadsX.f; rw [h4]; rfl
    have h10 : tamisref04_WritesA.f 60 a0 = some false := by unfold tamisref04_WritesA.f; rw [h4]; rfl
    have h11 : tamisref04_WritesX.f 60 a0 = some false := by unfold tamisref04_WritesX.f; rw [h4]; rfl
    unfold tamislaw04_CodeTells.f
    rw [h5, h6, h4, awake_true, h1, h2, h3, h7, h8, h9, h10, h11]
    decide +kernel
end Go.Proofs.Ytkcecfoeimpfeaa.Pure
