/- CodeAll: at the 41 codes of the table by running the plain functions; at every other code no place of the list is it, and Kind answers 0. -/
import Derived.Test.YtkcecfoeimpfeaaFTamislaw04CodeAll
import Derived.Test.YtkcecfoeimpfeaaGPure04
namespace Go.Proofs.Ytkcecfoeimpfeaa.Pure
open Go.RowKit Go.Proofs.Ytkcecfoeimpfeaa.Pr Go.Proofs.YtkcecfoeimpfeaaW.PrintWords Go.Proofs.YtkcecfoeimpfeaaW.PrintLast

theorem codeAll_hit : ∀ c ∈ codes, tamislaw04_CodeAll.f 60 c = some true := by decide +kernel

theorem codeAll_l0 (a0 : Int) (l : List Int) (hl : l.length ≤ 1000) (h : a0 ∉ l) (hr : ∀ i, i < l.length → 0 < i → rd l ((i : Int) - 1) < rd l (i : Int)) (m : Nat) (hm : tamislaw04_awake.f m = some true) (hk : code_Kind.f a0 = some 0) :
    ∀ (n i : Nat), i + n = l.length → tamislaw04_CodeAll.l0 (m + n + 1) a0 l l false l (l.length : Int) i = some true
  | 0, i, e => by
    unfold tamislaw04_CodeAll.l0
    rw [if_neg (by omega), hm, hk]
    simp
  | n + 1, i, e => by
    unfold tamislaw04_CodeAll.l0
    have hi : i < l.length := by omega
    have hne : (rd l (i : Int) == a0) = false := by
      rw [beq_eq_false_iff_ne]
      intro e
      apply h
      rw [← e]
      unfold rd
      simp [hi]
    have hw : wrap64 ((i : Int) + 1) = ((i + 1 : Nat) : Int) := by unfold wrap64; omega
    have hv : wrap64 ((i : Int) - 1) = (i : Int) - 1 := by unfold wrap64; omega
    have ih := codeAll_l0 a0 l hl h hr m hm hk n (i + 1) (by omega)
    rw [if_pos (by omega), if_pos (by omega), if_pos (by omega), if_neg (by omega), if_pos (by omega), if_pos rfl, hw, hv, hne]
    by_cases h0 : 0 < i
    · have := hr i hi h0
      rw [if_pos (by omega), if_pos (by omega), if_pos (by omega), if_neg (by omega), if_neg (by simp)]
      exact ih
    · rw [if_neg (by omega), if_neg (by simp)]
      exact ih
theorem CodeAll : tamislaw04_CodeAll.Pure := by
  intro a0 hw
  by_cases h : a0 ∈ codes
  · exact ⟨60, codeAll_hit a0 h⟩
  · refine ⟨60 + 41 + 1, ?_⟩
    have hr : ∀ i, i < codes.length → 0 < i → rd codes ((i : Int) - 1) < rd codes (i : Int) := by decide +kernel
    have := codeAll_l0 a0 codes (by decide +kernel) h hr 60 awake_true (kind_miss hw h) 41 0 (by decide +kernel)
    unfold tamislaw04_CodeAll.f code_All.f tamisref04_All.f
    have hc : codes = [0, 1, 2, 3, 4, 5, 6, 7, 12, 20, 21, 22, 28, 29, 32, 36, 37, 44, 45, 52, 53, 60, 61, 68, 69, 76, 77, 84, 92, 96, 97, 100, 108, 116, 124, 128, 129, 132, 135, 164, 172] := by decide +kernel
    rw [← hc]
    exact this
end Go.Proofs.Ytkcecfoeimpfeaa.Pure
