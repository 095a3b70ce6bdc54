/- Two programs' bytes, one behind the other, are both programs', one behind the other. No condition. -/
import Derived.Test.YtjgapcidhoecfaaFTamislaw02InstrJoins
import Derived.Test.YtjgapcidhoecfaaGPure02b
namespace Go.Proofs.Ytjgapcidhoecfaa.Pure
open Go.RowKit Go.Proofs.Ytjgapcidhoecfaa.Pr Go.Proofs.YtjgapcidhoecfaaW.PrintWords Go.Proofs.YtjgapcidhoecfaaW.PrintLast

theorem flat_inj (a b : List (S39)) (ha : ∀ x ∈ a, okI x) (hb : ∀ x ∈ b, okI x) (h : a.flatMap oneB = b.flatMap oneB) : a = b := by
  have e1 := dec_enc a ha []
  have e2 := dec_enc b hb []
  rw [h] at e1
  rw [e2] at e1
  simpa [decL] using e1.symm

theorem InstrJoins : tamislaw02_InstrJoins.Pure := by
  intro a b hoka hlena hokb hlenb
  have ha : ∀ x ∈ a, okI x := fun x hx => ok_of x (hoka x hx)
  have hb : ∀ x ∈ b, okI x := fun x hx => ok_of x (hokb x hx)
  refine ⟨3000, ?_⟩
  unfold tamislaw02_InstrJoins.f awake02.f
  simp only [Option.bind_some, if_true]
  have out : tamislaw02_InstrJoins.j0 3000 a b true = some true := by simp [tamislaw02_InstrJoins.j0, awake02.f]
  by_cases h0 : (a.length : Int) = 0
  · rw [if_pos h0]; exact out
  · rw [if_neg h0]
    by_cases h1 : (b.length : Int) = 0
    · rw [if_pos h1]; exact out
    · rw [if_neg h1]
      by_cases h2 : wrap64 ((a.length : Int) + (b.length : Int)) > 300
      · rw [decide_eq_true h2]; exact out
      · rw [decide_eq_false h2]
        have hs : a.length + b.length ≤ 300 := by unfold wrap64 at h2; omega
        have fa := flat_length a
        have fb := flat_length b
        simp only [tamislaw02_InstrJoins.j0]
        rw [if_neg (by simp), print_ok a (by omega) (by omega), print_ok b (by omega) (by omega)]
        simp only [Option.bind_some]
        rw [if_pos (by rw [ba_size, ba_size]; omega), ba_append, ← List.flatMap_append]
        have hab : ∀ x ∈ a ++ b, okI x := fun x hx => by
          rcases List.mem_append.1 hx with hx | hx
          · exact ha x hx
          · exact hb x hx
        rw [read_flat (a ++ b) hab (by rw [List.length_append]; omega) (by rw [List.length_append]; omega) _ (by rw [List.length_append]; omega)]
        simp only [Option.bind_some, if_true, List.nil_append, List.length_nil]
        rw [if_pos (by omega)]
        rw [if_pos (by omega), ref_Same_self (a ++ b) _ (by rw [List.length_append]; omega) (by rw [List.length_append]; omega)]
        simp only [Option.bind_some, if_true]
        obtain ⟨r, hr, hr2⟩ := ref_Same_eq a b 2999 (by omega) (by omega)
        rw [hr]
        simp only [Option.bind_some, ba_toList]
        congr 1
        rw [beq_iff_eq, Bool.eq_iff_iff, beq_iff_eq, hr2]
        exact ⟨fun h => flat_inj a b ha hb h, fun h => by rw [h]⟩
end Go.Proofs.Ytjgapcidhoecfaa.Pure
