/- A beginning of a program's bytes is a beginning of the program, where it is whole instructions; else, or if it is nothing, it is refused. No condition. -/
import Derived.Test.YtjgapcidhoecfaaFTamislaw02InstrCuts
import Derived.Test.YtjgapcidhoecfaaGPure02b
namespace Go.Proofs.Ytjgapcidhoecfaa.Pure
open Go.RowKit Go.Proofs.Ytjgapcidhoecfaa.Pr Go.Proofs.YtjgapcidhoecfaaW.PrintWords Go.Proofs.YtjgapcidhoecfaaW.PrintLast

theorem flat_cut (l : List (S39)) (m : Nat) : (l.flatMap oneB).take (8 * m) = (l.take m).flatMap oneB := by
  induction l generalizing m with
  | nil => simp
  | cons x r ih =>
    cases m with
    | zero => simp
    | succ m =>
      rw [List.flatMap_cons, List.take_succ_cons, List.flatMap_cons, ← ih m]
      rw [List.take_append, oneB_length, List.take_of_length_le (by rw [oneB_length]; omega)]
      rw [show 8 * (m + 1) - 8 = 8 * m by omega]

theorem InstrCuts : tamislaw02_InstrCuts.Pure := by
  intro l n hok hlen hn
  have hl : ∀ x ∈ l, okI x := fun x hx => ok_of x (hok x hx)
  refine ⟨1800, ?_⟩
  unfold tamislaw02_InstrCuts.f awake02.f
  simp only [Option.bind_some, if_true]
  have out : tamislaw02_InstrCuts.j0 1800 l n true = some true := by simp [tamislaw02_InstrCuts.j0, awake02.f]
  by_cases h0 : (l.length : Int) = 0
  · rw [if_pos h0]; exact out
  · rw [if_neg h0]
    by_cases h1 : (l.length : Int) > 200
    · rw [if_pos h1]; exact out
    · rw [if_neg h1]
      by_cases h2 : n < 0
      · rw [if_pos h2]; exact out
      · rw [if_neg h2]
        have hw : wrap64 (8 * (l.length : Int)) = 8 * (l.length : Int) := by unfold wrap64; omega
        rw [hw]
        by_cases h3 : n > 8 * (l.length : Int)
        · rw [decide_eq_true h3]; exact out
        · rw [decide_eq_false h3]
          obtain ⟨m, rfl⟩ := Int.eq_ofNat_of_zero_le (show 0 ≤ n by omega)
          have hf := flat_length l
          simp only [tamislaw02_InstrCuts.j0]
          rw [if_neg (by simp), ref_Print_eq l hl _ (by omega), print_ok l (by omega) (by omega)]
          simp only [Option.bind_some]
          rw [if_pos (by omega), if_pos (by rw [ba_size]; omega), ba_extract, Int.toNat_natCast, List.drop_zero]
          have hlt : ((l.flatMap oneB).take m).length = m := by rw [List.length_take]; omega
          rw [instr_Read_eq _ 1799 (by omega) (by omega)]
          simp only [Option.bind_some]
          by_cases h4 : m = 0
          · have hR : readL ((l.flatMap oneB).take m) = ([], 4) := by unfold readL; rw [hlt, if_pos (by omega)]
            rw [hR, if_pos (by omega)]
            simp
          · rw [if_neg (by omega), Int.tmod_eq_emod_of_nonneg (by omega)]
            by_cases h5 : m % 8 = 0
            · have e : decL ((l.flatMap oneB).take m) = l.take (m / 8) := by
                have hc := flat_cut l (m / 8)
                rw [show 8 * (m / 8) = m by omega] at hc
                rw [hc]
                have := dec_enc (l.take (m / 8)) (fun x hx => hl x (List.mem_of_mem_take hx)) []
                rw [List.append_nil] at this
                rw [this]
                simp [decL]
              have hR : readL ((l.flatMap oneB).take m) = (l.take (m / 8), 0) := by unfold readL; rw [hlt, if_neg (by omega), if_neg (by omega), e]
              rw [hR, if_pos (by omega)]
              have hq : wrap64 (Int.tdiv (m : Int) 8) = ((m / 8 : Nat) : Int) := by rw [Int.tdiv_eq_ediv_of_nonneg (by omega)]; unfold wrap64; omega
              simp only [if_true]
              rw [hq, if_pos (by omega), if_pos (by omega), Int.toNat_natCast]
              rw [ref_Same_self _ _ (by rw [List.length_take]; omega) (by rw [List.length_take]; omega)]
              simp
            · have hR : readL ((l.flatMap oneB).take m) = ([], 4) := by unfold readL; rw [hlt, if_pos (by omega)]
              rw [hR, if_neg (by omega)]
              simp
end Go.Proofs.Ytjgapcidhoecfaa.Pure
