/- Any program has the bytes that the document says, eight each, and is read as it was. No condition. -/
import Derived.Test.YtjgapcidhoecfaaFTamislaw02InstrPrints
import Derived.Test.YtjgapcidhoecfaaGPure02b
namespace Go.Proofs.Ytjgapcidhoecfaa.Pure
open Go.RowKit Go.Proofs.Ytjgapcidhoecfaa.Pr Go.Proofs.YtjgapcidhoecfaaW.PrintWords Go.Proofs.YtjgapcidhoecfaaW.PrintLast

theorem InstrPrints : tamislaw02_InstrPrints.Pure := by
  intro l hok hlen
  have hl : ∀ x ∈ l, okI x := fun x hx => ok_of x (hok x hx)
  refine ⟨1700, ?_⟩
  unfold tamislaw02_InstrPrints.f awake02.f
  simp only [Option.bind_some, if_true]
  by_cases hb : (l.length : Int) > 200
  · rw [decide_eq_true hb]
    simp [tamislaw02_InstrPrints.j0, awake02.f]
  · rw [decide_eq_false hb]
    simp only [tamislaw02_InstrPrints.j0, Option.bind_some, List.nil_append, List.length_nil]
    rw [if_neg (by simp), if_pos (by omega), ref_Print_eq l hl _ (by omega)]
    by_cases h0 : l.length = 0
    · obtain rfl : l = [] := List.eq_nil_of_length_eq_zero h0
      rw [show instr_Print.f [] = some (⟨#[]⟩, 4) from rfl]
      simp only [Option.bind_some]
      rw [show instr_Read.f 1699 (⟨#[]⟩ : ByteArray) = some (readL []) from instr_Read_eq [] 1699 (by simp) (by simp)]
      simp
    · rw [print_ok l h0 (by omega)]
      simp only [Option.bind_some]
      rw [read_flat l hl h0 (by omega) 1699 (by omega)]
      simp only [Option.bind_some, if_true]
      rw [ref_Same_self l _ (by omega) (by omega)]
      simp only [Option.bind_some, if_true]
      rw [instr_Same_self l _ (by omega) (by omega)]
      simp only [Option.bind_some, if_true]
      rw [ba_size, flat_length]
      have : wrap64 (8 * (l.length : Int)) = ((8 * l.length : Nat) : Int) := by unfold wrap64; omega
      rw [this]
      simp
end Go.Proofs.Ytjgapcidhoecfaa.Pure
