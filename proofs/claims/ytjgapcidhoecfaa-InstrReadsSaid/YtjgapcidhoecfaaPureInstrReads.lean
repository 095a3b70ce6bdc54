/- Any bytes are the program that the document says, or are refused as it says; printed they are the same bytes. No condition. -/
import Derived.Test.YtjgapcidhoecfaaFTamislaw02InstrReads
import Derived.Test.YtjgapcidhoecfaaGPure02
namespace Go.Proofs.Ytjgapcidhoecfaa.Pure
open Go.RowKit Go.Proofs.Ytjgapcidhoecfaa.Pr Go.Proofs.YtjgapcidhoecfaaW.PrintWords Go.Proofs.YtjgapcidhoecfaaW.PrintLast

theorem print_read (l : List UInt8) (h8 : l.length % 8 = 0) (h0 : l.length ≠ 0) (h1 : l.length ≤ 32768) : instr_Print.f (decL l) = some (⟨l.toArray⟩, 0) := by
  have hd := (decL_ok l (l.length / 8) (by omega)).1
  unfold instr_Print.f
  rw [if_neg (by omega), if_neg (by omega), enc_dec l (l.length / 8) (by omega)]

theorem InstrReads : tamislaw02_InstrReads.Pure := by
  intro s hs
  rw [ba_list s] at hs ⊢
  generalize s.data.toList = l at hs ⊢
  rw [ba_size] at hs
  refine ⟨l.length + 4, ?_⟩
  unfold tamislaw02_InstrReads.f awake02.f
  simp only [Option.bind_some, if_true]
  by_cases hb : ((⟨l.toArray⟩ : ByteArray).size : Int) > 40000
  · rw [decide_eq_true hb]
    simp [tamislaw02_InstrReads.j0, awake02.f]
  · rw [decide_eq_false hb]
    rw [ba_size] at hb
    simp only [tamislaw02_InstrReads.j0]
    rw [if_neg (by simp), instr_Read_eq l _ hs (by omega), ref_Read_eq l _ hs (by omega)]
    simp only [Option.bind_some, if_true]
    unfold readL
    by_cases c1 : l.length % 8 ≠ 0 ∨ l.length = 0
    · rw [if_pos c1]
      simp only []
      rw [ref_Same_self [] _ (by simp) (by simp)]
      simp only [Option.bind_some, if_true]
      rw [show instr_Print.f [] = some (⟨#[]⟩, 4) from rfl]
      simp
    · rw [if_neg c1]
      by_cases c2 : 32768 < l.length
      · rw [if_pos c2]
        simp only []
        rw [ref_Same_self [] _ (by simp) (by simp)]
        simp only [Option.bind_some, if_true]
        rw [show instr_Print.f [] = some (⟨#[]⟩, 4) from rfl]
        simp
      · rw [if_neg c2]
        simp only []
        have hd := (decL_ok l (l.length / 8) (by omega)).1
        rw [ref_Same_self (decL l) _ (by omega) (by omega), print_read l (by omega) (by omega) (by omega)]
        simp
end Go.Proofs.Ytjgapcidhoecfaa.Pure
