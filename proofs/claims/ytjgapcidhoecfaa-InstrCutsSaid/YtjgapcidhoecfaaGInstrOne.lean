/- instr.One in closed form: the eight bytes. -/
import Derived.Test.YtjgapcidhoecfaaFInstrOne
namespace Go.Proofs.Ytjgapcidhoecfaa.Pr
set_option linter.unusedSimpArgs false
set_option linter.unusedVariables false
open Go.RowKit Go.Proofs.YtjgapcidhoecfaaW.PrintWords Go.Proofs.YtjgapcidhoecfaaW.PrintLast Go.Proofs.YtjgapcidhoecfaaW.PrintMore

def oneNums (a b c d : Int) : List Int := [a % 256, a / 256 % 256, b, c, d % 256, d / 256 % 256, d / 65536 % 256, d / 16777216 % 256]
theorem instr_One_eq (k : Nat) (hk : 5 ≤ k) (a b c d : Int) : instr_One.f k a b c d = some (strOfNums (oneNums a b c d)) := by
  obtain ⟨m, rfl⟩ : ∃ m, k = m + 5 := ⟨k - 5, by omega⟩
  have e0 : wrap64 (8 * 0) = 0 := by unfold wrap64; omega
  have e1 : wrap64 (0 + 1) = 1 := by unfold wrap64; omega
  have e2 : wrap64 (8 * 1) = 8 := by unfold wrap64; omega
  have e3 : wrap64 (1 + 1) = 2 := by unfold wrap64; omega
  have e4 : wrap64 (8 * 2) = 16 := by unfold wrap64; omega
  have e5 : wrap64 (2 + 1) = 3 := by unfold wrap64; omega
  have e6 : wrap64 (8 * 3) = 24 := by unfold wrap64; omega
  have e7 : wrap64 (3 + 1) = 4 := by unfold wrap64; omega
  have s0 : shr .u32 d 0 = d := by unfold shr; simp
  have s1 : shr .u32 d 8 = d / 256 := by unfold shr; rfl
  have s2 : shr .u32 d 16 = d / 65536 := by unfold shr; rfl
  have s3 : shr .u32 d 24 = d / 16777216 := by unfold shr; rfl
  unfold instr_One.f
  simp only [instr_One.l0]
  rw [e0, e1, if_pos (by decide), if_pos (by decide), if_pos (by simp only [List.length_cons, List.length_nil, List.length_append]; omega)]
  rw [e2, e3, if_pos (by decide), if_pos (by decide), if_pos (by simp only [List.length_cons, List.length_nil, List.length_append]; omega)]
  rw [e4, e5, if_pos (by decide), if_pos (by decide), if_pos (by simp only [List.length_cons, List.length_nil, List.length_append]; omega)]
  rw [e6, e7, if_pos (by decide), if_pos (by decide), if_pos (by simp only [List.length_cons, List.length_nil, List.length_append]; omega)]
  rw [if_neg (by decide), s0, s1, s2, s3]
  rfl
end Go.Proofs.Ytjgapcidhoecfaa.Pr
