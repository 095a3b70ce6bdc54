-- Made by a program of this session (wip/tools/myprint.sh).
import Derived.Test.YtpgjcjgmokfofaaDoorPr0
namespace Go.Proofs.YtpgjcjgmokfofaaDoor.Pr
open Go.RowKit Go.Proofs.YtpgjcjgmokfofaaDoorW.PrintWords Go.Proofs.YtpgjcjgmokfofaaDoorW.PrintLast Go.Proofs.YtpgjcjgmokfofaaDoorW.PrintMore
attribute [local go_sem] max2_int min2_int max_two min_two max_three min_three max_four min_four   -- for this text's walks alone
set_option linter.unusedVariables false
set_option linter.unusedSimpArgs false

/-! ### tamisref19_ArchName: function 22 -/
def tamisref19_ArchName.f (a0 : Int) : Option (ByteArray) := if a0 = 1073741827 then (some (⟨#[105, 51, 56, 54]⟩ : ByteArray)) else (if a0 = 3221225534 then (some (⟨#[120, 56, 54, 95, 54, 52]⟩ : ByteArray)) else (if a0 = 3221225655 then (some (⟨#[97, 97, 114, 99, 104, 54, 52]⟩ : ByteArray)) else (some (⟨#[]⟩ : ByteArray))))
set_option maxHeartbeats 8000000 in
set_option maxRecDepth 100000 in
theorem tamisref19_ArchName.calls (a0 : Int) (r : ByteArray) (w : World) (h : tamisref19_ArchName.f a0 = some r) :
    Calls Tryd.prog 22 #[.int .u32 a0] w fun e w' => e = .returned (.string r) ∧ Drawn0 w w' := by
  have H : (if a0 = 1073741827 then (some (⟨#[105, 51, 56, 54]⟩ : ByteArray)) else (if a0 = 3221225534 then (some (⟨#[120, 56, 54, 95, 54, 52]⟩ : ByteArray)) else (if a0 = 3221225655 then (some (⟨#[97, 97, 114, 99, 104, 54, 52]⟩ : ByteArray)) else (some (⟨#[]⟩ : ByteArray))))) = some r := h
  clear h
  by_cases c2 : a0 = 1073741827
  · rw [if_pos c2] at H
    have c2b0 : (a0 == 1073741827) = true := beq_iff_eq.mpr c2
    have c2b1 : (a0 != 1073741827) = false := bne_eq_false_iff_eq.mpr c2
    clear c2
    obtain rfl := Option.some.inj H
    go_enter Tryd.func22, Tryd.ntmps22
    go_wp2
    go_ret
    exact ⟨by first | rfl | (simp; done) | (simp [*]; done), by repeat (first | exact Drawn0.refl _ | apply Drawn0.step)⟩
  · rw [if_neg c2] at H
    have c2b0 : (a0 == 1073741827) = false := beq_eq_false_iff_ne.mpr c2
    have c2b1 : (a0 != 1073741827) = true := bne_iff_ne.mpr c2
    by_cases c3 : a0 = 3221225534
    · rw [if_pos c3] at H
      have c3b0 : (a0 == 3221225534) = true := beq_iff_eq.mpr c3
      have c3b1 : (a0 != 3221225534) = false := bne_eq_false_iff_eq.mpr c3
      clear c3
      obtain rfl := Option.some.inj H
      go_enter Tryd.func22, Tryd.ntmps22
      go_wp2
      go_ret
      exact ⟨by first | rfl | (simp; done) | (simp [*]; done), by repeat (first | exact Drawn0.refl _ | apply Drawn0.step)⟩
    · rw [if_neg c3] at H
      have c3b0 : (a0 == 3221225534) = false := beq_eq_false_iff_ne.mpr c3
      have c3b1 : (a0 != 3221225534) = true := bne_iff_ne.mpr c3
      by_cases c4 : a0 = 3221225655
      · rw [if_pos c4] at H
        have c4b0 : (a0 == 3221225655) = true := beq_iff_eq.mpr c4
        have c4b1 : (a0 != 3221225655) = false := bne_eq_false_iff_eq.mpr c4
        clear c4
        obtain rfl := Option.some.inj H
        go_enter Tryd.func22, Tryd.ntmps22
        go_wp2
        go_ret
        exact ⟨by first | rfl | (simp; done) | (simp [*]; done), by repeat (first | exact Drawn0.refl _ | apply Drawn0.step)⟩
      · rw [if_neg c4] at H
        have c4b0 : (a0 == 3221225655) = false := beq_eq_false_iff_ne.mpr c4
        have c4b1 : (a0 != 3221225655) = true := bne_iff_ne.mpr c4
        obtain rfl := Option.some.inj H
        go_enter Tryd.func22, Tryd.ntmps22
        go_wp2
        go_ret
        exact ⟨by first | rfl | (simp; done) | (simp [*]; done), by repeat (first | exact Drawn0.refl _ | apply Drawn0.step)⟩

end Go.Proofs.YtpgjcjgmokfofaaDoor.Pr
