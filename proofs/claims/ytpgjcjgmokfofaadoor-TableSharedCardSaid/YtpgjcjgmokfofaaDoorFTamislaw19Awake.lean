-- Made by a program of this session (wip/tools/myprint.sh).
import Derived.Test.YtpgjcjgmokfofaaDoorGLib
import Derived.Test.YtpgjcjgmokfofaaDoorPr0
import Derived.Test.YtpgjcjgmokfofaaDoorFArch
import Derived.Test.YtpgjcjgmokfofaaDoorFTablePrint
import Derived.Test.YtpgjcjgmokfofaaDoorGAllT
import Derived.Test.YtpgjcjgmokfofaaDoorGTabLook
import Derived.Test.YtpgjcjgmokfofaaDoorGTabRead
namespace Go.Proofs.YtpgjcjgmokfofaaDoor.Pr
open Go.RowKit Go.Proofs.YtpgjcjgmokfofaaDoorW.PrintWords Go.Proofs.YtpgjcjgmokfofaaDoorW.PrintLast Go.Proofs.YtpgjcjgmokfofaaDoorW.PrintMore
attribute [local go_sem] max2_int min2_int max_two min_two max_three min_three max_four min_four   -- for this text's walks alone
set_option linter.unusedVariables false
set_option linter.unusedSimpArgs false

/-! ### tamislaw19_awake: function 8 -/
def tamislaw19_awake.f (k : Nat)  : Option (Bool) := (table_Arch.f k (⟨#[97, 97, 114, 99, 104, 54, 52]⟩ : ByteArray)).bind fun bt111 => ((table_Arch.f k (⟨#[97, 114, 109]⟩ : ByteArray)).bind fun bt113 => ((table_Find.f 1073741827 (⟨#[114, 101, 97, 100]⟩ : ByteArray)).bind fun bt115 => ((table_Find.f 3221225655 (⟨#[102, 111, 114, 107]⟩ : ByteArray)).bind fun bt117 => ((table_Read.f 3221225534 (⟨#[57, 57, 57]⟩ : ByteArray)).bind fun bt119 => ((table_Read.f 3221225534 (⟨#[53, 57]⟩ : ByteArray)).bind fun bt121 => ((table_Archs.f).bind fun t123 => (if (t123.length : Int) = 3 then (if bt111.1 = 3221225655 then (if bt111.2 = true then (if bt113.2 = true then (some false) else (if bt115.1 = 3 then (if bt115.2 = true then (if bt117.2 = true then (some false) else ((table_Name.f 3221225534 59).bind fun t126 => (if t126.toList = ([101, 120, 101, 99, 118, 101] : List UInt8) then ((table_Print.f 1073741827 59).bind fun t127 => (if t127.toList = ([53, 57] : List UInt8) then (if bt119.1 = 999 then (if bt119.2 = true then (if bt121.2 = true then (some false) else ((table_All.f 3221225655).bind fun t128 => (if (t128.length : Int) = 33 then ((table_ArchName.f 3221225534).bind fun t131 => (if t131.toList = ([120, 56, 54, 95, 54, 52] : List UInt8) then ((table_ArchName.f 1).bind fun t132 => (some (t132.toList == ([] : List UInt8)))) else (some false))) else (some false)))) else (some false)) else (some false)) else (some false))) else (some false)))) else (some false)) else (some false))) else (some false)) else (some false)) else (some false))))))))
theorem tamislaw19_awake.mono : ∀ k, LeO (tamislaw19_awake.f k ) (tamislaw19_awake.f (k + 1) ) := by
  intro  k
  unfold tamislaw19_awake.f
  repeat' first
      | (with_reducible exact table_Arch.mono _ _)
      | (with_reducible exact LeO.refl _)
      | (with_reducible exact LeO.none _)
      | (with_reducible refine LeO.ite ?_ ?_)
      | (with_reducible refine LeO.bind ?_ (fun _ => ?_))
      | exact table_Arch.mono _ _
      | exact LeO.none _
      | refine LeO.ite ?_ ?_
      | refine LeO.bind ?_ (fun _ => ?_)
set_option maxHeartbeats 8000000 in
set_option maxRecDepth 100000 in
theorem tamislaw19_awake.calls (k : Nat)  (r : Bool) (w : World) (hT : r = true) (hG : GlobW w) (h : tamislaw19_awake.f k  = some r) :
    Calls Tryd.prog 8 #[] w fun e w' => e = .returned (.bool r) ∧ Below w.heap.size w w' := by
  have HT := Aside0.mk hT
  clear hT
  have HB := Aside0.mk (Below.refl w.heap.size w)
  have H : ((table_Arch.f k (⟨#[97, 97, 114, 99, 104, 54, 52]⟩ : ByteArray)).bind fun bt111 => ((table_Arch.f k (⟨#[97, 114, 109]⟩ : ByteArray)).bind fun bt113 => ((table_Find.f 1073741827 (⟨#[114, 101, 97, 100]⟩ : ByteArray)).bind fun bt115 => ((table_Find.f 3221225655 (⟨#[102, 111, 114, 107]⟩ : ByteArray)).bind fun bt117 => ((table_Read.f 3221225534 (⟨#[57, 57, 57]⟩ : ByteArray)).bind fun bt119 => ((table_Read.f 3221225534 (⟨#[53, 57]⟩ : ByteArray)).bind fun bt121 => ((table_Archs.f).bind fun t123 => (if (t123.length : Int) = 3 then (if bt111.1 = 3221225655 then (if bt111.2 = true then (if bt113.2 = true then (some false) else (if bt115.1 = 3 then (if bt115.2 = true then (if bt117.2 = true then (some false) else ((table_Name.f 3221225534 59).bind fun t126 => (if t126.toList = ([101, 120, 101, 99, 118, 101] : List UInt8) then ((table_Print.f 1073741827 59).bind fun t127 => (if t127.toList = ([53, 57] : List UInt8) then (if bt119.1 = 999 then (if bt119.2 = true then (if bt121.2 = true then (some false) else ((table_All.f 3221225655).bind fun t128 => (if (t128.length : Int) = 33 then ((table_ArchName.f 3221225534).bind fun t131 => (if t131.toList = ([120, 56, 54, 95, 54, 52] : List UInt8) then ((table_ArchName.f 1).bind fun t132 => (some (t132.toList == ([] : List UInt8)))) else (some false))) else (some false)))) else (some false)) else (some false)) else (some false))) else (some false)))) else (some false)) else (some false))) else (some false)) else (some false)) else (some false))))))))) = some r := h
  clear h
  replace H := Option.bind_eq_some_iff.mp H
  obtain ⟨⟨t111, t112⟩, A10, H⟩ := H
  replace H : ((table_Arch.f k (⟨#[97, 114, 109]⟩ : ByteArray)).bind fun bt113 => ((table_Find.f 1073741827 (⟨#[114, 101, 97, 100]⟩ : ByteArray)).bind fun bt115 => ((table_Find.f 3221225655 (⟨#[102, 111, 114, 107]⟩ : ByteArray)).bind fun bt117 => ((table_Read.f 3221225534 (⟨#[57, 57, 57]⟩ : ByteArray)).bind fun bt119 => ((table_Read.f 3221225534 (⟨#[53, 57]⟩ : ByteArray)).bind fun bt121 => ((table_Archs.f).bind fun t123 => (if (t123.length : Int) = 3 then (if t111 = 3221225655 then (if t112 = true then (if bt113.2 = true then (some false) else (if bt115.1 = 3 then (if bt115.2 = true then (if bt117.2 = true then (some false) else ((table_Name.f 3221225534 59).bind fun t126 => (if t126.toList = ([101, 120, 101, 99, 118, 101] : List UInt8) then ((table_Print.f 1073741827 59).bind fun t127 => (if t127.toList = ([53, 57] : List UInt8) then (if bt119.1 = 999 then (if bt119.2 = true then (if bt121.2 = true then (some false) else ((table_All.f 3221225655).bind fun t128 => (if (t128.length : Int) = 33 then ((table_ArchName.f 3221225534).bind fun t131 => (if t131.toList = ([120, 56, 54, 95, 54, 52] : List UInt8) then ((table_ArchName.f 1).bind fun t132 => (some (t132.toList == ([] : List UInt8)))) else (some false))) else (some false)))) else (some false)) else (some false)) else (some false))) else (some false)))) else (some false)) else (some false))) else (some false)) else (some false)) else (some false)))))))) = some r := H
  have A1 := Aside0.mk A10
  clear A10
  replace H := Option.bind_eq_some_iff.mp H
  obtain ⟨⟨t113, t114⟩, A20, H⟩ := H
  replace H : ((table_Find.f 1073741827 (⟨#[114, 101, 97, 100]⟩ : ByteArray)).bind fun bt115 => ((table_Find.f 3221225655 (⟨#[102, 111, 114, 107]⟩ : ByteArray)).bind fun bt117 => ((table_Read.f 3221225534 (⟨#[57, 57, 57]⟩ : ByteArray)).bind fun bt119 => ((table_Read.f 3221225534 (⟨#[53, 57]⟩ : ByteArray)).bind fun bt121 => ((table_Archs.f).bind fun t123 => (if (t123.length : Int) = 3 then (if t111 = 3221225655 then (if t112 = true then (if t114 = true then (some false) else (if bt115.1 = 3 then (if bt115.2 = true then (if bt117.2 = true then (some false) else ((table_Name.f 3221225534 59).bind fun t126 => (if t126.toList = ([101, 120, 101, 99, 118, 101] : List UInt8) then ((table_Print.f 1073741827 59).bind fun t127 => (if t127.toList = ([53, 57] : List UInt8) then (if bt119.1 = 999 then (if bt119.2 = true then (if bt121.2 = true then (some false) else ((table_All.f 3221225655).bind fun t128 => (if (t128.length : Int) = 33 then ((table_ArchName.f 3221225534).bind fun t131 => (if t131.toList = ([120, 56, 54, 95, 54, 52] : List UInt8) then ((table_ArchName.f 1).bind fun t132 => (some (t132.toList == ([] : List UInt8)))) else (some false))) else (some false)))) else (some false)) else (some false)) else (some false))) else (some false)))) else (some false)) else (some false))) else (some false)) else (some false)) else (some false))))))) = some r := H
  have A2 := Aside0.mk A20
  clear A20
  replace H := Option.bind_eq_some_iff.mp H
  obtain ⟨⟨t115, t116⟩, A30, H⟩ := H
  replace H : ((table_Find.f 3221225655 (⟨#[102, 111, 114, 107]⟩ : ByteArray)).bind fun bt117 => ((table_Read.f 3221225534 (⟨#[57, 57, 57]⟩ : ByteArray)).bind fun bt119 => ((table_Read.f 3221225534 (⟨#[53, 57]⟩ : ByteArray)).bind fun bt121 => ((table_Archs.f).bind fun t123 => (if (t123.length : Int) = 3 then (if t111 = 3221225655 then (if t112 = true then (if t114 = true then (some false) else (if t115 = 3 then (if t116 = true then (if bt117.2 = true then (some false) else ((table_Name.f 3221225534 59).bind fun t126 => (if t126.toList = ([101, 120, 101, 99, 118, 101] : List UInt8) then ((table_Print.f 1073741827 59).bind fun t127 => (if t127.toList = ([53, 57] : List UInt8) then (if bt119.1 = 999 then (if bt119.2 = true then (if bt121.2 = true then (some false) else ((table_All.f 3221225655).bind fun t128 => (if (t128.length : Int) = 33 then ((table_ArchName.f 3221225534).bind fun t131 => (if t131.toList = ([120, 56, 54, 95, 54, 52] : List UInt8) then ((table_ArchName.f 1).bind fun t132 => (some (t132.toList == ([] : List UInt8)))) else (some false))) else (some false)))) else (some false)) else (some false)) else (some false))) else (some false)))) else (some false)) else (some false))) else (some false)) else (some false)) else (some false)))))) = some r := H
  have A3 := Aside0.mk A30
  clear A30
  replace H := Option.bind_eq_some_iff.mp H
  obtain ⟨⟨t117, t118⟩, A40, H⟩ := H
  replace H : ((table_Read.f 3221225534 (⟨#[57, 57, 57]⟩ : ByteArray)).bind fun bt119 => ((table_Read.f 3221225534 (⟨#[53, 57]⟩ : ByteArray)).bind fun bt121 => ((table_Archs.f).bind fun t123 => (if (t123.length : Int) = 3 then (if t111 = 3221225655 then (if t112 = true then (if t114 = true then (some false) else (if t115 = 3 then (if t116 = true then (if t118 = true then (some false) else ((table_Name.f 3221225534 59).bind fun t126 => (if t126.toList = ([101, 120, 101, 99, 118, 101] : List UInt8) then ((table_Print.f 1073741827 59).bind fun t127 => (if t127.toList = ([53, 57] : List UInt8) then (if bt119.1 = 999 then (if bt119.2 = true then (if bt121.2 = true then (some false) else ((table_All.f 3221225655).bind fun t128 => (if (t128.length : Int) = 33 then ((table_ArchName.f 3221225534).bind fun t131 => (if t131.toList = ([120, 56, 54, 95, 54, 52] : List UInt8) then ((table_ArchName.f 1).bind fun t132 => (some (t132.toList == ([] : List UInt8)))) else (some false))) else (some false)))) else (some false)) else (some false)) else (some false))) else (some false)))) else (some false)) else (some false))) else (some false)) else (some false)) else (some false))))) = some r := H
  have A4 := Aside0.mk A40
  clear A40
  replace H := Option.bind_eq_some_iff.mp H
  obtain ⟨⟨t119, t120⟩, A50, H⟩ := H
  replace H : ((table_Read.f 3221225534 (⟨#[53, 57]⟩ : ByteArray)).bind fun bt121 => ((table_Archs.f).bind fun t123 => (if (t123.length : Int) = 3 then (if t111 = 3221225655 then (if t112 = true then (if t114 = true then (some false) else (if t115 = 3 then (if t116 = true then (if t118 = true then (some false) else ((table_Name.f 3221225534 59).bind fun t126 => (if t126.toList = ([101, 120, 101, 99, 118, 101] : List UInt8) then ((table_Print.f 1073741827 59).bind fun t127 => (if t127.toList = ([53, 57] : List UInt8) then (if t119 = 999 then (if t120 = true then (if bt121.2 = true then (some false) else ((table_All.f 3221225655).bind fun t128 => (if (t128.length : Int) = 33 then ((table_ArchName.f 3221225534).bind fun t131 => (if t131.toList = ([120, 56, 54, 95, 54, 52] : List UInt8) then ((table_ArchName.f 1).bind fun t132 => (some (t132.toList == ([] : List UInt8)))) else (some false))) else (some false)))) else (some false)) else (some false)) else (some false))) else (some false)))) else (some false)) else (some false))) else (some false)) else (some false)) else (some false)))) = some r := H
  have A5 := Aside0.mk A50
  clear A50
  replace H := Option.bind_eq_some_iff.mp H
  obtain ⟨⟨t121, t122⟩, A60, H⟩ := H
  replace H : ((table_Archs.f).bind fun t123 => (if (t123.length : Int) = 3 then (if t111 = 3221225655 then (if t112 = true then (if t114 = true then (some false) else (if t115 = 3 then (if t116 = true then (if t118 = true then (some false) else ((table_Name.f 3221225534 59).bind fun t126 => (if t126.toList = ([101, 120, 101, 99, 118, 101] : List UInt8) then ((table_Print.f 1073741827 59).bind fun t127 => (if t127.toList = ([53, 57] : List UInt8) then (if t119 = 999 then (if t120 = true then (if t122 = true then (some false) else ((table_All.f 3221225655).bind fun t128 => (if (t128.length : Int) = 33 then ((table_ArchName.f 3221225534).bind fun t131 => (if t131.toList = ([120, 56, 54, 95, 54, 52] : List UInt8) then ((table_ArchName.f 1).bind fun t132 => (some (t132.toList == ([] : List UInt8)))) else (some false))) else (some false)))) else (some false)) else (some false)) else (some false))) else (some false)))) else (some false)) else (some false))) else (some false)) else (some false)) else (some false))) = some r := H
  have A6 := Aside0.mk A60
  clear A60
  replace H := Option.bind_eq_some_iff.mp H
  obtain ⟨t123, A70, H⟩ := H
  replace H : (if (t123.length : Int) = 3 then (if t111 = 3221225655 then (if t112 = true then (if t114 = true then (some false) else (if t115 = 3 then (if t116 = true then (if t118 = true then (some false) else ((table_Name.f 3221225534 59).bind fun t126 => (if t126.toList = ([101, 120, 101, 99, 118, 101] : List UInt8) then ((table_Print.f 1073741827 59).bind fun t127 => (if t127.toList = ([53, 57] : List UInt8) then (if t119 = 999 then (if t120 = true then (if t122 = true then (some false) else ((table_All.f 3221225655).bind fun t128 => (if (t128.length : Int) = 33 then ((table_ArchName.f 3221225534).bind fun t131 => (if t131.toList = ([120, 56, 54, 95, 54, 52] : List UInt8) then ((table_ArchName.f 1).bind fun t132 => (some (t132.toList == ([] : List UInt8)))) else (some false))) else (some false)))) else (some false)) else (some false)) else (some false))) else (some false)))) else (some false)) else (some false))) else (some false)) else (some false)) else (some false)) = some r := H
  have A7 := Aside0.mk A70
  clear A70
  by_cases c8 : (t123.length : Int) = 3
  · rw [if_pos c8] at H
    have c8b0 : ((t123.length : Int) == 3) = true := beq_iff_eq.mpr c8
    have c8b1 : ((t123.length : Int) != 3) = false := bne_eq_false_iff_eq.mpr c8
    clear c8
    by_cases c9 : t111 = 3221225655
    · rw [if_pos c9] at H
      have c9b0 : (t111 == 3221225655) = true := beq_iff_eq.mpr c9
      have c9b1 : (t111 != 3221225655) = false := bne_eq_false_iff_eq.mpr c9
      clear c9
      by_cases c10 : t112 = true
      · subst c10
        have H1 : (if t114 = true then (some false) else (if t115 = 3 then (if t116 = true then (if t118 = true then (some false) else ((table_Name.f 3221225534 59).bind fun t126 => (if t126.toList = ([101, 120, 101, 99, 118, 101] : List UInt8) then ((table_Print.f 1073741827 59).bind fun t127 => (if t127.toList = ([53, 57] : List UInt8) then (if t119 = 999 then (if t120 = true then (if t122 = true then (some false) else ((table_All.f 3221225655).bind fun t128 => (if (t128.length : Int) = 33 then ((table_ArchName.f 3221225534).bind fun t131 => (if t131.toList = ([120, 56, 54, 95, 54, 52] : List UInt8) then ((table_ArchName.f 1).bind fun t132 => (some (t132.toList == ([] : List UInt8)))) else (some false))) else (some false)))) else (some false)) else (some false)) else (some false))) else (some false)))) else (some false)) else (some false))) = some r := by rw [if_pos rfl] at H; exact H
        clear H
        have H := H1
        clear H1
        by_cases c11 : t114 = true
        · subst c11
          have H1 : (some false) = some r := by rw [if_pos rfl] at H; exact H
          clear H
          have H := H1
          clear H1
          exact absurd ((Option.some.inj H).trans HT.out) (by simp)
        · replace c11 := Bool.eq_false_iff.mpr c11
          subst c11
          have H1 : (if t115 = 3 then (if t116 = true then (if t118 = true then (some false) else ((table_Name.f 3221225534 59).bind fun t126 => (if t126.toList = ([101, 120, 101, 99, 118, 101] : List UInt8) then ((table_Print.f 1073741827 59).bind fun t127 => (if t127.toList = ([53, 57] : List UInt8) then (if t119 = 999 then (if t120 = true then (if t122 = true then (some false) else ((table_All.f 3221225655).bind fun t128 => (if (t128.length : Int) = 33 then ((table_ArchName.f 3221225534).bind fun t131 => (if t131.toList = ([120, 56, 54, 95, 54, 52] : List UInt8) then ((table_ArchName.f 1).bind fun t132 => (some (t132.toList == ([] : List UInt8)))) else (some false))) else (some false)))) else (some false)) else (some false)) else (some false))) else (some false)))) else (some false)) else (some false)) = some r := by rw [if_neg (show ¬ (false = true) by decide)] at H; exact H
          clear H
          have H := H1
          clear H1
          by_cases c12 : t115 = 3
          · rw [if_pos c12] at H
            have c12b0 : (t115 == 3) = true := beq_iff_eq.mpr c12
            have c12b1 : (t115 != 3) = false := bne_eq_false_iff_eq.mpr c12
            clear c12
            by_cases c13 : t116 = true
            · subst c13
              have H1 : (if t118 = true then (some false) else ((table_Name.f 3221225534 59).bind fun t126 => (if t126.toList = ([101, 120, 101, 99, 118, 101] : List UInt8) then ((table_Print.f 1073741827 59).bind fun t127 => (if t127.toList = ([53, 57] : List UInt8) then (if t119 = 999 then (if t120 = true then (if t122 = true then (some false) else ((table_All.f 3221225655).bind fun t128 => (if (t128.length : Int) = 33 then ((table_ArchName.f 3221225534).bind fun t131 => (if t131.toList = ([120, 56, 54, 95, 54, 52] : List UInt8) then ((table_ArchName.f 1).bind fun t132 => (some (t132.toList == ([] : List UInt8)))) else (some false))) else (some false)))) else (some false)) else (some false)) else (some false))) else (some false)))) = some r := by rw [if_pos rfl] at H; exact H
              clear H
              have H := H1
              clear H1
              by_cases c14 : t118 = true
              · subst c14
                have H1 : (some false) = some r := by rw [if_pos rfl] at H; exact H
                clear H
                have H := H1
                clear H1
                exact absurd ((Option.some.inj H).trans HT.out) (by simp)
              · replace c14 := Bool.eq_false_iff.mpr c14
                subst c14
                have H1 : ((table_Name.f 3221225534 59).bind fun t126 => (if t126.toList = ([101, 120, 101, 99, 118, 101] : List UInt8) then ((table_Print.f 1073741827 59).bind fun t127 => (if t127.toList = ([53, 57] : List UInt8) then (if t119 = 999 then (if t120 = true then (if t122 = true then (some false) else ((table_All.f 3221225655).bind fun t128 => (if (t128.length : Int) = 33 then ((table_ArchName.f 3221225534).bind fun t131 => (if t131.toList = ([120, 56, 54, 95, 54, 52] : List UInt8) then ((table_ArchName.f 1).bind fun t132 => (some (t132.toList == ([] : List UInt8)))) else (some false))) else (some false)))) else (some false)) else (some false)) else (some false))) else (some false))) = some r := by rw [if_neg (show ¬ (false = true) by decide)] at H; exact H
                clear H
                have H := H1
                clear H1
                replace H := Option.bind_eq_some_iff.mp H
                obtain ⟨t126, A150, H⟩ := H
                replace H : (if t126.toList = ([101, 120, 101, 99, 118, 101] : List UInt8) then ((table_Print.f 1073741827 59).bind fun t127 => (if t127.toList = ([53, 57] : List UInt8) then (if t119 = 999 then (if t120 = true then (if t122 = true then (some false) else ((table_All.f 3221225655).bind fun t128 => (if (t128.length : Int) = 33 then ((table_ArchName.f 3221225534).bind fun t131 => (if t131.toList = ([120, 56, 54, 95, 54, 52] : List UInt8) then ((table_ArchName.f 1).bind fun t132 => (some (t132.toList == ([] : List UInt8)))) else (some false))) else (some false)))) else (some false)) else (some false)) else (some false))) else (some false)) = some r := H
                have A15 := Aside0.mk A150
                clear A150
                by_cases c16 : t126.toList = ([101, 120, 101, 99, 118, 101] : List UInt8)
                · rw [if_pos c16] at H
                  have c16b0 : (t126.toList == ([101, 120, 101, 99, 118, 101] : List UInt8)) = true := beq_iff_eq.mpr c16
                  have c16b1 : (t126.toList != ([101, 120, 101, 99, 118, 101] : List UInt8)) = false := bne_eq_false_iff_eq.mpr c16
                  clear c16
                  replace H := Option.bind_eq_some_iff.mp H
                  obtain ⟨t127, A170, H⟩ := H
                  replace H : (if t127.toList = ([53, 57] : List UInt8) then (if t119 = 999 then (if t120 = true then (if t122 = true then (some false) else ((table_All.f 3221225655).bind fun t128 => (if (t128.length : Int) = 33 then ((table_ArchName.f 3221225534).bind fun t131 => (if t131.toList = ([120, 56, 54, 95, 54, 52] : List UInt8) then ((table_ArchName.f 1).bind fun t132 => (some (t132.toList == ([] : List UInt8)))) else (some false))) else (some false)))) else (some false)) else (some false)) else (some false)) = some r := H
                  have A17 := Aside0.mk A170
                  clear A170
                  by_cases c18 : t127.toList = ([53, 57] : List UInt8)
                  · rw [if_pos c18] at H
                    have c18b0 : (t127.toList == ([53, 57] : List UInt8)) = true := beq_iff_eq.mpr c18
                    have c18b1 : (t127.toList != ([53, 57] : List UInt8)) = false := bne_eq_false_iff_eq.mpr c18
                    clear c18
                    by_cases c19 : t119 = 999
                    · rw [if_pos c19] at H
                      have c19b0 : (t119 == 999) = true := beq_iff_eq.mpr c19
                      have c19b1 : (t119 != 999) = false := bne_eq_false_iff_eq.mpr c19
                      clear c19
                      by_cases c20 : t120 = true
                      · subst c20
                        have H1 : (if t122 = true then (some false) else ((table_All.f 3221225655).bind fun t128 => (if (t128.length : Int) = 33 then ((table_ArchName.f 3221225534).bind fun t131 => (if t131.toList = ([120, 56, 54, 95, 54, 52] : List UInt8) then ((table_ArchName.f 1).bind fun t132 => (some (t132.toList == ([] : List UInt8)))) else (some false))) else (some false)))) = some r := by rw [if_pos rfl] at H; exact H
                        clear H
                        have H := H1
                        clear H1
                        by_cases c21 : t122 = true
                        · subst c21
                          have H1 : (some false) = some r := by rw [if_pos rfl] at H; exact H
                          clear H
                          have H := H1
                          clear H1
                          exact absurd ((Option.some.inj H).trans HT.out) (by simp)
                        · replace c21 := Bool.eq_false_iff.mpr c21
                          subst c21
                          have H1 : ((table_All.f 3221225655).bind fun t128 => (if (t128.length : Int) = 33 then ((table_ArchName.f 3221225534).bind fun t131 => (if t131.toList = ([120, 56, 54, 95, 54, 52] : List UInt8) then ((table_ArchName.f 1).bind fun t132 => (some (t132.toList == ([] : List UInt8)))) else (some false))) else (some false))) = some r := by rw [if_neg (show ¬ (false = true) by decide)] at H; exact H
                          clear H
                          have H := H1
                          clear H1
                          replace H := Option.bind_eq_some_iff.mp H
                          obtain ⟨t128, A220, H⟩ := H
                          replace H : (if (t128.length : Int) = 33 then ((table_ArchName.f 3221225534).bind fun t131 => (if t131.toList = ([120, 56, 54, 95, 54, 52] : List UInt8) then ((table_ArchName.f 1).bind fun t132 => (some (t132.toList == ([] : List UInt8)))) else (some false))) else (some false)) = some r := H
                          have A22 := Aside0.mk A220
                          clear A220
                          by_cases c23 : (t128.length : Int) = 33
                          · rw [if_pos c23] at H
                            have c23b0 : ((t128.length : Int) == 33) = true := beq_iff_eq.mpr c23
                            have c23b1 : ((t128.length : Int) != 33) = false := bne_eq_false_iff_eq.mpr c23
                            clear c23
                            replace H := Option.bind_eq_some_iff.mp H
                            obtain ⟨t131, A240, H⟩ := H
                            replace H : (if t131.toList = ([120, 56, 54, 95, 54, 52] : List UInt8) then ((table_ArchName.f 1).bind fun t132 => (some (t132.toList == ([] : List UInt8)))) else (some false)) = some r := H
                            have A24 := Aside0.mk A240
                            clear A240
                            by_cases c25 : t131.toList = ([120, 56, 54, 95, 54, 52] : List UInt8)
                            · rw [if_pos c25] at H
                              have c25b0 : (t131.toList == ([120, 56, 54, 95, 54, 52] : List UInt8)) = true := beq_iff_eq.mpr c25
                              have c25b1 : (t131.toList != ([120, 56, 54, 95, 54, 52] : List UInt8)) = false := bne_eq_false_iff_eq.mpr c25
                              clear c25
                              replace H := Option.bind_eq_some_iff.mp H
                              obtain ⟨t132, A260, H⟩ := H
                              replace H : (some (t132.toList == ([] : List UInt8))) = some r := H
                              have A26 := Aside0.mk A260
                              clear A260
                              obtain rfl := Option.some.inj H
                              go_enter Tryd.func8, Tryd.ntmps8
                              go_wp2_with (first | ((with_reducible refine gate_callee (f := 21) rfl ?_); refine goesL_ (some 14) rfl rfl Tryd.func21 (by kernel_rfl) rfl #[.string (⟨#[97, 97, 114, 99, 104, 54, 52]⟩ : ByteArray)] rfl (by (try simp only [List.map_toArray, List.map_cons, List.map_nil]); first | done | rfl | (simp only [List.length_drop, List.length_take]; rfl)) ?_; (with_reducible refine (table_Arch.calls k (⟨#[97, 97, 114, 99, 104, 54, 52]⟩ : ByteArray) t111 true _ A1.out).mono ?_); rintro e w27 ⟨rfl, hb⟩; refine ⟨_, rfl, ?_⟩; have n0_ := Aside0.mk (below_step (by repeat (first | (with_reducible first | exact HB.out | apply below_alloc | apply pw_below_drewN | apply below_drew1) | exact HB.out)) hb); clear HB; have HB := n0_; clear n0_; (try clear hb); (try clear hb2); (try clear hk); (try clear hi)) | ((with_reducible refine gate_callee (f := 21) rfl ?_); refine goesL_ (some 18) rfl rfl Tryd.func21 (by kernel_rfl) rfl #[.string (⟨#[97, 114, 109]⟩ : ByteArray)] rfl (by (try simp only [List.map_toArray, List.map_cons, List.map_nil]); first | done | rfl | (simp only [List.length_drop, List.length_take]; rfl)) ?_; (with_reducible refine (table_Arch.calls k (⟨#[97, 114, 109]⟩ : ByteArray) t113 false _ A2.out).mono ?_); rintro e w28 ⟨rfl, hb⟩; refine ⟨_, rfl, ?_⟩; have n0_ := Aside0.mk (below_step (by repeat (first | (with_reducible first | exact HB.out | apply below_alloc | apply pw_below_drewN | apply below_drew1) | exact HB.out)) hb); clear HB; have HB := n0_; clear n0_; (try clear hb); (try clear hb2); (try clear hk); (try clear hi)) | ((with_reducible refine gate_callee (f := 10) rfl ?_); refine goesL_ (some 22) rfl rfl Tryd.func10 (by kernel_rfl) rfl #[.int .u32 1073741827, .string (⟨#[114, 101, 97, 100]⟩ : ByteArray)] rfl (by (try simp only [List.map_toArray, List.map_cons, List.map_nil]); first | done | rfl | (simp only [List.length_drop, List.length_take]; rfl)) ?_; (with_reducible refine (table_Find.calls 1073741827 (⟨#[114, 101, 97, 100]⟩ : ByteArray) t115 true _ A3.out).mono ?_); rintro e w29 ⟨rfl, hb⟩; refine ⟨_, rfl, ?_⟩; have n0_ := Aside0.mk (below_step (by repeat (first | (with_reducible first | exact HB.out | apply below_alloc | apply pw_below_drewN | apply below_drew1) | exact HB.out)) hb); clear HB; have HB := n0_; clear n0_; (try clear hb); (try clear hb2); (try clear hk); (try clear hi)) | ((with_reducible refine gate_callee (f := 10) rfl ?_); refine goesL_ (some 26) rfl rfl Tryd.func10 (by kernel_rfl) rfl #[.int .u32 3221225655, .string (⟨#[102, 111, 114, 107]⟩ : ByteArray)] rfl (by (try simp only [List.map_toArray, List.map_cons, List.map_nil]); first | done | rfl | (simp only [List.length_drop, List.length_take]; rfl)) ?_; (with_reducible refine (table_Find.calls 3221225655 (⟨#[102, 111, 114, 107]⟩ : ByteArray) t117 false _ A4.out).mono ?_); rintro e w30 ⟨rfl, hb⟩; refine ⟨_, rfl, ?_⟩; have n0_ := Aside0.mk (below_step (by repeat (first | (with_reducible first | exact HB.out | apply below_alloc | apply pw_below_drewN | apply below_drew1) | exact HB.out)) hb); clear HB; have HB := n0_; clear n0_; (try clear hb); (try clear hb2); (try clear hk); (try clear hi)) | ((with_reducible refine gate_callee (f := 17) rfl ?_); refine goesL_ (some 30) rfl rfl Tryd.func17 (by kernel_rfl) rfl #[.int .u32 3221225534, .string (⟨#[57, 57, 57]⟩ : ByteArray)] rfl (by (try simp only [List.map_toArray, List.map_cons, List.map_nil]); first | done | rfl | (simp only [List.length_drop, List.length_take]; rfl)) ?_; (with_reducible refine (table_Read.calls 3221225534 (⟨#[57, 57, 57]⟩ : ByteArray) t119 true _ (hG.on (by repeat (first | (with_reducible first | exact HB.out | apply below_alloc | apply pw_below_drewN | apply below_drew1) | exact HB.out))) A5.out).mono ?_); rintro e w31 ⟨rfl, hb⟩; refine ⟨_, rfl, ?_⟩; have n0_ := Aside0.mk (below_step (by repeat (first | (with_reducible first | exact HB.out | apply below_alloc | apply pw_below_drewN | apply below_drew1) | exact HB.out)) hb); clear HB; have HB := n0_; clear n0_; (try clear hb); (try clear hb2); (try clear hk); (try clear hi)) | ((with_reducible refine gate_callee (f := 17) rfl ?_); refine goesL_ (some 34) rfl rfl Tryd.func17 (by kernel_rfl) rfl #[.int .u32 3221225534, .string (⟨#[53, 57]⟩ : ByteArray)] rfl (by (try simp only [List.map_toArray, List.map_cons, List.map_nil]); first | done | rfl | (simp only [List.length_drop, List.length_take]; rfl)) ?_; (with_reducible refine (table_Read.calls 3221225534 (⟨#[53, 57]⟩ : ByteArray) t121 false _ (hG.on (by repeat (first | (with_reducible first | exact HB.out | apply below_alloc | apply pw_below_drewN | apply below_drew1) | exact HB.out))) A6.out).mono ?_); rintro e w32 ⟨rfl, hb⟩; refine ⟨_, rfl, ?_⟩; have n0_ := Aside0.mk (below_step (by repeat (first | (with_reducible first | exact HB.out | apply below_alloc | apply pw_below_drewN | apply below_drew1) | exact HB.out)) hb); clear HB; have HB := n0_; clear n0_; (try clear hb); (try clear hb2); (try clear hk); (try clear hi)) | ((with_reducible refine gate_callee (f := 14) rfl ?_); refine goesL_ (some 37) rfl rfl Tryd.func14 (by kernel_rfl) rfl #[] rfl (by (try simp only [List.map_toArray, List.map_cons, List.map_nil]); first | done | rfl | (simp only [List.length_drop, List.length_take]; rfl)) ?_; (with_reducible refine (table_Archs.calls  t123 _ A7.out).mono ?_); rintro e w33 ⟨v124, rfl, ho0, hb⟩; refine ⟨_, rfl, ?_⟩; have n0_ := Aside0.mk (Kd.R_lower ho0 (below_size (by repeat (first | (with_reducible first | exact HB.out | apply below_alloc | apply pw_below_drewN | apply below_drew1) | exact HB.out)))); have n1_ := Aside0.mk (below_step (by repeat (first | (with_reducible first | exact HB.out | apply below_alloc | apply pw_below_drewN | apply below_drew1) | exact HB.out)) hb); clear HB; have HO125 := n0_; have HB := n1_; clear n0_ n1_; (try clear hb); (try clear hb2); (try clear hk); (try clear hi); (try clear ho0); obtain ⟨Ao34, co34, eo34⟩ := Kd.R_slice HO125.out; subst eo34) | (go_at_call 9; (with_reducible refine (table_Name.calls 3221225534 59 t126 _ A15.out).mono ?_); rintro e w35 ⟨rfl, hb⟩; have n0_ := Aside0.mk (Kd.R_below (by (with_reducible repeat (first | apply Kd.R_alloc | apply Kd.R_drewN | apply Kd.R_drew)); exact HO125.out) hb); have n1_ := Aside0.mk (below_step (by repeat (first | (with_reducible first | exact HB.out | apply below_alloc | apply pw_below_drewN | apply below_drew1) | exact HB.out)) hb); clear HO125; clear HB; have HO125 := n0_; have HB := n1_; clear n0_ n1_; (try clear hb); (try clear hb2); (try clear hk); (try clear hi)) | (go_at_call 16; (with_reducible refine (table_Print.calls 1073741827 59 t127 _ (hG.on (by repeat (first | (with_reducible first | exact HB.out | apply below_alloc | apply pw_below_drewN | apply below_drew1) | exact HB.out))) A17.out).mono ?_); rintro e w36 ⟨rfl, hb⟩; have n0_ := Aside0.mk (Kd.R_below (by (with_reducible repeat (first | apply Kd.R_alloc | apply Kd.R_drewN | apply Kd.R_drew)); exact HO125.out) hb); have n1_ := Aside0.mk (below_step (by repeat (first | (with_reducible first | exact HB.out | apply below_alloc | apply pw_below_drewN | apply below_drew1) | exact HB.out)) hb); clear HO125; clear HB; have HO125 := n0_; have HB := n1_; clear n0_ n1_; (try clear hb); (try clear hb2); (try clear hk); (try clear hi)) | (go_at_call 13; (with_reducible refine (table_All.calls 3221225655 t128 _ A22.out).mono ?_); rintro e w37 ⟨v129, rfl, ho0, hb⟩; have n0_ := Aside0.mk (Kd.R_elder' (by (with_reducible repeat (first | apply Kd.R_alloc | apply Kd.R_drewN | apply Kd.R_drew)); exact HO125.out) (Kd.R_base ho0) hb); have n1_ := Aside0.mk (Kd.R_lower (Kd.R_new' ho0 (Kd.R_lt (by (with_reducible repeat (first | apply Kd.R_alloc | apply Kd.R_drewN | apply Kd.R_drew)); exact HO125.out))) (below_size (by repeat (first | (with_reducible first | exact HB.out | apply below_alloc | apply pw_below_drewN | apply below_drew1) | exact HB.out)))); have n2_ := Aside0.mk (below_step (by repeat (first | (with_reducible first | exact HB.out | apply below_alloc | apply pw_below_drewN | apply below_drew1) | exact HB.out)) hb); clear HO125; clear HB; have HO125 := n0_; have HO130 := n1_; have HB := n2_; clear n0_ n1_ n2_; (try clear hb); (try clear hb2); (try clear hk); (try clear hi); (try clear ho0); obtain ⟨Ao38, co38, eo38⟩ := Kd.R_slice HO130.out; subst eo38) | (go_at_call 15; (with_reducible refine (table_ArchName.calls 3221225534 t131 _ A24.out).mono ?_); rintro e w' ⟨rfl, ⟨nd, rfl⟩⟩) | (go_at_call 15; (with_reducible refine (table_ArchName.calls 1 t132 _ A26.out).mono ?_); rintro e w' ⟨rfl, ⟨nd, rfl⟩⟩))
                              go_ret
                              exact ⟨by first | rfl | (simp [errW_none, errW_some] <;> rfl) | (simp [*, errW_none, errW_some] <;> rfl), by repeat (first | (with_reducible first | exact HB.out | apply below_alloc | apply pw_below_drewN | apply below_drew1) | exact HB.out)⟩
                            · rw [if_neg c25] at H
                              have c25b0 : (t131.toList == ([120, 56, 54, 95, 54, 52] : List UInt8)) = false := beq_eq_false_iff_ne.mpr c25
                              have c25b1 : (t131.toList != ([120, 56, 54, 95, 54, 52] : List UInt8)) = true := bne_iff_ne.mpr c25
                              exact absurd ((Option.some.inj H).trans HT.out) (by simp)
                          · rw [if_neg c23] at H
                            have c23b0 : ((t128.length : Int) == 33) = false := beq_eq_false_iff_ne.mpr c23
                            have c23b1 : ((t128.length : Int) != 33) = true := bne_iff_ne.mpr c23
                            exact absurd ((Option.some.inj H).trans HT.out) (by simp)
                      · replace c20 := Bool.eq_false_iff.mpr c20
                        subst c20
                        have H1 : (some false) = some r := by rw [if_neg (show ¬ (false = true) by decide)] at H; exact H
                        clear H
                        have H := H1
                        clear H1
                        exact absurd ((Option.some.inj H).trans HT.out) (by simp)
                    · rw [if_neg c19] at H
                      have c19b0 : (t119 == 999) = false := beq_eq_false_iff_ne.mpr c19
                      have c19b1 : (t119 != 999) = true := bne_iff_ne.mpr c19
                      exact absurd ((Option.some.inj H).trans HT.out) (by simp)
                  · rw [if_neg c18] at H
                    have c18b0 : (t127.toList == ([53, 57] : List UInt8)) = false := beq_eq_false_iff_ne.mpr c18
                    have c18b1 : (t127.toList != ([53, 57] : List UInt8)) = true := bne_iff_ne.mpr c18
                    exact absurd ((Option.some.inj H).trans HT.out) (by simp)
                · rw [if_neg c16] at H
                  have c16b0 : (t126.toList == ([101, 120, 101, 99, 118, 101] : List UInt8)) = false := beq_eq_false_iff_ne.mpr c16
                  have c16b1 : (t126.toList != ([101, 120, 101, 99, 118, 101] : List UInt8)) = true := bne_iff_ne.mpr c16
                  exact absurd ((Option.some.inj H).trans HT.out) (by simp)
            · replace c13 := Bool.eq_false_iff.mpr c13
              subst c13
              have H1 : (some false) = some r := by rw [if_neg (show ¬ (false = true) by decide)] at H; exact H
              clear H
              have H := H1
              clear H1
              exact absurd ((Option.some.inj H).trans HT.out) (by simp)
          · rw [if_neg c12] at H
            have c12b0 : (t115 == 3) = false := beq_eq_false_iff_ne.mpr c12
            have c12b1 : (t115 != 3) = true := bne_iff_ne.mpr c12
            exact absurd ((Option.some.inj H).trans HT.out) (by simp)
      · replace c10 := Bool.eq_false_iff.mpr c10
        subst c10
        have H1 : (some false) = some r := by rw [if_neg (show ¬ (false = true) by decide)] at H; exact H
        clear H
        have H := H1
        clear H1
        exact absurd ((Option.some.inj H).trans HT.out) (by simp)
    · rw [if_neg c9] at H
      have c9b0 : (t111 == 3221225655) = false := beq_eq_false_iff_ne.mpr c9
      have c9b1 : (t111 != 3221225655) = true := bne_iff_ne.mpr c9
      exact absurd ((Option.some.inj H).trans HT.out) (by simp)
  · rw [if_neg c8] at H
    have c8b0 : ((t123.length : Int) == 3) = false := beq_eq_false_iff_ne.mpr c8
    have c8b1 : ((t123.length : Int) != 3) = true := bne_iff_ne.mpr c8
    exact absurd ((Option.some.inj H).trans HT.out) (by simp)

end Go.Proofs.YtpgjcjgmokfofaaDoor.Pr
