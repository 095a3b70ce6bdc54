-- Made by a program of this session (wip/tools/myprint.sh).
import Derived.Test.YtpgjcjgmokfofaaDoorGLib
import Derived.Test.YtpgjcjgmokfofaaDoorPr0
import Derived.Test.YtpgjcjgmokfofaaDoorFTablePrint
import Derived.Test.YtpgjcjgmokfofaaDoorFTamisref05Number
import Derived.Test.YtpgjcjgmokfofaaDoorGAwake19
import Derived.Test.YtpgjcjgmokfofaaDoorGTabLook
namespace Go.Proofs.YtpgjcjgmokfofaaDoor.Pr
open Go.RowKit Go.Proofs.YtpgjcjgmokfofaaDoorW.PrintWords Go.Proofs.YtpgjcjgmokfofaaDoorW.PrintLast Go.Proofs.YtpgjcjgmokfofaaDoorW.PrintMore
attribute [local go_sem] max2_int min2_int max_two min_two max_three min_three max_four min_four   -- for this text's walks alone
set_option linter.unusedVariables false
set_option linter.unusedSimpArgs false

/-! ### tamislaw19_TableOne: function 6 -/
def tamislaw19_TableOne.f (k : Nat) (a0 : Int) (a1 : Int) (a2 : Int) : Option (Bool) := (table_Print.f a0 a1).bind fun t215 => ((table_Print.f a0 a2).bind fun t216 => ((awake19.f).bind fun t217 => (if t217 = true then (if ((t215.toList == t216.toList) == (a1 == a2)) = true then ((table_Name.f a0 a1).bind fun t218 => (if t218.toList = ([] : List UInt8) then ((tamisref05_Number.f k a1).bind fun t219 => (if t215.toList = t219.toList then ((table_Name.f a0 a1).bind fun t220 => (if t220.toList = ([] : List UInt8) then (some true) else ((table_Name.f a0 a1).bind fun t221 => (some (t215.toList == t221.toList))))) else (some false))) else ((table_Name.f a0 a1).bind fun t222 => (if t222.toList = ([] : List UInt8) then (some true) else ((table_Name.f a0 a1).bind fun t223 => (some (t215.toList == t223.toList))))))) else (some false)) else (some false))))
theorem tamislaw19_TableOne.mono : ∀ a0 a1 a2 k, LeO (tamislaw19_TableOne.f k a0 a1 a2) (tamislaw19_TableOne.f (k + 1) a0 a1 a2) := by
  intro a0 a1 a2 k
  unfold tamislaw19_TableOne.f
  repeat' first
      | (with_reducible exact tamisref05_Number.mono _ _)
      | (with_reducible exact LeO.refl _)
      | (with_reducible exact LeO.none _)
      | (with_reducible refine LeO.ite ?_ ?_)
      | (with_reducible refine LeO.bind ?_ (fun _ => ?_))
      | exact tamisref05_Number.mono _ _
      | exact LeO.none _
      | refine LeO.ite ?_ ?_
      | refine LeO.bind ?_ (fun _ => ?_)
set_option maxHeartbeats 8000000 in
set_option maxRecDepth 100000 in
theorem tamislaw19_TableOne.calls (k : Nat) (a0 : Int) (a1 : Int) (a2 : Int) (r : Bool) (w : World) (hT : r = true) (hG : GlobW w) (h : tamislaw19_TableOne.f k a0 a1 a2 = some r) :
    Calls Tryd.prog 6 #[.int .u32 a0, .int .u32 a1, .int .u32 a2] w fun e w' => e = .returned (.bool r) ∧ Below w.heap.size w w' := by
  have HT := Aside0.mk hT
  clear hT
  have HB := Aside0.mk (Below.refl w.heap.size w)
  have H : ((table_Print.f a0 a1).bind fun t215 => ((table_Print.f a0 a2).bind fun t216 => ((awake19.f).bind fun t217 => (if t217 = true then (if ((t215.toList == t216.toList) == (a1 == a2)) = true then ((table_Name.f a0 a1).bind fun t218 => (if t218.toList = ([] : List UInt8) then ((tamisref05_Number.f k a1).bind fun t219 => (if t215.toList = t219.toList then ((table_Name.f a0 a1).bind fun t220 => (if t220.toList = ([] : List UInt8) then (some true) else ((table_Name.f a0 a1).bind fun t221 => (some (t215.toList == t221.toList))))) else (some false))) else ((table_Name.f a0 a1).bind fun t222 => (if t222.toList = ([] : List UInt8) then (some true) else ((table_Name.f a0 a1).bind fun t223 => (some (t215.toList == t223.toList))))))) else (some false)) else (some false))))) = some r := h
  clear h
  replace H := Option.bind_eq_some_iff.mp H
  obtain ⟨t215, A40, H⟩ := H
  replace H : ((table_Print.f a0 a2).bind fun t216 => ((awake19.f).bind fun t217 => (if t217 = true then (if ((t215.toList == t216.toList) == (a1 == a2)) = true then ((table_Name.f a0 a1).bind fun t218 => (if t218.toList = ([] : List UInt8) then ((tamisref05_Number.f k a1).bind fun t219 => (if t215.toList = t219.toList then ((table_Name.f a0 a1).bind fun t220 => (if t220.toList = ([] : List UInt8) then (some true) else ((table_Name.f a0 a1).bind fun t221 => (some (t215.toList == t221.toList))))) else (some false))) else ((table_Name.f a0 a1).bind fun t222 => (if t222.toList = ([] : List UInt8) then (some true) else ((table_Name.f a0 a1).bind fun t223 => (some (t215.toList == t223.toList))))))) else (some false)) else (some false)))) = some r := H
  have A4 := Aside0.mk A40
  clear A40
  replace H := Option.bind_eq_some_iff.mp H
  obtain ⟨t216, A50, H⟩ := H
  replace H : ((awake19.f).bind fun t217 => (if t217 = true then (if ((t215.toList == t216.toList) == (a1 == a2)) = true then ((table_Name.f a0 a1).bind fun t218 => (if t218.toList = ([] : List UInt8) then ((tamisref05_Number.f k a1).bind fun t219 => (if t215.toList = t219.toList then ((table_Name.f a0 a1).bind fun t220 => (if t220.toList = ([] : List UInt8) then (some true) else ((table_Name.f a0 a1).bind fun t221 => (some (t215.toList == t221.toList))))) else (some false))) else ((table_Name.f a0 a1).bind fun t222 => (if t222.toList = ([] : List UInt8) then (some true) else ((table_Name.f a0 a1).bind fun t223 => (some (t215.toList == t223.toList))))))) else (some false)) else (some false))) = some r := H
  have A5 := Aside0.mk A50
  clear A50
  replace H := Option.bind_eq_some_iff.mp H
  obtain ⟨t217, A60, H⟩ := H
  replace H : (if t217 = true then (if ((t215.toList == t216.toList) == (a1 == a2)) = true then ((table_Name.f a0 a1).bind fun t218 => (if t218.toList = ([] : List UInt8) then ((tamisref05_Number.f k a1).bind fun t219 => (if t215.toList = t219.toList then ((table_Name.f a0 a1).bind fun t220 => (if t220.toList = ([] : List UInt8) then (some true) else ((table_Name.f a0 a1).bind fun t221 => (some (t215.toList == t221.toList))))) else (some false))) else ((table_Name.f a0 a1).bind fun t222 => (if t222.toList = ([] : List UInt8) then (some true) else ((table_Name.f a0 a1).bind fun t223 => (some (t215.toList == t223.toList))))))) else (some false)) else (some false)) = some r := H
  have A6 := Aside0.mk A60
  clear A60
  by_cases c7 : t217 = true
  · subst c7
    have H1 : (if ((t215.toList == t216.toList) == (a1 == a2)) = true then ((table_Name.f a0 a1).bind fun t218 => (if t218.toList = ([] : List UInt8) then ((tamisref05_Number.f k a1).bind fun t219 => (if t215.toList = t219.toList then ((table_Name.f a0 a1).bind fun t220 => (if t220.toList = ([] : List UInt8) then (some true) else ((table_Name.f a0 a1).bind fun t221 => (some (t215.toList == t221.toList))))) else (some false))) else ((table_Name.f a0 a1).bind fun t222 => (if t222.toList = ([] : List UInt8) then (some true) else ((table_Name.f a0 a1).bind fun t223 => (some (t215.toList == t223.toList))))))) else (some false)) = some r := by rw [if_pos rfl] at H; exact H
    clear H
    have H := H1
    clear H1
    by_cases c8 : ((t215.toList == t216.toList) == (a1 == a2)) = true
    · rw [if_pos c8] at H
      have c8b0 : ((t215.toList == t216.toList) == (a1 == a2)) = true := c8
      (try (have c8b1 : decide ((t215.toList == t216.toList) = (a1 == a2)) = true := by simpa using c8))
      (try (have c8b2 : ((t215.toList == t216.toList) == (a1 == a2)) = true := by simpa using c8))
      clear c8
      replace H := Option.bind_eq_some_iff.mp H
      obtain ⟨t218, A90, H⟩ := H
      replace H : (if t218.toList = ([] : List UInt8) then ((tamisref05_Number.f k a1).bind fun t219 => (if t215.toList = t219.toList then ((table_Name.f a0 a1).bind fun t220 => (if t220.toList = ([] : List UInt8) then (some true) else ((table_Name.f a0 a1).bind fun t221 => (some (t215.toList == t221.toList))))) else (some false))) else ((table_Name.f a0 a1).bind fun t222 => (if t222.toList = ([] : List UInt8) then (some true) else ((table_Name.f a0 a1).bind fun t223 => (some (t215.toList == t223.toList)))))) = some r := H
      have A9 := Aside0.mk A90
      clear A90
      by_cases c10 : t218.toList = ([] : List UInt8)
      · rw [if_pos c10] at H
        have c10b0 : (t218.toList == ([] : List UInt8)) = true := beq_iff_eq.mpr c10
        have c10b1 : (t218.toList != ([] : List UInt8)) = false := bne_eq_false_iff_eq.mpr c10
        clear c10
        replace H := Option.bind_eq_some_iff.mp H
        obtain ⟨t219, A110, H⟩ := H
        replace H : (if t215.toList = t219.toList then ((table_Name.f a0 a1).bind fun t220 => (if t220.toList = ([] : List UInt8) then (some true) else ((table_Name.f a0 a1).bind fun t221 => (some (t215.toList == t221.toList))))) else (some false)) = some r := H
        have A11 := Aside0.mk A110
        clear A110
        by_cases c12 : t215.toList = t219.toList
        · rw [if_pos c12] at H
          have c12b0 : (t215.toList == t219.toList) = true := beq_iff_eq.mpr c12
          have c12b1 : (t215.toList != t219.toList) = false := bne_eq_false_iff_eq.mpr c12
          clear c12
          replace H := Option.bind_eq_some_iff.mp H
          obtain ⟨t220, A130, H⟩ := H
          replace H : (if t220.toList = ([] : List UInt8) then (some true) else ((table_Name.f a0 a1).bind fun t221 => (some (t215.toList == t221.toList)))) = some r := H
          have A13 := Aside0.mk A130
          clear A130
          obtain rfl : t220 = t218 := Option.some.inj (A13.out.symm.trans A9.out)
          by_cases c14 : t220.toList = ([] : List UInt8)
          · rw [if_pos c14] at H
            have c14b0 : (t220.toList == ([] : List UInt8)) = true := beq_iff_eq.mpr c14
            have c14b1 : (t220.toList != ([] : List UInt8)) = false := bne_eq_false_iff_eq.mpr c14
            clear c14
            obtain rfl := Option.some.inj H
            go_enter Tryd.func6, Tryd.ntmps6
            go_wp2_with (first | ((with_reducible refine gate_callee (f := 16) rfl ?_); refine goesL_ (some 11) rfl rfl Tryd.func16 (by kernel_rfl) rfl #[.int .u32 a0, .int .u32 a1] rfl (by (try simp only [List.map_toArray, List.map_cons, List.map_nil]); first | done | rfl | (simp only [List.length_drop, List.length_take]; rfl)) ?_; (with_reducible refine (table_Print.calls a0 a1 t215 _ (hG.on (by repeat (first | (with_reducible first | exact HB.out | apply below_alloc | apply pw_below_drewN | apply below_drew1) | exact HB.out))) A4.out).mono ?_); rintro e w15 ⟨rfl, hb⟩; refine ⟨_, rfl, ?_⟩; have n0_ := Aside0.mk (below_step (by repeat (first | (with_reducible first | exact HB.out | apply below_alloc | apply pw_below_drewN | apply below_drew1) | exact HB.out)) hb); clear HB; have HB := n0_; clear n0_; (try clear hb); (try clear hb2); (try clear hk); (try clear hi)) | ((with_reducible refine gate_callee (f := 16) rfl ?_); refine goesL_ (some 14) rfl rfl Tryd.func16 (by kernel_rfl) rfl #[.int .u32 a0, .int .u32 a2] rfl (by (try simp only [List.map_toArray, List.map_cons, List.map_nil]); first | done | rfl | (simp only [List.length_drop, List.length_take]; rfl)) ?_; (with_reducible refine (table_Print.calls a0 a2 t216 _ (hG.on (by repeat (first | (with_reducible first | exact HB.out | apply below_alloc | apply pw_below_drewN | apply below_drew1) | exact HB.out))) A5.out).mono ?_); rintro e w16 ⟨rfl, hb⟩; refine ⟨_, rfl, ?_⟩; have n0_ := Aside0.mk (below_step (by repeat (first | (with_reducible first | exact HB.out | apply below_alloc | apply pw_below_drewN | apply below_drew1) | exact HB.out)) hb); clear HB; have HB := n0_; clear n0_; (try clear hb); (try clear hb2); (try clear hk); (try clear hi)) | ((with_reducible refine gate_callee (f := 8) rfl ?_); refine goesL_ (some 15) rfl rfl Tryd.func8 (by kernel_rfl) rfl #[] rfl (by (try simp only [List.map_toArray, List.map_cons, List.map_nil]); first | done | rfl | (simp only [List.length_drop, List.length_take]; rfl)) ?_; (with_reducible refine (awake19.calls  true _ (hG.on (by repeat (first | (with_reducible first | exact HB.out | apply below_alloc | apply pw_below_drewN | apply below_drew1) | exact HB.out))) A6.out).mono ?_); rintro e w17 ⟨rfl, hb⟩; refine ⟨_, rfl, ?_⟩; have n0_ := Aside0.mk (below_step (by repeat (first | (with_reducible first | exact HB.out | apply below_alloc | apply pw_below_drewN | apply below_drew1) | exact HB.out)) hb); clear HB; have HB := n0_; clear n0_; (try clear hb); (try clear hb2); (try clear hk); (try clear hi)) | (go_at_call 9; (with_reducible refine (table_Name.calls a0 a1 t218 _ A9.out).mono ?_); rintro e w18 ⟨rfl, hb⟩; have n0_ := Aside0.mk (below_step (by repeat (first | (with_reducible first | exact HB.out | apply below_alloc | apply pw_below_drewN | apply below_drew1) | exact HB.out)) hb); clear HB; have HB := n0_; clear n0_; (try clear hb); (try clear hb2); (try clear hk); (try clear hi)) | (go_at_call 20; (with_reducible refine (tamisref05_Number.calls k a1 t219 _ A11.out).mono ?_); rintro e w19 ⟨rfl, hb⟩; have n0_ := Aside0.mk (below_step (by repeat (first | (with_reducible first | exact HB.out | apply below_alloc | apply pw_below_drewN | apply below_drew1) | exact HB.out)) hb); clear HB; have HB := n0_; clear n0_; (try clear hb); (try clear hb2); (try clear hk); (try clear hi)) | (go_at_call 9; (with_reducible refine (table_Name.calls a0 a1 t220 _ A13.out).mono ?_); rintro e w20 ⟨rfl, hb⟩; have n0_ := Aside0.mk (below_step (by repeat (first | (with_reducible first | exact HB.out | apply below_alloc | apply pw_below_drewN | apply below_drew1) | exact HB.out)) hb); clear HB; have HB := n0_; clear n0_; (try clear hb); (try clear hb2); (try clear hk); (try clear hi)))
            go_ret
            exact ⟨by first | rfl | (simp [errW_none, errW_some] <;> rfl) | (simp [*, errW_none, errW_some] <;> rfl), by repeat (first | (with_reducible first | exact HB.out | apply below_alloc | apply pw_below_drewN | apply below_drew1) | exact HB.out)⟩
          · exact absurd (eq_of_beq c10b0) c14
        · rw [if_neg c12] at H
          have c12b0 : (t215.toList == t219.toList) = false := beq_eq_false_iff_ne.mpr c12
          have c12b1 : (t215.toList != t219.toList) = true := bne_iff_ne.mpr c12
          exact absurd ((Option.some.inj H).trans HT.out) (by simp)
      · rw [if_neg c10] at H
        have c10b0 : (t218.toList == ([] : List UInt8)) = false := beq_eq_false_iff_ne.mpr c10
        have c10b1 : (t218.toList != ([] : List UInt8)) = true := bne_iff_ne.mpr c10
        replace H := Option.bind_eq_some_iff.mp H
        obtain ⟨t222, A290, H⟩ := H
        replace H : (if t222.toList = ([] : List UInt8) then (some true) else ((table_Name.f a0 a1).bind fun t223 => (some (t215.toList == t223.toList)))) = some r := H
        have A29 := Aside0.mk A290
        clear A290
        obtain rfl : t222 = t218 := Option.some.inj (A29.out.symm.trans A9.out)
        by_cases c30 : t222.toList = ([] : List UInt8)
        · exact absurd c30 c10
        · rw [if_neg c30] at H
          have c30b0 : (t222.toList == ([] : List UInt8)) = false := beq_eq_false_iff_ne.mpr c30
          have c30b1 : (t222.toList != ([] : List UInt8)) = true := bne_iff_ne.mpr c30
          replace H := Option.bind_eq_some_iff.mp H
          obtain ⟨t223, A360, H⟩ := H
          replace H : (some (t215.toList == t223.toList)) = some r := H
          have A36 := Aside0.mk A360
          clear A360
          obtain rfl : t223 = t222 := Option.some.inj (A36.out.symm.trans A29.out)
          obtain rfl := Option.some.inj H
          go_enter Tryd.func6, Tryd.ntmps6
          go_wp2_with (first | ((with_reducible refine gate_callee (f := 16) rfl ?_); refine goesL_ (some 11) rfl rfl Tryd.func16 (by kernel_rfl) rfl #[.int .u32 a0, .int .u32 a1] rfl (by (try simp only [List.map_toArray, List.map_cons, List.map_nil]); first | done | rfl | (simp only [List.length_drop, List.length_take]; rfl)) ?_; (with_reducible refine (table_Print.calls a0 a1 t215 _ (hG.on (by repeat (first | (with_reducible first | exact HB.out | apply below_alloc | apply pw_below_drewN | apply below_drew1) | exact HB.out))) A4.out).mono ?_); rintro e w37 ⟨rfl, hb⟩; refine ⟨_, rfl, ?_⟩; have n0_ := Aside0.mk (below_step (by repeat (first | (with_reducible first | exact HB.out | apply below_alloc | apply pw_below_drewN | apply below_drew1) | exact HB.out)) hb); clear HB; have HB := n0_; clear n0_; (try clear hb); (try clear hb2); (try clear hk); (try clear hi)) | ((with_reducible refine gate_callee (f := 16) rfl ?_); refine goesL_ (some 14) rfl rfl Tryd.func16 (by kernel_rfl) rfl #[.int .u32 a0, .int .u32 a2] rfl (by (try simp only [List.map_toArray, List.map_cons, List.map_nil]); first | done | rfl | (simp only [List.length_drop, List.length_take]; rfl)) ?_; (with_reducible refine (table_Print.calls a0 a2 t216 _ (hG.on (by repeat (first | (with_reducible first | exact HB.out | apply below_alloc | apply pw_below_drewN | apply below_drew1) | exact HB.out))) A5.out).mono ?_); rintro e w38 ⟨rfl, hb⟩; refine ⟨_, rfl, ?_⟩; have n0_ := Aside0.mk (below_step (by repeat (first | (with_reducible first | exact HB.out | apply below_alloc | apply pw_below_drewN | apply below_drew1) | exact HB.out)) hb); clear HB; have HB := n0_; clear n0_; (try clear hb); (try clear hb2); (try clear hk); (try clear hi)) | ((with_reducible refine gate_callee (f := 8) rfl ?_); refine goesL_ (some 15) rfl rfl Tryd.func8 (by kernel_rfl) rfl #[] rfl (by (try simp only [List.map_toArray, List.map_cons, List.map_nil]); first | done | rfl | (simp only [List.length_drop, List.length_take]; rfl)) ?_; (with_reducible refine (awake19.calls  true _ (hG.on (by repeat (first | (with_reducible first | exact HB.out | apply below_alloc | apply pw_below_drewN | apply below_drew1) | exact HB.out))) A6.out).mono ?_); rintro e w39 ⟨rfl, hb⟩; refine ⟨_, rfl, ?_⟩; have n0_ := Aside0.mk (below_step (by repeat (first | (with_reducible first | exact HB.out | apply below_alloc | apply pw_below_drewN | apply below_drew1) | exact HB.out)) hb); clear HB; have HB := n0_; clear n0_; (try clear hb); (try clear hb2); (try clear hk); (try clear hi)) | (go_at_call 9; (with_reducible refine (table_Name.calls a0 a1 t218 _ A9.out).mono ?_); rintro e w40 ⟨rfl, hb⟩; have n0_ := Aside0.mk (below_step (by repeat (first | (with_reducible first | exact HB.out | apply below_alloc | apply pw_below_drewN | apply below_drew1) | exact HB.out)) hb); clear HB; have HB := n0_; clear n0_; (try clear hb); (try clear hb2); (try clear hk); (try clear hi)) | (go_at_call 9; (with_reducible refine (table_Name.calls a0 a1 t222 _ A29.out).mono ?_); rintro e w41 ⟨rfl, hb⟩; have n0_ := Aside0.mk (below_step (by repeat (first | (with_reducible first | exact HB.out | apply below_alloc | apply pw_below_drewN | apply below_drew1) | exact HB.out)) hb); clear HB; have HB := n0_; clear n0_; (try clear hb); (try clear hb2); (try clear hk); (try clear hi)) | (go_at_call 9; (with_reducible refine (table_Name.calls a0 a1 t223 _ A36.out).mono ?_); rintro e w42 ⟨rfl, hb⟩; have n0_ := Aside0.mk (below_step (by repeat (first | (with_reducible first | exact HB.out | apply below_alloc | apply pw_below_drewN | apply below_drew1) | exact HB.out)) hb); clear HB; have HB := n0_; clear n0_; (try clear hb); (try clear hb2); (try clear hk); (try clear hi)))
          go_ret
          exact ⟨by first | rfl | (simp [errW_none, errW_some] <;> rfl) | (simp [*, errW_none, errW_some] <;> rfl), by repeat (first | (with_reducible first | exact HB.out | apply below_alloc | apply pw_below_drewN | apply below_drew1) | exact HB.out)⟩
    · rw [if_neg c8] at H
      have c8b0 : ((t215.toList == t216.toList) == (a1 == a2)) = false := by simpa using c8
      (try (have c8b1 : decide ((t215.toList == t216.toList) = (a1 == a2)) = false := by simpa using c8))
      (try (have c8b2 : ((t215.toList == t216.toList) == (a1 == a2)) = false := by simpa using c8))
      (try (have c8b3 : ¬ ((t215.toList == t216.toList) = (a1 == a2)) := by simpa using c8))
      clear c8
      exact absurd ((Option.some.inj H).trans HT.out) (by simp)
  · replace c7 := Bool.eq_false_iff.mpr c7
    subst c7
    have H1 : (some false) = some r := by rw [if_neg (show ¬ (false = true) by decide)] at H; exact H
    clear H
    have H := H1
    clear H1
    exact absurd ((Option.some.inj H).trans HT.out) (by simp)

end Go.Proofs.YtpgjcjgmokfofaaDoor.Pr
