-- Made by a program of this session (wip/tools/myprint.sh).
import Derived.Test.YtnagbdcpmbjnpaaDoorGLib
import Derived.Test.YtnagbdcpmbjnpaaDoorPr0
import Derived.Test.YtnagbdcpmbjnpaaDoorFAsmRead
import Derived.Test.YtnagbdcpmbjnpaaDoorFTamisref02Same
import Derived.Test.YtnagbdcpmbjnpaaDoorFTamisref05Print
import Derived.Test.YtnagbdcpmbjnpaaDoorFTamisref05Read
import Derived.Test.YtnagbdcpmbjnpaaDoorGAwake05
namespace Go.Proofs.YtnagbdcpmbjnpaaDoor.Pr
open Go.RowKit Go.Proofs.YtnagbdcpmbjnpaaDoorW.PrintWords Go.Proofs.YtnagbdcpmbjnpaaDoorW.PrintLast Go.Proofs.YtnagbdcpmbjnpaaDoorW.PrintMore
attribute [local go_sem] max2_int min2_int max_two min_two max_three min_three max_four min_four   -- for this text's walks alone
set_option linter.unusedVariables false
set_option linter.unusedSimpArgs false

/-! ### tamislaw05_AsmJoins: function 8 -/
mutual
def tamislaw05_AsmJoins.j0 : Nat → List (S25) → List (S25) → Int → Bool → Option (Bool)
  | 0, _, _, _, _ => none
  | k + 1, x0, x1, x2, x39 => if x39 = true then ((awake05.f).bind fun t306 => (some t306)) else ((tamisref05_Print.f k x0).bind fun bt307 => ((tamisref05_Print.f k x1).bind fun bt309 => (if bt307.2 = 0 then (tamislaw05_AsmJoins.j1 k x0 x1 x2 bt307.1 bt309.1 (bt309.2 != 0)) else (tamislaw05_AsmJoins.j1 k x0 x1 x2 bt307.1 bt309.1 true))))
def tamislaw05_AsmJoins.j1 : Nat → List (S25) → List (S25) → Int → ByteArray → ByteArray → Bool → Option (Bool)
  | 0, _, _, _, _, _, _ => none
  | k + 1, x0, x1, x2, x7, x9, x56 => if x56 = true then (some true) else (if x7.size + x9.size ≤ 9223372036854775807 then ((asm_Read.f k (x7 ++ x9)).bind fun bt311 => (if bt311.2.2 = 0 then (if bt311.2.1 = 0 then ((some (([] : List (S25)) : List (S25))).bind fun y316 => (if y316.length + x0.length < 17592186044416 then ((some (y316 ++ x0 : List (S25))).bind fun y319 => (if y319.length + x1.length < 17592186044416 then ((tamisref02_Same.f k bt311.1 (y319 ++ x1)).bind fun t325 => (tamislaw05_AsmJoins.j2 k x2 x7 (!t325))) else (none))) else (none))) else (tamislaw05_AsmJoins.j2 k x2 x7 true)) else (tamislaw05_AsmJoins.j2 k x2 x7 true))) else (none))
def tamislaw05_AsmJoins.j2 : Nat → Int → ByteArray → Bool → Option (Bool)
  | 0, _, _, _ => none
  | k + 1, x2, x7, x80 => if x80 = true then (some false) else (if x2 < 0 then (tamislaw05_AsmJoins.j3 k x2 x7 true) else (if x2 ≥ (x7.size : Int) then (tamislaw05_AsmJoins.j3 k x2 x7 true) else (if 0 ≤ x2 then (if x2 < (x7.size : Int) then (tamislaw05_AsmJoins.j3 k x2 x7 ((bt x7 x2) == 10)) else (none)) else (none))))
def tamislaw05_AsmJoins.j3 : Nat → Int → ByteArray → Bool → Option (Bool)
  | 0, _, _, _ => none
  | k + 1, x2, x7, x94 => if x94 = true then (some true) else (if 0 ≤ (wrap64 (x2 + 1)) then (if (wrap64 (x2 + 1)) ≤ (x7.size : Int) then ((asm_Read.f k (x7.extract 0 ((wrap64 (x2 + 1)) : Int).toNat)).bind fun bt326 => ((tamisref05_Read.f k (x7.extract 0 ((wrap64 (x2 + 1)) : Int).toNat)).bind fun bt331 => (if (bt326.1.length : Int) = 0 then (if (bt331.1.length : Int) = 0 then (if bt331.2.2 = 3 then (if bt326.2.2 = 3 then (if bt326.2.1 = bt331.2.1 then (some (decide (bt326.2.1 ≤ x2))) else (some false)) else (some false)) else (some false)) else (some false)) else (some false)))) else (none)) else (none))
end
def tamislaw05_AsmJoins.f (k : Nat) (l0 : List (S25)) (l1 : List (S25)) (a2 : Int) : Option (Bool) := (awake05.f).bind fun t305 => (if t305 = true then (if (l0.length : Int) = 0 then (tamislaw05_AsmJoins.j0 k l0 l1 a2 true) else (if (l1.length : Int) = 0 then (tamislaw05_AsmJoins.j0 k l0 l1 a2 true) else (tamislaw05_AsmJoins.j0 k l0 l1 a2 (decide ((wrap64 ((l0.length : Int) + (l1.length : Int))) > 80))))) else (tamislaw05_AsmJoins.j0 k l0 l1 a2 true))
theorem tamislaw05_AsmJoins.mono_l : ∀ k, (∀ y0 y1 y2 y3, LeO (tamislaw05_AsmJoins.j0 k y0 y1 y2 y3) (tamislaw05_AsmJoins.j0 (k + 1) y0 y1 y2 y3)) ∧ (∀ y0 y1 y2 y3 y4 y5, LeO (tamislaw05_AsmJoins.j1 k y0 y1 y2 y3 y4 y5) (tamislaw05_AsmJoins.j1 (k + 1) y0 y1 y2 y3 y4 y5)) ∧ (∀ y0 y1 y2, LeO (tamislaw05_AsmJoins.j2 k y0 y1 y2) (tamislaw05_AsmJoins.j2 (k + 1) y0 y1 y2)) ∧ (∀ y0 y1 y2, LeO (tamislaw05_AsmJoins.j3 k y0 y1 y2) (tamislaw05_AsmJoins.j3 (k + 1) y0 y1 y2))
  | 0 => ⟨fun _ _ _ _ r h => by simp [tamislaw05_AsmJoins.j0] at h, fun _ _ _ _ _ _ r h => by simp [tamislaw05_AsmJoins.j1] at h, fun _ _ _ r h => by simp [tamislaw05_AsmJoins.j2] at h, fun _ _ _ r h => by simp [tamislaw05_AsmJoins.j3] at h⟩
  | k + 1 => by
    obtain ⟨ih0, ih1, ih2, ih3⟩ := tamislaw05_AsmJoins.mono_l k
    refine ⟨?_, ?_, ?_, ?_⟩
    · intro y0 y1 y2 y3
      unfold tamislaw05_AsmJoins.j0
      repeat' first
      | (with_reducible exact ih0 _ _ _ _)
      | (with_reducible exact ih1 _ _ _ _ _ _)
      | (with_reducible exact ih2 _ _ _)
      | (with_reducible exact ih3 _ _ _)
      | (with_reducible exact asm_Read.mono _ _)
      | (with_reducible exact tamisref02_Same.mono _ _ _)
      | (with_reducible exact tamisref05_Print.mono _ _)
      | (with_reducible exact tamisref05_Read.mono _ _)
      | (with_reducible exact LeO.refl _)
      | (with_reducible exact LeO.none _)
      | (with_reducible refine LeO.ite ?_ ?_)
      | (with_reducible refine LeO.bind ?_ (fun _ => ?_))
      | exact ih0 _ _ _ _
      | exact ih1 _ _ _ _ _ _
      | exact ih2 _ _ _
      | exact ih3 _ _ _
      | exact asm_Read.mono _ _
      | exact tamisref02_Same.mono _ _ _
      | exact tamisref05_Print.mono _ _
      | exact tamisref05_Read.mono _ _
      | exact LeO.none _
      | refine LeO.ite ?_ ?_
      | refine LeO.bind ?_ (fun _ => ?_)
    · intro y0 y1 y2 y3 y4 y5
      unfold tamislaw05_AsmJoins.j1
      repeat' first
      | (with_reducible exact ih0 _ _ _ _)
      | (with_reducible exact ih1 _ _ _ _ _ _)
      | (with_reducible exact ih2 _ _ _)
      | (with_reducible exact ih3 _ _ _)
      | (with_reducible exact asm_Read.mono _ _)
      | (with_reducible exact tamisref02_Same.mono _ _ _)
      | (with_reducible exact tamisref05_Print.mono _ _)
      | (with_reducible exact tamisref05_Read.mono _ _)
      | (with_reducible exact LeO.refl _)
      | (with_reducible exact LeO.none _)
      | (with_reducible refine LeO.ite ?_ ?_)
      | (with_reducible refine LeO.bind ?_ (fun _ => ?_))
      | exact ih0 _ _ _ _
      | exact ih1 _ _ _ _ _ _
      | exact ih2 _ _ _
      | exact ih3 _ _ _
      | exact asm_Read.mono _ _
      | exact tamisref02_Same.mono _ _ _
      | exact tamisref05_Print.mono _ _
      | exact tamisref05_Read.mono _ _
      | exact LeO.none _
      | refine LeO.ite ?_ ?_
      | refine LeO.bind ?_ (fun _ => ?_)
    · intro y0 y1 y2
      unfold tamislaw05_AsmJoins.j2
      repeat' first
      | (with_reducible exact ih0 _ _ _ _)
      | (with_reducible exact ih1 _ _ _ _ _ _)
      | (with_reducible exact ih2 _ _ _)
      | (with_reducible exact ih3 _ _ _)
      | (with_reducible exact asm_Read.mono _ _)
      | (with_reducible exact tamisref02_Same.mono _ _ _)
      | (with_reducible exact tamisref05_Print.mono _ _)
      | (with_reducible exact tamisref05_Read.mono _ _)
      | (with_reducible exact LeO.refl _)
      | (with_reducible exact LeO.none _)
      | (with_reducible refine LeO.ite ?_ ?_)
      | (with_reducible refine LeO.bind ?_ (fun _ => ?_))
      | exact ih0 _ _ _ _
      | exact ih1 _ _ _ _ _ _
      | exact ih2 _ _ _
      | exact ih3 _ _ _
      | exact asm_Read.mono _ _
      | exact tamisref02_Same.mono _ _ _
      | exact tamisref05_Print.mono _ _
      | exact tamisref05_Read.mono _ _
      | exact LeO.none _
      | refine LeO.ite ?_ ?_
      | refine LeO.bind ?_ (fun _ => ?_)
    · intro y0 y1 y2
      unfold tamislaw05_AsmJoins.j3
      repeat' first
      | (with_reducible exact ih0 _ _ _ _)
      | (with_reducible exact ih1 _ _ _ _ _ _)
      | (with_reducible exact ih2 _ _ _)
      | (with_reducible exact ih3 _ _ _)
      | (with_reducible exact asm_Read.mono _ _)
      | (with_reducible exact tamisref02_Same.mono _ _ _)
      | (with_reducible exact tamisref05_Print.mono _ _)
      | (with_reducible exact tamisref05_Read.mono _ _)
      | (with_reducible exact LeO.refl _)
      | (with_reducible exact LeO.none _)
      | (with_reducible refine LeO.ite ?_ ?_)
      | (with_reducible refine LeO.bind ?_ (fun _ => ?_))
      | exact ih0 _ _ _ _
      | exact ih1 _ _ _ _ _ _
      | exact ih2 _ _ _
      | exact ih3 _ _ _
      | exact asm_Read.mono _ _
      | exact tamisref02_Same.mono _ _ _
      | exact tamisref05_Print.mono _ _
      | exact tamisref05_Read.mono _ _
      | exact LeO.none _
      | refine LeO.ite ?_ ?_
      | refine LeO.bind ?_ (fun _ => ?_)
theorem tamislaw05_AsmJoins.mono : ∀ a0 a1 a2 k, LeO (tamislaw05_AsmJoins.f k a0 a1 a2) (tamislaw05_AsmJoins.f (k + 1) a0 a1 a2) := by
  intro a0 a1 a2 k
  obtain ⟨ih0, ih1, ih2, ih3⟩ := tamislaw05_AsmJoins.mono_l k
  unfold tamislaw05_AsmJoins.f
  repeat' first
      | (with_reducible exact ih0 _ _ _ _)
      | (with_reducible exact ih1 _ _ _ _ _ _)
      | (with_reducible exact ih2 _ _ _)
      | (with_reducible exact ih3 _ _ _)
      | (with_reducible exact asm_Read.mono _ _)
      | (with_reducible exact tamisref02_Same.mono _ _ _)
      | (with_reducible exact tamisref05_Print.mono _ _)
      | (with_reducible exact tamisref05_Read.mono _ _)
      | (with_reducible exact LeO.refl _)
      | (with_reducible exact LeO.none _)
      | (with_reducible refine LeO.ite ?_ ?_)
      | (with_reducible refine LeO.bind ?_ (fun _ => ?_))
      | exact ih0 _ _ _ _
      | exact ih1 _ _ _ _ _ _
      | exact ih2 _ _ _
      | exact ih3 _ _ _
      | exact asm_Read.mono _ _
      | exact tamisref02_Same.mono _ _ _
      | exact tamisref05_Print.mono _ _
      | exact tamisref05_Read.mono _ _
      | exact LeO.none _
      | refine LeO.ite ?_ ?_
      | refine LeO.bind ?_ (fun _ => ?_)
set_option maxHeartbeats 8000000 in
set_option maxRecDepth 100000 in
theorem tamislaw05_AsmJoins.calls (k : Nat) (A0 : Option Addr) (c0 : Nat) (l0 : List (S25)) (A1 : Option Addr) (c1 : Nat) (l1 : List (S25)) (a2 : Int) (r : Bool) (w : World) (hr0 : Kd.C k25 w A0 l0.length l0) (hc0 : l0.length ≤ c0) (hr1 : Kd.C k25 w A1 l1.length l1) (hc1 : l1.length ≤ c1) (hT : r = true) (hG : GlobW w) (h : tamislaw05_AsmJoins.f k l0 l1 a2 = some r) :
    Calls Tryd.prog 8 #[.slice A0 l0.length c0, .slice A1 l1.length c1, .int .i64 a2] w fun e w' => e = .returned (.bool r) ∧ Below w.heap.size w w' := by
  have HT := Aside0.mk hT
  clear hT
  have HR0 := Aside0.mk hr0
  have HC0 := Aside0.mk hc0
  clear hr0 hc0
  have HR1 := Aside0.mk hr1
  have HC1 := Aside0.mk hc1
  clear hr1 hc1
  have HB := Aside0.mk (Below.refl w.heap.size w)
  have H : ((awake05.f).bind fun t305 => (if t305 = true then (if (l0.length : Int) = 0 then (tamislaw05_AsmJoins.j0 k l0 l1 a2 true) else (if (l1.length : Int) = 0 then (tamislaw05_AsmJoins.j0 k l0 l1 a2 true) else (tamislaw05_AsmJoins.j0 k l0 l1 a2 (decide ((wrap64 ((l0.length : Int) + (l1.length : Int))) > 80))))) else (tamislaw05_AsmJoins.j0 k l0 l1 a2 true))) = some r := h
  clear h
  have HC4 := Aside0.mk H
  clear H
  go_enter Tryd.func8, Tryd.ntmps8
  go_upto_region 1 with (fail)
  go_cut [39] (fun v39 wc => ∃ (kq : Nat) (x39_3 : Bool), v39 = .bool x39_3 ∧ Aside0 (tamislaw05_AsmJoins.j0 kq l0 l1 a2 x39_3 = some r) ∧ Aside0 (kq ≤ k) ∧ Aside0 (Below w.heap.size w wc))
  case first =>
    have H := HC4.out
    clear HC4
    replace H := Option.bind_eq_some_iff.mp H
    obtain ⟨t305, A50, H⟩ := H
    replace H : (if t305 = true then (if (l0.length : Int) = 0 then (tamislaw05_AsmJoins.j0 k l0 l1 a2 true) else (if (l1.length : Int) = 0 then (tamislaw05_AsmJoins.j0 k l0 l1 a2 true) else (tamislaw05_AsmJoins.j0 k l0 l1 a2 (decide ((wrap64 ((l0.length : Int) + (l1.length : Int))) > 80))))) else (tamislaw05_AsmJoins.j0 k l0 l1 a2 true)) = some r := H
    have A5 := Aside0.mk A50
    clear A50
    by_cases c6 : t305 = true
    · subst c6
      have H1 : (if (l0.length : Int) = 0 then (tamislaw05_AsmJoins.j0 k l0 l1 a2 true) else (if (l1.length : Int) = 0 then (tamislaw05_AsmJoins.j0 k l0 l1 a2 true) else (tamislaw05_AsmJoins.j0 k l0 l1 a2 (decide ((wrap64 ((l0.length : Int) + (l1.length : Int))) > 80))))) = some r := by rw [if_pos rfl] at H; exact H
      clear H
      have H := H1
      clear H1
      by_cases c7 : (l0.length : Int) = 0
      · rw [if_pos c7] at H
        have c7b0 : ((l0.length : Int) == 0) = true := beq_iff_eq.mpr c7
        have c7b1 : ((l0.length : Int) != 0) = false := bne_eq_false_iff_eq.mpr c7
        clear c7
        (first | rw [c7b0] | (simp only [i64_w, i32_w]; rw [c7b0]) | skip)
        have H' := Aside0.mk H
        clear H
        go_wp2_with (first | ((with_reducible refine gate_callee (f := 9) rfl ?_); refine goesL_ (some 20) rfl rfl Tryd.func9 (by kernel_rfl) rfl #[] rfl (by (try simp only [List.map_toArray, List.map_cons, List.map_nil]); first | done | rfl | (simp only [List.length_drop, List.length_take]; rfl)) ?_; (with_reducible refine (awake05.calls  true _ (hG.on (by repeat (first | (with_reducible first | exact HB.out | apply below_alloc | apply pw_below_drewN | apply below_drew1) | exact HB.out))) A5.out).mono ?_); rintro e w8 ⟨rfl, hb⟩; refine ⟨_, rfl, ?_⟩; have n0_ := Aside0.mk (below_step (by repeat (first | (with_reducible first | exact HB.out | apply below_alloc | apply pw_below_drewN | apply below_drew1) | exact HB.out)) hb); clear HB; have HB := n0_; clear n0_; (try clear hb); (try clear hb2); (try clear hk); (try clear hi)))
        go_meet
        case rel => exact ⟨_, (true), (by first | rfl | (simp; done) | (simp [*]; done)), H', ⟨by first | omega | exact Nat.le_refl _⟩, ⟨by repeat (first | (with_reducible first | exact HB.out | apply below_alloc | apply pw_below_drewN | apply below_drew1) | exact HB.out)⟩⟩
      · rw [if_neg c7] at H
        have c7b0 : ((l0.length : Int) == 0) = false := beq_eq_false_iff_ne.mpr c7
        have c7b1 : ((l0.length : Int) != 0) = true := bne_iff_ne.mpr c7
        have c7b2 : ¬ (l0 = []) := fun h_ => c7 (by rw [h_]; rfl)
        (first | rw [c7b0] | (simp only [i64_w, i32_w]; rw [c7b0]) | skip)
        by_cases c9 : (l1.length : Int) = 0
        · rw [if_pos c9] at H
          have c9b0 : ((l1.length : Int) == 0) = true := beq_iff_eq.mpr c9
          have c9b1 : ((l1.length : Int) != 0) = false := bne_eq_false_iff_eq.mpr c9
          clear c9
          have H' := Aside0.mk H
          clear H
          go_wp2_with (first | ((with_reducible refine gate_callee (f := 9) rfl ?_); refine goesL_ (some 20) rfl rfl Tryd.func9 (by kernel_rfl) rfl #[] rfl (by (try simp only [List.map_toArray, List.map_cons, List.map_nil]); first | done | rfl | (simp only [List.length_drop, List.length_take]; rfl)) ?_; (with_reducible refine (awake05.calls  true _ (hG.on (by repeat (first | (with_reducible first | exact HB.out | apply below_alloc | apply pw_below_drewN | apply below_drew1) | exact HB.out))) A5.out).mono ?_); rintro e w10 ⟨rfl, hb⟩; refine ⟨_, rfl, ?_⟩; have n0_ := Aside0.mk (below_step (by repeat (first | (with_reducible first | exact HB.out | apply below_alloc | apply pw_below_drewN | apply below_drew1) | exact HB.out)) hb); clear HB; have HB := n0_; clear n0_; (try clear hb); (try clear hb2); (try clear hk); (try clear hi)))
          go_meet
          case rel => exact ⟨_, (true), (by first | rfl | (simp; done) | (simp [*]; done)), H', ⟨by first | omega | exact Nat.le_refl _⟩, ⟨by repeat (first | (with_reducible first | exact HB.out | apply below_alloc | apply pw_below_drewN | apply below_drew1) | exact HB.out)⟩⟩
        · rw [if_neg c9] at H
          have c9b0 : ((l1.length : Int) == 0) = false := beq_eq_false_iff_ne.mpr c9
          have c9b1 : ((l1.length : Int) != 0) = true := bne_iff_ne.mpr c9
          have c9b2 : ¬ (l1 = []) := fun h_ => c9 (by rw [h_]; rfl)
          have H' := Aside0.mk H
          clear H
          go_wp2_with (first | ((with_reducible refine gate_callee (f := 9) rfl ?_); refine goesL_ (some 20) rfl rfl Tryd.func9 (by kernel_rfl) rfl #[] rfl (by (try simp only [List.map_toArray, List.map_cons, List.map_nil]); first | done | rfl | (simp only [List.length_drop, List.length_take]; rfl)) ?_; (with_reducible refine (awake05.calls  true _ (hG.on (by repeat (first | (with_reducible first | exact HB.out | apply below_alloc | apply pw_below_drewN | apply below_drew1) | exact HB.out))) A5.out).mono ?_); rintro e w11 ⟨rfl, hb⟩; refine ⟨_, rfl, ?_⟩; have n0_ := Aside0.mk (below_step (by repeat (first | (with_reducible first | exact HB.out | apply below_alloc | apply pw_below_drewN | apply below_drew1) | exact HB.out)) hb); clear HB; have HB := n0_; clear n0_; (try clear hb); (try clear hb2); (try clear hk); (try clear hi)))
          go_meet
          case rel => exact ⟨_, (decide ((wrap64 ((l0.length : Int) + (l1.length : Int))) > 80)), (by first | rfl | (simp; done) | (simp [*]; done)), H', ⟨by first | omega | exact Nat.le_refl _⟩, ⟨by repeat (first | (with_reducible first | exact HB.out | apply below_alloc | apply pw_below_drewN | apply below_drew1) | exact HB.out)⟩⟩
    · replace c6 := Bool.eq_false_iff.mpr c6
      subst c6
      have H1 : (tamislaw05_AsmJoins.j0 k l0 l1 a2 true) = some r := by rw [if_neg (show ¬ (false = true) by decide)] at H; exact H
      clear H
      have H := H1
      clear H1
      have H' := Aside0.mk H
      clear H
      go_wp2_with (first | ((with_reducible refine gate_callee (f := 9) rfl ?_); refine goesL_ (some 20) rfl rfl Tryd.func9 (by kernel_rfl) rfl #[] rfl (by (try simp only [List.map_toArray, List.map_cons, List.map_nil]); first | done | rfl | (simp only [List.length_drop, List.length_take]; rfl)) ?_; (with_reducible refine (awake05.calls  false _ (hG.on (by repeat (first | (with_reducible first | exact HB.out | apply below_alloc | apply pw_below_drewN | apply below_drew1) | exact HB.out))) A5.out).mono ?_); rintro e w12 ⟨rfl, hb⟩; refine ⟨_, rfl, ?_⟩; have n0_ := Aside0.mk (below_step (by repeat (first | (with_reducible first | exact HB.out | apply below_alloc | apply pw_below_drewN | apply below_drew1) | exact HB.out)) hb); clear HB; have HB := n0_; clear n0_; (try clear hb); (try clear hb2); (try clear hk); (try clear hi)))
      go_meet
      case rel => exact ⟨_, (true), (by first | rfl | (simp; done) | (simp [*]; done)), H', ⟨by first | omega | exact Nat.le_refl _⟩, ⟨by repeat (first | (with_reducible first | exact HB.out | apply below_alloc | apply pw_below_drewN | apply below_drew1) | exact HB.out)⟩⟩
  case rest =>
    clear HC4
    try clear c1
    try clear p2
    try clear c6
    try clear p6
    try clear c7
    try clear c7b0
    try clear c7b1
    try clear c7b2
    try clear c8
    try clear c9
    try clear c9b0
    try clear c9b1
    try clear c9b2
    obtain ⟨kq, x39_3, rfl, HA, HJ3, HB⟩ := hcut
    cases kq with
    | zero => exact absurd HA.out (by simp [tamislaw05_AsmJoins.j0])
    | succ kj3 =>
      have H := HA.out
      clear HA
      simp only [tamislaw05_AsmJoins.j0] at H
      by_cases c13 : x39_3 = true
      · subst c13
        have H1 : ((awake05.f).bind fun t306 => (some t306)) = some r := by rw [if_pos rfl] at H; exact H
        clear H
        have H := H1
        clear H1
        replace H := Option.bind_eq_some_iff.mp H
        obtain ⟨t306, A140, H⟩ := H
        replace H : (some t306) = some r := H
        have A14 := Aside0.mk A140
        clear A140
        obtain rfl := Option.some.inj H
        go_wp2_with (first | ((with_reducible refine gate_callee (f := 9) rfl ?_); refine goesL_ (some 40) rfl rfl Tryd.func9 (by kernel_rfl) rfl #[] rfl (by (try simp only [List.map_toArray, List.map_cons, List.map_nil]); first | done | rfl | (simp only [List.length_drop, List.length_take]; rfl)) ?_; (with_reducible refine (awake05.calls  t306 _ (hG.on (by repeat (first | (with_reducible first | exact HB.out | apply below_alloc | apply pw_below_drewN | apply below_drew1) | exact HB.out))) A14.out).mono ?_); rintro e w15 ⟨rfl, hb⟩; refine ⟨_, rfl, ?_⟩; have n0_ := Aside0.mk (below_step (by repeat (first | (with_reducible first | exact HB.out | apply below_alloc | apply pw_below_drewN | apply below_drew1) | exact HB.out)) hb); clear HB; have HB := n0_; clear n0_; (try clear hb); (try clear hb2); (try clear hk); (try clear hi)))
        go_ret
        exact ⟨by first | rfl | (simp [errW_none, errW_some] <;> rfl) | (simp [*, errW_none, errW_some] <;> rfl), by repeat (first | (with_reducible first | exact HB.out | apply below_alloc | apply pw_below_drewN | apply below_drew1) | exact HB.out)⟩
      · replace c13 := Bool.eq_false_iff.mpr c13
        subst c13
        have H1 : ((tamisref05_Print.f kj3 l0).bind fun bt307 => ((tamisref05_Print.f kj3 l1).bind fun bt309 => (if bt307.2 = 0 then (tamislaw05_AsmJoins.j1 kj3 l0 l1 a2 bt307.1 bt309.1 (bt309.2 != 0)) else (tamislaw05_AsmJoins.j1 kj3 l0 l1 a2 bt307.1 bt309.1 true)))) = some r := by rw [if_neg (show ¬ (false = true) by decide)] at H; exact H
        clear H
        have H := H1
        clear H1
        replace H := Option.bind_eq_some_iff.mp H
        obtain ⟨⟨t307, t308⟩, A160, H⟩ := H
        replace H : ((tamisref05_Print.f kj3 l1).bind fun bt309 => (if t308 = 0 then (tamislaw05_AsmJoins.j1 kj3 l0 l1 a2 t307 bt309.1 (bt309.2 != 0)) else (tamislaw05_AsmJoins.j1 kj3 l0 l1 a2 t307 bt309.1 true))) = some r := H
        have A16 := Aside0.mk A160
        clear A160
        replace H := Option.bind_eq_some_iff.mp H
        obtain ⟨⟨t309, t310⟩, A170, H⟩ := H
        replace H : (if t308 = 0 then (tamislaw05_AsmJoins.j1 kj3 l0 l1 a2 t307 t309 (t310 != 0)) else (tamislaw05_AsmJoins.j1 kj3 l0 l1 a2 t307 t309 true)) = some r := H
        have A17 := Aside0.mk A170
        clear A170
        have HC18 := Aside0.mk H
        clear H
        go_upto_region 5 with (first | ((with_reducible refine gate_callee (f := 18) rfl ?_); refine goesL_ (some 43) rfl rfl Tryd.func18 (by kernel_rfl) rfl #[.slice A0 l0.length c0] rfl (by (try simp only [List.map_toArray, List.map_cons, List.map_nil]); first | done | rfl | (simp only [List.length_drop, List.length_take]; rfl)) ?_; (with_reducible refine (tamisref05_Print.calls kj3 _ _ l0 t307 t308 _ ?side1 ?side2 A16.out).mono ?_); (case side1 => repeat (first | exact (Kd.C_below HR0.out HB.out) | (with_reducible refine Kd.C_alloc ?_ _) | (with_reducible refine Kd.C_drewN ?_ _) | (with_reducible refine Kd.C_drew ?_))); (case side2 => exact HC0.out); rintro e w19 ⟨rfl, hb⟩; refine ⟨_, rfl, ?_⟩; have n0_ := Aside0.mk (below_step (by repeat (first | (with_reducible first | exact HB.out | apply below_alloc | apply pw_below_drewN | apply below_drew1) | exact HB.out)) hb); clear HB; have HB := n0_; clear n0_; (try clear hb); (try clear hb2); (try clear hk); (try clear hi)) | ((with_reducible refine gate_callee (f := 18) rfl ?_); refine goesL_ (some 48) rfl rfl Tryd.func18 (by kernel_rfl) rfl #[.slice A1 l1.length c1] rfl (by (try simp only [List.map_toArray, List.map_cons, List.map_nil]); first | done | rfl | (simp only [List.length_drop, List.length_take]; rfl)) ?_; (with_reducible refine (tamisref05_Print.calls kj3 _ _ l1 t309 t310 _ ?side1 ?side2 A17.out).mono ?_); (case side1 => repeat (first | exact (Kd.C_below HR1.out HB.out) | (with_reducible refine Kd.C_alloc ?_ _) | (with_reducible refine Kd.C_drewN ?_ _) | (with_reducible refine Kd.C_drew ?_))); (case side2 => exact HC1.out); rintro e w20 ⟨rfl, hb⟩; refine ⟨_, rfl, ?_⟩; have n0_ := Aside0.mk (below_step (by repeat (first | (with_reducible first | exact HB.out | apply below_alloc | apply pw_below_drewN | apply below_drew1) | exact HB.out)) hb); clear HB; have HB := n0_; clear n0_; (try clear hb); (try clear hb2); (try clear hk); (try clear hi)))
        (try simp only [Act.put, List.setIfInBounds_toArray, List.set_cons_zero, List.set_cons_succ])
        go_cut [56] (fun v56 wc => ∃ (kq : Nat) (x56_17 : Bool), v56 = .bool x56_17 ∧ Aside0 (tamislaw05_AsmJoins.j1 kq l0 l1 a2 t307 t309 x56_17 = some r) ∧ Aside0 (kq ≤ kj3) ∧ Aside0 (Below w.heap.size w wc))
        case first =>
          have H := HC18.out
          clear HC18
          by_cases c21 : t308 = 0
          · rw [if_pos c21] at H
            have c21b0 : (t308 == 0) = true := beq_iff_eq.mpr c21
            have c21b1 : (t308 != 0) = false := bne_eq_false_iff_eq.mpr c21
            clear c21
            (first | rw [c21b0] | (simp only [i64_w, i32_w]; rw [c21b0]) | skip)
            have H' := Aside0.mk H
            clear H
            go_wp2
            go_meet
            case rel => exact ⟨_, ((t310 != 0)), (by first | rfl | (simp; done) | (simp [*]; done)), H', ⟨by have := HJ3.out; first | omega | exact Nat.le_refl _⟩, ⟨by repeat (first | (with_reducible first | exact HB.out | apply below_alloc | apply pw_below_drewN | apply below_drew1) | exact HB.out)⟩⟩
          · rw [if_neg c21] at H
            have c21b0 : (t308 == 0) = false := beq_eq_false_iff_ne.mpr c21
            have c21b1 : (t308 != 0) = true := bne_iff_ne.mpr c21
            (first | rw [c21b0] | (simp only [i64_w, i32_w]; rw [c21b0]) | skip)
            have H' := Aside0.mk H
            clear H
            go_wp2
            go_meet
            case rel => exact ⟨_, (true), (by first | rfl | (simp; done) | (simp [*]; done)), H', ⟨by have := HJ3.out; first | omega | exact Nat.le_refl _⟩, ⟨by repeat (first | (with_reducible first | exact HB.out | apply below_alloc | apply pw_below_drewN | apply below_drew1) | exact HB.out)⟩⟩
        case rest =>
          clear HC18
          try clear c1
          try clear c2
          try clear p2
          try clear c6
          try clear p6
          try clear c7
          try clear c7b0
          try clear c7b1
          try clear c7b2
          try clear c8
          try clear c9
          try clear c9b0
          try clear c9b1
          try clear c9b2
          try clear c13
          try clear c18
          try clear c21
          try clear c21b0
          try clear c21b1
          try clear p2
          try clear p6
          obtain ⟨kq, x56_17, rfl, HA, HJ17, HB⟩ := hcut
          cases kq with
          | zero => exact absurd HA.out (by simp [tamislaw05_AsmJoins.j1])
          | succ kj17 =>
            have H := HA.out
            clear HA
            simp only [tamislaw05_AsmJoins.j1] at H
            by_cases c22 : x56_17 = true
            · subst c22
              have H1 : (some true) = some r := by rw [if_pos rfl] at H; exact H
              clear H
              have H := H1
              clear H1
              obtain rfl := Option.some.inj H
              go_wp2
              go_ret
              exact ⟨by first | rfl | (simp [errW_none, errW_some] <;> rfl) | (simp [*, errW_none, errW_some] <;> rfl), by repeat (first | (with_reducible first | exact HB.out | apply below_alloc | apply pw_below_drewN | apply below_drew1) | exact HB.out)⟩
            · replace c22 := Bool.eq_false_iff.mpr c22
              subst c22
              have H1 : (if t307.size + t309.size ≤ 9223372036854775807 then ((asm_Read.f kj17 (t307 ++ t309)).bind fun bt311 => (if bt311.2.2 = 0 then (if bt311.2.1 = 0 then ((some (([] : List (S25)) : List (S25))).bind fun y316 => (if y316.length + l0.length < 17592186044416 then ((some (y316 ++ l0 : List (S25))).bind fun y319 => (if y319.length + l1.length < 17592186044416 then ((tamisref02_Same.f kj17 bt311.1 (y319 ++ l1)).bind fun t325 => (tamislaw05_AsmJoins.j2 kj17 a2 t307 (!t325))) else (none))) else (none))) else (tamislaw05_AsmJoins.j2 kj17 a2 t307 true)) else (tamislaw05_AsmJoins.j2 kj17 a2 t307 true))) else (none)) = some r := by rw [if_neg (show ¬ (false = true) by decide)] at H; exact H
              clear H
              have H := H1
              clear H1
              by_cases c23 : t307.size + t309.size ≤ 9223372036854775807
              · rw [if_pos c23] at H
                have c23b0 := eq_true c23
                have c23b1 : decide (t307.size + t309.size ≤ 9223372036854775807) = true := decide_eq_true c23
                try have c23b2 : (9223372036854775807 < t307.size + t309.size) = False := eq_false (Nat.not_lt.2 c23)
                replace H := Option.bind_eq_some_iff.mp H
                obtain ⟨⟨t311, t312, t313⟩, A240, H⟩ := H
                replace H : (if t313 = 0 then (if t312 = 0 then ((some (([] : List (S25)) : List (S25))).bind fun y316 => (if y316.length + l0.length < 17592186044416 then ((some (y316 ++ l0 : List (S25))).bind fun y319 => (if y319.length + l1.length < 17592186044416 then ((tamisref02_Same.f kj17 t311 (y319 ++ l1)).bind fun t325 => (tamislaw05_AsmJoins.j2 kj17 a2 t307 (!t325))) else (none))) else (none))) else (tamislaw05_AsmJoins.j2 kj17 a2 t307 true)) else (tamislaw05_AsmJoins.j2 kj17 a2 t307 true)) = some r := H
                have A24 := Aside0.mk A240
                clear A240
                have HC25 := Aside0.mk H
                clear H
                go_upto_region 8 with (first | ((with_reducible refine gate_callee (f := 14) rfl ?_); refine goesL_ (some 61) rfl rfl Tryd.func14 (by kernel_rfl) rfl #[.string (t307 ++ t309)] rfl (by (try simp only [List.map_toArray, List.map_cons, List.map_nil]); first | done | rfl | (simp only [List.length_drop, List.length_take]; rfl)) ?_; (with_reducible refine (asm_Read.calls kj17 (t307 ++ t309) t311 t312 t313 _ (hG.on (by repeat (first | (with_reducible first | exact HB.out | apply below_alloc | apply pw_below_drewN | apply below_drew1) | exact HB.out))) A24.out).mono ?_); rintro e w26 ⟨v314, rfl, ho0, hb⟩; refine ⟨_, rfl, ?_⟩; have n0_ := Aside0.mk (Kd.R_lower ho0 (below_size (by repeat (first | (with_reducible first | exact HB.out | apply below_alloc | apply pw_below_drewN | apply below_drew1) | exact HB.out)))); have n1_ := Aside0.mk (below_step (by repeat (first | (with_reducible first | exact HB.out | apply below_alloc | apply pw_below_drewN | apply below_drew1) | exact HB.out)) hb); clear HB; have HO315 := n0_; have HB := n1_; clear n0_ n1_; (try clear hb); (try clear hb2); (try clear hk); (try clear hi); (try clear ho0)))
                (try simp only [Act.put, List.setIfInBounds_toArray, List.set_cons_zero, List.set_cons_succ])
                go_cut [80] (fun v80 wc => ∃ (kq : Nat) (x80_24 : Bool), v80 = .bool x80_24 ∧ Aside0 (tamislaw05_AsmJoins.j2 kq a2 t307 x80_24 = some r) ∧ Aside0 (kq ≤ kj17) ∧ Aside0 (Below w.heap.size w wc))
                case first =>
                  have H := HC25.out
                  clear HC25
                  by_cases c27 : t313 = 0
                  · rw [if_pos c27] at H
                    have c27b0 : (t313 == 0) = true := beq_iff_eq.mpr c27
                    have c27b1 : (t313 != 0) = false := bne_eq_false_iff_eq.mpr c27
                    clear c27
                    (first | rw [c27b0] | (simp only [i64_w, i32_w]; rw [c27b0]) | skip)
                    by_cases c28 : t312 = 0
                    · rw [if_pos c28] at H
                      have c28b0 : (t312 == 0) = true := beq_iff_eq.mpr c28
                      have c28b1 : (t312 != 0) = false := bne_eq_false_iff_eq.mpr c28
                      clear c28
                      obtain ⟨y316, hy316⟩ : ∃ y_ : List (S25), y_ = (([] : List (S25))) := ⟨_, rfl⟩
                      replace H : (if y316.length + l0.length < 17592186044416 then ((some (y316 ++ l0 : List (S25))).bind fun y319 => (if y319.length + l1.length < 17592186044416 then ((tamisref02_Same.f kj17 t311 (y319 ++ l1)).bind fun t325 => (tamislaw05_AsmJoins.j2 kj17 a2 t307 (!t325))) else (none))) else (none)) = some r := by first | (rw [hy316]; with_reducible exact H) | (have H2_ := (Option.bind_some _ _).symm.trans H; rw [hy316]; with_reducible exact H2_) | (have H2_ := (Option.bind_some _ _).symm.trans H; with_reducible exact H2_) | with_reducible exact H | (rw [hy316]; exact H) | exact H
                      have Ny316 := Aside0.mk hy316
                      clear hy316
                      by_cases c29 : y316.length + l0.length < 17592186044416
                      · rw [if_pos c29] at H
                        have LMc29 := Aside0.mk c29
                        clear c29
                        obtain ⟨y319, hy319⟩ : ∃ y_ : List (S25), y_ = (y316 ++ l0) := ⟨_, rfl⟩
                        replace H : (if y319.length + l1.length < 17592186044416 then ((tamisref02_Same.f kj17 t311 (y319 ++ l1)).bind fun t325 => (tamislaw05_AsmJoins.j2 kj17 a2 t307 (!t325))) else (none)) = some r := by first | (rw [hy319]; with_reducible exact H) | (have H2_ := (Option.bind_some _ _).symm.trans H; rw [hy319]; with_reducible exact H2_) | (have H2_ := (Option.bind_some _ _).symm.trans H; with_reducible exact H2_) | with_reducible exact H | (rw [hy319]; exact H) | exact H
                        have Ny319 := Aside0.mk hy319
                        clear hy319
                        by_cases c30 : y319.length + l1.length < 17592186044416
                        · rw [if_pos c30] at H
                          have LMc30 := Aside0.mk c30
                          clear c30
                          obtain ⟨y322, hy322⟩ : ∃ y_ : List (S25), y_ = (y319 ++ l1) := ⟨_, rfl⟩
                          replace H : ((tamisref02_Same.f kj17 t311 y322).bind fun t325 => (tamislaw05_AsmJoins.j2 kj17 a2 t307 (!t325))) = some r := by first | (rw [hy322]; with_reducible exact H) | (have H2_ := (Option.bind_some _ _).symm.trans H; rw [hy322]; with_reducible exact H2_) | (have H2_ := (Option.bind_some _ _).symm.trans H; with_reducible exact H2_) | with_reducible exact H | (rw [hy322]; exact H) | exact H
                          have Ny322 := Aside0.mk hy322
                          clear hy322
                          replace H := Option.bind_eq_some_iff.mp H
                          obtain ⟨t325, A310, H⟩ := H
                          replace H : (tamislaw05_AsmJoins.j2 kj17 a2 t307 (!t325)) = some r := H
                          have A31 := Aside0.mk A310
                          clear A310
                          have H' := Aside0.mk H
                          clear H
                          go_wp2_with (first | ((with_reducible refine gate_dst (N := 73) rfl ?_); (try (refine gate_guard (by rfl) ?_; dsimp only)); refine Kd.R_lit k25 _ 25 ?hg (N := 73) ?hd (xs := ([] : List (S25))) (inner := []) (ok := fun _ => True) (okp := fun _ => True) ?hr ?hp (fun _ hk => hk) trivial (Below.refl _ _) (Nat.le_refl _) (by simp) ?_; (case hd => rfl); (case hg => rfl); (case hr => first | (go_simp; done) | (go_simp; rfl)); (case hp => exact (Reps.none _ _)); intro v317 w32 ho33 hb hg_ hnew_; clear hg_ hnew_; (first | rw [← Ny316.out] at ho33 | (simp only [Int.reduceToNat] at ho33; rw [← Ny316.out] at ho33)); have n0_ := Aside0.mk (Kd.R_elder' (by (with_reducible repeat (first | apply Kd.R_alloc | apply Kd.R_drewN | apply Kd.R_drew)); exact HO315.out) (Kd.R_base ho33) hb); have n1_ := Aside0.mk (Kd.R_lower (Kd.R_new' ho33 (Kd.R_lt (by (with_reducible repeat (first | apply Kd.R_alloc | apply Kd.R_drewN | apply Kd.R_drew)); exact HO315.out))) (below_size (by repeat (first | (with_reducible first | exact HB.out | apply below_alloc | apply pw_below_drewN | apply below_drew1) | exact HB.out)))); have n2_ := Aside0.mk (below_step (by repeat (first | (with_reducible first | exact HB.out | apply below_alloc | apply pw_below_drewN | apply below_drew1) | exact HB.out)) hb); clear HO315; clear HB; have HO315 := n0_; have HO318 := n1_; have HB := n2_; clear n0_ n1_ n2_; clear hb ho33) | ((with_reducible refine gate_builtin (b := .append) (xs := #[.tmp 73, .tmp 74]) rfl ?_); (try (refine gate_guard (by rfl) ?_; dsimp only)); at_builtin; refine Kd.R_append_rows k25 (w0 := w) w.heap.size rfl (.tmp 73) (.tmp 74) 37 25 (.agg #[(.int .u16 0), (.int .u8 0), (.int .u8 0), (.int .u32 0)]) 8 rfl Tryd.underlying37 info25 rfl (by decide) (by omega) v317 y316 l0 _ _ _ (fun k_ => some k_ ≠ (v314 : Value).ownBlock) (fun _ => False) rfl rfl ?aO ?aR (fun _ _ h => h) (fun _ h => h.elim) ?aF ?aB ?aS ?aL ?_; (case aR => repeat (first | exact (Kd.C_below HR0.out HB.out) | (with_reducible refine Kd.C_alloc ?_ _) | (with_reducible refine Kd.C_drewN ?_ _) | (with_reducible refine Kd.C_drew ?_))); (case aB => exact (by repeat (first | (with_reducible first | exact HB.out | apply below_alloc | apply pw_below_drewN | apply below_drew1) | exact HB.out))); (case aF => exact (fun k_ hk => Kd.fresh' (Kd.R_lt (by (with_reducible repeat (first | apply Kd.R_alloc | apply Kd.R_drewN | apply Kd.R_drew)); exact HO315.out)) k_ hk)); (case aO => exact (by (with_reducible repeat (first | apply Kd.R_alloc | apply Kd.R_drewN | apply Kd.R_drew)); exact Kd.R_mono HO318.out (fun _ hk => hk.2))); (case aS => exact (below_size (by repeat (first | (with_reducible first | exact HB.out | apply below_alloc | apply pw_below_drewN | apply below_drew1) | exact HB.out)))); (case aL => have := LMc29.out; omega); intro v320 w34 ho hb hg hat; rw [← Ny319.out] at ho; have n0_ := Aside0.mk (Kd.R_after (ok := (fun _ => True)) (by (with_reducible repeat (first | apply Kd.R_alloc | apply Kd.R_drewN | apply Kd.R_drew)); exact HO315.out) hg hat); have n1_ := Aside0.mk (hb); have n2_ := Aside0.mk (ho); clear HO315; clear HB; clear HO318; have HO315 := n0_; have HB := n1_; have HO321 := n2_; clear n0_ n1_ n2_; clear ho hb hg hat) | ((with_reducible refine gate_builtin (b := .append) (xs := #[.tmp 75, .tmp 76]) rfl ?_); (try (refine gate_guard (by rfl) ?_; dsimp only)); at_builtin; refine Kd.R_append_rows k25 (w0 := w) w.heap.size rfl (.tmp 75) (.tmp 76) 37 25 (.agg #[(.int .u16 0), (.int .u8 0), (.int .u8 0), (.int .u32 0)]) 8 rfl Tryd.underlying37 info25 rfl (by decide) (by omega) v320 y319 l1 _ _ _ (fun k_ => some k_ ≠ (v314 : Value).ownBlock) (fun _ => False) rfl rfl ?aO ?aR (fun _ _ h => h) (fun _ h => h.elim) ?aF ?aB ?aS ?aL ?_; (case aR => repeat (first | exact (Kd.C_below HR1.out HB.out) | (with_reducible refine Kd.C_alloc ?_ _) | (with_reducible refine Kd.C_drewN ?_ _) | (with_reducible refine Kd.C_drew ?_))); (case aB => exact (by repeat (first | (with_reducible first | exact HB.out | apply below_alloc | apply pw_below_drewN | apply below_drew1) | exact HB.out))); (case aF => exact (fun k_ hk => Kd.fresh' (Kd.R_lt (by (with_reducible repeat (first | apply Kd.R_alloc | apply Kd.R_drewN | apply Kd.R_drew)); exact HO315.out)) k_ hk)); (case aO => exact (by (with_reducible repeat (first | apply Kd.R_alloc | apply Kd.R_drewN | apply Kd.R_drew)); exact HO321.out)); (case aS => exact (below_size (by repeat (first | (with_reducible first | exact HB.out | apply below_alloc | apply pw_below_drewN | apply below_drew1) | exact HB.out)))); (case aL => have := LMc30.out; omega); intro v323 w35 ho hb hg hat; rw [← Ny322.out] at ho; have n0_ := Aside0.mk (Kd.R_after (ok := (fun _ => True)) (by (with_reducible repeat (first | apply Kd.R_alloc | apply Kd.R_drewN | apply Kd.R_drew)); exact HO315.out) hg hat); have n1_ := Aside0.mk (hb); have n2_ := Aside0.mk (ho); clear HO315; clear HB; clear HO321; have HO315 := n0_; have HB := n1_; have HO324 := n2_; clear n0_ n1_ n2_; clear ho hb hg hat; obtain ⟨Ao36, co36, eo36⟩ := Kd.R_slice HO315.out; subst eo36; obtain ⟨Ao37, co37, eo37⟩ := Kd.R_slice HO324.out; subst eo37) | (go_at_call 16; (with_reducible refine (tamisref02_Same.calls kj17 _ _ t311 _ _ y322 t325 _ ?side1 ?side2 ?side3 ?side4 A31.out).mono ?_); (case side1 => repeat (first | exact (Kd.R_reads' HO315.out).2.2 | (with_reducible refine Kd.C_alloc ?_ _) | (with_reducible refine Kd.C_drewN ?_ _) | (with_reducible refine Kd.C_drew ?_))); (case side2 => exact (Kd.R_reads' HO315.out).2.1); (case side3 => repeat (first | exact (Kd.R_reads' HO324.out).2.2 | (with_reducible refine Kd.C_alloc ?_ _) | (with_reducible refine Kd.C_drewN ?_ _) | (with_reducible refine Kd.C_drew ?_))); (case side4 => exact (Kd.R_reads' HO324.out).2.1); rintro e w' ⟨rfl, ⟨nd, rfl⟩⟩))
                          go_meet
                          case rel => exact ⟨_, (!t325), (by first | rfl | (simp; done) | (simp [*]; done)), H', ⟨by have := HJ3.out; have := HJ17.out; first | omega | exact Nat.le_refl _⟩, ⟨by repeat (first | (with_reducible first | exact HB.out | apply below_alloc | apply pw_below_drewN | apply below_drew1) | exact HB.out)⟩⟩
                        · rw [if_neg c30] at H
                          exact absurd H (by simp)
                      · rw [if_neg c29] at H
                        exact absurd H (by simp)
                    · rw [if_neg c28] at H
                      have c28b0 : (t312 == 0) = false := beq_eq_false_iff_ne.mpr c28
                      have c28b1 : (t312 != 0) = true := bne_iff_ne.mpr c28
                      have H' := Aside0.mk H
                      clear H
                      go_wp2
                      go_meet
                      case rel => exact ⟨_, (true), (by first | rfl | (simp; done) | (simp [*]; done)), H', ⟨by have := HJ3.out; have := HJ17.out; first | omega | exact Nat.le_refl _⟩, ⟨by repeat (first | (with_reducible first | exact HB.out | apply below_alloc | apply pw_below_drewN | apply below_drew1) | exact HB.out)⟩⟩
                  · rw [if_neg c27] at H
                    have c27b0 : (t313 == 0) = false := beq_eq_false_iff_ne.mpr c27
                    have c27b1 : (t313 != 0) = true := bne_iff_ne.mpr c27
                    (first | rw [c27b0] | (simp only [i64_w, i32_w]; rw [c27b0]) | skip)
                    have H' := Aside0.mk H
                    clear H
                    go_wp2
                    go_meet
                    case rel => exact ⟨_, (true), (by first | rfl | (simp; done) | (simp [*]; done)), H', ⟨by have := HJ3.out; have := HJ17.out; first | omega | exact Nat.le_refl _⟩, ⟨by repeat (first | (with_reducible first | exact HB.out | apply below_alloc | apply pw_below_drewN | apply below_drew1) | exact HB.out)⟩⟩
                case rest =>
                  clear HC25
                  try clear c1
                  try clear c2
                  try clear p2
                  try clear c3
                  try clear c6
                  try clear p6
                  try clear c7
                  try clear c7b0
                  try clear c7b1
                  try clear c7b2
                  try clear c8
                  try clear c9
                  try clear c9b0
                  try clear c9b1
                  try clear c9b2
                  try clear c13
                  try clear c14
                  try clear c18
                  try clear c21
                  try clear c21b0
                  try clear c21b1
                  try clear c22
                  try clear c23
                  try clear c23b0
                  try clear c23b1
                  try clear c23b2
                  try clear c27
                  try clear c27b0
                  try clear c27b1
                  try clear c28
                  try clear c28b0
                  try clear c28b1
                  try clear c29
                  try clear c30
                  try clear p2
                  try clear p6
                  obtain ⟨kq, x80_24, rfl, HA, HJ24, HB⟩ := hcut
                  cases kq with
                  | zero => exact absurd HA.out (by simp [tamislaw05_AsmJoins.j2])
                  | succ kj24 =>
                    have H := HA.out
                    clear HA
                    simp only [tamislaw05_AsmJoins.j2] at H
                    by_cases c38 : x80_24 = true
                    · subst c38
                      have H1 : (some false) = some r := by rw [if_pos rfl] at H; exact H
                      clear H
                      have H := H1
                      clear H1
                      exact absurd ((Option.some.inj H).trans HT.out) (by simp)
                    · replace c38 := Bool.eq_false_iff.mpr c38
                      subst c38
                      have H1 : (if a2 < 0 then (tamislaw05_AsmJoins.j3 kj24 a2 t307 true) else (if a2 ≥ (t307.size : Int) then (tamislaw05_AsmJoins.j3 kj24 a2 t307 true) else (if 0 ≤ a2 then (if a2 < (t307.size : Int) then (tamislaw05_AsmJoins.j3 kj24 a2 t307 ((bt t307 a2) == 10)) else (none)) else (none)))) = some r := by rw [if_neg (show ¬ (false = true) by decide)] at H; exact H
                      clear H
                      have H := H1
                      clear H1
                      have HC39 := Aside0.mk H
                      clear H
                      go_upto_region 10 with (fail)
                      go_cut [94] (fun v94 wc => ∃ (kq : Nat) (x94_38 : Bool), v94 = .bool x94_38 ∧ Aside0 (tamislaw05_AsmJoins.j3 kq a2 t307 x94_38 = some r) ∧ Aside0 (kq ≤ kj24) ∧ Aside0 (Below w.heap.size w wc))
                      case first =>
                        have H := HC39.out
                        clear HC39
                        by_cases c40 : a2 < 0
                        · rw [if_pos c40] at H
                          have c40b0 : decide (a2 < 0) = true := decide_eq_true c40
                          clear c40
                          (first | rw [c40b0] | (simp only [i64_w, i32_w]; rw [c40b0]) | skip)
                          have H' := Aside0.mk H
                          clear H
                          go_wp2
                          go_meet
                          case rel => exact ⟨_, (true), (by first | rfl | (simp; done) | (simp [*]; done)), H', ⟨by have := HJ3.out; have := HJ17.out; have := HJ24.out; first | omega | exact Nat.le_refl _⟩, ⟨by repeat (first | (with_reducible first | exact HB.out | apply below_alloc | apply pw_below_drewN | apply below_drew1) | exact HB.out)⟩⟩
                        · rw [if_neg c40] at H
                          have c40b0 : decide (a2 < 0) = false := decide_eq_false c40
                          clear c40
                          (first | rw [c40b0] | (simp only [i64_w, i32_w]; rw [c40b0]) | skip)
                          by_cases c41 : a2 ≥ (t307.size : Int)
                          · rw [if_pos c41] at H
                            have c41b0 : decide ((t307.size : Int) ≤ a2) = true := decide_eq_true c41
                            clear c41
                            have H' := Aside0.mk H
                            clear H
                            go_wp2
                            go_meet
                            case rel => exact ⟨_, (true), (by first | rfl | (simp; done) | (simp [*]; done)), H', ⟨by have := HJ3.out; have := HJ17.out; have := HJ24.out; first | omega | exact Nat.le_refl _⟩, ⟨by repeat (first | (with_reducible first | exact HB.out | apply below_alloc | apply pw_below_drewN | apply below_drew1) | exact HB.out)⟩⟩
                          · rw [if_neg c41] at H
                            have c41b0 : decide ((t307.size : Int) ≤ a2) = false := decide_eq_false c41
                            clear c41
                            by_cases c42 : 0 ≤ a2
                            · rw [if_pos c42] at H
                              have c42b0 : decide (0 ≤ a2) = true := decide_eq_true c42
                              clear c42
                              by_cases c43 : a2 < (t307.size : Int)
                              · rw [if_pos c43] at H
                                have c43b0 : decide (a2 < (t307.size : Int)) = true := decide_eq_true c43
                                clear c43
                                have H' := Aside0.mk H
                                clear H
                                have p44 : 0 ≤ (a2 : Int) := of_decide_eq_true (by first | (with_reducible assumption) | assumption)
                                have q44 : a2 < (t307.size : Int) := of_decide_eq_true (by first | (with_reducible assumption) | assumption)
                                have hx44 := bt_at t307 a2
                                replace p44 := eq_true p44
                                replace q44 := eq_true q44
                                go_wp2
                                go_meet
                                case rel => exact ⟨_, (((bt t307 a2) == 10)), (by first | rfl | (simp; done) | (simp [*]; done)), H', ⟨by have := HJ3.out; have := HJ17.out; have := HJ24.out; first | omega | exact Nat.le_refl _⟩, ⟨by repeat (first | (with_reducible first | exact HB.out | apply below_alloc | apply pw_below_drewN | apply below_drew1) | exact HB.out)⟩⟩
                              · rw [if_neg c43] at H
                                exact absurd H (by simp)
                            · rw [if_neg c42] at H
                              exact absurd H (by simp)
                      case rest =>
                        clear HC39
                        try clear c1
                        try clear c2
                        try clear p2
                        try clear c3
                        try clear c4
                        try clear p4
                        try clear q4
                        try clear hx4
                        try clear c6
                        try clear p6
                        try clear c7
                        try clear c7b0
                        try clear c7b1
                        try clear c7b2
                        try clear c8
                        try clear c9
                        try clear c9b0
                        try clear c9b1
                        try clear c9b2
                        try clear c13
                        try clear c14
                        try clear c18
                        try clear c21
                        try clear c21b0
                        try clear c21b1
                        try clear c22
                        try clear c23
                        try clear c23b0
                        try clear c23b1
                        try clear c23b2
                        try clear c27
                        try clear c27b0
                        try clear c27b1
                        try clear c28
                        try clear c28b0
                        try clear c28b1
                        try clear c29
                        try clear c30
                        try clear c38
                        try clear c40
                        try clear c40b0
                        try clear c41
                        try clear c41b0
                        try clear c42
                        try clear c42b0
                        try clear c43
                        try clear c43b0
                        try clear p44
                        try clear q44
                        try clear hx44
                        try clear p2
                        try clear p44
                        try clear p6
                        try clear q44
                        obtain ⟨kq, x94_38, rfl, HA, HJ38, HB⟩ := hcut
                        cases kq with
                        | zero => exact absurd HA.out (by simp [tamislaw05_AsmJoins.j3])
                        | succ kj38 =>
                          have H := HA.out
                          clear HA
                          simp only [tamislaw05_AsmJoins.j3] at H
                          by_cases c45 : x94_38 = true
                          · subst c45
                            have H1 : (some true) = some r := by rw [if_pos rfl] at H; exact H
                            clear H
                            have H := H1
                            clear H1
                            obtain rfl := Option.some.inj H
                            go_wp2
                            go_ret
                            exact ⟨by first | rfl | (simp [errW_none, errW_some] <;> rfl) | (simp [*, errW_none, errW_some] <;> rfl), by repeat (first | (with_reducible first | exact HB.out | apply below_alloc | apply pw_below_drewN | apply below_drew1) | exact HB.out)⟩
                          · replace c45 := Bool.eq_false_iff.mpr c45
                            subst c45
                            have H1 : (if 0 ≤ (wrap64 (a2 + 1)) then (if (wrap64 (a2 + 1)) ≤ (t307.size : Int) then ((asm_Read.f kj38 (t307.extract 0 ((wrap64 (a2 + 1)) : Int).toNat)).bind fun bt326 => ((tamisref05_Read.f kj38 (t307.extract 0 ((wrap64 (a2 + 1)) : Int).toNat)).bind fun bt331 => (if (bt326.1.length : Int) = 0 then (if (bt331.1.length : Int) = 0 then (if bt331.2.2 = 3 then (if bt326.2.2 = 3 then (if bt326.2.1 = bt331.2.1 then (some (decide (bt326.2.1 ≤ a2))) else (some false)) else (some false)) else (some false)) else (some false)) else (some false)))) else (none)) else (none)) = some r := by rw [if_neg (show ¬ (false = true) by decide)] at H; exact H
                            clear H
                            have H := H1
                            clear H1
                            obtain ⟨ji46, hji46⟩ : ∃ j_ : Int, (wrap64 (a2 + 1)) = j_ := ⟨_, rfl⟩
                            replace H : (if 0 ≤ (ji46) then (if (ji46) ≤ (t307.size : Int) then ((asm_Read.f kj38 (t307.extract 0 ((ji46) : Int).toNat)).bind fun bt326 => ((tamisref05_Read.f kj38 (t307.extract 0 ((ji46) : Int).toNat)).bind fun bt331 => (if (bt326.1.length : Int) = 0 then (if (bt331.1.length : Int) = 0 then (if bt331.2.2 = 3 then (if bt326.2.2 = 3 then (if bt326.2.1 = bt331.2.1 then (some (decide (bt326.2.1 ≤ a2))) else (some false)) else (some false)) else (some false)) else (some false)) else (some false)))) else (none)) else (none)) = some r := by first | (rw [hji46] at H; exact H) | (simp only [hji46] at H ⊢; exact H)
                            have hji46w : (IntKind.i64.wrap (a2 + 1)) = ji46 := (i64_w _).trans hji46
                            by_cases c47 : 0 ≤ (ji46)
                            · rw [if_pos c47] at H
                              have c47b0 := eq_true c47
                              have c47b1 : decide (0 ≤ (ji46)) = true := decide_eq_true c47
                              clear c47
                              by_cases c48 : (ji46) ≤ (t307.size : Int)
                              · rw [if_pos c48] at H
                                have c48b0 := eq_true c48
                                have c48b1 : decide ((ji46) ≤ (t307.size : Int)) = true := decide_eq_true c48
                                clear c48
                                replace H := Option.bind_eq_some_iff.mp H
                                obtain ⟨⟨t326, t327, t328⟩, A490, H⟩ := H
                                replace H : ((tamisref05_Read.f kj38 (t307.extract 0 ((ji46) : Int).toNat)).bind fun bt331 => (if (t326.length : Int) = 0 then (if (bt331.1.length : Int) = 0 then (if bt331.2.2 = 3 then (if t328 = 3 then (if t327 = bt331.2.1 then (some (decide (t327 ≤ a2))) else (some false)) else (some false)) else (some false)) else (some false)) else (some false))) = some r := H
                                have A49 := Aside0.mk A490
                                clear A490
                                have c50b0 := eq_true (of_decide_eq_true (by first | (with_reducible assumption) | assumption) : 0 ≤ (ji46))
                                have c51b0 := eq_true (of_decide_eq_true (by first | (with_reducible assumption) | assumption) : (ji46) ≤ (t307.size : Int))
                                replace H := Option.bind_eq_some_iff.mp H
                                obtain ⟨⟨t331, t332, t333⟩, A520, H⟩ := H
                                replace H : (if (t326.length : Int) = 0 then (if (t331.length : Int) = 0 then (if t333 = 3 then (if t328 = 3 then (if t327 = t332 then (some (decide (t327 ≤ a2))) else (some false)) else (some false)) else (some false)) else (some false)) else (some false)) = some r := H
                                have A52 := Aside0.mk A520
                                clear A520
                                by_cases c53 : (t326.length : Int) = 0
                                · rw [if_pos c53] at H
                                  have c53b0 : ((t326.length : Int) == 0) = true := beq_iff_eq.mpr c53
                                  have c53b1 : ((t326.length : Int) != 0) = false := bne_eq_false_iff_eq.mpr c53
                                  clear c53
                                  by_cases c54 : (t331.length : Int) = 0
                                  · rw [if_pos c54] at H
                                    have c54b0 : ((t331.length : Int) == 0) = true := beq_iff_eq.mpr c54
                                    have c54b1 : ((t331.length : Int) != 0) = false := bne_eq_false_iff_eq.mpr c54
                                    clear c54
                                    by_cases c55 : t333 = 3
                                    · rw [if_pos c55] at H
                                      have c55b0 : (t333 == 3) = true := beq_iff_eq.mpr c55
                                      have c55b1 : (t333 != 3) = false := bne_eq_false_iff_eq.mpr c55
                                      clear c55
                                      by_cases c56 : t328 = 3
                                      · rw [if_pos c56] at H
                                        have c56b0 : (t328 == 3) = true := beq_iff_eq.mpr c56
                                        have c56b1 : (t328 != 3) = false := bne_eq_false_iff_eq.mpr c56
                                        clear c56
                                        by_cases c57 : t327 = t332
                                        · rw [if_pos c57] at H
                                          have c57b0 : (t327 == t332) = true := beq_iff_eq.mpr c57
                                          have c57b1 : (t327 != t332) = false := bne_eq_false_iff_eq.mpr c57
                                          clear c57
                                          obtain rfl := Option.some.inj H
                                          go_wp2_with (first | ((with_reducible refine gate_callee (f := 14) rfl ?_); refine goesL_ (some 100) rfl rfl Tryd.func14 (by kernel_rfl) rfl #[.string (t307.extract 0 ((ji46) : Int).toNat)] rfl (by (try simp only [List.map_toArray, List.map_cons, List.map_nil]); first | done | (simp only [hji46]; rfl) | rfl | (simp only [List.length_drop, List.length_take]; rfl)) ?_; (with_reducible refine (asm_Read.calls kj38 (t307.extract 0 ((ji46) : Int).toNat) t326 t327 t328 _ (hG.on (by repeat (first | (with_reducible first | exact HB.out | apply below_alloc | apply pw_below_drewN | apply below_drew1) | exact HB.out))) A49.out).mono ?_); rintro e w58 ⟨v329, rfl, ho0, hb⟩; refine ⟨_, rfl, ?_⟩; have n0_ := Aside0.mk (Kd.R_lower ho0 (below_size (by repeat (first | (with_reducible first | exact HB.out | apply below_alloc | apply pw_below_drewN | apply below_drew1) | exact HB.out)))); have n1_ := Aside0.mk (below_step (by repeat (first | (with_reducible first | exact HB.out | apply below_alloc | apply pw_below_drewN | apply below_drew1) | exact HB.out)) hb); clear HB; have HO330 := n0_; have HB := n1_; clear n0_ n1_; (try clear hb); (try clear hb2); (try clear hk); (try clear hi); (try clear ho0)) | ((with_reducible refine gate_callee (f := 15) rfl ?_); refine goesL_ (some 109) rfl rfl Tryd.func15 (by kernel_rfl) rfl #[.string (t307.extract 0 ((ji46) : Int).toNat)] rfl (by (try simp only [List.map_toArray, List.map_cons, List.map_nil]); first | done | (simp only [hji46]; rfl) | rfl | (simp only [List.length_drop, List.length_take]; rfl)) ?_; (with_reducible refine (tamisref05_Read.calls kj38 (t307.extract 0 ((ji46) : Int).toNat) t331 t332 t333 _ A52.out).mono ?_); rintro e w59 ⟨v334, rfl, ho0, hb⟩; refine ⟨_, rfl, ?_⟩; have n0_ := Aside0.mk (Kd.R_elder' (by (with_reducible repeat (first | apply Kd.R_alloc | apply Kd.R_drewN | apply Kd.R_drew)); exact HO330.out) (Kd.R_base ho0) hb); have n1_ := Aside0.mk (Kd.R_lower (Kd.R_new' ho0 (Kd.R_lt (by (with_reducible repeat (first | apply Kd.R_alloc | apply Kd.R_drewN | apply Kd.R_drew)); exact HO330.out))) (below_size (by repeat (first | (with_reducible first | exact HB.out | apply below_alloc | apply pw_below_drewN | apply below_drew1) | exact HB.out)))); have n2_ := Aside0.mk (below_step (by repeat (first | (with_reducible first | exact HB.out | apply below_alloc | apply pw_below_drewN | apply below_drew1) | exact HB.out)) hb); clear HO330; clear HB; have HO330 := n0_; have HO335 := n1_; have HB := n2_; clear n0_ n1_ n2_; (try clear hb); (try clear hb2); (try clear hk); (try clear hi); (try clear ho0); obtain ⟨Ao60, co60, eo60⟩ := Kd.R_slice HO330.out; subst eo60; obtain ⟨Ao61, co61, eo61⟩ := Kd.R_slice HO335.out; subst eo61))
                                          go_ret
                                          exact ⟨by first | rfl | (simp [errW_none, errW_some] <;> rfl) | (simp only [← hji46]; first | rfl | (simp [errW_none, errW_some] <;> rfl)) | (simp [*, errW_none, errW_some] <;> rfl), by repeat (first | (with_reducible first | exact HB.out | apply below_alloc | apply pw_below_drewN | apply below_drew1) | exact HB.out)⟩
                                        · rw [if_neg c57] at H
                                          have c57b0 : (t327 == t332) = false := beq_eq_false_iff_ne.mpr c57
                                          have c57b1 : (t327 != t332) = true := bne_iff_ne.mpr c57
                                          exact absurd ((Option.some.inj H).trans HT.out) (by simp)
                                      · rw [if_neg c56] at H
                                        have c56b0 : (t328 == 3) = false := beq_eq_false_iff_ne.mpr c56
                                        have c56b1 : (t328 != 3) = true := bne_iff_ne.mpr c56
                                        exact absurd ((Option.some.inj H).trans HT.out) (by simp)
                                    · rw [if_neg c55] at H
                                      have c55b0 : (t333 == 3) = false := beq_eq_false_iff_ne.mpr c55
                                      have c55b1 : (t333 != 3) = true := bne_iff_ne.mpr c55
                                      exact absurd ((Option.some.inj H).trans HT.out) (by simp)
                                  · rw [if_neg c54] at H
                                    have c54b0 : ((t331.length : Int) == 0) = false := beq_eq_false_iff_ne.mpr c54
                                    have c54b1 : ((t331.length : Int) != 0) = true := bne_iff_ne.mpr c54
                                    have c54b2 : ¬ (t331 = []) := fun h_ => c54 (by rw [h_]; rfl)
                                    exact absurd ((Option.some.inj H).trans HT.out) (by simp)
                                · rw [if_neg c53] at H
                                  have c53b0 : ((t326.length : Int) == 0) = false := beq_eq_false_iff_ne.mpr c53
                                  have c53b1 : ((t326.length : Int) != 0) = true := bne_iff_ne.mpr c53
                                  have c53b2 : ¬ (t326 = []) := fun h_ => c53 (by rw [h_]; rfl)
                                  exact absurd ((Option.some.inj H).trans HT.out) (by simp)
                              · rw [if_neg c48] at H
                                exact absurd H (by simp)
                            · rw [if_neg c47] at H
                              exact absurd H (by simp)
              · rw [if_neg c23] at H
                exact absurd H (by simp)

end Go.Proofs.YtnagbdcpmbjnpaaDoor.Pr
