-- Made by a program of this session (wip/tools/myprint.sh).
import Derived.Test.YtnagbdcpmbjnpaaDoorGLib
import Derived.Test.YtnagbdcpmbjnpaaDoorPr0
import Derived.Test.YtnagbdcpmbjnpaaDoorFAsmRead
import Derived.Test.YtnagbdcpmbjnpaaDoorFTamisref05Parse
import Derived.Test.YtnagbdcpmbjnpaaDoorFTamisref05Print
import Derived.Test.YtnagbdcpmbjnpaaDoorGAwake05
namespace Go.Proofs.YtnagbdcpmbjnpaaDoor.Pr
open Go.RowKit Go.Proofs.YtnagbdcpmbjnpaaDoorW.PrintWords Go.Proofs.YtnagbdcpmbjnpaaDoorW.PrintLast Go.Proofs.YtnagbdcpmbjnpaaDoorW.PrintMore
attribute [local go_sem] max2_int min2_int max_two min_two max_three min_three max_four min_four   -- for this text's walks alone
set_option linter.unusedVariables false
set_option linter.unusedSimpArgs false

/-! ### tamislaw05_AsmPlace: function 6 -/
mutual
def tamislaw05_AsmPlace.j0 : Nat → List (S25) → ByteArray → ByteArray → Bool → Option (Bool)
  | 0, _, _, _, _ => none
  | k + 1, x0, x1, x2, x31 => if x31 = true then ((awake05.f).bind fun t271 => (some t271)) else (tamislaw05_AsmPlace.l0 k x0 x1 x2 (x1.size : Int) 0)
def tamislaw05_AsmPlace.l0 : Nat → List (S25) → ByteArray → ByteArray → Int → Int → Option (Bool)
  | 0, _, _, _, _, _ => none
  | k + 1, x0, x1, x2, x34, x35 => if x35 < x34 then (if 0 ≤ x35 then (if x35 < (x1.size : Int) then (if (bt x1 x35) = 10 then (some true) else (tamislaw05_AsmPlace.l0 k x0 x1 x2 x34 (wrap64 (x35 + 1)))) else (none)) else (none)) else ((tamisref05_Print.f k x0).bind fun bt272 => ((tamisref05_Parse.f k x1).bind fun bt274 => (if bt274.2.2.2.2 = true then (some true) else (if bt272.2 = 0 then (if bt272.1.size + x1.size ≤ 9223372036854775807 then (if (bt272.1 ++ x1).size + 1 ≤ 9223372036854775807 then (if ((bt272.1 ++ x1) ++ (⟨#[10]⟩ : ByteArray)).size + x2.size ≤ 9223372036854775807 then ((asm_Read.f k (((bt272.1 ++ x1) ++ (⟨#[10]⟩ : ByteArray)) ++ x2)).bind fun bt280 => (if (bt280.1.length : Int) = 0 then (if bt280.2.1 = (bt272.1.size : Int) then (some (bt280.2.2 == 3)) else (some false)) else (some false))) else (none)) else (none)) else (none)) else (if (x0.length : Int) > 0 then (some true) else (if bt272.1.size + x1.size ≤ 9223372036854775807 then (if (bt272.1 ++ x1).size + 1 ≤ 9223372036854775807 then (if ((bt272.1 ++ x1) ++ (⟨#[10]⟩ : ByteArray)).size + x2.size ≤ 9223372036854775807 then ((asm_Read.f k (((bt272.1 ++ x1) ++ (⟨#[10]⟩ : ByteArray)) ++ x2)).bind fun bt285 => (if (bt285.1.length : Int) = 0 then (if bt285.2.1 = (bt272.1.size : Int) then (some (bt285.2.2 == 3)) else (some false)) else (some false))) else (none)) else (none)) else (none)))))))
end
def tamislaw05_AsmPlace.f (k : Nat) (l0 : List (S25)) (a1 : ByteArray) (a2 : ByteArray) : Option (Bool) := (awake05.f).bind fun t270 => (if t270 = true then (if (l0.length : Int) > 50 then (tamislaw05_AsmPlace.j0 k l0 a1 a2 true) else (if (a1.size : Int) > 50 then (tamislaw05_AsmPlace.j0 k l0 a1 a2 true) else (tamislaw05_AsmPlace.j0 k l0 a1 a2 (decide ((a2.size : Int) > 100))))) else (tamislaw05_AsmPlace.j0 k l0 a1 a2 true))
theorem tamislaw05_AsmPlace.mono_l : ∀ k, (∀ y0 y1 y2 y3, LeO (tamislaw05_AsmPlace.j0 k y0 y1 y2 y3) (tamislaw05_AsmPlace.j0 (k + 1) y0 y1 y2 y3)) ∧ (∀ y0 y1 y2 y3 y4, LeO (tamislaw05_AsmPlace.l0 k y0 y1 y2 y3 y4) (tamislaw05_AsmPlace.l0 (k + 1) y0 y1 y2 y3 y4))
  | 0 => ⟨fun _ _ _ _ r h => by simp [tamislaw05_AsmPlace.j0] at h, fun _ _ _ _ _ r h => by simp [tamislaw05_AsmPlace.l0] at h⟩
  | k + 1 => by
    obtain ⟨ih0, ih1⟩ := tamislaw05_AsmPlace.mono_l k
    refine ⟨?_, ?_⟩
    · intro y0 y1 y2 y3
      unfold tamislaw05_AsmPlace.j0
      repeat' first
      | (with_reducible exact ih0 _ _ _ _)
      | (with_reducible exact ih1 _ _ _ _ _)
      | (with_reducible exact asm_Read.mono _ _)
      | (with_reducible exact tamisref05_Parse.mono _ _)
      | (with_reducible exact tamisref05_Print.mono _ _)
      | (with_reducible exact LeO.refl _)
      | (with_reducible exact LeO.none _)
      | (with_reducible refine LeO.ite ?_ ?_)
      | (with_reducible refine LeO.bind ?_ (fun _ => ?_))
      | exact ih0 _ _ _ _
      | exact ih1 _ _ _ _ _
      | exact asm_Read.mono _ _
      | exact tamisref05_Parse.mono _ _
      | exact tamisref05_Print.mono _ _
      | exact LeO.none _
      | refine LeO.ite ?_ ?_
      | refine LeO.bind ?_ (fun _ => ?_)
    · intro y0 y1 y2 y3 y4
      unfold tamislaw05_AsmPlace.l0
      repeat' first
      | (with_reducible exact ih0 _ _ _ _)
      | (with_reducible exact ih1 _ _ _ _ _)
      | (with_reducible exact asm_Read.mono _ _)
      | (with_reducible exact tamisref05_Parse.mono _ _)
      | (with_reducible exact tamisref05_Print.mono _ _)
      | (with_reducible exact LeO.refl _)
      | (with_reducible exact LeO.none _)
      | (with_reducible refine LeO.ite ?_ ?_)
      | (with_reducible refine LeO.bind ?_ (fun _ => ?_))
      | exact ih0 _ _ _ _
      | exact ih1 _ _ _ _ _
      | exact asm_Read.mono _ _
      | exact tamisref05_Parse.mono _ _
      | exact tamisref05_Print.mono _ _
      | exact LeO.none _
      | refine LeO.ite ?_ ?_
      | refine LeO.bind ?_ (fun _ => ?_)
theorem tamislaw05_AsmPlace.mono : ∀ a0 a1 a2 k, LeO (tamislaw05_AsmPlace.f k a0 a1 a2) (tamislaw05_AsmPlace.f (k + 1) a0 a1 a2) := by
  intro a0 a1 a2 k
  obtain ⟨ih0, ih1⟩ := tamislaw05_AsmPlace.mono_l k
  unfold tamislaw05_AsmPlace.f
  repeat' first
      | (with_reducible exact ih0 _ _ _ _)
      | (with_reducible exact ih1 _ _ _ _ _)
      | (with_reducible exact asm_Read.mono _ _)
      | (with_reducible exact tamisref05_Parse.mono _ _)
      | (with_reducible exact tamisref05_Print.mono _ _)
      | (with_reducible exact LeO.refl _)
      | (with_reducible exact LeO.none _)
      | (with_reducible refine LeO.ite ?_ ?_)
      | (with_reducible refine LeO.bind ?_ (fun _ => ?_))
      | exact ih0 _ _ _ _
      | exact ih1 _ _ _ _ _
      | exact asm_Read.mono _ _
      | exact tamisref05_Parse.mono _ _
      | exact tamisref05_Print.mono _ _
      | exact LeO.none _
      | refine LeO.ite ?_ ?_
      | refine LeO.bind ?_ (fun _ => ?_)
set_option maxHeartbeats 8000000 in
set_option maxRecDepth 100000 in
theorem tamislaw05_AsmPlace.calls (k : Nat) (A0 : Option Addr) (c0 : Nat) (l0 : List (S25)) (a1 : ByteArray) (a2 : ByteArray) (r : Bool) (w : World) (hr0 : Kd.C k25 w A0 l0.length l0) (hc0 : l0.length ≤ c0) (hT : r = true) (hG : GlobW w) (h : tamislaw05_AsmPlace.f k l0 a1 a2 = some r) :
    Calls Tryd.prog 6 #[.slice A0 l0.length c0, .string a1, .string a2] w fun e w' => e = .returned (.bool r) ∧ Below w.heap.size w w' := by
  have hu25 := Tryd.underlying25
  have HT := Aside0.mk hT
  clear hT
  have HR0 := Aside0.mk hr0
  have HC0 := Aside0.mk hc0
  clear hr0 hc0
  have HB := Aside0.mk (Below.refl w.heap.size w)
  have H : ((awake05.f).bind fun t270 => (if t270 = true then (if (l0.length : Int) > 50 then (tamislaw05_AsmPlace.j0 k l0 a1 a2 true) else (if (a1.size : Int) > 50 then (tamislaw05_AsmPlace.j0 k l0 a1 a2 true) else (tamislaw05_AsmPlace.j0 k l0 a1 a2 (decide ((a2.size : Int) > 100))))) else (tamislaw05_AsmPlace.j0 k l0 a1 a2 true))) = some r := h
  clear h
  have HC4 := Aside0.mk H
  clear H
  go_enter Tryd.func6, Tryd.ntmps6
  go_upto_region 1 with (fail)
  go_cut [31] (fun v31 wc => ∃ (kq : Nat) (x31_3 : Bool), v31 = .bool x31_3 ∧ Aside0 (tamislaw05_AsmPlace.j0 kq l0 a1 a2 x31_3 = some r) ∧ Aside0 (kq ≤ k) ∧ Aside0 (Below w.heap.size w wc))
  case first =>
    have H := HC4.out
    clear HC4
    replace H := Option.bind_eq_some_iff.mp H
    obtain ⟨t270, A50, H⟩ := H
    replace H : (if t270 = true then (if (l0.length : Int) > 50 then (tamislaw05_AsmPlace.j0 k l0 a1 a2 true) else (if (a1.size : Int) > 50 then (tamislaw05_AsmPlace.j0 k l0 a1 a2 true) else (tamislaw05_AsmPlace.j0 k l0 a1 a2 (decide ((a2.size : Int) > 100))))) else (tamislaw05_AsmPlace.j0 k l0 a1 a2 true)) = some r := H
    have A5 := Aside0.mk A50
    clear A50
    by_cases c6 : t270 = true
    · subst c6
      have H1 : (if (l0.length : Int) > 50 then (tamislaw05_AsmPlace.j0 k l0 a1 a2 true) else (if (a1.size : Int) > 50 then (tamislaw05_AsmPlace.j0 k l0 a1 a2 true) else (tamislaw05_AsmPlace.j0 k l0 a1 a2 (decide ((a2.size : Int) > 100))))) = some r := by rw [if_pos rfl] at H; exact H
      clear H
      have H := H1
      clear H1
      by_cases c7 : (l0.length : Int) > 50
      · rw [if_pos c7] at H
        have c7b0 : decide (50 < (l0.length : Int)) = true := decide_eq_true c7
        have c7b1 : decide (50 < l0.length) = true := decide_eq_true (by omega)
        clear c7
        (first | rw [c7b0] | (simp only [i64_w, i32_w]; rw [c7b0]) | skip)
        have H' := Aside0.mk H
        clear H
        go_wp2_with (first | ((with_reducible refine gate_callee (f := 9) rfl ?_); refine goesL_ (some 15) rfl rfl Tryd.func9 (by kernel_rfl) rfl #[] rfl (by (try simp only [List.map_toArray, List.map_cons, List.map_nil]); first | done | rfl | (simp only [List.length_drop, List.length_take]; rfl)) ?_; (with_reducible refine (awake05.calls  true _ (hG.on (by repeat (first | (with_reducible first | exact HB.out | apply below_alloc | apply pw_below_drewN | apply below_drew1) | exact HB.out))) A5.out).mono ?_); rintro e w8 ⟨rfl, hb⟩; refine ⟨_, rfl, ?_⟩; have n0_ := Aside0.mk (below_step (by repeat (first | (with_reducible first | exact HB.out | apply below_alloc | apply pw_below_drewN | apply below_drew1) | exact HB.out)) hb); clear HB; have HB := n0_; clear n0_; (try clear hb); (try clear hb2); (try clear hk); (try clear hi)))
        go_meet
        case rel => exact ⟨_, (true), (by first | rfl | (simp; done) | (simp [*]; done)), H', ⟨by first | omega | exact Nat.le_refl _⟩, ⟨by repeat (first | (with_reducible first | exact HB.out | apply below_alloc | apply pw_below_drewN | apply below_drew1) | exact HB.out)⟩⟩
      · rw [if_neg c7] at H
        have c7b0 : decide (50 < (l0.length : Int)) = false := decide_eq_false c7
        have c7b1 : decide (50 < l0.length) = false := decide_eq_false (by omega)
        clear c7
        (first | rw [c7b0] | (simp only [i64_w, i32_w]; rw [c7b0]) | skip)
        by_cases c9 : (a1.size : Int) > 50
        · rw [if_pos c9] at H
          have c9b0 : decide (50 < (a1.size : Int)) = true := decide_eq_true c9
          have c9b1 : decide (50 < a1.size) = true := decide_eq_true (by omega)
          clear c9
          have H' := Aside0.mk H
          clear H
          go_wp2_with (first | ((with_reducible refine gate_callee (f := 9) rfl ?_); refine goesL_ (some 15) rfl rfl Tryd.func9 (by kernel_rfl) rfl #[] rfl (by (try simp only [List.map_toArray, List.map_cons, List.map_nil]); first | done | rfl | (simp only [List.length_drop, List.length_take]; rfl)) ?_; (with_reducible refine (awake05.calls  true _ (hG.on (by repeat (first | (with_reducible first | exact HB.out | apply below_alloc | apply pw_below_drewN | apply below_drew1) | exact HB.out))) A5.out).mono ?_); rintro e w10 ⟨rfl, hb⟩; refine ⟨_, rfl, ?_⟩; have n0_ := Aside0.mk (below_step (by repeat (first | (with_reducible first | exact HB.out | apply below_alloc | apply pw_below_drewN | apply below_drew1) | exact HB.out)) hb); clear HB; have HB := n0_; clear n0_; (try clear hb); (try clear hb2); (try clear hk); (try clear hi)))
          go_meet
          case rel => exact ⟨_, (true), (by first | rfl | (simp; done) | (simp [*]; done)), H', ⟨by first | omega | exact Nat.le_refl _⟩, ⟨by repeat (first | (with_reducible first | exact HB.out | apply below_alloc | apply pw_below_drewN | apply below_drew1) | exact HB.out)⟩⟩
        · rw [if_neg c9] at H
          have c9b0 : decide (50 < (a1.size : Int)) = false := decide_eq_false c9
          have c9b1 : decide (50 < a1.size) = false := decide_eq_false (by omega)
          clear c9
          have H' := Aside0.mk H
          clear H
          go_wp2_with (first | ((with_reducible refine gate_callee (f := 9) rfl ?_); refine goesL_ (some 15) rfl rfl Tryd.func9 (by kernel_rfl) rfl #[] rfl (by (try simp only [List.map_toArray, List.map_cons, List.map_nil]); first | done | rfl | (simp only [List.length_drop, List.length_take]; rfl)) ?_; (with_reducible refine (awake05.calls  true _ (hG.on (by repeat (first | (with_reducible first | exact HB.out | apply below_alloc | apply pw_below_drewN | apply below_drew1) | exact HB.out))) A5.out).mono ?_); rintro e w11 ⟨rfl, hb⟩; refine ⟨_, rfl, ?_⟩; have n0_ := Aside0.mk (below_step (by repeat (first | (with_reducible first | exact HB.out | apply below_alloc | apply pw_below_drewN | apply below_drew1) | exact HB.out)) hb); clear HB; have HB := n0_; clear n0_; (try clear hb); (try clear hb2); (try clear hk); (try clear hi)))
          go_meet
          case rel => exact ⟨_, (decide ((a2.size : Int) > 100)), (by first | rfl | (simp; done) | (simp [*]; done)), H', ⟨by first | omega | exact Nat.le_refl _⟩, ⟨by repeat (first | (with_reducible first | exact HB.out | apply below_alloc | apply pw_below_drewN | apply below_drew1) | exact HB.out)⟩⟩
    · replace c6 := Bool.eq_false_iff.mpr c6
      subst c6
      have H1 : (tamislaw05_AsmPlace.j0 k l0 a1 a2 true) = some r := by rw [if_neg (show ¬ (false = true) by decide)] at H; exact H
      clear H
      have H := H1
      clear H1
      have H' := Aside0.mk H
      clear H
      go_wp2_with (first | ((with_reducible refine gate_callee (f := 9) rfl ?_); refine goesL_ (some 15) rfl rfl Tryd.func9 (by kernel_rfl) rfl #[] rfl (by (try simp only [List.map_toArray, List.map_cons, List.map_nil]); first | done | rfl | (simp only [List.length_drop, List.length_take]; rfl)) ?_; (with_reducible refine (awake05.calls  false _ (hG.on (by repeat (first | (with_reducible first | exact HB.out | apply below_alloc | apply pw_below_drewN | apply below_drew1) | exact HB.out))) A5.out).mono ?_); rintro e w12 ⟨rfl, hb⟩; refine ⟨_, rfl, ?_⟩; have n0_ := Aside0.mk (below_step (by repeat (first | (with_reducible first | exact HB.out | apply below_alloc | apply pw_below_drewN | apply below_drew1) | exact HB.out)) hb); clear HB; have HB := n0_; clear n0_; (try clear hb); (try clear hb2); (try clear hk); (try clear hi)))
      go_meet
      case rel => exact ⟨_, (true), (by first | rfl | (simp; done) | (simp [*]; done)), H', ⟨by first | omega | exact Nat.le_refl _⟩, ⟨by repeat (first | (with_reducible first | exact HB.out | apply below_alloc | apply pw_below_drewN | apply below_drew1) | exact HB.out)⟩⟩
  case rest =>
    clear HC4
    try clear p2
    try clear c6
    try clear c7
    try clear c7b0
    try clear c7b1
    try clear c9
    try clear c9b0
    try clear c9b1
    obtain ⟨kq, x31_3, rfl, HA, HJ3, HB⟩ := hcut
    cases kq with
    | zero => exact absurd HA.out (by simp [tamislaw05_AsmPlace.j0])
    | succ kj3 =>
      have H := HA.out
      clear HA
      simp only [tamislaw05_AsmPlace.j0] at H
      by_cases c13 : x31_3 = true
      · subst c13
        have H1 : ((awake05.f).bind fun t271 => (some t271)) = some r := by rw [if_pos rfl] at H; exact H
        clear H
        have H := H1
        clear H1
        replace H := Option.bind_eq_some_iff.mp H
        obtain ⟨t271, A140, H⟩ := H
        replace H : (some t271) = some r := H
        have A14 := Aside0.mk A140
        clear A140
        obtain rfl := Option.some.inj H
        go_wp2_with (first | ((with_reducible refine gate_callee (f := 9) rfl ?_); refine goesL_ (some 32) rfl rfl Tryd.func9 (by kernel_rfl) rfl #[] rfl (by (try simp only [List.map_toArray, List.map_cons, List.map_nil]); first | done | rfl | (simp only [List.length_drop, List.length_take]; rfl)) ?_; (with_reducible refine (awake05.calls  t271 _ (hG.on (by repeat (first | (with_reducible first | exact HB.out | apply below_alloc | apply pw_below_drewN | apply below_drew1) | exact HB.out))) A14.out).mono ?_); rintro e w15 ⟨rfl, hb⟩; refine ⟨_, rfl, ?_⟩; have n0_ := Aside0.mk (below_step (by repeat (first | (with_reducible first | exact HB.out | apply below_alloc | apply pw_below_drewN | apply below_drew1) | exact HB.out)) hb); clear HB; have HB := n0_; clear n0_; (try clear hb); (try clear hb2); (try clear hk); (try clear hi)))
        go_ret
        exact ⟨by first | rfl | (simp [errW_none, errW_some] <;> rfl) | (simp [*, errW_none, errW_some] <;> rfl), by repeat (first | (with_reducible first | exact HB.out | apply below_alloc | apply pw_below_drewN | apply below_drew1) | exact HB.out)⟩
      · replace c13 := Bool.eq_false_iff.mpr c13
        subst c13
        have H1 : (tamislaw05_AsmPlace.l0 kj3 l0 a1 a2 (a1.size : Int) 0) = some r := by rw [if_neg (show ¬ (false = true) by decide)] at H; exact H
        clear H
        have H := H1
        clear H1
        have H' := Aside0.mk H
        clear H
        go_wp2
        go_loopg [35] kj3 (fun kq v35 w' => ∃ (x35_2 : Int), v35 = .int .i64 x35_2 ∧ Aside0 (tamislaw05_AsmPlace.l0 kq l0 a1 a2 (a1.size : Int) x35_2 = some r) ∧ Aside0 (kq ≤ kj3) ∧ Aside0 (Below w.heap.size w w'))
        case atStart => exact ⟨(0), (by first | rfl | (simp; done) | (simp [*]; done)), H', ⟨Nat.le_refl _⟩, ⟨by repeat (first | (with_reducible first | exact HB.out | apply below_alloc | apply pw_below_drewN | apply below_drew1) | exact HB.out)⟩⟩
        case round =>
          clear H'
          try clear c1
          try clear p2
          try clear c6
          try clear c7
          try clear c7b0
          try clear c7b1
          try clear c9
          try clear c9b0
          try clear c9b1
          try clear c13
          try clear p2
          obtain ⟨x35_2, rfl, HA, HK2, HB⟩ := hrel
          cases gk with
          | zero => exact absurd HA.out (by simp [tamislaw05_AsmPlace.l0])
          | succ k2 =>
            have H := HA.out
            clear HA
            simp only [tamislaw05_AsmPlace.l0] at H
            by_cases c16 : x35_2 < (a1.size : Int)
            · rw [if_pos c16] at H
              have c16b0 : decide (x35_2 < (a1.size : Int)) = true := decide_eq_true c16
              clear c16
              by_cases c17 : 0 ≤ x35_2
              · rw [if_pos c17] at H
                have c17b0 : decide (0 ≤ x35_2) = true := decide_eq_true c17
                clear c17
                by_cases c18 : x35_2 < (a1.size : Int)
                · rw [if_pos c18] at H
                  have c18b0 : decide (x35_2 < (a1.size : Int)) = true := decide_eq_true c18
                  clear c18
                  by_cases c20 : (bt a1 x35_2) = 10
                  · rw [if_pos c20] at H
                    have c20b0 : ((bt a1 x35_2) == 10) = true := beq_iff_eq.mpr c20
                    have c20b1 : ((bt a1 x35_2) != 10) = false := bne_eq_false_iff_eq.mpr c20
                    clear c20
                    obtain rfl := Option.some.inj H
                    have p19 : 0 ≤ (x35_2 : Int) := of_decide_eq_true (by first | (with_reducible assumption) | assumption)
                    have q19 : x35_2 < (a1.size : Int) := of_decide_eq_true (by first | (with_reducible assumption) | assumption)
                    have hx19 := bt_at a1 x35_2
                    replace p19 := eq_true p19
                    replace q19 := eq_true q19
                    go_wp2
                    go_ret
                    exact ⟨by first | rfl | (simp [errW_none, errW_some] <;> rfl) | (simp [*, errW_none, errW_some] <;> rfl), by repeat (first | (with_reducible first | exact HB.out | apply below_alloc | apply pw_below_drewN | apply below_drew1) | exact HB.out)⟩
                  · rw [if_neg c20] at H
                    have c20b0 : ((bt a1 x35_2) == 10) = false := beq_eq_false_iff_ne.mpr c20
                    have c20b1 : ((bt a1 x35_2) != 10) = true := bne_iff_ne.mpr c20
                    have H' := Aside0.mk H
                    clear H
                    have p19 : 0 ≤ (x35_2 : Int) := of_decide_eq_true (by first | (with_reducible assumption) | assumption)
                    have q19 : x35_2 < (a1.size : Int) := of_decide_eq_true (by first | (with_reducible assumption) | assumption)
                    have hx19 := bt_at a1 x35_2
                    replace p19 := eq_true p19
                    replace q19 := eq_true q19
                    go_wp2
                    go_roundg k2
                    case measure => have := HJ3.out; have := HK2.out; omega
                    case rel => exact ⟨(wrap64 (x35_2 + 1)), (by first | rfl | (simp; done) | (simp [*]; done)), H', ⟨by have := HJ3.out; have := HK2.out; omega⟩, ⟨by repeat (first | (with_reducible first | exact HB.out | apply below_alloc | apply pw_below_drewN | apply below_drew1) | exact HB.out)⟩⟩
                · rw [if_neg c18] at H
                  exact absurd H (by simp)
              · rw [if_neg c17] at H
                exact absurd H (by simp)
            · rw [if_neg c16] at H
              have c16b0 : decide (x35_2 < (a1.size : Int)) = false := decide_eq_false c16
              clear c16
              replace H := Option.bind_eq_some_iff.mp H
              obtain ⟨⟨t272, t273⟩, A210, H⟩ := H
              replace H : ((tamisref05_Parse.f k2 a1).bind fun bt274 => (if bt274.2.2.2.2 = true then (some true) else (if t273 = 0 then (if t272.size + a1.size ≤ 9223372036854775807 then (if (t272 ++ a1).size + 1 ≤ 9223372036854775807 then (if ((t272 ++ a1) ++ (⟨#[10]⟩ : ByteArray)).size + a2.size ≤ 9223372036854775807 then ((asm_Read.f k2 (((t272 ++ a1) ++ (⟨#[10]⟩ : ByteArray)) ++ a2)).bind fun bt280 => (if (bt280.1.length : Int) = 0 then (if bt280.2.1 = (t272.size : Int) then (some (bt280.2.2 == 3)) else (some false)) else (some false))) else (none)) else (none)) else (none)) else (if (l0.length : Int) > 0 then (some true) else (if t272.size + a1.size ≤ 9223372036854775807 then (if (t272 ++ a1).size + 1 ≤ 9223372036854775807 then (if ((t272 ++ a1) ++ (⟨#[10]⟩ : ByteArray)).size + a2.size ≤ 9223372036854775807 then ((asm_Read.f k2 (((t272 ++ a1) ++ (⟨#[10]⟩ : ByteArray)) ++ a2)).bind fun bt285 => (if (bt285.1.length : Int) = 0 then (if bt285.2.1 = (t272.size : Int) then (some (bt285.2.2 == 3)) else (some false)) else (some false))) else (none)) else (none)) else (none)))))) = some r := H
              have A21 := Aside0.mk A210
              clear A210
              replace H := Option.bind_eq_some_iff.mp H
              obtain ⟨⟨t274, t275, t276, t277, t278⟩, A220, H⟩ := H
              replace H : (if t278 = true then (some true) else (if t273 = 0 then (if t272.size + a1.size ≤ 9223372036854775807 then (if (t272 ++ a1).size + 1 ≤ 9223372036854775807 then (if ((t272 ++ a1) ++ (⟨#[10]⟩ : ByteArray)).size + a2.size ≤ 9223372036854775807 then ((asm_Read.f k2 (((t272 ++ a1) ++ (⟨#[10]⟩ : ByteArray)) ++ a2)).bind fun bt280 => (if (bt280.1.length : Int) = 0 then (if bt280.2.1 = (t272.size : Int) then (some (bt280.2.2 == 3)) else (some false)) else (some false))) else (none)) else (none)) else (none)) else (if (l0.length : Int) > 0 then (some true) else (if t272.size + a1.size ≤ 9223372036854775807 then (if (t272 ++ a1).size + 1 ≤ 9223372036854775807 then (if ((t272 ++ a1) ++ (⟨#[10]⟩ : ByteArray)).size + a2.size ≤ 9223372036854775807 then ((asm_Read.f k2 (((t272 ++ a1) ++ (⟨#[10]⟩ : ByteArray)) ++ a2)).bind fun bt285 => (if (bt285.1.length : Int) = 0 then (if bt285.2.1 = (t272.size : Int) then (some (bt285.2.2 == 3)) else (some false)) else (some false))) else (none)) else (none)) else (none))))) = some r := H
              have A22 := Aside0.mk A220
              clear A220
              by_cases c23 : t278 = true
              · subst c23
                have H1 : (some true) = some r := by rw [if_pos rfl] at H; exact H
                clear H
                have H := H1
                clear H1
                obtain rfl := Option.some.inj H
                go_wp2_with (first | ((with_reducible refine gate_callee (f := 18) rfl ?_); refine goesL_ (some 45) rfl rfl Tryd.func18 (by kernel_rfl) rfl #[.slice A0 l0.length c0] rfl (by (try simp only [List.map_toArray, List.map_cons, List.map_nil]); first | done | rfl | (simp only [List.length_drop, List.length_take]; rfl)) ?_; (with_reducible refine (tamisref05_Print.calls k2 _ _ l0 t272 t273 _ ?side1 ?side2 A21.out).mono ?_); (case side1 => repeat (first | exact (Kd.C_below HR0.out HB.out) | (with_reducible refine Kd.C_alloc ?_ _) | (with_reducible refine Kd.C_drewN ?_ _) | (with_reducible refine Kd.C_drew ?_))); (case side2 => exact HC0.out); rintro e w24 ⟨rfl, hb⟩; refine ⟨_, rfl, ?_⟩; have n0_ := Aside0.mk (below_step (by repeat (first | (with_reducible first | exact HB.out | apply below_alloc | apply pw_below_drewN | apply below_drew1) | exact HB.out)) hb); clear HB; have HB := n0_; clear n0_; (try clear hb); (try clear hb2); (try clear hk); (try clear hi)) | ((with_reducible refine gate_callee (f := 13) rfl ?_); refine goesL_ (some 50) rfl rfl Tryd.func13 (by kernel_rfl) rfl #[.string a1] rfl (by (try simp only [List.map_toArray, List.map_cons, List.map_nil]); first | done | rfl | (simp only [List.length_drop, List.length_take]; rfl)) ?_; (with_reducible refine (tamisref05_Parse.calls k2 a1 t274 t275 t276 t277 true _ A22.out).mono ?_); rintro e w25 ⟨rfl, hb⟩; refine ⟨_, rfl, ?_⟩; have n0_ := Aside0.mk (below_step (by repeat (first | (with_reducible first | exact HB.out | apply below_alloc | apply pw_below_drewN | apply below_drew1) | exact HB.out)) hb); clear HB; have HB := n0_; clear n0_; (try clear hb); (try clear hb2); (try clear hk); (try clear hi)) | ((with_reducible refine gate_dst (N := 10) rfl ?_); (try (refine gate_guard (by rfl) ?_; dsimp only)); refine box_event ?hg (N := 10) ?hd (cs := #[.int .u16 0, .int .u8 0, .int .u8 0, .int .u32 0]) (t := 25) ?hr ?_; (case hd => rfl); (case hg => rfl); (case hr => first | (go_simp; done) | (go_simp; rfl)); intro gb279 hg w26 hbox hb; have n0_ := Aside0.mk (below_step (by repeat (first | (with_reducible first | exact HB.out | apply below_alloc | apply pw_below_drewN | apply below_drew1) | exact HB.out)) hb); have n1_ := Aside0.mk (hbox); have n2_ := Aside0.mk ((by rw [hg]; exact (below_size (by repeat (first | (with_reducible first | exact HB.out | apply below_alloc | apply pw_below_drewN | apply below_drew1) | exact HB.out))) : w.heap.size ≤ gb279)); have n3_ := Aside0.mk ((by rw [hg]; exact (below_size (by repeat (first | (with_reducible first | exact HB.out | apply below_alloc | apply pw_below_drewN | apply below_drew1) | exact HB.out))) : w.heap.size ≤ gb279)); clear HB; have HB := n0_; have BK279 := n1_; have GW279 := n2_; have GE279 := n3_; clear n0_ n1_ n2_ n3_; clear hb hbox hg; have hcz27_0 : w26.cell? ⟨gb279, 0, none⟩ = some (.int .u16 0) := (blk_cell BK279.out 0).trans rfl; have hcz27_1 : w26.cell? ⟨gb279, 1, none⟩ = some (.int .u8 0) := (blk_cell BK279.out 1).trans rfl; have hcz27_2 : w26.cell? ⟨gb279, 2, none⟩ = some (.int .u8 0) := (blk_cell BK279.out 2).trans rfl; have hcz27_3 : w26.cell? ⟨gb279, 3, none⟩ = some (.int .u32 0) := (blk_cell BK279.out 3).trans rfl; have hfz27_0 := blk_frozen BK279.out 0; have hfz27_1 := blk_frozen BK279.out 1; have hfz27_2 := blk_frozen BK279.out 2; have hfz27_3 := blk_frozen BK279.out 3))
                go_ret
                exact ⟨by first | rfl | (simp [errW_none, errW_some] <;> rfl) | (simp [*, errW_none, errW_some] <;> rfl), by repeat (first | (with_reducible first | exact HB.out | apply below_alloc | apply pw_below_drewN | apply below_drew1 | refine below_set ?_ GE279.out) | exact HB.out)⟩
              · replace c23 := Bool.eq_false_iff.mpr c23
                subst c23
                have H1 : (if t273 = 0 then (if t272.size + a1.size ≤ 9223372036854775807 then (if (t272 ++ a1).size + 1 ≤ 9223372036854775807 then (if ((t272 ++ a1) ++ (⟨#[10]⟩ : ByteArray)).size + a2.size ≤ 9223372036854775807 then ((asm_Read.f k2 (((t272 ++ a1) ++ (⟨#[10]⟩ : ByteArray)) ++ a2)).bind fun bt280 => (if (bt280.1.length : Int) = 0 then (if bt280.2.1 = (t272.size : Int) then (some (bt280.2.2 == 3)) else (some false)) else (some false))) else (none)) else (none)) else (none)) else (if (l0.length : Int) > 0 then (some true) else (if t272.size + a1.size ≤ 9223372036854775807 then (if (t272 ++ a1).size + 1 ≤ 9223372036854775807 then (if ((t272 ++ a1) ++ (⟨#[10]⟩ : ByteArray)).size + a2.size ≤ 9223372036854775807 then ((asm_Read.f k2 (((t272 ++ a1) ++ (⟨#[10]⟩ : ByteArray)) ++ a2)).bind fun bt285 => (if (bt285.1.length : Int) = 0 then (if bt285.2.1 = (t272.size : Int) then (some (bt285.2.2 == 3)) else (some false)) else (some false))) else (none)) else (none)) else (none)))) = some r := by rw [if_neg (show ¬ (false = true) by decide)] at H; exact H
                clear H
                have H := H1
                clear H1
                by_cases c28 : t273 = 0
                · rw [if_pos c28] at H
                  have c28b0 : (t273 == 0) = true := beq_iff_eq.mpr c28
                  have c28b1 : (t273 != 0) = false := bne_eq_false_iff_eq.mpr c28
                  clear c28
                  by_cases c29 : t272.size + a1.size ≤ 9223372036854775807
                  · rw [if_pos c29] at H
                    have c29b0 := eq_true c29
                    have c29b1 : decide (t272.size + a1.size ≤ 9223372036854775807) = true := decide_eq_true c29
                    try have c29b2 : (9223372036854775807 < t272.size + a1.size) = False := eq_false (Nat.not_lt.2 c29)
                    by_cases c30 : (t272 ++ a1).size + 1 ≤ 9223372036854775807
                    · rw [if_pos c30] at H
                      have c30b0 := eq_true c30
                      have c30b1 : decide ((t272 ++ a1).size + 1 ≤ 9223372036854775807) = true := decide_eq_true c30
                      try have c30b2 : (9223372036854775807 < (t272 ++ a1).size + 1) = False := eq_false (Nat.not_lt.2 c30)
                      try have c30b3 : _ := c30b2
                      try simp only [ByteArray.size_append, size_one_] at c30b3
                      by_cases c31 : ((t272 ++ a1) ++ (⟨#[10]⟩ : ByteArray)).size + a2.size ≤ 9223372036854775807
                      · rw [if_pos c31] at H
                        have c31b0 := eq_true c31
                        have c31b1 : decide (((t272 ++ a1) ++ (⟨#[10]⟩ : ByteArray)).size + a2.size ≤ 9223372036854775807) = true := decide_eq_true c31
                        try have c31b2 : (9223372036854775807 < ((t272 ++ a1) ++ (⟨#[10]⟩ : ByteArray)).size + a2.size) = False := eq_false (Nat.not_lt.2 c31)
                        try have c31b3 : _ := c31b2
                        try simp only [ByteArray.size_append, size_one_] at c31b3
                        replace H := Option.bind_eq_some_iff.mp H
                        obtain ⟨⟨t280, t281, t282⟩, A320, H⟩ := H
                        replace H : (if (t280.length : Int) = 0 then (if t281 = (t272.size : Int) then (some (t282 == 3)) else (some false)) else (some false)) = some r := H
                        have A32 := Aside0.mk A320
                        clear A320
                        by_cases c33 : (t280.length : Int) = 0
                        · rw [if_pos c33] at H
                          have c33b0 : ((t280.length : Int) == 0) = true := beq_iff_eq.mpr c33
                          have c33b1 : ((t280.length : Int) != 0) = false := bne_eq_false_iff_eq.mpr c33
                          clear c33
                          by_cases c34 : t281 = (t272.size : Int)
                          · rw [if_pos c34] at H
                            have c34b0 : (t281 == (t272.size : Int)) = true := beq_iff_eq.mpr c34
                            have c34b1 : (t281 != (t272.size : Int)) = false := bne_eq_false_iff_eq.mpr c34
                            clear c34
                            obtain rfl := Option.some.inj H
                            go_wp2_with (first | ((with_reducible refine gate_callee (f := 18) rfl ?_); refine goesL_ (some 45) rfl rfl Tryd.func18 (by kernel_rfl) rfl #[.slice A0 l0.length c0] rfl (by (try simp only [List.map_toArray, List.map_cons, List.map_nil]); first | done | rfl | (simp only [List.length_drop, List.length_take]; rfl)) ?_; (with_reducible refine (tamisref05_Print.calls k2 _ _ l0 t272 t273 _ ?side1 ?side2 A21.out).mono ?_); (case side1 => repeat (first | exact (Kd.C_below HR0.out HB.out) | (with_reducible refine Kd.C_alloc ?_ _) | (with_reducible refine Kd.C_drewN ?_ _) | (with_reducible refine Kd.C_drew ?_))); (case side2 => exact HC0.out); rintro e w35 ⟨rfl, hb⟩; refine ⟨_, rfl, ?_⟩; have n0_ := Aside0.mk (below_step (by repeat (first | (with_reducible first | exact HB.out | apply below_alloc | apply pw_below_drewN | apply below_drew1) | exact HB.out)) hb); clear HB; have HB := n0_; clear n0_; (try clear hb); (try clear hb2); (try clear hk); (try clear hi)) | ((with_reducible refine gate_callee (f := 13) rfl ?_); refine goesL_ (some 50) rfl rfl Tryd.func13 (by kernel_rfl) rfl #[.string a1] rfl (by (try simp only [List.map_toArray, List.map_cons, List.map_nil]); first | done | rfl | (simp only [List.length_drop, List.length_take]; rfl)) ?_; (with_reducible refine (tamisref05_Parse.calls k2 a1 t274 t275 t276 t277 false _ A22.out).mono ?_); rintro e w36 ⟨rfl, hb⟩; refine ⟨_, rfl, ?_⟩; have n0_ := Aside0.mk (below_step (by repeat (first | (with_reducible first | exact HB.out | apply below_alloc | apply pw_below_drewN | apply below_drew1) | exact HB.out)) hb); clear HB; have HB := n0_; clear n0_; (try clear hb); (try clear hb2); (try clear hk); (try clear hi)) | ((with_reducible refine gate_dst (N := 10) rfl ?_); (try (refine gate_guard (by rfl) ?_; dsimp only)); refine box_event ?hg (N := 10) ?hd (cs := #[.int .u16 0, .int .u8 0, .int .u8 0, .int .u32 0]) (t := 25) ?hr ?_; (case hd => rfl); (case hg => rfl); (case hr => first | (go_simp; done) | (go_simp; rfl)); intro gb279 hg w37 hbox hb; have n0_ := Aside0.mk (below_step (by repeat (first | (with_reducible first | exact HB.out | apply below_alloc | apply pw_below_drewN | apply below_drew1) | exact HB.out)) hb); have n1_ := Aside0.mk (hbox); have n2_ := Aside0.mk ((by rw [hg]; exact (below_size (by repeat (first | (with_reducible first | exact HB.out | apply below_alloc | apply pw_below_drewN | apply below_drew1) | exact HB.out))) : w.heap.size ≤ gb279)); have n3_ := Aside0.mk ((by rw [hg]; exact (below_size (by repeat (first | (with_reducible first | exact HB.out | apply below_alloc | apply pw_below_drewN | apply below_drew1) | exact HB.out))) : w.heap.size ≤ gb279)); clear HB; have HB := n0_; have BK279 := n1_; have GW279 := n2_; have GE279 := n3_; clear n0_ n1_ n2_ n3_; clear hb hbox hg; have hcz38_0 : w37.cell? ⟨gb279, 0, none⟩ = some (.int .u16 0) := (blk_cell BK279.out 0).trans rfl; have hcz38_1 : w37.cell? ⟨gb279, 1, none⟩ = some (.int .u8 0) := (blk_cell BK279.out 1).trans rfl; have hcz38_2 : w37.cell? ⟨gb279, 2, none⟩ = some (.int .u8 0) := (blk_cell BK279.out 2).trans rfl; have hcz38_3 : w37.cell? ⟨gb279, 3, none⟩ = some (.int .u32 0) := (blk_cell BK279.out 3).trans rfl; have hfz38_0 := blk_frozen BK279.out 0; have hfz38_1 := blk_frozen BK279.out 1; have hfz38_2 := blk_frozen BK279.out 2; have hfz38_3 := blk_frozen BK279.out 3) | ((with_reducible refine gate_callee (f := 14) rfl ?_); refine goesL_ (some 70) rfl rfl Tryd.func14 (by kernel_rfl) rfl #[.string (((t272 ++ a1) ++ (⟨#[10]⟩ : ByteArray)) ++ a2)] rfl (by (try simp only [List.map_toArray, List.map_cons, List.map_nil]); first | done | rfl | (simp only [List.length_drop, List.length_take]; rfl)) ?_; (with_reducible refine (asm_Read.calls k2 (((t272 ++ a1) ++ (⟨#[10]⟩ : ByteArray)) ++ a2) t280 t281 t282 _ (hG.on (by repeat (first | (with_reducible first | exact HB.out | apply below_alloc | apply pw_below_drewN | apply below_drew1 | refine below_set ?_ GE279.out) | exact HB.out))) A32.out).mono ?_); rintro e w39 ⟨v283, rfl, ho0, hb⟩; refine ⟨_, rfl, ?_⟩; have n0_ := Aside0.mk (Kd.R_lower (Kd.R_newB ho0 (g := gb279) (o := .cells #[.int .u16 t274, .int .u8 t275, .int .u8 t276, .int .u32 t277] 25 (0, 0)) (by (with_reducible repeat (first | refine blk_drewN ?_ _ | refine blk_drew ?_ | refine blk_alloc ?_ _)); refine blk_put (cs := #[.int .u16 t274, .int .u8 t275, .int .u8 t276, .int .u32 0]) ?_ 3 _ rfl; (with_reducible repeat (first | refine blk_drewN ?_ _ | refine blk_drew ?_ | refine blk_alloc ?_ _)); refine blk_put (cs := #[.int .u16 t274, .int .u8 t275, .int .u8 0, .int .u32 0]) ?_ 2 _ rfl; (with_reducible repeat (first | refine blk_drewN ?_ _ | refine blk_drew ?_ | refine blk_alloc ?_ _)); refine blk_put (cs := #[.int .u16 t274, .int .u8 0, .int .u8 0, .int .u32 0]) ?_ 1 _ rfl; (with_reducible repeat (first | refine blk_drewN ?_ _ | refine blk_drew ?_ | refine blk_alloc ?_ _)); refine blk_put (cs := #[.int .u16 0, .int .u8 0, .int .u8 0, .int .u32 0]) ?_ 0 _ rfl; (with_reducible repeat (first | refine blk_drewN ?_ _ | refine blk_drew ?_ | refine blk_alloc ?_ _)); exact BK279.out)) (below_size (by repeat (first | (with_reducible first | exact HB.out | apply below_alloc | apply pw_below_drewN | apply below_drew1 | refine below_set ?_ GE279.out) | exact HB.out)))); have n1_ := Aside0.mk (blk_below (g := gb279) (o := .cells #[.int .u16 t274, .int .u8 t275, .int .u8 t276, .int .u32 t277] 25 (0, 0)) (by (with_reducible repeat (first | refine blk_drewN ?_ _ | refine blk_drew ?_ | refine blk_alloc ?_ _)); refine blk_put (cs := #[.int .u16 t274, .int .u8 t275, .int .u8 t276, .int .u32 0]) ?_ 3 _ rfl; (with_reducible repeat (first | refine blk_drewN ?_ _ | refine blk_drew ?_ | refine blk_alloc ?_ _)); refine blk_put (cs := #[.int .u16 t274, .int .u8 t275, .int .u8 0, .int .u32 0]) ?_ 2 _ rfl; (with_reducible repeat (first | refine blk_drewN ?_ _ | refine blk_drew ?_ | refine blk_alloc ?_ _)); refine blk_put (cs := #[.int .u16 t274, .int .u8 0, .int .u8 0, .int .u32 0]) ?_ 1 _ rfl; (with_reducible repeat (first | refine blk_drewN ?_ _ | refine blk_drew ?_ | refine blk_alloc ?_ _)); refine blk_put (cs := #[.int .u16 0, .int .u8 0, .int .u8 0, .int .u32 0]) ?_ 0 _ rfl; (with_reducible repeat (first | refine blk_drewN ?_ _ | refine blk_drew ?_ | refine blk_alloc ?_ _)); exact BK279.out) hb); have n2_ := Aside0.mk (below_step (by repeat (first | (with_reducible first | exact HB.out | apply below_alloc | apply pw_below_drewN | apply below_drew1 | refine below_set ?_ GE279.out) | exact HB.out)) hb); clear BK279; clear HB; have HO284 := n0_; have BK279 := n1_; have HB := n2_; clear n0_ n1_ n2_; (try clear hb); (try clear hb2); (try clear hk); (try clear hi); (try clear ho0); obtain ⟨Ao40, co40, eo40⟩ := Kd.R_slice HO284.out; subst eo40))
                            go_ret
                            exact ⟨by first | rfl | (simp [errW_none, errW_some] <;> rfl) | (simp [*, errW_none, errW_some] <;> rfl), by repeat (first | (with_reducible first | exact HB.out | apply below_alloc | apply pw_below_drewN | apply below_drew1 | refine below_set ?_ GE279.out) | exact HB.out)⟩
                          · rw [if_neg c34] at H
                            have c34b0 : (t281 == (t272.size : Int)) = false := beq_eq_false_iff_ne.mpr c34
                            have c34b1 : (t281 != (t272.size : Int)) = true := bne_iff_ne.mpr c34
                            exact absurd ((Option.some.inj H).trans HT.out) (by simp)
                        · rw [if_neg c33] at H
                          have c33b0 : ((t280.length : Int) == 0) = false := beq_eq_false_iff_ne.mpr c33
                          have c33b1 : ((t280.length : Int) != 0) = true := bne_iff_ne.mpr c33
                          have c33b2 : ¬ (t280 = []) := fun h_ => c33 (by rw [h_]; rfl)
                          exact absurd ((Option.some.inj H).trans HT.out) (by simp)
                      · rw [if_neg c31] at H
                        exact absurd H (by simp)
                    · rw [if_neg c30] at H
                      exact absurd H (by simp)
                  · rw [if_neg c29] at H
                    exact absurd H (by simp)
                · rw [if_neg c28] at H
                  have c28b0 : (t273 == 0) = false := beq_eq_false_iff_ne.mpr c28
                  have c28b1 : (t273 != 0) = true := bne_iff_ne.mpr c28
                  by_cases c41 : (l0.length : Int) > 0
                  · rw [if_pos c41] at H
                    have c41b0 : decide (0 < (l0.length : Int)) = true := decide_eq_true c41
                    have c41b1 : decide (0 < l0.length) = true := decide_eq_true (by omega)
                    clear c41
                    obtain rfl := Option.some.inj H
                    go_wp2_with (first | ((with_reducible refine gate_callee (f := 18) rfl ?_); refine goesL_ (some 45) rfl rfl Tryd.func18 (by kernel_rfl) rfl #[.slice A0 l0.length c0] rfl (by (try simp only [List.map_toArray, List.map_cons, List.map_nil]); first | done | rfl | (simp only [List.length_drop, List.length_take]; rfl)) ?_; (with_reducible refine (tamisref05_Print.calls k2 _ _ l0 t272 t273 _ ?side1 ?side2 A21.out).mono ?_); (case side1 => repeat (first | exact (Kd.C_below HR0.out HB.out) | (with_reducible refine Kd.C_alloc ?_ _) | (with_reducible refine Kd.C_drewN ?_ _) | (with_reducible refine Kd.C_drew ?_))); (case side2 => exact HC0.out); rintro e w42 ⟨rfl, hb⟩; refine ⟨_, rfl, ?_⟩; have n0_ := Aside0.mk (below_step (by repeat (first | (with_reducible first | exact HB.out | apply below_alloc | apply pw_below_drewN | apply below_drew1) | exact HB.out)) hb); clear HB; have HB := n0_; clear n0_; (try clear hb); (try clear hb2); (try clear hk); (try clear hi)) | ((with_reducible refine gate_callee (f := 13) rfl ?_); refine goesL_ (some 50) rfl rfl Tryd.func13 (by kernel_rfl) rfl #[.string a1] rfl (by (try simp only [List.map_toArray, List.map_cons, List.map_nil]); first | done | rfl | (simp only [List.length_drop, List.length_take]; rfl)) ?_; (with_reducible refine (tamisref05_Parse.calls k2 a1 t274 t275 t276 t277 false _ A22.out).mono ?_); rintro e w43 ⟨rfl, hb⟩; refine ⟨_, rfl, ?_⟩; have n0_ := Aside0.mk (below_step (by repeat (first | (with_reducible first | exact HB.out | apply below_alloc | apply pw_below_drewN | apply below_drew1) | exact HB.out)) hb); clear HB; have HB := n0_; clear n0_; (try clear hb); (try clear hb2); (try clear hk); (try clear hi)) | ((with_reducible refine gate_dst (N := 10) rfl ?_); (try (refine gate_guard (by rfl) ?_; dsimp only)); refine box_event ?hg (N := 10) ?hd (cs := #[.int .u16 0, .int .u8 0, .int .u8 0, .int .u32 0]) (t := 25) ?hr ?_; (case hd => rfl); (case hg => rfl); (case hr => first | (go_simp; done) | (go_simp; rfl)); intro gb279 hg w44 hbox hb; have n0_ := Aside0.mk (below_step (by repeat (first | (with_reducible first | exact HB.out | apply below_alloc | apply pw_below_drewN | apply below_drew1) | exact HB.out)) hb); have n1_ := Aside0.mk (hbox); have n2_ := Aside0.mk ((by rw [hg]; exact (below_size (by repeat (first | (with_reducible first | exact HB.out | apply below_alloc | apply pw_below_drewN | apply below_drew1) | exact HB.out))) : w.heap.size ≤ gb279)); have n3_ := Aside0.mk ((by rw [hg]; exact (below_size (by repeat (first | (with_reducible first | exact HB.out | apply below_alloc | apply pw_below_drewN | apply below_drew1) | exact HB.out))) : w.heap.size ≤ gb279)); clear HB; have HB := n0_; have BK279 := n1_; have GW279 := n2_; have GE279 := n3_; clear n0_ n1_ n2_ n3_; clear hb hbox hg; have hcz45_0 : w44.cell? ⟨gb279, 0, none⟩ = some (.int .u16 0) := (blk_cell BK279.out 0).trans rfl; have hcz45_1 : w44.cell? ⟨gb279, 1, none⟩ = some (.int .u8 0) := (blk_cell BK279.out 1).trans rfl; have hcz45_2 : w44.cell? ⟨gb279, 2, none⟩ = some (.int .u8 0) := (blk_cell BK279.out 2).trans rfl; have hcz45_3 : w44.cell? ⟨gb279, 3, none⟩ = some (.int .u32 0) := (blk_cell BK279.out 3).trans rfl; have hfz45_0 := blk_frozen BK279.out 0; have hfz45_1 := blk_frozen BK279.out 1; have hfz45_2 := blk_frozen BK279.out 2; have hfz45_3 := blk_frozen BK279.out 3))
                    go_ret
                    exact ⟨by first | rfl | (simp [errW_none, errW_some] <;> rfl) | (simp [*, errW_none, errW_some] <;> rfl), by repeat (first | (with_reducible first | exact HB.out | apply below_alloc | apply pw_below_drewN | apply below_drew1 | refine below_set ?_ GE279.out) | exact HB.out)⟩
                  · rw [if_neg c41] at H
                    have c41b0 : decide (0 < (l0.length : Int)) = false := decide_eq_false c41
                    have c41b1 : decide (0 < l0.length) = false := decide_eq_false (by omega)
                    clear c41
                    by_cases c46 : t272.size + a1.size ≤ 9223372036854775807
                    · rw [if_pos c46] at H
                      have c46b0 := eq_true c46
                      have c46b1 : decide (t272.size + a1.size ≤ 9223372036854775807) = true := decide_eq_true c46
                      try have c46b2 : (9223372036854775807 < t272.size + a1.size) = False := eq_false (Nat.not_lt.2 c46)
                      by_cases c47 : (t272 ++ a1).size + 1 ≤ 9223372036854775807
                      · rw [if_pos c47] at H
                        have c47b0 := eq_true c47
                        have c47b1 : decide ((t272 ++ a1).size + 1 ≤ 9223372036854775807) = true := decide_eq_true c47
                        try have c47b2 : (9223372036854775807 < (t272 ++ a1).size + 1) = False := eq_false (Nat.not_lt.2 c47)
                        try have c47b3 : _ := c47b2
                        try simp only [ByteArray.size_append, size_one_] at c47b3
                        by_cases c48 : ((t272 ++ a1) ++ (⟨#[10]⟩ : ByteArray)).size + a2.size ≤ 9223372036854775807
                        · rw [if_pos c48] at H
                          have c48b0 := eq_true c48
                          have c48b1 : decide (((t272 ++ a1) ++ (⟨#[10]⟩ : ByteArray)).size + a2.size ≤ 9223372036854775807) = true := decide_eq_true c48
                          try have c48b2 : (9223372036854775807 < ((t272 ++ a1) ++ (⟨#[10]⟩ : ByteArray)).size + a2.size) = False := eq_false (Nat.not_lt.2 c48)
                          try have c48b3 : _ := c48b2
                          try simp only [ByteArray.size_append, size_one_] at c48b3
                          replace H := Option.bind_eq_some_iff.mp H
                          obtain ⟨⟨t285, t286, t287⟩, A490, H⟩ := H
                          replace H : (if (t285.length : Int) = 0 then (if t286 = (t272.size : Int) then (some (t287 == 3)) else (some false)) else (some false)) = some r := H
                          have A49 := Aside0.mk A490
                          clear A490
                          by_cases c50 : (t285.length : Int) = 0
                          · rw [if_pos c50] at H
                            have c50b0 : ((t285.length : Int) == 0) = true := beq_iff_eq.mpr c50
                            have c50b1 : ((t285.length : Int) != 0) = false := bne_eq_false_iff_eq.mpr c50
                            clear c50
                            by_cases c51 : t286 = (t272.size : Int)
                            · rw [if_pos c51] at H
                              have c51b0 : (t286 == (t272.size : Int)) = true := beq_iff_eq.mpr c51
                              have c51b1 : (t286 != (t272.size : Int)) = false := bne_eq_false_iff_eq.mpr c51
                              clear c51
                              obtain rfl := Option.some.inj H
                              go_wp2_with (first | ((with_reducible refine gate_callee (f := 18) rfl ?_); refine goesL_ (some 45) rfl rfl Tryd.func18 (by kernel_rfl) rfl #[.slice A0 l0.length c0] rfl (by (try simp only [List.map_toArray, List.map_cons, List.map_nil]); first | done | rfl | (simp only [List.length_drop, List.length_take]; rfl)) ?_; (with_reducible refine (tamisref05_Print.calls k2 _ _ l0 t272 t273 _ ?side1 ?side2 A21.out).mono ?_); (case side1 => repeat (first | exact (Kd.C_below HR0.out HB.out) | (with_reducible refine Kd.C_alloc ?_ _) | (with_reducible refine Kd.C_drewN ?_ _) | (with_reducible refine Kd.C_drew ?_))); (case side2 => exact HC0.out); rintro e w52 ⟨rfl, hb⟩; refine ⟨_, rfl, ?_⟩; have n0_ := Aside0.mk (below_step (by repeat (first | (with_reducible first | exact HB.out | apply below_alloc | apply pw_below_drewN | apply below_drew1) | exact HB.out)) hb); clear HB; have HB := n0_; clear n0_; (try clear hb); (try clear hb2); (try clear hk); (try clear hi)) | ((with_reducible refine gate_callee (f := 13) rfl ?_); refine goesL_ (some 50) rfl rfl Tryd.func13 (by kernel_rfl) rfl #[.string a1] rfl (by (try simp only [List.map_toArray, List.map_cons, List.map_nil]); first | done | rfl | (simp only [List.length_drop, List.length_take]; rfl)) ?_; (with_reducible refine (tamisref05_Parse.calls k2 a1 t274 t275 t276 t277 false _ A22.out).mono ?_); rintro e w53 ⟨rfl, hb⟩; refine ⟨_, rfl, ?_⟩; have n0_ := Aside0.mk (below_step (by repeat (first | (with_reducible first | exact HB.out | apply below_alloc | apply pw_below_drewN | apply below_drew1) | exact HB.out)) hb); clear HB; have HB := n0_; clear n0_; (try clear hb); (try clear hb2); (try clear hk); (try clear hi)) | ((with_reducible refine gate_dst (N := 10) rfl ?_); (try (refine gate_guard (by rfl) ?_; dsimp only)); refine box_event ?hg (N := 10) ?hd (cs := #[.int .u16 0, .int .u8 0, .int .u8 0, .int .u32 0]) (t := 25) ?hr ?_; (case hd => rfl); (case hg => rfl); (case hr => first | (go_simp; done) | (go_simp; rfl)); intro gb279 hg w54 hbox hb; have n0_ := Aside0.mk (below_step (by repeat (first | (with_reducible first | exact HB.out | apply below_alloc | apply pw_below_drewN | apply below_drew1) | exact HB.out)) hb); have n1_ := Aside0.mk (hbox); have n2_ := Aside0.mk ((by rw [hg]; exact (below_size (by repeat (first | (with_reducible first | exact HB.out | apply below_alloc | apply pw_below_drewN | apply below_drew1) | exact HB.out))) : w.heap.size ≤ gb279)); have n3_ := Aside0.mk ((by rw [hg]; exact (below_size (by repeat (first | (with_reducible first | exact HB.out | apply below_alloc | apply pw_below_drewN | apply below_drew1) | exact HB.out))) : w.heap.size ≤ gb279)); clear HB; have HB := n0_; have BK279 := n1_; have GW279 := n2_; have GE279 := n3_; clear n0_ n1_ n2_ n3_; clear hb hbox hg; have hcz55_0 : w54.cell? ⟨gb279, 0, none⟩ = some (.int .u16 0) := (blk_cell BK279.out 0).trans rfl; have hcz55_1 : w54.cell? ⟨gb279, 1, none⟩ = some (.int .u8 0) := (blk_cell BK279.out 1).trans rfl; have hcz55_2 : w54.cell? ⟨gb279, 2, none⟩ = some (.int .u8 0) := (blk_cell BK279.out 2).trans rfl; have hcz55_3 : w54.cell? ⟨gb279, 3, none⟩ = some (.int .u32 0) := (blk_cell BK279.out 3).trans rfl; have hfz55_0 := blk_frozen BK279.out 0; have hfz55_1 := blk_frozen BK279.out 1; have hfz55_2 := blk_frozen BK279.out 2; have hfz55_3 := blk_frozen BK279.out 3) | ((with_reducible refine gate_callee (f := 14) rfl ?_); refine goesL_ (some 70) rfl rfl Tryd.func14 (by kernel_rfl) rfl #[.string (((t272 ++ a1) ++ (⟨#[10]⟩ : ByteArray)) ++ a2)] rfl (by (try simp only [List.map_toArray, List.map_cons, List.map_nil]); first | done | rfl | (simp only [List.length_drop, List.length_take]; rfl)) ?_; (with_reducible refine (asm_Read.calls k2 (((t272 ++ a1) ++ (⟨#[10]⟩ : ByteArray)) ++ a2) t285 t286 t287 _ (hG.on (by repeat (first | (with_reducible first | exact HB.out | apply below_alloc | apply pw_below_drewN | apply below_drew1 | refine below_set ?_ GE279.out) | exact HB.out))) A49.out).mono ?_); rintro e w56 ⟨v288, rfl, ho0, hb⟩; refine ⟨_, rfl, ?_⟩; have n0_ := Aside0.mk (Kd.R_lower (Kd.R_newB ho0 (g := gb279) (o := .cells #[.int .u16 t274, .int .u8 t275, .int .u8 t276, .int .u32 t277] 25 (0, 0)) (by (with_reducible repeat (first | refine blk_drewN ?_ _ | refine blk_drew ?_ | refine blk_alloc ?_ _)); refine blk_put (cs := #[.int .u16 t274, .int .u8 t275, .int .u8 t276, .int .u32 0]) ?_ 3 _ rfl; (with_reducible repeat (first | refine blk_drewN ?_ _ | refine blk_drew ?_ | refine blk_alloc ?_ _)); refine blk_put (cs := #[.int .u16 t274, .int .u8 t275, .int .u8 0, .int .u32 0]) ?_ 2 _ rfl; (with_reducible repeat (first | refine blk_drewN ?_ _ | refine blk_drew ?_ | refine blk_alloc ?_ _)); refine blk_put (cs := #[.int .u16 t274, .int .u8 0, .int .u8 0, .int .u32 0]) ?_ 1 _ rfl; (with_reducible repeat (first | refine blk_drewN ?_ _ | refine blk_drew ?_ | refine blk_alloc ?_ _)); refine blk_put (cs := #[.int .u16 0, .int .u8 0, .int .u8 0, .int .u32 0]) ?_ 0 _ rfl; (with_reducible repeat (first | refine blk_drewN ?_ _ | refine blk_drew ?_ | refine blk_alloc ?_ _)); exact BK279.out)) (below_size (by repeat (first | (with_reducible first | exact HB.out | apply below_alloc | apply pw_below_drewN | apply below_drew1 | refine below_set ?_ GE279.out) | exact HB.out)))); have n1_ := Aside0.mk (blk_below (g := gb279) (o := .cells #[.int .u16 t274, .int .u8 t275, .int .u8 t276, .int .u32 t277] 25 (0, 0)) (by (with_reducible repeat (first | refine blk_drewN ?_ _ | refine blk_drew ?_ | refine blk_alloc ?_ _)); refine blk_put (cs := #[.int .u16 t274, .int .u8 t275, .int .u8 t276, .int .u32 0]) ?_ 3 _ rfl; (with_reducible repeat (first | refine blk_drewN ?_ _ | refine blk_drew ?_ | refine blk_alloc ?_ _)); refine blk_put (cs := #[.int .u16 t274, .int .u8 t275, .int .u8 0, .int .u32 0]) ?_ 2 _ rfl; (with_reducible repeat (first | refine blk_drewN ?_ _ | refine blk_drew ?_ | refine blk_alloc ?_ _)); refine blk_put (cs := #[.int .u16 t274, .int .u8 0, .int .u8 0, .int .u32 0]) ?_ 1 _ rfl; (with_reducible repeat (first | refine blk_drewN ?_ _ | refine blk_drew ?_ | refine blk_alloc ?_ _)); refine blk_put (cs := #[.int .u16 0, .int .u8 0, .int .u8 0, .int .u32 0]) ?_ 0 _ rfl; (with_reducible repeat (first | refine blk_drewN ?_ _ | refine blk_drew ?_ | refine blk_alloc ?_ _)); exact BK279.out) hb); have n2_ := Aside0.mk (below_step (by repeat (first | (with_reducible first | exact HB.out | apply below_alloc | apply pw_below_drewN | apply below_drew1 | refine below_set ?_ GE279.out) | exact HB.out)) hb); clear BK279; clear HB; have HO289 := n0_; have BK279 := n1_; have HB := n2_; clear n0_ n1_ n2_; (try clear hb); (try clear hb2); (try clear hk); (try clear hi); (try clear ho0); obtain ⟨Ao57, co57, eo57⟩ := Kd.R_slice HO289.out; subst eo57))
                              go_ret
                              exact ⟨by first | rfl | (simp [errW_none, errW_some] <;> rfl) | (simp [*, errW_none, errW_some] <;> rfl), by repeat (first | (with_reducible first | exact HB.out | apply below_alloc | apply pw_below_drewN | apply below_drew1 | refine below_set ?_ GE279.out) | exact HB.out)⟩
                            · rw [if_neg c51] at H
                              have c51b0 : (t286 == (t272.size : Int)) = false := beq_eq_false_iff_ne.mpr c51
                              have c51b1 : (t286 != (t272.size : Int)) = true := bne_iff_ne.mpr c51
                              exact absurd ((Option.some.inj H).trans HT.out) (by simp)
                          · rw [if_neg c50] at H
                            have c50b0 : ((t285.length : Int) == 0) = false := beq_eq_false_iff_ne.mpr c50
                            have c50b1 : ((t285.length : Int) != 0) = true := bne_iff_ne.mpr c50
                            have c50b2 : ¬ (t285 = []) := fun h_ => c50 (by rw [h_]; rfl)
                            exact absurd ((Option.some.inj H).trans HT.out) (by simp)
                        · rw [if_neg c48] at H
                          exact absurd H (by simp)
                      · rw [if_neg c47] at H
                        exact absurd H (by simp)
                    · rw [if_neg c46] at H
                      exact absurd H (by simp)

end Go.Proofs.YtnagbdcpmbjnpaaDoor.Pr
