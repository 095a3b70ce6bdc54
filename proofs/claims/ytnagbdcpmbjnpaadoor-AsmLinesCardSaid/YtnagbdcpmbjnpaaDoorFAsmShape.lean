-- Made by a program of this session (wip/tools/myprint.sh).
import Derived.Test.YtnagbdcpmbjnpaaDoorPr0
import Derived.Test.YtnagbdcpmbjnpaaDoorGCode
namespace Go.Proofs.YtnagbdcpmbjnpaaDoor.Pr
open Go.RowKit Go.Proofs.YtnagbdcpmbjnpaaDoorW.PrintWords Go.Proofs.YtnagbdcpmbjnpaaDoorW.PrintLast Go.Proofs.YtnagbdcpmbjnpaaDoorW.PrintMore
attribute [local go_sem] max2_int min2_int max_two min_two max_three min_three max_four min_four   -- for this text's walks alone
set_option linter.unusedVariables false
set_option linter.unusedSimpArgs false

/-! ### asm_shape: function 22 -/
def asm_shape.j0 : Nat → Int → Int → Bool → Option (Bool × Bool)
  | 0, _, _, _ => none
  | k + 1, x0, x5, x6 => if x6 = true then (some (true, false)) else (if x5 = 10 then (if (Go.bits .and .u16 x0 8) = 0 then (some ((x0 != 132), false)) else (some (false, false))) else (if x5 = 12 then (some (((Go.bits .and .u16 x0 8) == 0), true)) else (some (false, false))))
def asm_shape.f (k : Nat) (a0 : Int) : Option (Bool × Bool) := (code_Kind.f a0).bind fun t101 => (if t101 = 1 then (asm_shape.j0 k a0 t101 (t101 == 1)) else (if t101 = 3 then (asm_shape.j0 k a0 t101 (t101 == 3)) else (if t101 = 4 then (asm_shape.j0 k a0 t101 (t101 == 4)) else (if t101 = 5 then (asm_shape.j0 k a0 t101 (t101 == 5)) else (if t101 = 6 then (asm_shape.j0 k a0 t101 (t101 == 6)) else (if t101 = 8 then (asm_shape.j0 k a0 t101 (t101 == 8)) else (if t101 = 9 then (asm_shape.j0 k a0 t101 (t101 == 9)) else (if t101 = 11 then (asm_shape.j0 k a0 t101 (t101 == 11)) else (asm_shape.j0 k a0 t101 (t101 == 13))))))))))
theorem asm_shape.mono_l : ∀ k, (∀ y0 y1 y2, LeO (asm_shape.j0 k y0 y1 y2) (asm_shape.j0 (k + 1) y0 y1 y2))
  | 0 => fun _ _ _ r h => by simp [asm_shape.j0] at h
  | k + 1 => by
    have ih0 := asm_shape.mono_l k
    · intro y0 y1 y2
      unfold asm_shape.j0
      repeat' first
      | (with_reducible exact ih0 _ _ _)
      | (with_reducible exact LeO.refl _)
      | (with_reducible exact LeO.none _)
      | (with_reducible refine LeO.ite ?_ ?_)
      | (with_reducible refine LeO.bind ?_ (fun _ => ?_))
      | exact ih0 _ _ _
      | exact LeO.none _
      | refine LeO.ite ?_ ?_
      | refine LeO.bind ?_ (fun _ => ?_)
theorem asm_shape.mono : ∀ a0 k, LeO (asm_shape.f k a0) (asm_shape.f (k + 1) a0) := by
  intro a0 k
  have ih0 := asm_shape.mono_l k
  unfold asm_shape.f
  repeat' first
      | (with_reducible exact ih0 _ _ _)
      | (with_reducible exact LeO.refl _)
      | (with_reducible exact LeO.none _)
      | (with_reducible refine LeO.ite ?_ ?_)
      | (with_reducible refine LeO.bind ?_ (fun _ => ?_))
      | exact ih0 _ _ _
      | exact LeO.none _
      | refine LeO.ite ?_ ?_
      | refine LeO.bind ?_ (fun _ => ?_)
set_option maxHeartbeats 8000000 in
set_option maxRecDepth 100000 in
theorem asm_shape.calls (k : Nat) (a0 : Int) (r1 : Bool) (r2 : Bool) (w : World) (h : asm_shape.f k a0 = some (r1, r2)) :
    Calls Tryd.prog 22 #[.int .u16 a0] w fun e w' => e = .returned (.tuple #[.bool r1, .bool r2]) ∧ Below w.heap.size w w' := by
  have HB := Aside0.mk (Below.refl w.heap.size w)
  have H : ((code_Kind.f a0).bind fun t101 => (if t101 = 1 then (asm_shape.j0 k a0 t101 (t101 == 1)) else (if t101 = 3 then (asm_shape.j0 k a0 t101 (t101 == 3)) else (if t101 = 4 then (asm_shape.j0 k a0 t101 (t101 == 4)) else (if t101 = 5 then (asm_shape.j0 k a0 t101 (t101 == 5)) else (if t101 = 6 then (asm_shape.j0 k a0 t101 (t101 == 6)) else (if t101 = 8 then (asm_shape.j0 k a0 t101 (t101 == 8)) else (if t101 = 9 then (asm_shape.j0 k a0 t101 (t101 == 9)) else (if t101 = 11 then (asm_shape.j0 k a0 t101 (t101 == 11)) else (asm_shape.j0 k a0 t101 (t101 == 13))))))))))) = some (r1, r2) := h
  clear h
  replace H := Option.bind_eq_some_iff.mp H
  obtain ⟨t101, A20, H⟩ := H
  replace H : (if t101 = 1 then (asm_shape.j0 k a0 t101 (t101 == 1)) else (if t101 = 3 then (asm_shape.j0 k a0 t101 (t101 == 3)) else (if t101 = 4 then (asm_shape.j0 k a0 t101 (t101 == 4)) else (if t101 = 5 then (asm_shape.j0 k a0 t101 (t101 == 5)) else (if t101 = 6 then (asm_shape.j0 k a0 t101 (t101 == 6)) else (if t101 = 8 then (asm_shape.j0 k a0 t101 (t101 == 8)) else (if t101 = 9 then (asm_shape.j0 k a0 t101 (t101 == 9)) else (if t101 = 11 then (asm_shape.j0 k a0 t101 (t101 == 11)) else (asm_shape.j0 k a0 t101 (t101 == 13)))))))))) = some (r1, r2) := H
  have A2 := Aside0.mk A20
  clear A20
  have HC3 := Aside0.mk H
  clear H
  go_enter Tryd.func22, Tryd.ntmps22
  go_upto_if 6 with (first | ((with_reducible refine gate_callee (f := 39) rfl ?_); refine goesL_ (some 5) rfl rfl Tryd.func39 (by kernel_rfl) rfl #[.int .u16 a0] rfl (by (try simp only [List.map_toArray, List.map_cons, List.map_nil]); first | done | rfl | (simp only [List.length_drop, List.length_take]; rfl)) ?_; (with_reducible refine (code_Kind.calls a0 t101 _ A2.out).mono ?_); rintro e w4 ⟨rfl, hb⟩; refine ⟨_, rfl, ?_⟩; have n0_ := Aside0.mk (below_step (by repeat (first | (with_reducible first | exact HB.out | apply below_alloc | apply pw_below_drewN | apply below_drew1) | exact HB.out)) hb); clear HB; have HB := n0_; clear n0_; (try clear hb); (try clear hb2); (try clear hk); (try clear hi)))
  (try simp only [Act.put, List.setIfInBounds_toArray, List.set_cons_zero, List.set_cons_succ])
  go_cut [6] (fun v6 wc => ∃ (kq : Nat) (x6_2 : Bool), v6 = .bool x6_2 ∧ Aside0 (asm_shape.j0 kq a0 t101 x6_2 = some (r1, r2)) ∧ Aside0 (kq ≤ k) ∧ Aside0 (Below w.heap.size w wc))
  case first =>
    have H := HC3.out
    clear HC3
    by_cases c5 : t101 = 1
    · rw [if_pos c5] at H
      have c5b0 : (t101 == 1) = true := beq_iff_eq.mpr c5
      have c5b1 : (t101 != 1) = false := bne_eq_false_iff_eq.mpr c5
      clear c5
      (first | rw [c5b0] | (simp only [i64_w, i32_w]; rw [c5b0]) | skip)
      have H' := Aside0.mk H
      clear H
      go_wp2
      go_meet
      case rel => exact ⟨_, ((t101 == 1)), (by first | rfl | (simp; done) | (simp [*]; done)), H', ⟨by first | omega | exact Nat.le_refl _⟩, ⟨by repeat (first | (with_reducible first | exact HB.out | apply below_alloc | apply pw_below_drewN | apply below_drew1) | exact HB.out)⟩⟩
    · rw [if_neg c5] at H
      have c5b0 : (t101 == 1) = false := beq_eq_false_iff_ne.mpr c5
      have c5b1 : (t101 != 1) = true := bne_iff_ne.mpr c5
      (first | rw [c5b0] | (simp only [i64_w, i32_w]; rw [c5b0]) | skip)
      by_cases c6 : t101 = 3
      · rw [if_pos c6] at H
        have c6b0 : (t101 == 3) = true := beq_iff_eq.mpr c6
        have c6b1 : (t101 != 3) = false := bne_eq_false_iff_eq.mpr c6
        clear c6
        have H' := Aside0.mk H
        clear H
        go_wp2
        go_meet
        case rel => exact ⟨_, ((t101 == 3)), (by first | rfl | (simp; done) | (simp [*]; done)), H', ⟨by first | omega | exact Nat.le_refl _⟩, ⟨by repeat (first | (with_reducible first | exact HB.out | apply below_alloc | apply pw_below_drewN | apply below_drew1) | exact HB.out)⟩⟩
      · rw [if_neg c6] at H
        have c6b0 : (t101 == 3) = false := beq_eq_false_iff_ne.mpr c6
        have c6b1 : (t101 != 3) = true := bne_iff_ne.mpr c6
        by_cases c7 : t101 = 4
        · rw [if_pos c7] at H
          have c7b0 : (t101 == 4) = true := beq_iff_eq.mpr c7
          have c7b1 : (t101 != 4) = false := bne_eq_false_iff_eq.mpr c7
          clear c7
          have H' := Aside0.mk H
          clear H
          go_wp2
          go_meet
          case rel => exact ⟨_, ((t101 == 4)), (by first | rfl | (simp; done) | (simp [*]; done)), H', ⟨by first | omega | exact Nat.le_refl _⟩, ⟨by repeat (first | (with_reducible first | exact HB.out | apply below_alloc | apply pw_below_drewN | apply below_drew1) | exact HB.out)⟩⟩
        · rw [if_neg c7] at H
          have c7b0 : (t101 == 4) = false := beq_eq_false_iff_ne.mpr c7
          have c7b1 : (t101 != 4) = true := bne_iff_ne.mpr c7
          by_cases c8 : t101 = 5
          · rw [if_pos c8] at H
            have c8b0 : (t101 == 5) = true := beq_iff_eq.mpr c8
            have c8b1 : (t101 != 5) = false := bne_eq_false_iff_eq.mpr c8
            clear c8
            have H' := Aside0.mk H
            clear H
            go_wp2
            go_meet
            case rel => exact ⟨_, ((t101 == 5)), (by first | rfl | (simp; done) | (simp [*]; done)), H', ⟨by first | omega | exact Nat.le_refl _⟩, ⟨by repeat (first | (with_reducible first | exact HB.out | apply below_alloc | apply pw_below_drewN | apply below_drew1) | exact HB.out)⟩⟩
          · rw [if_neg c8] at H
            have c8b0 : (t101 == 5) = false := beq_eq_false_iff_ne.mpr c8
            have c8b1 : (t101 != 5) = true := bne_iff_ne.mpr c8
            by_cases c9 : t101 = 6
            · rw [if_pos c9] at H
              have c9b0 : (t101 == 6) = true := beq_iff_eq.mpr c9
              have c9b1 : (t101 != 6) = false := bne_eq_false_iff_eq.mpr c9
              clear c9
              have H' := Aside0.mk H
              clear H
              go_wp2
              go_meet
              case rel => exact ⟨_, ((t101 == 6)), (by first | rfl | (simp; done) | (simp [*]; done)), H', ⟨by first | omega | exact Nat.le_refl _⟩, ⟨by repeat (first | (with_reducible first | exact HB.out | apply below_alloc | apply pw_below_drewN | apply below_drew1) | exact HB.out)⟩⟩
            · rw [if_neg c9] at H
              have c9b0 : (t101 == 6) = false := beq_eq_false_iff_ne.mpr c9
              have c9b1 : (t101 != 6) = true := bne_iff_ne.mpr c9
              by_cases c10 : t101 = 8
              · rw [if_pos c10] at H
                have c10b0 : (t101 == 8) = true := beq_iff_eq.mpr c10
                have c10b1 : (t101 != 8) = false := bne_eq_false_iff_eq.mpr c10
                clear c10
                have H' := Aside0.mk H
                clear H
                go_wp2
                go_meet
                case rel => exact ⟨_, ((t101 == 8)), (by first | rfl | (simp; done) | (simp [*]; done)), H', ⟨by first | omega | exact Nat.le_refl _⟩, ⟨by repeat (first | (with_reducible first | exact HB.out | apply below_alloc | apply pw_below_drewN | apply below_drew1) | exact HB.out)⟩⟩
              · rw [if_neg c10] at H
                have c10b0 : (t101 == 8) = false := beq_eq_false_iff_ne.mpr c10
                have c10b1 : (t101 != 8) = true := bne_iff_ne.mpr c10
                by_cases c11 : t101 = 9
                · rw [if_pos c11] at H
                  have c11b0 : (t101 == 9) = true := beq_iff_eq.mpr c11
                  have c11b1 : (t101 != 9) = false := bne_eq_false_iff_eq.mpr c11
                  clear c11
                  have H' := Aside0.mk H
                  clear H
                  go_wp2
                  go_meet
                  case rel => exact ⟨_, ((t101 == 9)), (by first | rfl | (simp; done) | (simp [*]; done)), H', ⟨by first | omega | exact Nat.le_refl _⟩, ⟨by repeat (first | (with_reducible first | exact HB.out | apply below_alloc | apply pw_below_drewN | apply below_drew1) | exact HB.out)⟩⟩
                · rw [if_neg c11] at H
                  have c11b0 : (t101 == 9) = false := beq_eq_false_iff_ne.mpr c11
                  have c11b1 : (t101 != 9) = true := bne_iff_ne.mpr c11
                  by_cases c12 : t101 = 11
                  · rw [if_pos c12] at H
                    have c12b0 : (t101 == 11) = true := beq_iff_eq.mpr c12
                    have c12b1 : (t101 != 11) = false := bne_eq_false_iff_eq.mpr c12
                    clear c12
                    have H' := Aside0.mk H
                    clear H
                    go_wp2
                    go_meet
                    case rel => exact ⟨_, ((t101 == 11)), (by first | rfl | (simp; done) | (simp [*]; done)), H', ⟨by first | omega | exact Nat.le_refl _⟩, ⟨by repeat (first | (with_reducible first | exact HB.out | apply below_alloc | apply pw_below_drewN | apply below_drew1) | exact HB.out)⟩⟩
                  · rw [if_neg c12] at H
                    have c12b0 : (t101 == 11) = false := beq_eq_false_iff_ne.mpr c12
                    have c12b1 : (t101 != 11) = true := bne_iff_ne.mpr c12
                    have H' := Aside0.mk H
                    clear H
                    go_wp2
                    go_meet
                    case rel => exact ⟨_, ((t101 == 13)), (by first | rfl | (simp; done) | (simp [*]; done)), H', ⟨by first | omega | exact Nat.le_refl _⟩, ⟨by repeat (first | (with_reducible first | exact HB.out | apply below_alloc | apply pw_below_drewN | apply below_drew1) | exact HB.out)⟩⟩
  case rest =>
    clear HC3
    try clear c1
    try clear c2
    try clear p2
    try clear c3
    try clear c5
    try clear c5b0
    try clear c5b1
    try clear c6
    try clear c6b0
    try clear c6b1
    try clear c7
    try clear c7b0
    try clear c7b1
    try clear c8
    try clear c8b0
    try clear c8b1
    try clear c9
    try clear c9b0
    try clear c9b1
    try clear c10
    try clear c10b0
    try clear c10b1
    try clear c11
    try clear c11b0
    try clear c11b1
    try clear c12
    try clear c12b0
    try clear c12b1
    obtain ⟨kq, x6_2, rfl, HA, HJ2, HB⟩ := hcut
    cases kq with
    | zero => exact absurd HA.out (by simp [asm_shape.j0])
    | succ kj2 =>
      have H := HA.out
      clear HA
      simp only [asm_shape.j0] at H
      by_cases c13 : x6_2 = true
      · subst c13
        have H1 : (some (true, false)) = some (r1, r2) := by rw [if_pos rfl] at H; exact H
        clear H
        have H := H1
        clear H1
        simp only [Option.some.injEq, Prod.mk.injEq] at H
        obtain ⟨rfl, rfl⟩ := H
        go_wp2
        go_ret2
        exact ⟨by first | rfl | (simp [errW_none, errW_some] <;> rfl) | (simp [*, errW_none, errW_some] <;> rfl), by repeat (first | (with_reducible first | exact HB.out | apply below_alloc | apply pw_below_drewN | apply below_drew1) | exact HB.out)⟩
      · replace c13 := Bool.eq_false_iff.mpr c13
        subst c13
        have H1 : (if t101 = 10 then (if (Go.bits .and .u16 a0 8) = 0 then (some ((a0 != 132), false)) else (some (false, false))) else (if t101 = 12 then (some (((Go.bits .and .u16 a0 8) == 0), true)) else (some (false, false)))) = some (r1, r2) := by rw [if_neg (show ¬ (false = true) by decide)] at H; exact H
        clear H
        have H := H1
        clear H1
        by_cases c14 : t101 = 10
        · rw [if_pos c14] at H
          have c14b0 : (t101 == 10) = true := beq_iff_eq.mpr c14
          have c14b1 : (t101 != 10) = false := bne_eq_false_iff_eq.mpr c14
          clear c14
          by_cases c15 : (Go.bits .and .u16 a0 8) = 0
          · rw [if_pos c15] at H
            have c15b0 : ((Go.bits .and .u16 a0 8) == 0) = true := beq_iff_eq.mpr c15
            have c15b1 : ((Go.bits .and .u16 a0 8) != 0) = false := bne_eq_false_iff_eq.mpr c15
            clear c15
            simp only [Option.some.injEq, Prod.mk.injEq] at H
            obtain ⟨rfl, rfl⟩ := H
            go_wp2
            go_ret2
            exact ⟨by first | rfl | (simp [errW_none, errW_some] <;> rfl) | (simp [*, errW_none, errW_some] <;> rfl), by repeat (first | (with_reducible first | exact HB.out | apply below_alloc | apply pw_below_drewN | apply below_drew1) | exact HB.out)⟩
          · rw [if_neg c15] at H
            have c15b0 : ((Go.bits .and .u16 a0 8) == 0) = false := beq_eq_false_iff_ne.mpr c15
            have c15b1 : ((Go.bits .and .u16 a0 8) != 0) = true := bne_iff_ne.mpr c15
            simp only [Option.some.injEq, Prod.mk.injEq] at H
            obtain ⟨rfl, rfl⟩ := H
            go_wp2
            go_ret2
            exact ⟨by first | rfl | (simp [errW_none, errW_some] <;> rfl) | (simp [*, errW_none, errW_some] <;> rfl), by repeat (first | (with_reducible first | exact HB.out | apply below_alloc | apply pw_below_drewN | apply below_drew1) | exact HB.out)⟩
        · rw [if_neg c14] at H
          have c14b0 : (t101 == 10) = false := beq_eq_false_iff_ne.mpr c14
          have c14b1 : (t101 != 10) = true := bne_iff_ne.mpr c14
          by_cases c16 : t101 = 12
          · rw [if_pos c16] at H
            have c16b0 : (t101 == 12) = true := beq_iff_eq.mpr c16
            have c16b1 : (t101 != 12) = false := bne_eq_false_iff_eq.mpr c16
            clear c16
            simp only [Option.some.injEq, Prod.mk.injEq] at H
            obtain ⟨rfl, rfl⟩ := H
            go_wp2
            go_ret2
            exact ⟨by first | rfl | (simp [errW_none, errW_some] <;> rfl) | (simp [*, errW_none, errW_some] <;> rfl), by repeat (first | (with_reducible first | exact HB.out | apply below_alloc | apply pw_below_drewN | apply below_drew1) | exact HB.out)⟩
          · rw [if_neg c16] at H
            have c16b0 : (t101 == 12) = false := beq_eq_false_iff_ne.mpr c16
            have c16b1 : (t101 != 12) = true := bne_iff_ne.mpr c16
            simp only [Option.some.injEq, Prod.mk.injEq] at H
            obtain ⟨rfl, rfl⟩ := H
            go_wp2
            go_ret2
            exact ⟨by first | rfl | (simp [errW_none, errW_some] <;> rfl) | (simp [*, errW_none, errW_some] <;> rfl), by repeat (first | (with_reducible first | exact HB.out | apply below_alloc | apply pw_below_drewN | apply below_drew1) | exact HB.out)⟩

end Go.Proofs.YtnagbdcpmbjnpaaDoor.Pr
