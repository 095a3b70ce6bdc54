-- Made by a program of this session (wip/tools/myprint.sh).
import Derived.Test.YtpgjcjgmokfofaaDoorPr0
import Derived.Test.YtpgjcjgmokfofaaDoorFRefT
namespace Go.Proofs.YtpgjcjgmokfofaaDoor.Pr
open Go.RowKit Go.Proofs.YtpgjcjgmokfofaaDoorW.PrintWords Go.Proofs.YtpgjcjgmokfofaaDoorW.PrintLast Go.Proofs.YtpgjcjgmokfofaaDoorW.PrintMore
attribute [local go_sem] max2_int min2_int max_two min_two max_three min_three max_four min_four   -- for this text's walks alone
set_option linter.unusedVariables false
set_option linter.unusedSimpArgs false

/-! ### tamisref19_Name: function 11 -/
def tamisref19_Name.l0 : Nat → Int → List Int → List ByteArray → Int → Option (ByteArray)
  | 0, _, _, _, _ => none
  | k + 1, x1, x5, x6, x7 => if x7 < (x5.length : Int) then (if 0 ≤ x7 then (if (rd x5 x7) = x1 then (if x7 < (x6.length : Int) then (some (rdOf ByteArray.empty x6 x7)) else (none)) else (tamisref19_Name.l0 k x1 x5 x6 (wrap64 (x7 + 1)))) else (none)) else (some (⟨#[]⟩ : ByteArray))
def tamisref19_Name.f (k : Nat) (a0 : Int) (a1 : Int) : Option (ByteArray) := (tamisref19_Calls.f a0).bind fun bt137 => (tamisref19_Name.l0 k a1 bt137.1 bt137.2 0)
theorem tamisref19_Name.mono_l : ∀ k, (∀ y0 y1 y2 y3, LeO (tamisref19_Name.l0 k y0 y1 y2 y3) (tamisref19_Name.l0 (k + 1) y0 y1 y2 y3))
  | 0 => fun _ _ _ _ r h => by simp [tamisref19_Name.l0] at h
  | k + 1 => by
    have ih0 := tamisref19_Name.mono_l k
    · intro y0 y1 y2 y3
      unfold tamisref19_Name.l0
      repeat' first
      | (with_reducible exact ih0 _ _ _ _)
      | (with_reducible exact LeO.refl _)
      | (with_reducible exact LeO.none _)
      | (with_reducible refine LeO.ite ?_ ?_)
      | (with_reducible refine LeO.bind ?_ (fun _ => ?_))
      | exact ih0 _ _ _ _
      | exact LeO.none _
      | refine LeO.ite ?_ ?_
      | refine LeO.bind ?_ (fun _ => ?_)
theorem tamisref19_Name.mono : ∀ a0 a1 k, LeO (tamisref19_Name.f k a0 a1) (tamisref19_Name.f (k + 1) a0 a1) := by
  intro a0 a1 k
  have ih0 := tamisref19_Name.mono_l k
  unfold tamisref19_Name.f
  repeat' first
      | (with_reducible exact ih0 _ _ _ _)
      | (with_reducible exact LeO.refl _)
      | (with_reducible exact LeO.none _)
      | (with_reducible refine LeO.ite ?_ ?_)
      | (with_reducible refine LeO.bind ?_ (fun _ => ?_))
      | exact ih0 _ _ _ _
      | exact LeO.none _
      | refine LeO.ite ?_ ?_
      | refine LeO.bind ?_ (fun _ => ?_)
set_option maxHeartbeats 8000000 in
set_option maxRecDepth 100000 in
theorem tamisref19_Name.calls (k : Nat) (a0 : Int) (a1 : Int) (r : ByteArray) (w : World) (h : tamisref19_Name.f k a0 a1 = some r) :
    Calls Tryd.prog 11 #[.int .u32 a0, .int .u32 a1] w fun e w' => e = .returned (.string r) ∧ Below w.heap.size w w' := by
  have HB := Aside0.mk (Below.refl w.heap.size w)
  have H : ((tamisref19_Calls.f a0).bind fun bt137 => (tamisref19_Name.l0 k a1 bt137.1 bt137.2 0)) = some r := h
  clear h
  replace H := Option.bind_eq_some_iff.mp H
  obtain ⟨⟨t137, t138⟩, A30, H⟩ := H
  replace H : (tamisref19_Name.l0 k a1 t137 t138 0) = some r := H
  have A3 := Aside0.mk A30
  clear A30
  have H' := Aside0.mk H
  clear H
  go_enter Tryd.func11, Tryd.ntmps11
  go_wp2_with (first | ((with_reducible refine gate_callee (f := 12) rfl ?_); refine goesL_ (some 10) rfl rfl Tryd.func12 (by kernel_rfl) rfl #[.int .u32 a0] rfl (by (try simp only [List.map_toArray, List.map_cons, List.map_nil]); first | done | rfl | (simp only [List.length_drop, List.length_take]; rfl)) ?_; (with_reducible refine (tamisref19_Calls.calls a0 t137 t138 _ A3.out).mono ?_); rintro e w4 ⟨v139, v141, rfl, ho0, ho1, hb⟩; refine ⟨_, rfl, ?_⟩; have n0_ := Aside0.mk (Kd.R_lower ho0 (below_size (by repeat (first | (with_reducible first | exact HB.out | apply below_alloc | apply pw_below_drewN | apply below_drew1) | exact HB.out)))); have n1_ := Aside0.mk (Kd.R_lower ho1 (below_size (by repeat (first | (with_reducible first | exact HB.out | apply below_alloc | apply pw_below_drewN | apply below_drew1) | exact HB.out)))); have n2_ := Aside0.mk (below_step (by repeat (first | (with_reducible first | exact HB.out | apply below_alloc | apply pw_below_drewN | apply below_drew1) | exact HB.out)) hb); clear HB; have HO140 := n0_; have HO142 := n1_; have HB := n2_; clear n0_ n1_ n2_; (try clear hb); (try clear hb2); (try clear hk); (try clear hi); (try clear ho0); (try clear ho1)))
  go_loopg [7] k (fun kq v7 w' => ∃ (x7_1 : Int), v7 = .int .i64 x7_1 ∧ Aside0 (tamisref19_Name.l0 kq a1 t137 t138 x7_1 = some r) ∧ Aside0 (kq ≤ k) ∧ Aside0 (Kd.R (Kd.int .u32) 22 w' w.heap.size (fun _ => True) v139 t137) ∧ Aside0 (Kd.R Kd.string 9 w' w.heap.size (fun _ => True) v141 t138) ∧ Aside0 (Below w.heap.size w w'))
  case atStart => exact ⟨(0), (by first | rfl | (simp; done) | (simp [*]; done)), H', ⟨Nat.le_refl _⟩, ⟨by (with_reducible repeat (first | apply Kd.R_alloc | apply Kd.R_drewN | apply Kd.R_drew)); exact HO140.out⟩, ⟨by (with_reducible repeat (first | apply Kd.R_alloc | apply Kd.R_drewN | apply Kd.R_drew)); exact HO142.out⟩, ⟨by repeat (first | (with_reducible first | exact HB.out | apply below_alloc | apply pw_below_drewN | apply below_drew1) | exact HB.out)⟩⟩
  case round =>
    clear H'
    try clear c1
    try clear p2
    obtain ⟨x7_1, rfl, HA, HK1, HO_5, HO_6, HB⟩ := hrel
    cases gk with
    | zero => exact absurd HA.out (by simp [tamisref19_Name.l0])
    | succ k1 =>
      have H := HA.out
      clear HA
      simp only [tamisref19_Name.l0] at H
      by_cases c5 : x7_1 < (t137.length : Int)
      · rw [if_pos c5] at H
        have c5b0 : decide (x7_1 < (t137.length : Int)) = true := decide_eq_true c5
        clear c5
        by_cases c6 : 0 ≤ x7_1
        · rw [if_pos c6] at H
          have c6b0 : decide (0 ≤ x7_1) = true := decide_eq_true c6
          clear c6
          by_cases c7 : (rd t137 x7_1) = a1
          · rw [if_pos c7] at H
            have c7b0 : ((rd t137 x7_1) == a1) = true := beq_iff_eq.mpr c7
            have c7b1 : ((rd t137 x7_1) != a1) = false := bne_eq_false_iff_eq.mpr c7
            clear c7
            by_cases c8 : x7_1 < (t138.length : Int)
            · rw [if_pos c8] at H
              have c8b0 : decide (x7_1 < (t138.length : Int)) = true := decide_eq_true c8
              clear c8
              obtain rfl := Option.some.inj H
              obtain ⟨Ao9, co9, eo9⟩ := Kd.R_slice HO_5.out
              subst eo9
              have p143 : 0 ≤ (x7_1 : Int) := of_decide_eq_true (by first | (with_reducible assumption) | assumption)
              have q143 : x7_1 < (t137.length : Int) := of_decide_eq_true (by first | (with_reducible assumption) | assumption)
              obtain ⟨ad143, e143, hx143_0⟩ := Kd.at_int (Kd.R_reads' HO_5.out).2.2 x7_1 p143 q143
              cases e143
              replace p143 := eq_true p143
              replace q143 := eq_true q143
              obtain ⟨Ao10, co10, eo10⟩ := Kd.R_slice HO_6.out
              subst eo10
              have p144 : 0 ≤ (x7_1 : Int) := of_decide_eq_true (by first | (with_reducible assumption) | assumption)
              have q144 : x7_1 < (t138.length : Int) := of_decide_eq_true (by first | (with_reducible assumption) | assumption)
              obtain ⟨ad144, e144, hx144_0⟩ := Kd.at_string (Kd.R_reads' HO_6.out).2.2 x7_1 p144 q144
              cases e144
              replace p144 := eq_true p144
              replace q144 := eq_true q144
              go_wp2
              go_ret
              exact ⟨by first | rfl | (simp [errW_none, errW_some] <;> rfl) | (simp [*, errW_none, errW_some] <;> rfl), by repeat (first | (with_reducible first | exact HB.out | apply below_alloc | apply pw_below_drewN | apply below_drew1) | exact HB.out)⟩
            · rw [if_neg c8] at H
              exact absurd H (by simp)
          · rw [if_neg c7] at H
            have c7b0 : ((rd t137 x7_1) == a1) = false := beq_eq_false_iff_ne.mpr c7
            have c7b1 : ((rd t137 x7_1) != a1) = true := bne_iff_ne.mpr c7
            have H' := Aside0.mk H
            clear H
            obtain ⟨Ao11, co11, eo11⟩ := Kd.R_slice HO_5.out
            subst eo11
            have p143 : 0 ≤ (x7_1 : Int) := of_decide_eq_true (by first | (with_reducible assumption) | assumption)
            have q143 : x7_1 < (t137.length : Int) := of_decide_eq_true (by first | (with_reducible assumption) | assumption)
            obtain ⟨ad143, e143, hx143_0⟩ := Kd.at_int (Kd.R_reads' HO_5.out).2.2 x7_1 p143 q143
            cases e143
            replace p143 := eq_true p143
            replace q143 := eq_true q143
            go_wp2
            go_roundg k1
            case measure => have := HK1.out; omega
            case rel => exact ⟨(wrap64 (x7_1 + 1)), (by first | rfl | (simp; done) | (simp [*]; done)), H', ⟨by have := HK1.out; omega⟩, ⟨by (with_reducible repeat (first | apply Kd.R_alloc | apply Kd.R_drewN | apply Kd.R_drew)); exact HO_5.out⟩, ⟨by (with_reducible repeat (first | apply Kd.R_alloc | apply Kd.R_drewN | apply Kd.R_drew)); exact HO_6.out⟩, ⟨by repeat (first | (with_reducible first | exact HB.out | apply below_alloc | apply pw_below_drewN | apply below_drew1) | exact HB.out)⟩⟩
        · rw [if_neg c6] at H
          exact absurd H (by simp)
      · rw [if_neg c5] at H
        have c5b0 : decide (x7_1 < (t137.length : Int)) = false := decide_eq_false c5
        clear c5
        obtain rfl := Option.some.inj H
        obtain ⟨Ao12, co12, eo12⟩ := Kd.R_slice HO_5.out
        subst eo12
        go_wp2
        go_ret
        exact ⟨by first | rfl | (simp [errW_none, errW_some] <;> rfl) | (simp [*, errW_none, errW_some] <;> rfl), by repeat (first | (with_reducible first | exact HB.out | apply below_alloc | apply pw_below_drewN | apply below_drew1) | exact HB.out)⟩

end Go.Proofs.YtpgjcjgmokfofaaDoor.Pr
