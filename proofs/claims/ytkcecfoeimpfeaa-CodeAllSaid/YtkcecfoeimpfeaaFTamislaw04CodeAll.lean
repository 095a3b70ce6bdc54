-- Made by a program of this session (wip/tools/myprint.sh).
import Derived.Test.YtkcecfoeimpfeaaPr0
import Derived.Test.YtkcecfoeimpfeaaFTamislaw04Awake
import Derived.Test.YtkcecfoeimpfeaaFTamisref04All
import Derived.Test.YtkcecfoeimpfeaaGCodeAll
import Derived.Test.YtkcecfoeimpfeaaGCodeLook
namespace Go.Proofs.Ytkcecfoeimpfeaa.Pr
open Go.RowKit Go.Proofs.YtkcecfoeimpfeaaW.PrintWords Go.Proofs.YtkcecfoeimpfeaaW.PrintLast Go.Proofs.YtkcecfoeimpfeaaW.PrintMore
attribute [local go_sem] max2_int min2_int max_two min_two max_three min_three max_four min_four   -- for this text's walks alone
set_option linter.unusedVariables false
set_option linter.unusedSimpArgs false

/-! ### tamislaw04_CodeAll: function 5 -/
def tamislaw04_CodeAll.l0 : Nat → Int → List Int → List Int → Bool → List Int → Int → Int → Option (Bool)
  | 0, _, _, _, _, _, _, _ => none
  | k + 1, x0, x3, x4, x5, x10, x11, x12 => if x12 < x11 then (if 0 ≤ x12 then (if x12 < (x10.length : Int) then (if x12 ≥ (x4.length : Int) then (some false) else (if x12 < (x4.length : Int) then (if (rd x10 x12) = (rd x4 x12) then (if x12 > 0 then (if 0 ≤ (wrap64 (x12 - 1)) then (if (wrap64 (x12 - 1)) < (x3.length : Int) then (if (rd x3 (wrap64 (x12 - 1))) ≥ (rd x10 x12) then (some false) else (if x5 = true then (tamislaw04_CodeAll.l0 k x0 x3 x4 true x10 x11 (wrap64 (x12 + 1))) else (tamislaw04_CodeAll.l0 k x0 x3 x4 ((rd x10 x12) == x0) x10 x11 (wrap64 (x12 + 1))))) else (none)) else (none)) else (if x5 = true then (tamislaw04_CodeAll.l0 k x0 x3 x4 true x10 x11 (wrap64 (x12 + 1))) else (tamislaw04_CodeAll.l0 k x0 x3 x4 ((rd x10 x12) == x0) x10 x11 (wrap64 (x12 + 1))))) else (some false)) else (none))) else (none)) else (none)) else ((tamislaw04_awake.f k).bind fun t173 => (if t173 = true then (if (x3.length : Int) = (x4.length : Int) then ((code_Kind.f x0).bind fun t174 => (some (x5 == (t174 != 0)))) else (some false)) else (some false)))
def tamislaw04_CodeAll.f (k : Nat) (a0 : Int) : Option (Bool) := (code_All.f).bind fun t164 => ((tamisref04_All.f).bind fun t167 => (tamislaw04_CodeAll.l0 k a0 t164 t167 false t164 (t164.length : Int) 0))
theorem tamislaw04_CodeAll.mono_l : ∀ k, (∀ y0 y1 y2 y3 y4 y5 y6, LeO (tamislaw04_CodeAll.l0 k y0 y1 y2 y3 y4 y5 y6) (tamislaw04_CodeAll.l0 (k + 1) y0 y1 y2 y3 y4 y5 y6))
  | 0 => fun _ _ _ _ _ _ _ r h => by simp [tamislaw04_CodeAll.l0] at h
  | k + 1 => by
    have ih0 := tamislaw04_CodeAll.mono_l k
    · intro y0 y1 y2 y3 y4 y5 y6
      unfold tamislaw04_CodeAll.l0
      repeat' first
      | (with_reducible exact ih0 _ _ _ _ _ _ _)
      | (with_reducible exact tamislaw04_awake.mono _)
      | (with_reducible exact LeO.refl _)
      | (with_reducible exact LeO.none _)
      | (with_reducible refine LeO.ite ?_ ?_)
      | (with_reducible refine LeO.bind ?_ (fun _ => ?_))
      | exact ih0 _ _ _ _ _ _ _
      | exact tamislaw04_awake.mono _
      | exact LeO.none _
      | refine LeO.ite ?_ ?_
      | refine LeO.bind ?_ (fun _ => ?_)
theorem tamislaw04_CodeAll.mono : ∀ a0 k, LeO (tamislaw04_CodeAll.f k a0) (tamislaw04_CodeAll.f (k + 1) a0) := by
  intro a0 k
  have ih0 := tamislaw04_CodeAll.mono_l k
  unfold tamislaw04_CodeAll.f
  repeat' first
      | (with_reducible exact ih0 _ _ _ _ _ _ _)
      | (with_reducible exact tamislaw04_awake.mono _)
      | (with_reducible exact LeO.refl _)
      | (with_reducible exact LeO.none _)
      | (with_reducible refine LeO.ite ?_ ?_)
      | (with_reducible refine LeO.bind ?_ (fun _ => ?_))
      | exact ih0 _ _ _ _ _ _ _
      | exact tamislaw04_awake.mono _
      | exact LeO.none _
      | refine LeO.ite ?_ ?_
      | refine LeO.bind ?_ (fun _ => ?_)
set_option maxHeartbeats 8000000 in
set_option maxRecDepth 100000 in
theorem tamislaw04_CodeAll.calls (k : Nat) (a0 : Int) (r : Bool) (w : World) (h : tamislaw04_CodeAll.f k a0 = some r) :
    Calls Try.prog 5 #[.int .u16 a0] w fun e w' => e = .returned (.bool r) ∧ Below w.heap.size w w' := by
  have HB := Aside0.mk (Below.refl w.heap.size w)
  have H : ((code_All.f).bind fun t164 => ((tamisref04_All.f).bind fun t167 => (tamislaw04_CodeAll.l0 k a0 t164 t167 false t164 (t164.length : Int) 0))) = some r := h
  clear h
  replace H := Option.bind_eq_some_iff.mp H
  obtain ⟨t164, A20, H⟩ := H
  replace H : ((tamisref04_All.f).bind fun t167 => (tamislaw04_CodeAll.l0 k a0 t164 t167 false t164 (t164.length : Int) 0)) = some r := H
  have A2 := Aside0.mk A20
  clear A20
  replace H := Option.bind_eq_some_iff.mp H
  obtain ⟨t167, A30, H⟩ := H
  replace H : (tamislaw04_CodeAll.l0 k a0 t164 t167 false t164 (t164.length : Int) 0) = some r := H
  have A3 := Aside0.mk A30
  clear A30
  have H' := Aside0.mk H
  clear H
  go_enter Try.func5, Try.ntmps5
  go_wp2_with (first | ((with_reducible refine gate_callee (f := 21) rfl ?_); refine goesL_ (some 8) rfl rfl Try.func21 (by kernel_rfl) rfl #[] rfl (by (try simp only [List.map_toArray, List.map_cons, List.map_nil]); first | done | rfl | (simp only [List.length_drop, List.length_take]; rfl)) ?_; (with_reducible refine (code_All.calls  t164 _ A2.out).mono ?_); rintro e w4 ⟨v165, rfl, ho0, hb⟩; refine ⟨_, rfl, ?_⟩; have n0_ := Aside0.mk (Kd.R_lower ho0 (below_size (by repeat (first | (with_reducible first | exact HB.out | apply below_alloc | apply pw_below_drewN | apply below_drew1) | exact HB.out)))); have n1_ := Aside0.mk (below_step (by repeat (first | (with_reducible first | exact HB.out | apply below_alloc | apply pw_below_drewN | apply below_drew1) | exact HB.out)) hb); clear HB; have HO166 := n0_; have HB := n1_; clear n0_ n1_; (try clear hb); (try clear hb2); (try clear hk); (try clear hi); (try clear ho0)) | ((with_reducible refine gate_callee (f := 22) rfl ?_); refine goesL_ (some 9) rfl rfl Try.func22 (by kernel_rfl) rfl #[] rfl (by (try simp only [List.map_toArray, List.map_cons, List.map_nil]); first | done | rfl | (simp only [List.length_drop, List.length_take]; rfl)) ?_; (with_reducible refine (tamisref04_All.calls  t167 _ A3.out).mono ?_); rintro e w5 ⟨v168, rfl, ho0, hb⟩; refine ⟨_, rfl, ?_⟩; have n0_ := Aside0.mk (Kd.R_elder' (by (with_reducible repeat (first | apply Kd.R_alloc | apply Kd.R_drewN | apply Kd.R_drew)); exact HO166.out) (Kd.R_base ho0) hb); have n1_ := Aside0.mk (Kd.R_lower (Kd.R_new' ho0 (Kd.R_lt (by (with_reducible repeat (first | apply Kd.R_alloc | apply Kd.R_drewN | apply Kd.R_drew)); exact HO166.out))) (below_size (by repeat (first | (with_reducible first | exact HB.out | apply below_alloc | apply pw_below_drewN | apply below_drew1) | exact HB.out)))); have n2_ := Aside0.mk (below_step (by repeat (first | (with_reducible first | exact HB.out | apply below_alloc | apply pw_below_drewN | apply below_drew1) | exact HB.out)) hb); clear HO166; clear HB; have HO166 := n0_; have HO169 := n1_; have HB := n2_; clear n0_ n1_ n2_; (try clear hb); (try clear hb2); (try clear hk); (try clear hi); (try clear ho0); obtain ⟨Ao6, co6, eo6⟩ := Kd.R_slice HO166.out; subst eo6))
  go_loopg [5, 12] k (fun kq v5 v12 w' => ∃ (x5_1 : Bool) (x12_1 : Int), v5 = .bool x5_1 ∧ v12 = .int .i64 x12_1 ∧ Aside0 (tamislaw04_CodeAll.l0 kq a0 t164 t167 x5_1 t164 (t164.length : Int) x12_1 = some r) ∧ Aside0 (kq ≤ k) ∧ Aside0 (Kd.R (Kd.int .u16) 22 w' w.heap.size (fun k_ => some k_ ≠ (v168 : Value).ownBlock) (.slice Ao6 t164.length co6) t164) ∧ Aside0 (Kd.R (Kd.int .u16) 22 w' w.heap.size (fun k_ => some k_ ≠ ((.slice Ao6 t164.length co6) : Value).ownBlock ∧ some k_ ≠ ((.slice Ao6 t164.length co6) : Value).ownBlock) v168 t167) ∧ Aside0 (Kd.R (Kd.int .u16) 22 w' w.heap.size (fun k_ => some k_ ≠ (v168 : Value).ownBlock) (.slice Ao6 t164.length co6) t164) ∧ Aside0 (Below w.heap.size w w'))
  case atStart => exact ⟨(false), (0), (by first | rfl | (simp; done) | (simp [*]; done)), (by first | rfl | (simp; done) | (simp [*]; done)), H', ⟨Nat.le_refl _⟩, ⟨by (with_reducible repeat (first | apply Kd.R_alloc | apply Kd.R_drewN | apply Kd.R_drew)); exact Kd.R_mono HO166.out (fun _ hk => hk.2)⟩, ⟨by (with_reducible repeat (first | apply Kd.R_alloc | apply Kd.R_drewN | apply Kd.R_drew)); exact Kd.R_mono HO169.out (fun _ hk => ⟨hk.2, hk.2⟩)⟩, ⟨by (with_reducible repeat (first | apply Kd.R_alloc | apply Kd.R_drewN | apply Kd.R_drew)); exact Kd.R_mono HO166.out (fun _ hk => hk.2)⟩, ⟨by repeat (first | (with_reducible first | exact HB.out | apply below_alloc | apply pw_below_drewN | apply below_drew1) | exact HB.out)⟩⟩
  case round =>
    clear H'
    try clear c2
    try clear p2
    try clear c5
    obtain ⟨x5_1, x12_1, rfl, rfl, HA, HK1, HO_3, HO_4, HO_10, HB⟩ := hrel
    cases gk with
    | zero => exact absurd HA.out (by simp [tamislaw04_CodeAll.l0])
    | succ k1 =>
      have H := HA.out
      clear HA
      simp only [tamislaw04_CodeAll.l0] at H
      by_cases c7 : x12_1 < (t164.length : Int)
      · rw [if_pos c7] at H
        have c7b0 : decide (x12_1 < (t164.length : Int)) = true := decide_eq_true c7
        clear c7
        by_cases c8 : 0 ≤ x12_1
        · rw [if_pos c8] at H
          have c8b0 : decide (0 ≤ x12_1) = true := decide_eq_true c8
          clear c8
          by_cases c9 : x12_1 < (t164.length : Int)
          · rw [if_pos c9] at H
            have c9b0 : decide (x12_1 < (t164.length : Int)) = true := decide_eq_true c9
            clear c9
            by_cases c10 : x12_1 ≥ (t167.length : Int)
            · rw [if_pos c10] at H
              have c10b0 : decide ((t167.length : Int) ≤ x12_1) = true := decide_eq_true c10
              clear c10
              obtain rfl := Option.some.inj H
              have p170 : 0 ≤ (x12_1 : Int) := of_decide_eq_true (by first | (with_reducible assumption) | assumption)
              have q170 : x12_1 < (t164.length : Int) := of_decide_eq_true (by first | (with_reducible assumption) | assumption)
              obtain ⟨ad170, e170, hx170_0⟩ := Kd.at_int (Kd.R_reads' HO_10.out).2.2 x12_1 p170 q170
              cases e170
              replace p170 := eq_true p170
              replace q170 := eq_true q170
              obtain ⟨Ao11, co11, eo11⟩ := Kd.R_slice HO_4.out
              subst eo11
              go_wp2
              go_ret
              exact ⟨by first | rfl | (simp [errW_none, errW_some] <;> rfl) | (simp [*, errW_none, errW_some] <;> rfl), by repeat (first | (with_reducible first | exact HB.out | apply below_alloc | apply pw_below_drewN | apply below_drew1) | exact HB.out)⟩
            · rw [if_neg c10] at H
              have c10b0 : decide ((t167.length : Int) ≤ x12_1) = false := decide_eq_false c10
              clear c10
              by_cases c12 : x12_1 < (t167.length : Int)
              · rw [if_pos c12] at H
                have c12b0 : decide (x12_1 < (t167.length : Int)) = true := decide_eq_true c12
                clear c12
                by_cases c13 : (rd t164 x12_1) = (rd t167 x12_1)
                · rw [if_pos c13] at H
                  have c13b0 : ((rd t164 x12_1) == (rd t167 x12_1)) = true := beq_iff_eq.mpr c13
                  have c13b1 : ((rd t164 x12_1) != (rd t167 x12_1)) = false := bne_eq_false_iff_eq.mpr c13
                  clear c13
                  by_cases c14 : x12_1 > 0
                  · rw [if_pos c14] at H
                    have c14b0 : decide (0 < x12_1) = true := decide_eq_true c14
                    clear c14
                    obtain ⟨ji15, hji15⟩ : ∃ j_ : Int, (wrap64 (x12_1 - 1)) = j_ := ⟨_, rfl⟩
                    replace H : (if 0 ≤ (ji15) then (if (ji15) < (t164.length : Int) then (if (rd t164 (ji15)) ≥ (rd t164 x12_1) then (some false) else (if x5_1 = true then (tamislaw04_CodeAll.l0 k1 a0 t164 t167 true t164 (t164.length : Int) (wrap64 (x12_1 + 1))) else (tamislaw04_CodeAll.l0 k1 a0 t164 t167 ((rd t164 x12_1) == a0) t164 (t164.length : Int) (wrap64 (x12_1 + 1))))) else (none)) else (none)) = some r := by first | (rw [hji15] at H; exact H) | (simp only [hji15] at H ⊢; exact H)
                    have hji15w : (IntKind.i64.wrap (x12_1 - 1)) = ji15 := (i64_w _).trans hji15
                    by_cases c16 : 0 ≤ (ji15)
                    · rw [if_pos c16] at H
                      have c16b0 : decide (0 ≤ (ji15)) = true := decide_eq_true c16
                      clear c16
                      by_cases c17 : (ji15) < (t164.length : Int)
                      · rw [if_pos c17] at H
                        have c17b0 : decide ((ji15) < (t164.length : Int)) = true := decide_eq_true c17
                        clear c17
                        by_cases c18 : (rd t164 (ji15)) ≥ (rd t164 x12_1)
                        · rw [if_pos c18] at H
                          have c18b0 : decide ((rd t164 x12_1) ≤ (rd t164 (ji15))) = true := decide_eq_true c18
                          clear c18
                          obtain rfl := Option.some.inj H
                          have p170 : 0 ≤ (x12_1 : Int) := of_decide_eq_true (by first | (with_reducible assumption) | assumption)
                          have q170 : x12_1 < (t164.length : Int) := of_decide_eq_true (by first | (with_reducible assumption) | assumption)
                          obtain ⟨ad170, e170, hx170_0⟩ := Kd.at_int (Kd.R_reads' HO_10.out).2.2 x12_1 p170 q170
                          cases e170
                          replace p170 := eq_true p170
                          replace q170 := eq_true q170
                          obtain ⟨Ao19, co19, eo19⟩ := Kd.R_slice HO_4.out
                          subst eo19
                          have p171 : 0 ≤ (x12_1 : Int) := of_decide_eq_true (by first | (with_reducible assumption) | assumption)
                          have q171 : x12_1 < (t167.length : Int) := of_decide_eq_true (by first | (with_reducible assumption) | assumption)
                          obtain ⟨ad171, e171, hx171_0⟩ := Kd.at_int (Kd.R_reads' HO_4.out).2.2 x12_1 p171 q171
                          cases e171
                          replace p171 := eq_true p171
                          replace q171 := eq_true q171
                          have p172 : 0 ≤ ((ji15) : Int) := of_decide_eq_true (by first | (with_reducible assumption) | assumption)
                          have q172 : (ji15) < (t164.length : Int) := of_decide_eq_true (by first | (with_reducible assumption) | assumption)
                          obtain ⟨ad172, e172, hx172_0⟩ := Kd.at_int (Kd.R_reads' HO_3.out).2.2 (ji15) p172 q172
                          obtain rfl : ad170 = ad172 := (by injection e172)
                          replace p172 := eq_true p172
                          replace q172 := eq_true q172
                          go_wp2
                          go_ret
                          exact ⟨by first | rfl | (simp [errW_none, errW_some] <;> rfl) | (simp only [← hji15]; first | rfl | (simp [errW_none, errW_some] <;> rfl)) | (simp [*, errW_none, errW_some] <;> rfl), by repeat (first | (with_reducible first | exact HB.out | apply below_alloc | apply pw_below_drewN | apply below_drew1) | exact HB.out)⟩
                        · rw [if_neg c18] at H
                          have c18b0 : decide ((rd t164 x12_1) ≤ (rd t164 (ji15))) = false := decide_eq_false c18
                          clear c18
                          by_cases c20 : x5_1 = true
                          · subst c20
                            have H1 : (tamislaw04_CodeAll.l0 k1 a0 t164 t167 true t164 (t164.length : Int) (wrap64 (x12_1 + 1))) = some r := by rw [if_pos rfl] at H; exact H
                            clear H
                            have H := H1
                            clear H1
                            have H' := Aside0.mk H
                            clear H
                            have p170 : 0 ≤ (x12_1 : Int) := of_decide_eq_true (by first | (with_reducible assumption) | assumption)
                            have q170 : x12_1 < (t164.length : Int) := of_decide_eq_true (by first | (with_reducible assumption) | assumption)
                            obtain ⟨ad170, e170, hx170_0⟩ := Kd.at_int (Kd.R_reads' HO_10.out).2.2 x12_1 p170 q170
                            cases e170
                            replace p170 := eq_true p170
                            replace q170 := eq_true q170
                            obtain ⟨Ao21, co21, eo21⟩ := Kd.R_slice HO_4.out
                            subst eo21
                            have p171 : 0 ≤ (x12_1 : Int) := of_decide_eq_true (by first | (with_reducible assumption) | assumption)
                            have q171 : x12_1 < (t167.length : Int) := of_decide_eq_true (by first | (with_reducible assumption) | assumption)
                            obtain ⟨ad171, e171, hx171_0⟩ := Kd.at_int (Kd.R_reads' HO_4.out).2.2 x12_1 p171 q171
                            cases e171
                            replace p171 := eq_true p171
                            replace q171 := eq_true q171
                            have p172 : 0 ≤ ((ji15) : Int) := of_decide_eq_true (by first | (with_reducible assumption) | assumption)
                            have q172 : (ji15) < (t164.length : Int) := of_decide_eq_true (by first | (with_reducible assumption) | assumption)
                            obtain ⟨ad172, e172, hx172_0⟩ := Kd.at_int (Kd.R_reads' HO_3.out).2.2 (ji15) p172 q172
                            obtain rfl : ad170 = ad172 := (by injection e172)
                            replace p172 := eq_true p172
                            replace q172 := eq_true q172
                            go_wp2
                            go_roundg k1
                            case measure => have := HK1.out; omega
                            case rel => exact ⟨(true), (wrap64 (x12_1 + 1)), (by first | rfl | (simp; done) | (simp [*]; done)), (by first | rfl | (simp; done) | (simp [*]; done)), H', ⟨by have := HK1.out; omega⟩, ⟨by (with_reducible repeat (first | apply Kd.R_alloc | apply Kd.R_drewN | apply Kd.R_drew)); exact HO_3.out⟩, ⟨by (with_reducible repeat (first | apply Kd.R_alloc | apply Kd.R_drewN | apply Kd.R_drew)); exact HO_4.out⟩, ⟨by (with_reducible repeat (first | apply Kd.R_alloc | apply Kd.R_drewN | apply Kd.R_drew)); exact HO_10.out⟩, ⟨by repeat (first | (with_reducible first | exact HB.out | apply below_alloc | apply pw_below_drewN | apply below_drew1) | exact HB.out)⟩⟩
                          · replace c20 := Bool.eq_false_iff.mpr c20
                            subst c20
                            have H1 : (tamislaw04_CodeAll.l0 k1 a0 t164 t167 ((rd t164 x12_1) == a0) t164 (t164.length : Int) (wrap64 (x12_1 + 1))) = some r := by rw [if_neg (show ¬ (false = true) by decide)] at H; exact H
                            clear H
                            have H := H1
                            clear H1
                            have H' := Aside0.mk H
                            clear H
                            have p170 : 0 ≤ (x12_1 : Int) := of_decide_eq_true (by first | (with_reducible assumption) | assumption)
                            have q170 : x12_1 < (t164.length : Int) := of_decide_eq_true (by first | (with_reducible assumption) | assumption)
                            obtain ⟨ad170, e170, hx170_0⟩ := Kd.at_int (Kd.R_reads' HO_10.out).2.2 x12_1 p170 q170
                            cases e170
                            replace p170 := eq_true p170
                            replace q170 := eq_true q170
                            obtain ⟨Ao22, co22, eo22⟩ := Kd.R_slice HO_4.out
                            subst eo22
                            have p171 : 0 ≤ (x12_1 : Int) := of_decide_eq_true (by first | (with_reducible assumption) | assumption)
                            have q171 : x12_1 < (t167.length : Int) := of_decide_eq_true (by first | (with_reducible assumption) | assumption)
                            obtain ⟨ad171, e171, hx171_0⟩ := Kd.at_int (Kd.R_reads' HO_4.out).2.2 x12_1 p171 q171
                            cases e171
                            replace p171 := eq_true p171
                            replace q171 := eq_true q171
                            have p172 : 0 ≤ ((ji15) : Int) := of_decide_eq_true (by first | (with_reducible assumption) | assumption)
                            have q172 : (ji15) < (t164.length : Int) := of_decide_eq_true (by first | (with_reducible assumption) | assumption)
                            obtain ⟨ad172, e172, hx172_0⟩ := Kd.at_int (Kd.R_reads' HO_3.out).2.2 (ji15) p172 q172
                            obtain rfl : ad170 = ad172 := (by injection e172)
                            replace p172 := eq_true p172
                            replace q172 := eq_true q172
                            go_wp2
                            go_roundg k1
                            case measure => have := HK1.out; omega
                            case rel => exact ⟨(((rd t164 x12_1) == a0)), (wrap64 (x12_1 + 1)), (by first | rfl | (simp; done) | (simp [*]; done)), (by first | rfl | (simp; done) | (simp [*]; done)), H', ⟨by have := HK1.out; omega⟩, ⟨by (with_reducible repeat (first | apply Kd.R_alloc | apply Kd.R_drewN | apply Kd.R_drew)); exact HO_3.out⟩, ⟨by (with_reducible repeat (first | apply Kd.R_alloc | apply Kd.R_drewN | apply Kd.R_drew)); exact HO_4.out⟩, ⟨by (with_reducible repeat (first | apply Kd.R_alloc | apply Kd.R_drewN | apply Kd.R_drew)); exact HO_10.out⟩, ⟨by repeat (first | (with_reducible first | exact HB.out | apply below_alloc | apply pw_below_drewN | apply below_drew1) | exact HB.out)⟩⟩
                      · rw [if_neg c17] at H
                        exact absurd H (by simp)
                    · rw [if_neg c16] at H
                      exact absurd H (by simp)
                  · rw [if_neg c14] at H
                    have c14b0 : decide (0 < x12_1) = false := decide_eq_false c14
                    clear c14
                    by_cases c23 : x5_1 = true
                    · subst c23
                      have H1 : (tamislaw04_CodeAll.l0 k1 a0 t164 t167 true t164 (t164.length : Int) (wrap64 (x12_1 + 1))) = some r := by rw [if_pos rfl] at H; exact H
                      clear H
                      have H := H1
                      clear H1
                      have H' := Aside0.mk H
                      clear H
                      have p170 : 0 ≤ (x12_1 : Int) := of_decide_eq_true (by first | (with_reducible assumption) | assumption)
                      have q170 : x12_1 < (t164.length : Int) := of_decide_eq_true (by first | (with_reducible assumption) | assumption)
                      obtain ⟨ad170, e170, hx170_0⟩ := Kd.at_int (Kd.R_reads' HO_10.out).2.2 x12_1 p170 q170
                      cases e170
                      replace p170 := eq_true p170
                      replace q170 := eq_true q170
                      obtain ⟨Ao24, co24, eo24⟩ := Kd.R_slice HO_4.out
                      subst eo24
                      have p171 : 0 ≤ (x12_1 : Int) := of_decide_eq_true (by first | (with_reducible assumption) | assumption)
                      have q171 : x12_1 < (t167.length : Int) := of_decide_eq_true (by first | (with_reducible assumption) | assumption)
                      obtain ⟨ad171, e171, hx171_0⟩ := Kd.at_int (Kd.R_reads' HO_4.out).2.2 x12_1 p171 q171
                      cases e171
                      replace p171 := eq_true p171
                      replace q171 := eq_true q171
                      go_wp2
                      go_roundg k1
                      case measure => have := HK1.out; omega
                      case rel => exact ⟨(true), (wrap64 (x12_1 + 1)), (by first | rfl | (simp; done) | (simp [*]; done)), (by first | rfl | (simp; done) | (simp [*]; done)), H', ⟨by have := HK1.out; omega⟩, ⟨by (with_reducible repeat (first | apply Kd.R_alloc | apply Kd.R_drewN | apply Kd.R_drew)); exact HO_3.out⟩, ⟨by (with_reducible repeat (first | apply Kd.R_alloc | apply Kd.R_drewN | apply Kd.R_drew)); exact HO_4.out⟩, ⟨by (with_reducible repeat (first | apply Kd.R_alloc | apply Kd.R_drewN | apply Kd.R_drew)); exact HO_10.out⟩, ⟨by repeat (first | (with_reducible first | exact HB.out | apply below_alloc | apply pw_below_drewN | apply below_drew1) | exact HB.out)⟩⟩
                    · replace c23 := Bool.eq_false_iff.mpr c23
                      subst c23
                      have H1 : (tamislaw04_CodeAll.l0 k1 a0 t164 t167 ((rd t164 x12_1) == a0) t164 (t164.length : Int) (wrap64 (x12_1 + 1))) = some r := by rw [if_neg (show ¬ (false = true) by decide)] at H; exact H
                      clear H
                      have H := H1
                      clear H1
                      have H' := Aside0.mk H
                      clear H
                      have p170 : 0 ≤ (x12_1 : Int) := of_decide_eq_true (by first | (with_reducible assumption) | assumption)
                      have q170 : x12_1 < (t164.length : Int) := of_decide_eq_true (by first | (with_reducible assumption) | assumption)
                      obtain ⟨ad170, e170, hx170_0⟩ := Kd.at_int (Kd.R_reads' HO_10.out).2.2 x12_1 p170 q170
                      cases e170
                      replace p170 := eq_true p170
                      replace q170 := eq_true q170
                      obtain ⟨Ao25, co25, eo25⟩ := Kd.R_slice HO_4.out
                      subst eo25
                      have p171 : 0 ≤ (x12_1 : Int) := of_decide_eq_true (by first | (with_reducible assumption) | assumption)
                      have q171 : x12_1 < (t167.length : Int) := of_decide_eq_true (by first | (with_reducible assumption) | assumption)
                      obtain ⟨ad171, e171, hx171_0⟩ := Kd.at_int (Kd.R_reads' HO_4.out).2.2 x12_1 p171 q171
                      cases e171
                      replace p171 := eq_true p171
                      replace q171 := eq_true q171
                      go_wp2
                      go_roundg k1
                      case measure => have := HK1.out; omega
                      case rel => exact ⟨(((rd t164 x12_1) == a0)), (wrap64 (x12_1 + 1)), (by first | rfl | (simp; done) | (simp [*]; done)), (by first | rfl | (simp; done) | (simp [*]; done)), H', ⟨by have := HK1.out; omega⟩, ⟨by (with_reducible repeat (first | apply Kd.R_alloc | apply Kd.R_drewN | apply Kd.R_drew)); exact HO_3.out⟩, ⟨by (with_reducible repeat (first | apply Kd.R_alloc | apply Kd.R_drewN | apply Kd.R_drew)); exact HO_4.out⟩, ⟨by (with_reducible repeat (first | apply Kd.R_alloc | apply Kd.R_drewN | apply Kd.R_drew)); exact HO_10.out⟩, ⟨by repeat (first | (with_reducible first | exact HB.out | apply below_alloc | apply pw_below_drewN | apply below_drew1) | exact HB.out)⟩⟩
                · rw [if_neg c13] at H
                  have c13b0 : ((rd t164 x12_1) == (rd t167 x12_1)) = false := beq_eq_false_iff_ne.mpr c13
                  have c13b1 : ((rd t164 x12_1) != (rd t167 x12_1)) = true := bne_iff_ne.mpr c13
                  obtain rfl := Option.some.inj H
                  have p170 : 0 ≤ (x12_1 : Int) := of_decide_eq_true (by first | (with_reducible assumption) | assumption)
                  have q170 : x12_1 < (t164.length : Int) := of_decide_eq_true (by first | (with_reducible assumption) | assumption)
                  obtain ⟨ad170, e170, hx170_0⟩ := Kd.at_int (Kd.R_reads' HO_10.out).2.2 x12_1 p170 q170
                  cases e170
                  replace p170 := eq_true p170
                  replace q170 := eq_true q170
                  obtain ⟨Ao26, co26, eo26⟩ := Kd.R_slice HO_4.out
                  subst eo26
                  have p171 : 0 ≤ (x12_1 : Int) := of_decide_eq_true (by first | (with_reducible assumption) | assumption)
                  have q171 : x12_1 < (t167.length : Int) := of_decide_eq_true (by first | (with_reducible assumption) | assumption)
                  obtain ⟨ad171, e171, hx171_0⟩ := Kd.at_int (Kd.R_reads' HO_4.out).2.2 x12_1 p171 q171
                  cases e171
                  replace p171 := eq_true p171
                  replace q171 := eq_true q171
                  go_wp2
                  go_ret
                  exact ⟨by first | rfl | (simp [errW_none, errW_some] <;> rfl) | (simp [*, errW_none, errW_some] <;> rfl), by repeat (first | (with_reducible first | exact HB.out | apply below_alloc | apply pw_below_drewN | apply below_drew1) | exact HB.out)⟩
              · rw [if_neg c12] at H
                exact absurd H (by simp)
          · rw [if_neg c9] at H
            exact absurd H (by simp)
        · rw [if_neg c8] at H
          exact absurd H (by simp)
      · rw [if_neg c7] at H
        have c7b0 : decide (x12_1 < (t164.length : Int)) = false := decide_eq_false c7
        clear c7
        replace H := Option.bind_eq_some_iff.mp H
        obtain ⟨t173, A270, H⟩ := H
        replace H : (if t173 = true then (if (t164.length : Int) = (t167.length : Int) then ((code_Kind.f a0).bind fun t174 => (some (x5_1 == (t174 != 0)))) else (some false)) else (some false)) = some r := H
        have A27 := Aside0.mk A270
        clear A270
        by_cases c28 : t173 = true
        · subst c28
          have H1 : (if (t164.length : Int) = (t167.length : Int) then ((code_Kind.f a0).bind fun t174 => (some (x5_1 == (t174 != 0)))) else (some false)) = some r := by rw [if_pos rfl] at H; exact H
          clear H
          have H := H1
          clear H1
          by_cases c29 : (t164.length : Int) = (t167.length : Int)
          · rw [if_pos c29] at H
            have c29b0 : ((t164.length : Int) == (t167.length : Int)) = true := beq_iff_eq.mpr c29
            have c29b1 : ((t164.length : Int) != (t167.length : Int)) = false := bne_eq_false_iff_eq.mpr c29
            have c29b2 : (t164.length == t167.length) = true := by first | simpa using c29 | (simp at c29 ⊢; omega)
            clear c29
            replace H := Option.bind_eq_some_iff.mp H
            obtain ⟨t174, A300, H⟩ := H
            replace H : (some (x5_1 == (t174 != 0))) = some r := H
            have A30 := Aside0.mk A300
            clear A300
            obtain rfl := Option.some.inj H
            go_wp2_with (first | ((with_reducible refine gate_callee (f := 11) rfl ?_); refine goesL_ (some 49) rfl rfl Try.func11 (by kernel_rfl) rfl #[] rfl (by (try simp only [List.map_toArray, List.map_cons, List.map_nil]); first | done | rfl | (simp only [List.length_drop, List.length_take]; rfl)) ?_; (with_reducible refine (tamislaw04_awake.calls k1  true _ A27.out).mono ?_); rintro e w31 ⟨rfl, hb⟩; refine ⟨_, rfl, ?_⟩; have n0_ := Aside0.mk (Kd.R_below (by (with_reducible repeat (first | apply Kd.R_alloc | apply Kd.R_drewN | apply Kd.R_drew)); exact HO_3.out) hb); have n1_ := Aside0.mk (Kd.R_below (by (with_reducible repeat (first | apply Kd.R_alloc | apply Kd.R_drewN | apply Kd.R_drew)); exact HO_4.out) hb); have n2_ := Aside0.mk (Kd.R_below (by (with_reducible repeat (first | apply Kd.R_alloc | apply Kd.R_drewN | apply Kd.R_drew)); exact HO_10.out) hb); have n3_ := Aside0.mk (below_step (by repeat (first | (with_reducible first | exact HB.out | apply below_alloc | apply pw_below_drewN | apply below_drew1) | exact HB.out)) hb); clear HO_3; clear HO_4; clear HO_10; clear HB; have HO_3 := n0_; have HO_4 := n1_; have HO_10 := n2_; have HB := n3_; clear n0_ n1_ n2_ n3_; (try clear hb); (try clear hb2); (try clear hk); (try clear hi); obtain ⟨Ao32, co32, eo32⟩ := Kd.R_slice HO_4.out; subst eo32) | (go_at_call 12; (with_reducible refine (code_Kind.calls a0 t174 _ A30.out).mono ?_); rintro e w33 ⟨rfl, hb⟩; have n0_ := Aside0.mk (Kd.R_below (by (with_reducible repeat (first | apply Kd.R_alloc | apply Kd.R_drewN | apply Kd.R_drew)); exact HO_3.out) hb); have n1_ := Aside0.mk (Kd.R_below (by (with_reducible repeat (first | apply Kd.R_alloc | apply Kd.R_drewN | apply Kd.R_drew)); exact HO_4.out) hb); have n2_ := Aside0.mk (Kd.R_below (by (with_reducible repeat (first | apply Kd.R_alloc | apply Kd.R_drewN | apply Kd.R_drew)); exact HO_10.out) hb); have n3_ := Aside0.mk (below_step (by repeat (first | (with_reducible first | exact HB.out | apply below_alloc | apply pw_below_drewN | apply below_drew1) | exact HB.out)) hb); clear HO_3; clear HO_4; clear HO_10; clear HB; have HO_3 := n0_; have HO_4 := n1_; have HO_10 := n2_; have HB := n3_; clear n0_ n1_ n2_ n3_; (try clear hb); (try clear hb2); (try clear hk); (try clear hi)))
            go_ret
            exact ⟨by first | rfl | (simp [errW_none, errW_some] <;> rfl) | (simp [*, errW_none, errW_some] <;> rfl), by repeat (first | (with_reducible first | exact HB.out | apply below_alloc | apply pw_below_drewN | apply below_drew1) | exact HB.out)⟩
          · rw [if_neg c29] at H
            have c29b0 : ((t164.length : Int) == (t167.length : Int)) = false := beq_eq_false_iff_ne.mpr c29
            have c29b1 : ((t164.length : Int) != (t167.length : Int)) = true := bne_iff_ne.mpr c29
            have c29b2 : (t164.length == t167.length) = false := by first | simpa using c29 | (simp at c29 ⊢; omega)
            obtain rfl := Option.some.inj H
            go_wp2_with (first | ((with_reducible refine gate_callee (f := 11) rfl ?_); refine goesL_ (some 49) rfl rfl Try.func11 (by kernel_rfl) rfl #[] rfl (by (try simp only [List.map_toArray, List.map_cons, List.map_nil]); first | done | rfl | (simp only [List.length_drop, List.length_take]; rfl)) ?_; (with_reducible refine (tamislaw04_awake.calls k1  true _ A27.out).mono ?_); rintro e w34 ⟨rfl, hb⟩; refine ⟨_, rfl, ?_⟩; have n0_ := Aside0.mk (Kd.R_below (by (with_reducible repeat (first | apply Kd.R_alloc | apply Kd.R_drewN | apply Kd.R_drew)); exact HO_3.out) hb); have n1_ := Aside0.mk (Kd.R_below (by (with_reducible repeat (first | apply Kd.R_alloc | apply Kd.R_drewN | apply Kd.R_drew)); exact HO_4.out) hb); have n2_ := Aside0.mk (Kd.R_below (by (with_reducible repeat (first | apply Kd.R_alloc | apply Kd.R_drewN | apply Kd.R_drew)); exact HO_10.out) hb); have n3_ := Aside0.mk (below_step (by repeat (first | (with_reducible first | exact HB.out | apply below_alloc | apply pw_below_drewN | apply below_drew1) | exact HB.out)) hb); clear HO_3; clear HO_4; clear HO_10; clear HB; have HO_3 := n0_; have HO_4 := n1_; have HO_10 := n2_; have HB := n3_; clear n0_ n1_ n2_ n3_; (try clear hb); (try clear hb2); (try clear hk); (try clear hi); obtain ⟨Ao35, co35, eo35⟩ := Kd.R_slice HO_4.out; subst eo35))
            go_ret
            exact ⟨by first | rfl | (simp [errW_none, errW_some] <;> rfl) | (simp [*, errW_none, errW_some] <;> rfl), by repeat (first | (with_reducible first | exact HB.out | apply below_alloc | apply pw_below_drewN | apply below_drew1) | exact HB.out)⟩
        · replace c28 := Bool.eq_false_iff.mpr c28
          subst c28
          have H1 : (some false) = some r := by rw [if_neg (show ¬ (false = true) by decide)] at H; exact H
          clear H
          have H := H1
          clear H1
          obtain rfl := Option.some.inj H
          go_wp2_with (first | ((with_reducible refine gate_callee (f := 11) rfl ?_); refine goesL_ (some 49) rfl rfl Try.func11 (by kernel_rfl) rfl #[] rfl (by (try simp only [List.map_toArray, List.map_cons, List.map_nil]); first | done | rfl | (simp only [List.length_drop, List.length_take]; rfl)) ?_; (with_reducible refine (tamislaw04_awake.calls k1  false _ A27.out).mono ?_); rintro e w36 ⟨rfl, hb⟩; refine ⟨_, rfl, ?_⟩; have n0_ := Aside0.mk (Kd.R_below (by (with_reducible repeat (first | apply Kd.R_alloc | apply Kd.R_drewN | apply Kd.R_drew)); exact HO_3.out) hb); have n1_ := Aside0.mk (Kd.R_below (by (with_reducible repeat (first | apply Kd.R_alloc | apply Kd.R_drewN | apply Kd.R_drew)); exact HO_4.out) hb); have n2_ := Aside0.mk (Kd.R_below (by (with_reducible repeat (first | apply Kd.R_alloc | apply Kd.R_drewN | apply Kd.R_drew)); exact HO_10.out) hb); have n3_ := Aside0.mk (below_step (by repeat (first | (with_reducible first | exact HB.out | apply below_alloc | apply pw_below_drewN | apply below_drew1) | exact HB.out)) hb); clear HO_3; clear HO_4; clear HO_10; clear HB; have HO_3 := n0_; have HO_4 := n1_; have HO_10 := n2_; have HB := n3_; clear n0_ n1_ n2_ n3_; (try clear hb); (try clear hb2); (try clear hk); (try clear hi)))
          go_ret
          exact ⟨by first | rfl | (simp [errW_none, errW_some] <;> rfl) | (simp [*, errW_none, errW_some] <;> rfl), by repeat (first | (with_reducible first | exact HB.out | apply below_alloc | apply pw_below_drewN | apply below_drew1) | exact HB.out)⟩

/-- THE ONE PURE STATEMENT of tamislaw04_CodeAll: yours. -/
def tamislaw04_CodeAll.Pure : Prop := ∀ (a0 : Int), (Lit.int .u16 a0).wf = true → ∃ k, tamislaw04_CodeAll.f k a0 = some true
theorem tamislaw04_CodeAll.walk (P : tamislaw04_CodeAll.Pure) (a0 : Int) (w : World) (w0 : (Lit.int .u16 a0).wf = true) :
    Calls Try.prog 5 #[.int .u16 a0] w fun e w' => e = .returned (.bool true) ∧ Below w.heap.size w w' := by
  obtain ⟨k, h⟩ := P a0 w0
  refine (tamislaw04_CodeAll.calls k a0 true w h).mono ?_
  rintro e w' ⟨rfl, hd⟩
  exact ⟨rfl, hd⟩

end Go.Proofs.Ytkcecfoeimpfeaa.Pr
