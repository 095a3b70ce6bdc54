-- Made by a program of this session (wip/tools/myprint.sh).
import Derived.Test.YtnagbdcpmbjnpaaDoorPr0
import Derived.Test.YtnagbdcpmbjnpaaDoorFRef05
namespace Go.Proofs.YtnagbdcpmbjnpaaDoor.Pr
open Go.RowKit Go.Proofs.YtnagbdcpmbjnpaaDoorW.PrintWords Go.Proofs.YtnagbdcpmbjnpaaDoorW.PrintLast Go.Proofs.YtnagbdcpmbjnpaaDoorW.PrintMore
attribute [local go_sem] max2_int min2_int max_two min_two max_three min_three max_four min_four   -- for this text's walks alone
set_option linter.unusedVariables false
set_option linter.unusedSimpArgs false

/-! ### tamisref05_Print: function 18 -/
def tamisref05_Print.l0 : Nat → List (S25) → ByteArray → Int → Option (ByteArray × Int)
  | 0, _, _, _ => none
  | k + 1, x0, x4, x5 => if x5 < (x0.length : Int) then (if 0 ≤ x5 then ((tamisref05_Line.f k ((rd_T25 x0 x5).f0) ((rd_T25 x0 x5).f1) ((rd_T25 x0 x5).f2) ((rd_T25 x0 x5).f3)).bind fun bt250 => (if bt250.2 = 0 then (if bt250.1.size + 1 ≤ 9223372036854775807 then (if x4.size + (bt250.1 ++ (⟨#[10]⟩ : ByteArray)).size ≤ 9223372036854775807 then (tamisref05_Print.l0 k x0 (x4 ++ (bt250.1 ++ (⟨#[10]⟩ : ByteArray))) (wrap64 (x5 + 1))) else (none)) else (none)) else (some ((⟨#[]⟩ : ByteArray), bt250.2)))) else (none)) else (some (x4, 0))
def tamisref05_Print.f (k : Nat) (l0 : List (S25)) : Option (ByteArray × Int) := if (l0.length : Int) = 0 then (some ((⟨#[]⟩ : ByteArray), 4)) else (if (l0.length : Int) > 4096 then (some ((⟨#[]⟩ : ByteArray), 5)) else (tamisref05_Print.l0 k l0 (⟨#[]⟩ : ByteArray) 0))
theorem tamisref05_Print.mono_l : ∀ k, (∀ y0 y1 y2, LeO (tamisref05_Print.l0 k y0 y1 y2) (tamisref05_Print.l0 (k + 1) y0 y1 y2))
  | 0 => fun _ _ _ r h => by simp [tamisref05_Print.l0] at h
  | k + 1 => by
    have ih0 := tamisref05_Print.mono_l k
    · intro y0 y1 y2
      unfold tamisref05_Print.l0
      repeat' first
      | (with_reducible exact ih0 _ _ _)
      | (with_reducible exact tamisref05_Line.mono _ _ _ _ _)
      | (with_reducible exact LeO.refl _)
      | (with_reducible exact LeO.none _)
      | (with_reducible refine LeO.ite ?_ ?_)
      | (with_reducible refine LeO.bind ?_ (fun _ => ?_))
      | exact ih0 _ _ _
      | exact tamisref05_Line.mono _ _ _ _ _
      | exact LeO.none _
      | refine LeO.ite ?_ ?_
      | refine LeO.bind ?_ (fun _ => ?_)
theorem tamisref05_Print.mono : ∀ a0 k, LeO (tamisref05_Print.f k a0) (tamisref05_Print.f (k + 1) a0) := by
  intro a0 k
  have ih0 := tamisref05_Print.mono_l k
  unfold tamisref05_Print.f
  repeat' first
      | (with_reducible exact ih0 _ _ _)
      | (with_reducible exact tamisref05_Line.mono _ _ _ _ _)
      | (with_reducible exact LeO.refl _)
      | (with_reducible exact LeO.none _)
      | (with_reducible refine LeO.ite ?_ ?_)
      | (with_reducible refine LeO.bind ?_ (fun _ => ?_))
      | exact ih0 _ _ _
      | exact tamisref05_Line.mono _ _ _ _ _
      | exact LeO.none _
      | refine LeO.ite ?_ ?_
      | refine LeO.bind ?_ (fun _ => ?_)
set_option maxHeartbeats 8000000 in
set_option maxRecDepth 100000 in
theorem tamisref05_Print.calls (k : Nat) (A0 : Option Addr) (c0 : Nat) (l0 : List (S25)) (r1 : ByteArray) (r2 : Int) (w : World) (hr0 : Kd.C k25 w A0 l0.length l0) (hc0 : l0.length ≤ c0) (h : tamisref05_Print.f k l0 = some (r1, r2)) :
    Calls Tryd.prog 18 #[.slice A0 l0.length c0] w fun e w' => e = .returned (.tuple #[.string r1, .int .i64 r2]) ∧ Below w.heap.size w w' := by
  have hu25 := Tryd.underlying25
  have HR0 := Aside0.mk hr0
  have HC0 := Aside0.mk hc0
  clear hr0 hc0
  have HB := Aside0.mk (Below.refl w.heap.size w)
  have H : (if (l0.length : Int) = 0 then (some ((⟨#[]⟩ : ByteArray), 4)) else (if (l0.length : Int) > 4096 then (some ((⟨#[]⟩ : ByteArray), 5)) else (tamisref05_Print.l0 k l0 (⟨#[]⟩ : ByteArray) 0))) = some (r1, r2) := h
  clear h
  by_cases c2 : (l0.length : Int) = 0
  · rw [if_pos c2] at H
    have c2b0 : ((l0.length : Int) == 0) = true := beq_iff_eq.mpr c2
    have c2b1 : ((l0.length : Int) != 0) = false := bne_eq_false_iff_eq.mpr c2
    clear c2
    simp only [Option.some.injEq, Prod.mk.injEq] at H
    obtain ⟨rfl, rfl⟩ := H
    go_enter Tryd.func18, Tryd.ntmps18
    go_wp2
    go_ret2
    exact ⟨by first | rfl | (simp [errW_none, errW_some] <;> rfl) | (simp [*, errW_none, errW_some] <;> rfl), by repeat (first | (with_reducible first | exact HB.out | apply below_alloc | apply pw_below_drewN | apply below_drew1) | exact HB.out)⟩
  · rw [if_neg c2] at H
    have c2b0 : ((l0.length : Int) == 0) = false := beq_eq_false_iff_ne.mpr c2
    have c2b1 : ((l0.length : Int) != 0) = true := bne_iff_ne.mpr c2
    have c2b2 : ¬ (l0 = []) := fun h_ => c2 (by rw [h_]; rfl)
    by_cases c3 : (l0.length : Int) > 4096
    · rw [if_pos c3] at H
      have c3b0 : decide (4096 < (l0.length : Int)) = true := decide_eq_true c3
      have c3b1 : decide (4096 < l0.length) = true := decide_eq_true (by omega)
      clear c3
      simp only [Option.some.injEq, Prod.mk.injEq] at H
      obtain ⟨rfl, rfl⟩ := H
      go_enter Tryd.func18, Tryd.ntmps18
      go_wp2
      go_ret2
      exact ⟨by first | rfl | (simp [errW_none, errW_some] <;> rfl) | (simp [*, errW_none, errW_some] <;> rfl), by repeat (first | (with_reducible first | exact HB.out | apply below_alloc | apply pw_below_drewN | apply below_drew1) | exact HB.out)⟩
    · rw [if_neg c3] at H
      have c3b0 : decide (4096 < (l0.length : Int)) = false := decide_eq_false c3
      have c3b1 : decide (4096 < l0.length) = false := decide_eq_false (by omega)
      clear c3
      have H' := Aside0.mk H
      clear H
      go_enter Tryd.func18, Tryd.ntmps18
      go_wp2
      go_loopg [4, 5] k (fun kq v4 v5 w' => ∃ (x4_1 : ByteArray) (x5_1 : Int), v4 = .string x4_1 ∧ v5 = .int .i64 x5_1 ∧ Aside0 (tamisref05_Print.l0 kq l0 x4_1 x5_1 = some (r1, r2)) ∧ Aside0 (kq ≤ k) ∧ Aside0 (Below w.heap.size w w'))
      case atStart => exact ⟨((⟨#[]⟩ : ByteArray)), (0), (by first | rfl | (simp; done) | (simp [*]; done)), (by first | rfl | (simp; done) | (simp [*]; done)), H', ⟨Nat.le_refl _⟩, ⟨by repeat (first | (with_reducible first | exact HB.out | apply below_alloc | apply pw_below_drewN | apply below_drew1) | exact HB.out)⟩⟩
      case round =>
        clear H'
        try clear c1
        try clear c2
        try clear c2b0
        try clear c2b1
        try clear c2b2
        try clear p2
        try clear c3
        try clear c3b0
        try clear c3b1
        obtain ⟨x4_1, x5_1, rfl, rfl, HA, HK1, HB⟩ := hrel
        cases gk with
        | zero => exact absurd HA.out (by simp [tamisref05_Print.l0])
        | succ k1 =>
          have H := HA.out
          clear HA
          simp only [tamisref05_Print.l0] at H
          by_cases c4 : x5_1 < (l0.length : Int)
          · rw [if_pos c4] at H
            have c4b0 : decide (x5_1 < (l0.length : Int)) = true := decide_eq_true c4
            clear c4
            by_cases c5 : 0 ≤ x5_1
            · rw [if_pos c5] at H
              have c5b0 : decide (0 ≤ x5_1) = true := decide_eq_true c5
              clear c5
              replace H := Option.bind_eq_some_iff.mp H
              obtain ⟨⟨t250, t251⟩, A60, H⟩ := H
              replace H : (if t251 = 0 then (if t250.size + 1 ≤ 9223372036854775807 then (if x4_1.size + (t250 ++ (⟨#[10]⟩ : ByteArray)).size ≤ 9223372036854775807 then (tamisref05_Print.l0 k1 l0 (x4_1 ++ (t250 ++ (⟨#[10]⟩ : ByteArray))) (wrap64 (x5_1 + 1))) else (none)) else (none)) else (some ((⟨#[]⟩ : ByteArray), t251))) = some (r1, r2) := H
              have A6 := Aside0.mk A60
              clear A60
              by_cases c7 : t251 = 0
              · rw [if_pos c7] at H
                have c7b0 : (t251 == 0) = true := beq_iff_eq.mpr c7
                have c7b1 : (t251 != 0) = false := bne_eq_false_iff_eq.mpr c7
                clear c7
                by_cases c8 : t250.size + 1 ≤ 9223372036854775807
                · rw [if_pos c8] at H
                  have c8b0 := eq_true c8
                  have c8b1 : decide (t250.size + 1 ≤ 9223372036854775807) = true := decide_eq_true c8
                  try have c8b2 : (9223372036854775807 < t250.size + 1) = False := eq_false (Nat.not_lt.2 c8)
                  by_cases c9 : x4_1.size + (t250 ++ (⟨#[10]⟩ : ByteArray)).size ≤ 9223372036854775807
                  · rw [if_pos c9] at H
                    have c9b0 := eq_true c9
                    have c9b1 : decide (x4_1.size + (t250 ++ (⟨#[10]⟩ : ByteArray)).size ≤ 9223372036854775807) = true := decide_eq_true c9
                    try have c9b2 : (9223372036854775807 < x4_1.size + (t250 ++ (⟨#[10]⟩ : ByteArray)).size) = False := eq_false (Nat.not_lt.2 c9)
                    have H' := Aside0.mk H
                    clear H
                    have p249 : 0 ≤ (x5_1 : Int) := of_decide_eq_true (by first | (with_reducible assumption) | assumption)
                    have q249 : x5_1 < (l0.length : Int) := of_decide_eq_true (by first | (with_reducible assumption) | assumption)
                    obtain ⟨ad249, e249, hx249_0, hx249_1, hx249_2, hx249_3⟩ := at_T25 HR0.out x5_1 p249 q249
                    cases e249
                    replace hx249_0 := (HB.out.cell (World.block_lt_of_cell? w _ hx249_0)).trans hx249_0
                    replace hx249_1 := (HB.out.cell (World.block_lt_of_cell? w _ hx249_1)).trans hx249_1
                    replace hx249_2 := (HB.out.cell (World.block_lt_of_cell? w _ hx249_2)).trans hx249_2
                    replace hx249_3 := (HB.out.cell (World.block_lt_of_cell? w _ hx249_3)).trans hx249_3
                    replace p249 := eq_true p249
                    replace q249 := eq_true q249
                    go_wp2_with (first | ((with_reducible refine gate_callee (f := 11) rfl ?_); refine goesL_ (some 25) rfl rfl Tryd.func11 (by kernel_rfl) rfl #[.agg #[.int .u16 ((rd_T25 l0 x5_1).f0), .int .u8 ((rd_T25 l0 x5_1).f1), .int .u8 ((rd_T25 l0 x5_1).f2), .int .u32 ((rd_T25 l0 x5_1).f3)]] rfl (by (try simp only [List.map_toArray, List.map_cons, List.map_nil]); first | done | rfl | (simp only [List.length_drop, List.length_take]; rfl)) ?_; (with_reducible refine (tamisref05_Line.calls k1 ((rd_T25 l0 x5_1).f0) ((rd_T25 l0 x5_1).f1) ((rd_T25 l0 x5_1).f2) ((rd_T25 l0 x5_1).f3) t250 t251 _ A6.out).mono ?_); rintro e w10 ⟨rfl, hb⟩; refine ⟨_, rfl, ?_⟩; have n0_ := Aside0.mk (below_step (by repeat (first | (with_reducible first | exact HB.out | apply below_alloc | apply pw_below_drewN | apply below_drew1) | exact HB.out)) hb); clear HB; have HB := n0_; clear n0_; (try clear hb); (try clear hb2); (try clear hk); (try clear hi)))
                    go_roundg k1
                    case measure => have := HK1.out; omega
                    case rel => exact ⟨(x4_1 ++ (t250 ++ (⟨#[10]⟩ : ByteArray))), (wrap64 (x5_1 + 1)), (by first | rfl | (simp; done) | (simp [*]; done)), (by first | rfl | (simp; done) | (simp [*]; done)), H', ⟨by have := HK1.out; omega⟩, ⟨by repeat (first | (with_reducible first | exact HB.out | apply below_alloc | apply pw_below_drewN | apply below_drew1) | exact HB.out)⟩⟩
                  · rw [if_neg c9] at H
                    exact absurd H (by simp)
                · rw [if_neg c8] at H
                  exact absurd H (by simp)
              · rw [if_neg c7] at H
                have c7b0 : (t251 == 0) = false := beq_eq_false_iff_ne.mpr c7
                have c7b1 : (t251 != 0) = true := bne_iff_ne.mpr c7
                simp only [Option.some.injEq, Prod.mk.injEq] at H
                obtain ⟨rfl, rfl⟩ := H
                have p249 : 0 ≤ (x5_1 : Int) := of_decide_eq_true (by first | (with_reducible assumption) | assumption)
                have q249 : x5_1 < (l0.length : Int) := of_decide_eq_true (by first | (with_reducible assumption) | assumption)
                obtain ⟨ad249, e249, hx249_0, hx249_1, hx249_2, hx249_3⟩ := at_T25 HR0.out x5_1 p249 q249
                cases e249
                replace hx249_0 := (HB.out.cell (World.block_lt_of_cell? w _ hx249_0)).trans hx249_0
                replace hx249_1 := (HB.out.cell (World.block_lt_of_cell? w _ hx249_1)).trans hx249_1
                replace hx249_2 := (HB.out.cell (World.block_lt_of_cell? w _ hx249_2)).trans hx249_2
                replace hx249_3 := (HB.out.cell (World.block_lt_of_cell? w _ hx249_3)).trans hx249_3
                replace p249 := eq_true p249
                replace q249 := eq_true q249
                go_wp2_with (first | ((with_reducible refine gate_callee (f := 11) rfl ?_); refine goesL_ (some 25) rfl rfl Tryd.func11 (by kernel_rfl) rfl #[.agg #[.int .u16 ((rd_T25 l0 x5_1).f0), .int .u8 ((rd_T25 l0 x5_1).f1), .int .u8 ((rd_T25 l0 x5_1).f2), .int .u32 ((rd_T25 l0 x5_1).f3)]] rfl (by (try simp only [List.map_toArray, List.map_cons, List.map_nil]); first | done | rfl | (simp only [List.length_drop, List.length_take]; rfl)) ?_; (with_reducible refine (tamisref05_Line.calls k1 ((rd_T25 l0 x5_1).f0) ((rd_T25 l0 x5_1).f1) ((rd_T25 l0 x5_1).f2) ((rd_T25 l0 x5_1).f3) t250 t251 _ A6.out).mono ?_); rintro e w11 ⟨rfl, hb⟩; refine ⟨_, rfl, ?_⟩; have n0_ := Aside0.mk (below_step (by repeat (first | (with_reducible first | exact HB.out | apply below_alloc | apply pw_below_drewN | apply below_drew1) | exact HB.out)) hb); clear HB; have HB := n0_; clear n0_; (try clear hb); (try clear hb2); (try clear hk); (try clear hi)))
                go_ret2
                exact ⟨by first | rfl | (simp [errW_none, errW_some] <;> rfl) | (simp [*, errW_none, errW_some] <;> rfl), by repeat (first | (with_reducible first | exact HB.out | apply below_alloc | apply pw_below_drewN | apply below_drew1) | exact HB.out)⟩
            · rw [if_neg c5] at H
              exact absurd H (by simp)
          · rw [if_neg c4] at H
            have c4b0 : decide (x5_1 < (l0.length : Int)) = false := decide_eq_false c4
            clear c4
            simp only [Option.some.injEq, Prod.mk.injEq] at H
            obtain ⟨rfl, rfl⟩ := H
            go_wp2
            go_ret2
            exact ⟨by first | rfl | (simp [errW_none, errW_some] <;> rfl) | (simp [*, errW_none, errW_some] <;> rfl), by repeat (first | (with_reducible first | exact HB.out | apply below_alloc | apply pw_below_drewN | apply below_drew1) | exact HB.out)⟩

end Go.Proofs.YtnagbdcpmbjnpaaDoor.Pr
