-- Made by a program of this session (wip/tools/myprint.sh).
import Derived.Test.YtjgapcidhoecfaaPr0
import Derived.Test.YtjgapcidhoecfaaFInstrRead
import Derived.Test.YtjgapcidhoecfaaFTamisref02Same
import Derived.Test.YtjgapcidhoecfaaGAwake02
import Derived.Test.YtjgapcidhoecfaaGInstrPrint
import Derived.Test.YtjgapcidhoecfaaGOpens
namespace Go.Proofs.Ytjgapcidhoecfaa.Pr
open Go.RowKit Go.Proofs.YtjgapcidhoecfaaW.PrintWords Go.Proofs.YtjgapcidhoecfaaW.PrintLast Go.Proofs.YtjgapcidhoecfaaW.PrintMore
attribute [local go_sem] max2_int min2_int max_two min_two max_three min_three max_four min_four   -- for this text's walks alone
set_option linter.unusedVariables false
set_option linter.unusedSimpArgs false

/-! ### tamislaw02_InstrJoins: function 6 -/
def tamislaw02_InstrJoins.j0 : Nat → List (S39) → List (S39) → Bool → Option (Bool)
  | 0, _, _, _ => none
  | k + 1, x0, x1, x30 => if x30 = true then ((awake02.f).bind fun t172 => (some t172)) else ((instr_Print.f x0).bind fun bt173 => ((instr_Print.f x1).bind fun bt175 => (if bt173.1.size + bt175.1.size ≤ 9223372036854775807 then ((instr_Read.f k (bt173.1 ++ bt175.1)).bind fun bt177 => (if bt177.2 = 0 then ((some (([] : List (S39)) : List (S39))).bind fun y181 => (if y181.length + x0.length < 17592186044416 then ((some (y181 ++ x0 : List (S39))).bind fun y184 => (if y184.length + x1.length < 17592186044416 then ((tamisref02_Same.f k bt177.1 (y184 ++ x1)).bind fun t190 => (if t190 = true then ((tamisref02_Same.f k x0 x1).bind fun t191 => (some ((bt173.1.toList == bt175.1.toList) == t191))) else (some false))) else (none))) else (none))) else (some false))) else (none))))
def tamislaw02_InstrJoins.f (k : Nat) (l0 : List (S39)) (l1 : List (S39)) : Option (Bool) := (awake02.f).bind fun t171 => (if t171 = true then (if (l0.length : Int) = 0 then (tamislaw02_InstrJoins.j0 k l0 l1 true) else (if (l1.length : Int) = 0 then (tamislaw02_InstrJoins.j0 k l0 l1 true) else (tamislaw02_InstrJoins.j0 k l0 l1 (decide ((wrap64 ((l0.length : Int) + (l1.length : Int))) > 300))))) else (tamislaw02_InstrJoins.j0 k l0 l1 true))
theorem tamislaw02_InstrJoins.mono_l : ∀ k, (∀ y0 y1 y2, LeO (tamislaw02_InstrJoins.j0 k y0 y1 y2) (tamislaw02_InstrJoins.j0 (k + 1) y0 y1 y2))
  | 0 => fun _ _ _ r h => by simp [tamislaw02_InstrJoins.j0] at h
  | k + 1 => by
    have ih0 := tamislaw02_InstrJoins.mono_l k
    · intro y0 y1 y2
      unfold tamislaw02_InstrJoins.j0
      repeat' first
      | (with_reducible exact ih0 _ _ _)
      | (with_reducible exact instr_Read.mono _ _)
      | (with_reducible exact tamisref02_Same.mono _ _ _)
      | (with_reducible exact LeO.refl _)
      | (with_reducible exact LeO.none _)
      | (with_reducible refine LeO.ite ?_ ?_)
      | (with_reducible refine LeO.bind ?_ (fun _ => ?_))
      | exact ih0 _ _ _
      | exact instr_Read.mono _ _
      | exact tamisref02_Same.mono _ _ _
      | exact LeO.none _
      | refine LeO.ite ?_ ?_
      | refine LeO.bind ?_ (fun _ => ?_)
theorem tamislaw02_InstrJoins.mono : ∀ a0 a1 k, LeO (tamislaw02_InstrJoins.f k a0 a1) (tamislaw02_InstrJoins.f (k + 1) a0 a1) := by
  intro a0 a1 k
  have ih0 := tamislaw02_InstrJoins.mono_l k
  unfold tamislaw02_InstrJoins.f
  repeat' first
      | (with_reducible exact ih0 _ _ _)
      | (with_reducible exact instr_Read.mono _ _)
      | (with_reducible exact tamisref02_Same.mono _ _ _)
      | (with_reducible exact LeO.refl _)
      | (with_reducible exact LeO.none _)
      | (with_reducible refine LeO.ite ?_ ?_)
      | (with_reducible refine LeO.bind ?_ (fun _ => ?_))
      | exact ih0 _ _ _
      | exact instr_Read.mono _ _
      | exact tamisref02_Same.mono _ _ _
      | exact LeO.none _
      | refine LeO.ite ?_ ?_
      | refine LeO.bind ?_ (fun _ => ?_)
set_option maxHeartbeats 8000000 in
set_option maxRecDepth 100000 in
theorem tamislaw02_InstrJoins.calls (k : Nat) (A0 : Option Addr) (c0 : Nat) (l0 : List (S39)) (A1 : Option Addr) (c1 : Nat) (l1 : List (S39)) (r : Bool) (w : World) (hr0 : Kd.C k39 w A0 l0.length l0) (hc0 : l0.length ≤ c0) (hr1 : Kd.C k39 w A1 l1.length l1) (hc1 : l1.length ≤ c1) (h : tamislaw02_InstrJoins.f k l0 l1 = some r) :
    Calls Try.prog 6 #[.slice A0 l0.length c0, .slice A1 l1.length c1] w fun e w' => e = .returned (.bool r) ∧ Below w.heap.size w w' := by
  have HR0 := Aside0.mk hr0
  have HC0 := Aside0.mk hc0
  clear hr0 hc0
  have HR1 := Aside0.mk hr1
  have HC1 := Aside0.mk hc1
  clear hr1 hc1
  have HB := Aside0.mk (Below.refl w.heap.size w)
  have H : ((awake02.f).bind fun t171 => (if t171 = true then (if (l0.length : Int) = 0 then (tamislaw02_InstrJoins.j0 k l0 l1 true) else (if (l1.length : Int) = 0 then (tamislaw02_InstrJoins.j0 k l0 l1 true) else (tamislaw02_InstrJoins.j0 k l0 l1 (decide ((wrap64 ((l0.length : Int) + (l1.length : Int))) > 300))))) else (tamislaw02_InstrJoins.j0 k l0 l1 true))) = some r := h
  clear h
  have HC3 := Aside0.mk H
  clear H
  go_enter Try.func6, Try.ntmps6
  go_upto_region 1 with (fail)
  go_cut [30] (fun v30 wc => ∃ (kq : Nat) (x30_2 : Bool), v30 = .bool x30_2 ∧ Aside0 (tamislaw02_InstrJoins.j0 kq l0 l1 x30_2 = some r) ∧ Aside0 (kq ≤ k) ∧ Aside0 (Below w.heap.size w wc))
  case first =>
    have H := HC3.out
    clear HC3
    replace H := Option.bind_eq_some_iff.mp H
    obtain ⟨t171, A40, H⟩ := H
    replace H : (if t171 = true then (if (l0.length : Int) = 0 then (tamislaw02_InstrJoins.j0 k l0 l1 true) else (if (l1.length : Int) = 0 then (tamislaw02_InstrJoins.j0 k l0 l1 true) else (tamislaw02_InstrJoins.j0 k l0 l1 (decide ((wrap64 ((l0.length : Int) + (l1.length : Int))) > 300))))) else (tamislaw02_InstrJoins.j0 k l0 l1 true)) = some r := H
    have A4 := Aside0.mk A40
    clear A40
    by_cases c5 : t171 = true
    · subst c5
      have H1 : (if (l0.length : Int) = 0 then (tamislaw02_InstrJoins.j0 k l0 l1 true) else (if (l1.length : Int) = 0 then (tamislaw02_InstrJoins.j0 k l0 l1 true) else (tamislaw02_InstrJoins.j0 k l0 l1 (decide ((wrap64 ((l0.length : Int) + (l1.length : Int))) > 300))))) = some r := by rw [if_pos rfl] at H; exact H
      clear H
      have H := H1
      clear H1
      by_cases c6 : (l0.length : Int) = 0
      · rw [if_pos c6] at H
        have c6b0 : ((l0.length : Int) == 0) = true := beq_iff_eq.mpr c6
        have c6b1 : ((l0.length : Int) != 0) = false := bne_eq_false_iff_eq.mpr c6
        clear c6
        (first | rw [c6b0] | (simp only [i64_w, i32_w]; rw [c6b0]) | skip)
        have H' := Aside0.mk H
        clear H
        go_wp2_with (first | ((with_reducible refine gate_callee (f := 8) rfl ?_); refine goesL_ (some 11) rfl rfl Try.func8 (by kernel_rfl) rfl #[] rfl (by (try simp only [List.map_toArray, List.map_cons, List.map_nil]); first | done | rfl | (simp only [List.length_drop, List.length_take]; rfl)) ?_; (with_reducible refine (awake02.calls  true _ A4.out).mono ?_); rintro e w7 ⟨rfl, hb⟩; refine ⟨_, rfl, ?_⟩; have n0_ := Aside0.mk (below_step (by repeat (first | (with_reducible first | exact HB.out | apply below_alloc | apply pw_below_drewN | apply below_drew1) | exact HB.out)) hb); clear HB; have HB := n0_; clear n0_; (try clear hb); (try clear hb2); (try clear hk); (try clear hi)))
        go_meet
        case rel => exact ⟨_, (true), (by first | rfl | (simp; done) | (simp [*]; done)), H', ⟨by first | omega | exact Nat.le_refl _⟩, ⟨by repeat (first | (with_reducible first | exact HB.out | apply below_alloc | apply pw_below_drewN | apply below_drew1) | exact HB.out)⟩⟩
      · rw [if_neg c6] at H
        have c6b0 : ((l0.length : Int) == 0) = false := beq_eq_false_iff_ne.mpr c6
        have c6b1 : ((l0.length : Int) != 0) = true := bne_iff_ne.mpr c6
        have c6b2 : ¬ (l0 = []) := fun h_ => c6 (by rw [h_]; rfl)
        (first | rw [c6b0] | (simp only [i64_w, i32_w]; rw [c6b0]) | skip)
        by_cases c8 : (l1.length : Int) = 0
        · rw [if_pos c8] at H
          have c8b0 : ((l1.length : Int) == 0) = true := beq_iff_eq.mpr c8
          have c8b1 : ((l1.length : Int) != 0) = false := bne_eq_false_iff_eq.mpr c8
          clear c8
          have H' := Aside0.mk H
          clear H
          go_wp2_with (first | ((with_reducible refine gate_callee (f := 8) rfl ?_); refine goesL_ (some 11) rfl rfl Try.func8 (by kernel_rfl) rfl #[] rfl (by (try simp only [List.map_toArray, List.map_cons, List.map_nil]); first | done | rfl | (simp only [List.length_drop, List.length_take]; rfl)) ?_; (with_reducible refine (awake02.calls  true _ A4.out).mono ?_); rintro e w9 ⟨rfl, hb⟩; refine ⟨_, rfl, ?_⟩; have n0_ := Aside0.mk (below_step (by repeat (first | (with_reducible first | exact HB.out | apply below_alloc | apply pw_below_drewN | apply below_drew1) | exact HB.out)) hb); clear HB; have HB := n0_; clear n0_; (try clear hb); (try clear hb2); (try clear hk); (try clear hi)))
          go_meet
          case rel => exact ⟨_, (true), (by first | rfl | (simp; done) | (simp [*]; done)), H', ⟨by first | omega | exact Nat.le_refl _⟩, ⟨by repeat (first | (with_reducible first | exact HB.out | apply below_alloc | apply pw_below_drewN | apply below_drew1) | exact HB.out)⟩⟩
        · rw [if_neg c8] at H
          have c8b0 : ((l1.length : Int) == 0) = false := beq_eq_false_iff_ne.mpr c8
          have c8b1 : ((l1.length : Int) != 0) = true := bne_iff_ne.mpr c8
          have c8b2 : ¬ (l1 = []) := fun h_ => c8 (by rw [h_]; rfl)
          have H' := Aside0.mk H
          clear H
          go_wp2_with (first | ((with_reducible refine gate_callee (f := 8) rfl ?_); refine goesL_ (some 11) rfl rfl Try.func8 (by kernel_rfl) rfl #[] rfl (by (try simp only [List.map_toArray, List.map_cons, List.map_nil]); first | done | rfl | (simp only [List.length_drop, List.length_take]; rfl)) ?_; (with_reducible refine (awake02.calls  true _ A4.out).mono ?_); rintro e w10 ⟨rfl, hb⟩; refine ⟨_, rfl, ?_⟩; have n0_ := Aside0.mk (below_step (by repeat (first | (with_reducible first | exact HB.out | apply below_alloc | apply pw_below_drewN | apply below_drew1) | exact HB.out)) hb); clear HB; have HB := n0_; clear n0_; (try clear hb); (try clear hb2); (try clear hk); (try clear hi)))
          go_meet
          case rel => exact ⟨_, (decide ((wrap64 ((l0.length : Int) + (l1.length : Int))) > 300)), (by first | rfl | (simp; done) | (simp [*]; done)), H', ⟨by first | omega | exact Nat.le_refl _⟩, ⟨by repeat (first | (with_reducible first | exact HB.out | apply below_alloc | apply pw_below_drewN | apply below_drew1) | exact HB.out)⟩⟩
    · replace c5 := Bool.eq_false_iff.mpr c5
      subst c5
      have H1 : (tamislaw02_InstrJoins.j0 k l0 l1 true) = some r := by rw [if_neg (show ¬ (false = true) by decide)] at H; exact H
      clear H
      have H := H1
      clear H1
      have H' := Aside0.mk H
      clear H
      go_wp2_with (first | ((with_reducible refine gate_callee (f := 8) rfl ?_); refine goesL_ (some 11) rfl rfl Try.func8 (by kernel_rfl) rfl #[] rfl (by (try simp only [List.map_toArray, List.map_cons, List.map_nil]); first | done | rfl | (simp only [List.length_drop, List.length_take]; rfl)) ?_; (with_reducible refine (awake02.calls  false _ A4.out).mono ?_); rintro e w11 ⟨rfl, hb⟩; refine ⟨_, rfl, ?_⟩; have n0_ := Aside0.mk (below_step (by repeat (first | (with_reducible first | exact HB.out | apply below_alloc | apply pw_below_drewN | apply below_drew1) | exact HB.out)) hb); clear HB; have HB := n0_; clear n0_; (try clear hb); (try clear hb2); (try clear hk); (try clear hi)))
      go_meet
      case rel => exact ⟨_, (true), (by first | rfl | (simp; done) | (simp [*]; done)), H', ⟨by first | omega | exact Nat.le_refl _⟩, ⟨by repeat (first | (with_reducible first | exact HB.out | apply below_alloc | apply pw_below_drewN | apply below_drew1) | exact HB.out)⟩⟩
  case rest =>
    clear HC3
    try clear c1
    try clear p2
    try clear c5
    try clear c6
    try clear c6b0
    try clear c6b1
    try clear c6b2
    try clear p6
    try clear c8
    try clear c8b0
    try clear c8b1
    try clear c8b2
    obtain ⟨kq, x30_2, rfl, HA, HJ2, HB⟩ := hcut
    cases kq with
    | zero => exact absurd HA.out (by simp [tamislaw02_InstrJoins.j0])
    | succ kj2 =>
      have H := HA.out
      clear HA
      simp only [tamislaw02_InstrJoins.j0] at H
      by_cases c12 : x30_2 = true
      · subst c12
        have H1 : ((awake02.f).bind fun t172 => (some t172)) = some r := by rw [if_pos rfl] at H; exact H
        clear H
        have H := H1
        clear H1
        replace H := Option.bind_eq_some_iff.mp H
        obtain ⟨t172, A130, H⟩ := H
        replace H : (some t172) = some r := H
        have A13 := Aside0.mk A130
        clear A130
        obtain rfl := Option.some.inj H
        go_wp2_with (first | ((with_reducible refine gate_callee (f := 8) rfl ?_); refine goesL_ (some 31) rfl rfl Try.func8 (by kernel_rfl) rfl #[] rfl (by (try simp only [List.map_toArray, List.map_cons, List.map_nil]); first | done | rfl | (simp only [List.length_drop, List.length_take]; rfl)) ?_; (with_reducible refine (awake02.calls  t172 _ A13.out).mono ?_); rintro e w14 ⟨rfl, hb⟩; refine ⟨_, rfl, ?_⟩; have n0_ := Aside0.mk (below_step (by repeat (first | (with_reducible first | exact HB.out | apply below_alloc | apply pw_below_drewN | apply below_drew1) | exact HB.out)) hb); clear HB; have HB := n0_; clear n0_; (try clear hb); (try clear hb2); (try clear hk); (try clear hi)))
        go_ret
        exact ⟨by first | rfl | (simp [errW_none, errW_some] <;> rfl) | (simp [*, errW_none, errW_some] <;> rfl), by repeat (first | (with_reducible first | exact HB.out | apply below_alloc | apply pw_below_drewN | apply below_drew1) | exact HB.out)⟩
      · replace c12 := Bool.eq_false_iff.mpr c12
        subst c12
        have H1 : ((instr_Print.f l0).bind fun bt173 => ((instr_Print.f l1).bind fun bt175 => (if bt173.1.size + bt175.1.size ≤ 9223372036854775807 then ((instr_Read.f kj2 (bt173.1 ++ bt175.1)).bind fun bt177 => (if bt177.2 = 0 then ((some (([] : List (S39)) : List (S39))).bind fun y181 => (if y181.length + l0.length < 17592186044416 then ((some (y181 ++ l0 : List (S39))).bind fun y184 => (if y184.length + l1.length < 17592186044416 then ((tamisref02_Same.f kj2 bt177.1 (y184 ++ l1)).bind fun t190 => (if t190 = true then ((tamisref02_Same.f kj2 l0 l1).bind fun t191 => (some ((bt173.1.toList == bt175.1.toList) == t191))) else (some false))) else (none))) else (none))) else (some false))) else (none)))) = some r := by rw [if_neg (show ¬ (false = true) by decide)] at H; exact H
        clear H
        have H := H1
        clear H1
        replace H := Option.bind_eq_some_iff.mp H
        obtain ⟨⟨t173, t174⟩, A150, H⟩ := H
        replace H : ((instr_Print.f l1).bind fun bt175 => (if t173.size + bt175.1.size ≤ 9223372036854775807 then ((instr_Read.f kj2 (t173 ++ bt175.1)).bind fun bt177 => (if bt177.2 = 0 then ((some (([] : List (S39)) : List (S39))).bind fun y181 => (if y181.length + l0.length < 17592186044416 then ((some (y181 ++ l0 : List (S39))).bind fun y184 => (if y184.length + l1.length < 17592186044416 then ((tamisref02_Same.f kj2 bt177.1 (y184 ++ l1)).bind fun t190 => (if t190 = true then ((tamisref02_Same.f kj2 l0 l1).bind fun t191 => (some ((t173.toList == bt175.1.toList) == t191))) else (some false))) else (none))) else (none))) else (some false))) else (none))) = some r := H
        have A15 := Aside0.mk A150
        clear A150
        replace H := Option.bind_eq_some_iff.mp H
        obtain ⟨⟨t175, t176⟩, A160, H⟩ := H
        replace H : (if t173.size + t175.size ≤ 9223372036854775807 then ((instr_Read.f kj2 (t173 ++ t175)).bind fun bt177 => (if bt177.2 = 0 then ((some (([] : List (S39)) : List (S39))).bind fun y181 => (if y181.length + l0.length < 17592186044416 then ((some (y181 ++ l0 : List (S39))).bind fun y184 => (if y184.length + l1.length < 17592186044416 then ((tamisref02_Same.f kj2 bt177.1 (y184 ++ l1)).bind fun t190 => (if t190 = true then ((tamisref02_Same.f kj2 l0 l1).bind fun t191 => (some ((t173.toList == t175.toList) == t191))) else (some false))) else (none))) else (none))) else (some false))) else (none)) = some r := H
        have A16 := Aside0.mk A160
        clear A160
        by_cases c17 : t173.size + t175.size ≤ 9223372036854775807
        · rw [if_pos c17] at H
          have c17b0 := eq_true c17
          have c17b1 : decide (t173.size + t175.size ≤ 9223372036854775807) = true := decide_eq_true c17
          try have c17b2 : (9223372036854775807 < t173.size + t175.size) = False := eq_false (Nat.not_lt.2 c17)
          replace H := Option.bind_eq_some_iff.mp H
          obtain ⟨⟨t177, t178⟩, A180, H⟩ := H
          replace H : (if t178 = 0 then ((some (([] : List (S39)) : List (S39))).bind fun y181 => (if y181.length + l0.length < 17592186044416 then ((some (y181 ++ l0 : List (S39))).bind fun y184 => (if y184.length + l1.length < 17592186044416 then ((tamisref02_Same.f kj2 t177 (y184 ++ l1)).bind fun t190 => (if t190 = true then ((tamisref02_Same.f kj2 l0 l1).bind fun t191 => (some ((t173.toList == t175.toList) == t191))) else (some false))) else (none))) else (none))) else (some false)) = some r := H
          have A18 := Aside0.mk A180
          clear A180
          by_cases c19 : t178 = 0
          · rw [if_pos c19] at H
            have c19b0 : (t178 == 0) = true := beq_iff_eq.mpr c19
            have c19b1 : (t178 != 0) = false := bne_eq_false_iff_eq.mpr c19
            clear c19
            obtain ⟨y181, hy181⟩ : ∃ y_ : List (S39), y_ = (([] : List (S39))) := ⟨_, rfl⟩
            replace H : (if y181.length + l0.length < 17592186044416 then ((some (y181 ++ l0 : List (S39))).bind fun y184 => (if y184.length + l1.length < 17592186044416 then ((tamisref02_Same.f kj2 t177 (y184 ++ l1)).bind fun t190 => (if t190 = true then ((tamisref02_Same.f kj2 l0 l1).bind fun t191 => (some ((t173.toList == t175.toList) == t191))) else (some false))) else (none))) else (none)) = some r := by first | (rw [hy181]; with_reducible exact H) | (have H2_ := (Option.bind_some _ _).symm.trans H; rw [hy181]; with_reducible exact H2_) | (have H2_ := (Option.bind_some _ _).symm.trans H; with_reducible exact H2_) | with_reducible exact H | (rw [hy181]; exact H) | exact H
            have Ny181 := Aside0.mk hy181
            clear hy181
            by_cases c20 : y181.length + l0.length < 17592186044416
            · rw [if_pos c20] at H
              have LMc20 := Aside0.mk c20
              clear c20
              obtain ⟨y184, hy184⟩ : ∃ y_ : List (S39), y_ = (y181 ++ l0) := ⟨_, rfl⟩
              replace H : (if y184.length + l1.length < 17592186044416 then ((tamisref02_Same.f kj2 t177 (y184 ++ l1)).bind fun t190 => (if t190 = true then ((tamisref02_Same.f kj2 l0 l1).bind fun t191 => (some ((t173.toList == t175.toList) == t191))) else (some false))) else (none)) = some r := by first | (rw [hy184]; with_reducible exact H) | (have H2_ := (Option.bind_some _ _).symm.trans H; rw [hy184]; with_reducible exact H2_) | (have H2_ := (Option.bind_some _ _).symm.trans H; with_reducible exact H2_) | with_reducible exact H | (rw [hy184]; exact H) | exact H
              have Ny184 := Aside0.mk hy184
              clear hy184
              by_cases c21 : y184.length + l1.length < 17592186044416
              · rw [if_pos c21] at H
                have LMc21 := Aside0.mk c21
                clear c21
                obtain ⟨y187, hy187⟩ : ∃ y_ : List (S39), y_ = (y184 ++ l1) := ⟨_, rfl⟩
                replace H : ((tamisref02_Same.f kj2 t177 y187).bind fun t190 => (if t190 = true then ((tamisref02_Same.f kj2 l0 l1).bind fun t191 => (some ((t173.toList == t175.toList) == t191))) else (some false))) = some r := by first | (rw [hy187]; with_reducible exact H) | (have H2_ := (Option.bind_some _ _).symm.trans H; rw [hy187]; with_reducible exact H2_) | (have H2_ := (Option.bind_some _ _).symm.trans H; with_reducible exact H2_) | with_reducible exact H | (rw [hy187]; exact H) | exact H
                have Ny187 := Aside0.mk hy187
                clear hy187
                replace H := Option.bind_eq_some_iff.mp H
                obtain ⟨t190, A220, H⟩ := H
                replace H : (if t190 = true then ((tamisref02_Same.f kj2 l0 l1).bind fun t191 => (some ((t173.toList == t175.toList) == t191))) else (some false)) = some r := H
                have A22 := Aside0.mk A220
                clear A220
                by_cases c23 : t190 = true
                · subst c23
                  have H1 : ((tamisref02_Same.f kj2 l0 l1).bind fun t191 => (some ((t173.toList == t175.toList) == t191))) = some r := by rw [if_pos rfl] at H; exact H
                  clear H
                  have H := H1
                  clear H1
                  replace H := Option.bind_eq_some_iff.mp H
                  obtain ⟨t191, A240, H⟩ := H
                  replace H : (some ((t173.toList == t175.toList) == t191)) = some r := H
                  have A24 := Aside0.mk A240
                  clear A240
                  obtain rfl := Option.some.inj H
                  go_wp2_with (first | ((with_reducible refine gate_callee (f := 12) rfl ?_); refine goesL_ (some 34) rfl rfl Try.func12 (by kernel_rfl) rfl #[.slice A0 l0.length c0] rfl (by (try simp only [List.map_toArray, List.map_cons, List.map_nil]); first | done | rfl | (simp only [List.length_drop, List.length_take]; rfl)) ?_; (with_reducible refine (instr_Print.calls _ _ l0 t173 t174 _ ?side1 ?side2 A15.out).mono ?_); (case side1 => repeat (first | exact (Kd.C_below HR0.out HB.out) | (with_reducible refine Kd.C_alloc ?_ _) | (with_reducible refine Kd.C_drewN ?_ _) | (with_reducible refine Kd.C_drew ?_))); (case side2 => exact HC0.out); rintro e w25 ⟨rfl, hb⟩; refine ⟨_, rfl, ?_⟩; have n0_ := Aside0.mk (below_step (by repeat (first | (with_reducible first | exact HB.out | apply below_alloc | apply pw_below_drewN | apply below_drew1) | exact HB.out)) hb); clear HB; have HB := n0_; clear n0_; (try clear hb); (try clear hb2); (try clear hk); (try clear hi)) | ((with_reducible refine gate_callee (f := 12) rfl ?_); refine goesL_ (some 39) rfl rfl Try.func12 (by kernel_rfl) rfl #[.slice A1 l1.length c1] rfl (by (try simp only [List.map_toArray, List.map_cons, List.map_nil]); first | done | rfl | (simp only [List.length_drop, List.length_take]; rfl)) ?_; (with_reducible refine (instr_Print.calls _ _ l1 t175 t176 _ ?side1 ?side2 A16.out).mono ?_); (case side1 => repeat (first | exact (Kd.C_below HR1.out HB.out) | (with_reducible refine Kd.C_alloc ?_ _) | (with_reducible refine Kd.C_drewN ?_ _) | (with_reducible refine Kd.C_drew ?_))); (case side2 => exact HC1.out); rintro e w26 ⟨rfl, hb⟩; refine ⟨_, rfl, ?_⟩; have n0_ := Aside0.mk (below_step (by repeat (first | (with_reducible first | exact HB.out | apply below_alloc | apply pw_below_drewN | apply below_drew1) | exact HB.out)) hb); clear HB; have HB := n0_; clear n0_; (try clear hb); (try clear hb2); (try clear hk); (try clear hi)) | ((with_reducible refine gate_callee (f := 9) rfl ?_); refine goesL_ (some 46) rfl rfl Try.func9 (by kernel_rfl) rfl #[.string (t173 ++ t175)] rfl (by (try simp only [List.map_toArray, List.map_cons, List.map_nil]); first | done | rfl | (simp only [List.length_drop, List.length_take]; rfl)) ?_; (with_reducible refine (instr_Read.calls kj2 (t173 ++ t175) t177 t178 _ A18.out).mono ?_); rintro e w27 ⟨v179, rfl, ho0, hb⟩; refine ⟨_, rfl, ?_⟩; have n0_ := Aside0.mk (Kd.R_lower ho0 (below_size (by repeat (first | (with_reducible first | exact HB.out | apply below_alloc | apply pw_below_drewN | apply below_drew1) | exact HB.out)))); have n1_ := Aside0.mk (below_step (by repeat (first | (with_reducible first | exact HB.out | apply below_alloc | apply pw_below_drewN | apply below_drew1) | exact HB.out)) hb); clear HB; have HO180 := n0_; have HB := n1_; clear n0_ n1_; (try clear hb); (try clear hb2); (try clear hk); (try clear hi); (try clear ho0)) | ((with_reducible refine gate_dst (N := 53) rfl ?_); (try (refine gate_guard (by rfl) ?_; dsimp only)); refine Kd.R_lit k39 _ 39 ?hg (N := 53) ?hd (xs := ([] : List (S39))) (inner := []) (ok := fun _ => True) (okp := fun _ => True) ?hr ?hp (fun _ hk => hk) trivial (Below.refl _ _) (Nat.le_refl _) (by simp) ?_; (case hd => rfl); (case hg => rfl); (case hr => first | (go_simp; done) | (go_simp; rfl)); (case hp => exact (Reps.none _ _)); intro v182 w28 ho29 hb hg_ hnew_; clear hg_ hnew_; (first | rw [← Ny181.out] at ho29 | (simp only [Int.reduceToNat] at ho29; rw [← Ny181.out] at ho29)); have n0_ := Aside0.mk (Kd.R_elder' (by (with_reducible repeat (first | apply Kd.R_alloc | apply Kd.R_drewN | apply Kd.R_drew)); exact HO180.out) (Kd.R_base ho29) hb); have n1_ := Aside0.mk (Kd.R_lower (Kd.R_new' ho29 (Kd.R_lt (by (with_reducible repeat (first | apply Kd.R_alloc | apply Kd.R_drewN | apply Kd.R_drew)); exact HO180.out))) (below_size (by repeat (first | (with_reducible first | exact HB.out | apply below_alloc | apply pw_below_drewN | apply below_drew1) | exact HB.out)))); have n2_ := Aside0.mk (below_step (by repeat (first | (with_reducible first | exact HB.out | apply below_alloc | apply pw_below_drewN | apply below_drew1) | exact HB.out)) hb); clear HO180; clear HB; have HO180 := n0_; have HO183 := n1_; have HB := n2_; clear n0_ n1_ n2_; clear hb ho29) | ((with_reducible refine gate_builtin (b := .append) (xs := #[.tmp 53, .tmp 54]) rfl ?_); (try (refine gate_guard (by rfl) ?_; dsimp only)); at_builtin; refine Kd.R_append_rows k39 (w0 := w) w.heap.size rfl (.tmp 53) (.tmp 54) 23 39 (.agg #[(.int .u16 0), (.int .u8 0), (.int .u8 0), (.int .u32 0)]) 8 rfl Try.underlying23 info39 rfl (by decide) (by omega) v182 y181 l0 _ _ _ (fun k_ => some k_ ≠ (v179 : Value).ownBlock) (fun _ => False) rfl rfl ?aO ?aR (fun _ _ h => h) (fun _ h => h.elim) ?aF ?aB ?aS ?aL ?_; (case aR => repeat (first | exact (Kd.C_below HR0.out HB.out) | (with_reducible refine Kd.C_alloc ?_ _) | (with_reducible refine Kd.C_drewN ?_ _) | (with_reducible refine Kd.C_drew ?_))); (case aB => exact (by repeat (first | (with_reducible first | exact HB.out | apply below_alloc | apply pw_below_drewN | apply below_drew1) | exact HB.out))); (case aF => exact (fun k_ hk => Kd.fresh' (Kd.R_lt (by (with_reducible repeat (first | apply Kd.R_alloc | apply Kd.R_drewN | apply Kd.R_drew)); exact HO180.out)) k_ hk)); (case aO => exact (by (with_reducible repeat (first | apply Kd.R_alloc | apply Kd.R_drewN | apply Kd.R_drew)); exact Kd.R_mono HO183.out (fun _ hk => hk.2))); (case aS => exact (below_size (by repeat (first | (with_reducible first | exact HB.out | apply below_alloc | apply pw_below_drewN | apply below_drew1) | exact HB.out)))); (case aL => have := LMc20.out; omega); intro v185 w30 ho hb hg hat; rw [← Ny184.out] at ho; have n0_ := Aside0.mk (Kd.R_after (ok := (fun _ => True)) (by (with_reducible repeat (first | apply Kd.R_alloc | apply Kd.R_drewN | apply Kd.R_drew)); exact HO180.out) hg hat); have n1_ := Aside0.mk (hb); have n2_ := Aside0.mk (ho); clear HO180; clear HB; clear HO183; have HO180 := n0_; have HB := n1_; have HO186 := n2_; clear n0_ n1_ n2_; clear ho hb hg hat) | ((with_reducible refine gate_builtin (b := .append) (xs := #[.tmp 55, .tmp 56]) rfl ?_); (try (refine gate_guard (by rfl) ?_; dsimp only)); at_builtin; refine Kd.R_append_rows k39 (w0 := w) w.heap.size rfl (.tmp 55) (.tmp 56) 23 39 (.agg #[(.int .u16 0), (.int .u8 0), (.int .u8 0), (.int .u32 0)]) 8 rfl Try.underlying23 info39 rfl (by decide) (by omega) v185 y184 l1 _ _ _ (fun k_ => some k_ ≠ (v179 : Value).ownBlock) (fun _ => False) rfl rfl ?aO ?aR (fun _ _ h => h) (fun _ h => h.elim) ?aF ?aB ?aS ?aL ?_; (case aR => repeat (first | exact (Kd.C_below HR1.out HB.out) | (with_reducible refine Kd.C_alloc ?_ _) | (with_reducible refine Kd.C_drewN ?_ _) | (with_reducible refine Kd.C_drew ?_))); (case aB => exact (by repeat (first | (with_reducible first | exact HB.out | apply below_alloc | apply pw_below_drewN | apply below_drew1) | exact HB.out))); (case aF => exact (fun k_ hk => Kd.fresh' (Kd.R_lt (by (with_reducible repeat (first | apply Kd.R_alloc | apply Kd.R_drewN | apply Kd.R_drew)); exact HO180.out)) k_ hk)); (case aO => exact (by (with_reducible repeat (first | apply Kd.R_alloc | apply Kd.R_drewN | apply Kd.R_drew)); exact HO186.out)); (case aS => exact (below_size (by repeat (first | (with_reducible first | exact HB.out | apply below_alloc | apply pw_below_drewN | apply below_drew1) | exact HB.out)))); (case aL => have := LMc21.out; omega); intro v188 w31 ho hb hg hat; rw [← Ny187.out] at ho; have n0_ := Aside0.mk (Kd.R_after (ok := (fun _ => True)) (by (with_reducible repeat (first | apply Kd.R_alloc | apply Kd.R_drewN | apply Kd.R_drew)); exact HO180.out) hg hat); have n1_ := Aside0.mk (hb); have n2_ := Aside0.mk (ho); clear HO180; clear HB; clear HO186; have HO180 := n0_; have HB := n1_; have HO189 := n2_; clear n0_ n1_ n2_; clear ho hb hg hat; obtain ⟨Ao32, co32, eo32⟩ := Kd.R_slice HO180.out; subst eo32; obtain ⟨Ao33, co33, eo33⟩ := Kd.R_slice HO189.out; subst eo33) | (go_at_call 11; (with_reducible refine (tamisref02_Same.calls kj2 _ _ t177 _ _ y187 true _ ?side1 ?side2 ?side3 ?side4 A22.out).mono ?_); (case side1 => repeat (first | exact (Kd.R_reads' HO180.out).2.2 | (with_reducible refine Kd.C_alloc ?_ _) | (with_reducible refine Kd.C_drewN ?_ _) | (with_reducible refine Kd.C_drew ?_))); (case side2 => exact (Kd.R_reads' HO180.out).2.1); (case side3 => repeat (first | exact (Kd.R_reads' HO189.out).2.2 | (with_reducible refine Kd.C_alloc ?_ _) | (with_reducible refine Kd.C_drewN ?_ _) | (with_reducible refine Kd.C_drew ?_))); (case side4 => exact (Kd.R_reads' HO189.out).2.1); rintro e w' ⟨rfl, ⟨nd, rfl⟩⟩) | (go_at_call 11; (with_reducible refine (tamisref02_Same.calls kj2 _ _ l0 _ _ l1 t191 _ ?side1 ?side2 ?side3 ?side4 A24.out).mono ?_); (case side1 => repeat (first | exact (Kd.C_below HR0.out (by repeat (first | (with_reducible first | exact HB.out | apply below_alloc | apply pw_below_drewN | apply below_drew1) | exact HB.out))) | (with_reducible refine Kd.C_alloc ?_ _) | (with_reducible refine Kd.C_drewN ?_ _) | (with_reducible refine Kd.C_drew ?_))); (case side2 => exact HC0.out); (case side3 => repeat (first | exact (Kd.C_below HR1.out (by repeat (first | (with_reducible first | exact HB.out | apply below_alloc | apply pw_below_drewN | apply below_drew1) | exact HB.out))) | (with_reducible refine Kd.C_alloc ?_ _) | (with_reducible refine Kd.C_drewN ?_ _) | (with_reducible refine Kd.C_drew ?_))); (case side4 => exact HC1.out); rintro e w' ⟨rfl, ⟨nd, rfl⟩⟩))
                  go_ret
                  exact ⟨by first | rfl | (simp [errW_none, errW_some] <;> rfl) | (simp [*, errW_none, errW_some] <;> rfl), by repeat (first | (with_reducible first | exact HB.out | apply below_alloc | apply pw_below_drewN | apply below_drew1) | exact HB.out)⟩
                · replace c23 := Bool.eq_false_iff.mpr c23
                  subst c23
                  have H1 : (some false) = some r := by rw [if_neg (show ¬ (false = true) by decide)] at H; exact H
                  clear H
                  have H := H1
                  clear H1
                  obtain rfl := Option.some.inj H
                  go_wp2_with (first | ((with_reducible refine gate_callee (f := 12) rfl ?_); refine goesL_ (some 34) rfl rfl Try.func12 (by kernel_rfl) rfl #[.slice A0 l0.length c0] rfl (by (try simp only [List.map_toArray, List.map_cons, List.map_nil]); first | done | rfl | (simp only [List.length_drop, List.length_take]; rfl)) ?_; (with_reducible refine (instr_Print.calls _ _ l0 t173 t174 _ ?side1 ?side2 A15.out).mono ?_); (case side1 => repeat (first | exact (Kd.C_below HR0.out HB.out) | (with_reducible refine Kd.C_alloc ?_ _) | (with_reducible refine Kd.C_drewN ?_ _) | (with_reducible refine Kd.C_drew ?_))); (case side2 => exact HC0.out); rintro e w34 ⟨rfl, hb⟩; refine ⟨_, rfl, ?_⟩; have n0_ := Aside0.mk (below_step (by repeat (first | (with_reducible first | exact HB.out | apply below_alloc | apply pw_below_drewN | apply below_drew1) | exact HB.out)) hb); clear HB; have HB := n0_; clear n0_; (try clear hb); (try clear hb2); (try clear hk); (try clear hi)) | ((with_reducible refine gate_callee (f := 12) rfl ?_); refine goesL_ (some 39) rfl rfl Try.func12 (by kernel_rfl) rfl #[.slice A1 l1.length c1] rfl (by (try simp only [List.map_toArray, List.map_cons, List.map_nil]); first | done | rfl | (simp only [List.length_drop, List.length_take]; rfl)) ?_; (with_reducible refine (instr_Print.calls _ _ l1 t175 t176 _ ?side1 ?side2 A16.out).mono ?_); (case side1 => repeat (first | exact (Kd.C_below HR1.out HB.out) | (with_reducible refine Kd.C_alloc ?_ _) | (with_reducible refine Kd.C_drewN ?_ _) | (with_reducible refine Kd.C_drew ?_))); (case side2 => exact HC1.out); rintro e w35 ⟨rfl, hb⟩; refine ⟨_, rfl, ?_⟩; have n0_ := Aside0.mk (below_step (by repeat (first | (with_reducible first | exact HB.out | apply below_alloc | apply pw_below_drewN | apply below_drew1) | exact HB.out)) hb); clear HB; have HB := n0_; clear n0_; (try clear hb); (try clear hb2); (try clear hk); (try clear hi)) | ((with_reducible refine gate_callee (f := 9) rfl ?_); refine goesL_ (some 46) rfl rfl Try.func9 (by kernel_rfl) rfl #[.string (t173 ++ t175)] rfl (by (try simp only [List.map_toArray, List.map_cons, List.map_nil]); first | done | rfl | (simp only [List.length_drop, List.length_take]; rfl)) ?_; (with_reducible refine (instr_Read.calls kj2 (t173 ++ t175) t177 t178 _ A18.out).mono ?_); rintro e w36 ⟨v179, rfl, ho0, hb⟩; refine ⟨_, rfl, ?_⟩; have n0_ := Aside0.mk (Kd.R_lower ho0 (below_size (by repeat (first | (with_reducible first | exact HB.out | apply below_alloc | apply pw_below_drewN | apply below_drew1) | exact HB.out)))); have n1_ := Aside0.mk (below_step (by repeat (first | (with_reducible first | exact HB.out | apply below_alloc | apply pw_below_drewN | apply below_drew1) | exact HB.out)) hb); clear HB; have HO180 := n0_; have HB := n1_; clear n0_ n1_; (try clear hb); (try clear hb2); (try clear hk); (try clear hi); (try clear ho0)) | ((with_reducible refine gate_dst (N := 53) rfl ?_); (try (refine gate_guard (by rfl) ?_; dsimp only)); refine Kd.R_lit k39 _ 39 ?hg (N := 53) ?hd (xs := ([] : List (S39))) (inner := []) (ok := fun _ => True) (okp := fun _ => True) ?hr ?hp (fun _ hk => hk) trivial (Below.refl _ _) (Nat.le_refl _) (by simp) ?_; (case hd => rfl); (case hg => rfl); (case hr => first | (go_simp; done) | (go_simp; rfl)); (case hp => exact (Reps.none _ _)); intro v182 w37 ho38 hb hg_ hnew_; clear hg_ hnew_; (first | rw [← Ny181.out] at ho38 | (simp only [Int.reduceToNat] at ho38; rw [← Ny181.out] at ho38)); have n0_ := Aside0.mk (Kd.R_elder' (by (with_reducible repeat (first | apply Kd.R_alloc | apply Kd.R_drewN | apply Kd.R_drew)); exact HO180.out) (Kd.R_base ho38) hb); have n1_ := Aside0.mk (Kd.R_lower (Kd.R_new' ho38 (Kd.R_lt (by (with_reducible repeat (first | apply Kd.R_alloc | apply Kd.R_drewN | apply Kd.R_drew)); exact HO180.out))) (below_size (by repeat (first | (with_reducible first | exact HB.out | apply below_alloc | apply pw_below_drewN | apply below_drew1) | exact HB.out)))); have n2_ := Aside0.mk (below_step (by repeat (first | (with_reducible first | exact HB.out | apply below_alloc | apply pw_below_drewN | apply below_drew1) | exact HB.out)) hb); clear HO180; clear HB; have HO180 := n0_; have HO183 := n1_; have HB := n2_; clear n0_ n1_ n2_; clear hb ho38) | ((with_reducible refine gate_builtin (b := .append) (xs := #[.tmp 53, .tmp 54]) rfl ?_); (try (refine gate_guard (by rfl) ?_; dsimp only)); at_builtin; refine Kd.R_append_rows k39 (w0 := w) w.heap.size rfl (.tmp 53) (.tmp 54) 23 39 (.agg #[(.int .u16 0), (.int .u8 0), (.int .u8 0), (.int .u32 0)]) 8 rfl Try.underlying23 info39 rfl (by decide) (by omega) v182 y181 l0 _ _ _ (fun k_ => some k_ ≠ (v179 : Value).ownBlock) (fun _ => False) rfl rfl ?aO ?aR (fun _ _ h => h) (fun _ h => h.elim) ?aF ?aB ?aS ?aL ?_; (case aR => repeat (first | exact (Kd.C_below HR0.out HB.out) | (with_reducible refine Kd.C_alloc ?_ _) | (with_reducible refine Kd.C_drewN ?_ _) | (with_reducible refine Kd.C_drew ?_))); (case aB => exact (by repeat (first | (with_reducible first | exact HB.out | apply below_alloc | apply pw_below_drewN | apply below_drew1) | exact HB.out))); (case aF => exact (fun k_ hk => Kd.fresh' (Kd.R_lt (by (with_reducible repeat (first | apply Kd.R_alloc | apply Kd.R_drewN | apply Kd.R_drew)); exact HO180.out)) k_ hk)); (case aO => exact (by (with_reducible repeat (first | apply Kd.R_alloc | apply Kd.R_drewN | apply Kd.R_drew)); exact Kd.R_mono HO183.out (fun _ hk => hk.2))); (case aS => exact (below_size (by repeat (first | (with_reducible first | exact HB.out | apply below_alloc | apply pw_below_drewN | apply below_drew1) | exact HB.out)))); (case aL => have := LMc20.out; omega); intro v185 w39 ho hb hg hat; rw [← Ny184.out] at ho; have n0_ := Aside0.mk (Kd.R_after (ok := (fun _ => True)) (by (with_reducible repeat (first | apply Kd.R_alloc | apply Kd.R_drewN | apply Kd.R_drew)); exact HO180.out) hg hat); have n1_ := Aside0.mk (hb); have n2_ := Aside0.mk (ho); clear HO180; clear HB; clear HO183; have HO180 := n0_; have HB := n1_; have HO186 := n2_; clear n0_ n1_ n2_; clear ho hb hg hat) | ((with_reducible refine gate_builtin (b := .append) (xs := #[.tmp 55, .tmp 56]) rfl ?_); (try (refine gate_guard (by rfl) ?_; dsimp only)); at_builtin; refine Kd.R_append_rows k39 (w0 := w) w.heap.size rfl (.tmp 55) (.tmp 56) 23 39 (.agg #[(.int .u16 0), (.int .u8 0), (.int .u8 0), (.int .u32 0)]) 8 rfl Try.underlying23 info39 rfl (by decide) (by omega) v185 y184 l1 _ _ _ (fun k_ => some k_ ≠ (v179 : Value).ownBlock) (fun _ => False) rfl rfl ?aO ?aR (fun _ _ h => h) (fun _ h => h.elim) ?aF ?aB ?aS ?aL ?_; (case aR => repeat (first | exact (Kd.C_below HR1.out HB.out) | (with_reducible refine Kd.C_alloc ?_ _) | (with_reducible refine Kd.C_drewN ?_ _) | (with_reducible refine Kd.C_drew ?_))); (case aB => exact (by repeat (first | (with_reducible first | exact HB.out | apply below_alloc | apply pw_below_drewN | apply below_drew1) | exact HB.out))); (case aF => exact (fun k_ hk => Kd.fresh' (Kd.R_lt (by (with_reducible repeat (first | apply Kd.R_alloc | apply Kd.R_drewN | apply Kd.R_drew)); exact HO180.out)) k_ hk)); (case aO => exact (by (with_reducible repeat (first | apply Kd.R_alloc | apply Kd.R_drewN | apply Kd.R_drew)); exact HO186.out)); (case aS => exact (below_size (by repeat (first | (with_reducible first | exact HB.out | apply below_alloc | apply pw_below_drewN | apply below_drew1) | exact HB.out)))); (case aL => have := LMc21.out; omega); intro v188 w40 ho hb hg hat; rw [← Ny187.out] at ho; have n0_ := Aside0.mk (Kd.R_after (ok := (fun _ => True)) (by (with_reducible repeat (first | apply Kd.R_alloc | apply Kd.R_drewN | apply Kd.R_drew)); exact HO180.out) hg hat); have n1_ := Aside0.mk (hb); have n2_ := Aside0.mk (ho); clear HO180; clear HB; clear HO186; have HO180 := n0_; have HB := n1_; have HO189 := n2_; clear n0_ n1_ n2_; clear ho hb hg hat; obtain ⟨Ao41, co41, eo41⟩ := Kd.R_slice HO180.out; subst eo41; obtain ⟨Ao42, co42, eo42⟩ := Kd.R_slice HO189.out; subst eo42) | (go_at_call 11; (with_reducible refine (tamisref02_Same.calls kj2 _ _ t177 _ _ y187 false _ ?side1 ?side2 ?side3 ?side4 A22.out).mono ?_); (case side1 => repeat (first | exact (Kd.R_reads' HO180.out).2.2 | (with_reducible refine Kd.C_alloc ?_ _) | (with_reducible refine Kd.C_drewN ?_ _) | (with_reducible refine Kd.C_drew ?_))); (case side2 => exact (Kd.R_reads' HO180.out).2.1); (case side3 => repeat (first | exact (Kd.R_reads' HO189.out).2.2 | (with_reducible refine Kd.C_alloc ?_ _) | (with_reducible refine Kd.C_drewN ?_ _) | (with_reducible refine Kd.C_drew ?_))); (case side4 => exact (Kd.R_reads' HO189.out).2.1); rintro e w' ⟨rfl, ⟨nd, rfl⟩⟩))
                  go_ret
                  exact ⟨by first | rfl | (simp [errW_none, errW_some] <;> rfl) | (simp [*, errW_none, errW_some] <;> rfl), by repeat (first | (with_reducible first | exact HB.out | apply below_alloc | apply pw_below_drewN | apply below_drew1) | exact HB.out)⟩
              · rw [if_neg c21] at H
                exact absurd H (by simp)
            · rw [if_neg c20] at H
              exact absurd H (by simp)
          · rw [if_neg c19] at H
            have c19b0 : (t178 == 0) = false := beq_eq_false_iff_ne.mpr c19
            have c19b1 : (t178 != 0) = true := bne_iff_ne.mpr c19
            obtain rfl := Option.some.inj H
            go_wp2_with (first | ((with_reducible refine gate_callee (f := 12) rfl ?_); refine goesL_ (some 34) rfl rfl Try.func12 (by kernel_rfl) rfl #[.slice A0 l0.length c0] rfl (by (try simp only [List.map_toArray, List.map_cons, List.map_nil]); first | done | rfl | (simp only [List.length_drop, List.length_take]; rfl)) ?_; (with_reducible refine (instr_Print.calls _ _ l0 t173 t174 _ ?side1 ?side2 A15.out).mono ?_); (case side1 => repeat (first | exact (Kd.C_below HR0.out HB.out) | (with_reducible refine Kd.C_alloc ?_ _) | (with_reducible refine Kd.C_drewN ?_ _) | (with_reducible refine Kd.C_drew ?_))); (case side2 => exact HC0.out); rintro e w43 ⟨rfl, hb⟩; refine ⟨_, rfl, ?_⟩; have n0_ := Aside0.mk (below_step (by repeat (first | (with_reducible first | exact HB.out | apply below_alloc | apply pw_below_drewN | apply below_drew1) | exact HB.out)) hb); clear HB; have HB := n0_; clear n0_; (try clear hb); (try clear hb2); (try clear hk); (try clear hi)) | ((with_reducible refine gate_callee (f := 12) rfl ?_); refine goesL_ (some 39) rfl rfl Try.func12 (by kernel_rfl) rfl #[.slice A1 l1.length c1] rfl (by (try simp only [List.map_toArray, List.map_cons, List.map_nil]); first | done | rfl | (simp only [List.length_drop, List.length_take]; rfl)) ?_; (with_reducible refine (instr_Print.calls _ _ l1 t175 t176 _ ?side1 ?side2 A16.out).mono ?_); (case side1 => repeat (first | exact (Kd.C_below HR1.out HB.out) | (with_reducible refine Kd.C_alloc ?_ _) | (with_reducible refine Kd.C_drewN ?_ _) | (with_reducible refine Kd.C_drew ?_))); (case side2 => exact HC1.out); rintro e w44 ⟨rfl, hb⟩; refine ⟨_, rfl, ?_⟩; have n0_ := Aside0.mk (below_step (by repeat (first | (with_reducible first | exact HB.out | apply below_alloc | apply pw_below_drewN | apply below_drew1) | exact HB.out)) hb); clear HB; have HB := n0_; clear n0_; (try clear hb); (try clear hb2); (try clear hk); (try clear hi)) | ((with_reducible refine gate_callee (f := 9) rfl ?_); refine goesL_ (some 46) rfl rfl Try.func9 (by kernel_rfl) rfl #[.string (t173 ++ t175)] rfl (by (try simp only [List.map_toArray, List.map_cons, List.map_nil]); first | done | rfl | (simp only [List.length_drop, List.length_take]; rfl)) ?_; (with_reducible refine (instr_Read.calls kj2 (t173 ++ t175) t177 t178 _ A18.out).mono ?_); rintro e w45 ⟨v179, rfl, ho0, hb⟩; refine ⟨_, rfl, ?_⟩; have n0_ := Aside0.mk (Kd.R_lower ho0 (below_size (by repeat (first | (with_reducible first | exact HB.out | apply below_alloc | apply pw_below_drewN | apply below_drew1) | exact HB.out)))); have n1_ := Aside0.mk (below_step (by repeat (first | (with_reducible first | exact HB.out | apply below_alloc | apply pw_below_drewN | apply below_drew1) | exact HB.out)) hb); clear HB; have HO180 := n0_; have HB := n1_; clear n0_ n1_; (try clear hb); (try clear hb2); (try clear hk); (try clear hi); (try clear ho0)))
            go_ret
            exact ⟨by first | rfl | (simp [errW_none, errW_some] <;> rfl) | (simp [*, errW_none, errW_some] <;> rfl), by repeat (first | (with_reducible first | exact HB.out | apply below_alloc | apply pw_below_drewN | apply below_drew1) | exact HB.out)⟩
        · rw [if_neg c17] at H
          exact absurd H (by simp)

/-- The one pure statement of tamislaw02_InstrJoins. -/
def tamislaw02_InstrJoins.Pure : Prop := ∀ (l0 : List (S39)) (l1 : List (S39)), (∀ x ∈ l0, okS39 x) → l0.length * 8 ≤ 140737488351232 → (∀ x ∈ l1, okS39 x) → l1.length * 8 ≤ 140737488351232 → ∃ k, tamislaw02_InstrJoins.f k l0 l1 = some true

end Go.Proofs.Ytjgapcidhoecfaa.Pr
