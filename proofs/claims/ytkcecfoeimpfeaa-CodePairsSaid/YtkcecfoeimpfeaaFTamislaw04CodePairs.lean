-- Made by a program of this session (wip/tools/myprint.sh).
import Derived.Test.YtkcecfoeimpfeaaPr0
import Derived.Test.YtkcecfoeimpfeaaFCodeReads
import Derived.Test.YtkcecfoeimpfeaaFTamislaw04Awake
import Derived.Test.YtkcecfoeimpfeaaGCodeLook
namespace Go.Proofs.Ytkcecfoeimpfeaa.Pr
open Go.RowKit Go.Proofs.YtkcecfoeimpfeaaW.PrintWords Go.Proofs.YtkcecfoeimpfeaaW.PrintLast Go.Proofs.YtkcecfoeimpfeaaW.PrintMore
attribute [local go_sem] max2_int min2_int max_two min_two max_three min_three max_four min_four   -- for this text's walks alone
set_option linter.unusedVariables false
set_option linter.unusedSimpArgs false

/-! ### tamislaw04_CodePairs: function 7 -/
def tamislaw04_CodePairs.j0 : Nat → Int → Int → Bool → Option (Bool)
  | 0, _, _, _ => none
  | k + 1, x0, x3, x21 => if x21 = true then ((tamislaw04_awake.f k).bind fun t191 => (some t191)) else ((code_Reads.f k x0).bind fun bt192 => (if bt192.2 = true then ((code_Kind.f (IntKind.u16.wrap (x0 - 8))).bind fun t194 => (if t194 = x3 then ((code_Name.f (IntKind.u16.wrap (x0 - 8))).bind fun t195 => (if t195.size + 1 ≤ 9223372036854775807 then ((code_Name.f x0).bind fun t196 => (some ((t195 ++ (⟨#[120]⟩ : ByteArray)).toList == t196.toList))) else (none))) else (some false))) else ((code_Kind.f (IntKind.u16.wrap (x0 + 8))).bind fun t197 => (if t197 = x3 then ((code_Name.f x0).bind fun t198 => (if t198.size + 1 ≤ 9223372036854775807 then ((code_Name.f (IntKind.u16.wrap (x0 + 8))).bind fun t199 => (some ((t198 ++ (⟨#[120]⟩ : ByteArray)).toList == t199.toList))) else (none))) else (some false)))))
def tamislaw04_CodePairs.f (k : Nat) (a0 : Int) : Option (Bool) := (code_Kind.f a0).bind fun t189 => ((tamislaw04_awake.f k).bind fun t190 => (if t190 = true then (if t189 = 10 then (tamislaw04_CodePairs.j0 k a0 t189 (a0 == 132)) else (if t189 = 12 then (tamislaw04_CodePairs.j0 k a0 t189 (a0 == 132)) else (tamislaw04_CodePairs.j0 k a0 t189 true))) else (tamislaw04_CodePairs.j0 k a0 t189 true)))
theorem tamislaw04_CodePairs.mono_l : ∀ k, (∀ y0 y1 y2, LeO (tamislaw04_CodePairs.j0 k y0 y1 y2) (tamislaw04_CodePairs.j0 (k + 1) y0 y1 y2))
  | 0 => fun _ _ _ r h => by simp [tamislaw04_CodePairs.j0] at h
  | k + 1 => by
    have ih0 := tamislaw04_CodePairs.mono_l k
    · intro y0 y1 y2
      unfold tamislaw04_CodePairs.j0
      repeat' first
      | (with_reducible exact ih0 _ _ _)
      | (with_reducible exact code_Reads.mono _ _)
      | (with_reducible exact tamislaw04_awake.mono _)
      | (with_reducible exact LeO.refl _)
      | (with_reducible exact LeO.none _)
      | (with_reducible refine LeO.ite ?_ ?_)
      | (with_reducible refine LeO.bind ?_ (fun _ => ?_))
      | exact ih0 _ _ _
      | exact code_Reads.mono _ _
      | exact tamislaw04_awake.mono _
      | exact LeO.none _
      | refine LeO.ite ?_ ?_
      | refine LeO.bind ?_ (fun _ => ?_)
theorem tamislaw04_CodePairs.mono : ∀ a0 k, LeO (tamislaw04_CodePairs.f k a0) (tamislaw04_CodePairs.f (k + 1) a0) := by
  intro a0 k
  have ih0 := tamislaw04_CodePairs.mono_l k
  unfold tamislaw04_CodePairs.f
  repeat' first
      | (with_reducible exact ih0 _ _ _)
      | (with_reducible exact code_Reads.mono _ _)
      | (with_reducible exact tamislaw04_awake.mono _)
      | (with_reducible exact LeO.refl _)
      | (with_reducible exact LeO.none _)
      | (with_reducible refine LeO.ite ?_ ?_)
      | (with_reducible refine LeO.bind ?_ (fun _ => ?_))
      | exact ih0 _ _ _
      | exact code_Reads.mono _ _
      | exact tamislaw04_awake.mono _
      | exact LeO.none _
      | refine LeO.ite ?_ ?_
      | refine LeO.bind ?_ (fun _ => ?_)
set_option maxHeartbeats 8000000 in
set_option maxRecDepth 100000 in
theorem tamislaw04_CodePairs.calls (k : Nat) (a0 : Int) (r : Bool) (w : World) (h : tamislaw04_CodePairs.f k a0 = some r) :
    Calls Try.prog 7 #[.int .u16 a0] w fun e w' => e = .returned (.bool r) ∧ Below w.heap.size w w' := by
  have HB := Aside0.mk (Below.refl w.heap.size w)
  have H : ((code_Kind.f a0).bind fun t189 => ((tamislaw04_awake.f k).bind fun t190 => (if t190 = true then (if t189 = 10 then (tamislaw04_CodePairs.j0 k a0 t189 (a0 == 132)) else (if t189 = 12 then (tamislaw04_CodePairs.j0 k a0 t189 (a0 == 132)) else (tamislaw04_CodePairs.j0 k a0 t189 true))) else (tamislaw04_CodePairs.j0 k a0 t189 true)))) = some r := h
  clear h
  replace H := Option.bind_eq_some_iff.mp H
  obtain ⟨t189, A20, H⟩ := H
  replace H : ((tamislaw04_awake.f k).bind fun t190 => (if t190 = true then (if t189 = 10 then (tamislaw04_CodePairs.j0 k a0 t189 (a0 == 132)) else (if t189 = 12 then (tamislaw04_CodePairs.j0 k a0 t189 (a0 == 132)) else (tamislaw04_CodePairs.j0 k a0 t189 true))) else (tamislaw04_CodePairs.j0 k a0 t189 true))) = some r := H
  have A2 := Aside0.mk A20
  clear A20
  have HC3 := Aside0.mk H
  clear H
  go_enter Try.func7, Try.ntmps7
  go_upto_region 2 with (first | ((with_reducible refine gate_callee (f := 12) rfl ?_); refine goesL_ (some 7) rfl rfl Try.func12 (by kernel_rfl) rfl #[.int .u16 a0] rfl (by (try simp only [List.map_toArray, List.map_cons, List.map_nil]); first | done | rfl | (simp only [List.length_drop, List.length_take]; rfl)) ?_; (with_reducible refine (code_Kind.calls a0 t189 _ A2.out).mono ?_); rintro e w4 ⟨rfl, hb⟩; refine ⟨_, rfl, ?_⟩; have n0_ := Aside0.mk (below_step (by repeat (first | (with_reducible first | exact HB.out | apply below_alloc | apply pw_below_drewN | apply below_drew1) | exact HB.out)) hb); clear HB; have HB := n0_; clear n0_; (try clear hb); (try clear hb2); (try clear hk); (try clear hi)))
  (try simp only [Act.put, List.setIfInBounds_toArray, List.set_cons_zero, List.set_cons_succ])
  go_cut [21] (fun v21 wc => ∃ (kq : Nat) (x21_2 : Bool), v21 = .bool x21_2 ∧ Aside0 (tamislaw04_CodePairs.j0 kq a0 t189 x21_2 = some r) ∧ Aside0 (kq ≤ k) ∧ Aside0 (Below w.heap.size w wc))
  case first =>
    have H := HC3.out
    clear HC3
    replace H := Option.bind_eq_some_iff.mp H
    obtain ⟨t190, A50, H⟩ := H
    replace H : (if t190 = true then (if t189 = 10 then (tamislaw04_CodePairs.j0 k a0 t189 (a0 == 132)) else (if t189 = 12 then (tamislaw04_CodePairs.j0 k a0 t189 (a0 == 132)) else (tamislaw04_CodePairs.j0 k a0 t189 true))) else (tamislaw04_CodePairs.j0 k a0 t189 true)) = some r := H
    have A5 := Aside0.mk A50
    clear A50
    by_cases c6 : t190 = true
    · subst c6
      have H1 : (if t189 = 10 then (tamislaw04_CodePairs.j0 k a0 t189 (a0 == 132)) else (if t189 = 12 then (tamislaw04_CodePairs.j0 k a0 t189 (a0 == 132)) else (tamislaw04_CodePairs.j0 k a0 t189 true))) = some r := by rw [if_pos rfl] at H; exact H
      clear H
      have H := H1
      clear H1
      by_cases c7 : t189 = 10
      · rw [if_pos c7] at H
        have c7b0 : (t189 == 10) = true := beq_iff_eq.mpr c7
        have c7b1 : (t189 != 10) = false := bne_eq_false_iff_eq.mpr c7
        clear c7
        (first | rw [c7b0] | (simp only [i64_w, i32_w]; rw [c7b0]) | skip)
        have H' := Aside0.mk H
        clear H
        go_wp2_with (first | ((with_reducible refine gate_callee (f := 11) rfl ?_); refine goesL_ (some 8) rfl rfl Try.func11 (by kernel_rfl) rfl #[] rfl (by (try simp only [List.map_toArray, List.map_cons, List.map_nil]); first | done | rfl | (simp only [List.length_drop, List.length_take]; rfl)) ?_; (with_reducible refine (tamislaw04_awake.calls k  true _ A5.out).mono ?_); rintro e w8 ⟨rfl, hb⟩; refine ⟨_, rfl, ?_⟩; have n0_ := Aside0.mk (below_step (by repeat (first | (with_reducible first | exact HB.out | apply below_alloc | apply pw_below_drewN | apply below_drew1) | exact HB.out)) hb); clear HB; have HB := n0_; clear n0_; (try clear hb); (try clear hb2); (try clear hk); (try clear hi)))
        go_meet
        case rel => exact ⟨_, ((a0 == 132)), (by first | rfl | (simp; done) | (simp [*]; done)), H', ⟨by first | omega | exact Nat.le_refl _⟩, ⟨by repeat (first | (with_reducible first | exact HB.out | apply below_alloc | apply pw_below_drewN | apply below_drew1) | exact HB.out)⟩⟩
      · rw [if_neg c7] at H
        have c7b0 : (t189 == 10) = false := beq_eq_false_iff_ne.mpr c7
        have c7b1 : (t189 != 10) = true := bne_iff_ne.mpr c7
        (first | rw [c7b0] | (simp only [i64_w, i32_w]; rw [c7b0]) | skip)
        by_cases c9 : t189 = 12
        · rw [if_pos c9] at H
          have c9b0 : (t189 == 12) = true := beq_iff_eq.mpr c9
          have c9b1 : (t189 != 12) = false := bne_eq_false_iff_eq.mpr c9
          clear c9
          have H' := Aside0.mk H
          clear H
          go_wp2_with (first | ((with_reducible refine gate_callee (f := 11) rfl ?_); refine goesL_ (some 8) rfl rfl Try.func11 (by kernel_rfl) rfl #[] rfl (by (try simp only [List.map_toArray, List.map_cons, List.map_nil]); first | done | rfl | (simp only [List.length_drop, List.length_take]; rfl)) ?_; (with_reducible refine (tamislaw04_awake.calls k  true _ A5.out).mono ?_); rintro e w10 ⟨rfl, hb⟩; refine ⟨_, rfl, ?_⟩; have n0_ := Aside0.mk (below_step (by repeat (first | (with_reducible first | exact HB.out | apply below_alloc | apply pw_below_drewN | apply below_drew1) | exact HB.out)) hb); clear HB; have HB := n0_; clear n0_; (try clear hb); (try clear hb2); (try clear hk); (try clear hi)))
          go_meet
          case rel => exact ⟨_, ((a0 == 132)), (by first | rfl | (simp; done) | (simp [*]; done)), H', ⟨by first | omega | exact Nat.le_refl _⟩, ⟨by repeat (first | (with_reducible first | exact HB.out | apply below_alloc | apply pw_below_drewN | apply below_drew1) | exact HB.out)⟩⟩
        · rw [if_neg c9] at H
          have c9b0 : (t189 == 12) = false := beq_eq_false_iff_ne.mpr c9
          have c9b1 : (t189 != 12) = true := bne_iff_ne.mpr c9
          have H' := Aside0.mk H
          clear H
          go_wp2_with (first | ((with_reducible refine gate_callee (f := 11) rfl ?_); refine goesL_ (some 8) rfl rfl Try.func11 (by kernel_rfl) rfl #[] rfl (by (try simp only [List.map_toArray, List.map_cons, List.map_nil]); first | done | rfl | (simp only [List.length_drop, List.length_take]; rfl)) ?_; (with_reducible refine (tamislaw04_awake.calls k  true _ A5.out).mono ?_); rintro e w11 ⟨rfl, hb⟩; refine ⟨_, rfl, ?_⟩; have n0_ := Aside0.mk (below_step (by repeat (first | (with_reducible first | exact HB.out | apply below_alloc | apply pw_below_drewN | apply below_drew1) | exact HB.out)) hb); clear HB; have HB := n0_; clear n0_; (try clear hb); (try clear hb2); (try clear hk); (try clear hi)))
          go_meet
          case rel => exact ⟨_, (true), (by first | rfl | (simp; done) | (simp [*]; done)), H', ⟨by first | omega | exact Nat.le_refl _⟩, ⟨by repeat (first | (with_reducible first | exact HB.out | apply below_alloc | apply pw_below_drewN | apply below_drew1) | exact HB.out)⟩⟩
    · replace c6 := Bool.eq_false_iff.mpr c6
      subst c6
      have H1 : (tamislaw04_CodePairs.j0 k a0 t189 true) = some r := by rw [if_neg (show ¬ (false = true) by decide)] at H; exact H
      clear H
      have H := H1
      clear H1
      have H' := Aside0.mk H
      clear H
      go_wp2_with (first | ((with_reducible refine gate_callee (f := 11) rfl ?_); refine goesL_ (some 8) rfl rfl Try.func11 (by kernel_rfl) rfl #[] rfl (by (try simp only [List.map_toArray, List.map_cons, List.map_nil]); first | done | rfl | (simp only [List.length_drop, List.length_take]; rfl)) ?_; (with_reducible refine (tamislaw04_awake.calls k  false _ A5.out).mono ?_); rintro e w12 ⟨rfl, hb⟩; refine ⟨_, rfl, ?_⟩; have n0_ := Aside0.mk (below_step (by repeat (first | (with_reducible first | exact HB.out | apply below_alloc | apply pw_below_drewN | apply below_drew1) | exact HB.out)) hb); clear HB; have HB := n0_; clear n0_; (try clear hb); (try clear hb2); (try clear hk); (try clear hi)))
      go_meet
      case rel => exact ⟨_, (true), (by first | rfl | (simp; done) | (simp [*]; done)), H', ⟨by first | omega | exact Nat.le_refl _⟩, ⟨by repeat (first | (with_reducible first | exact HB.out | apply below_alloc | apply pw_below_drewN | apply below_drew1) | exact HB.out)⟩⟩
  case rest =>
    clear HC3
    try clear c1
    try clear p2
    try clear c6
    try clear c7
    try clear c7b0
    try clear c7b1
    try clear c9
    try clear c9b0
    try clear c9b1
    try clear c11
    try clear c12
    obtain ⟨kq, x21_2, rfl, HA, HJ2, HB⟩ := hcut
    cases kq with
    | zero => exact absurd HA.out (by simp [tamislaw04_CodePairs.j0])
    | succ kj2 =>
      have H := HA.out
      clear HA
      simp only [tamislaw04_CodePairs.j0] at H
      by_cases c13 : x21_2 = true
      · subst c13
        have H1 : ((tamislaw04_awake.f kj2).bind fun t191 => (some t191)) = some r := by rw [if_pos rfl] at H; exact H
        clear H
        have H := H1
        clear H1
        replace H := Option.bind_eq_some_iff.mp H
        obtain ⟨t191, A140, H⟩ := H
        replace H : (some t191) = some r := H
        have A14 := Aside0.mk A140
        clear A140
        obtain rfl := Option.some.inj H
        go_wp2_with (first | ((with_reducible refine gate_callee (f := 11) rfl ?_); refine goesL_ (some 22) rfl rfl Try.func11 (by kernel_rfl) rfl #[] rfl (by (try simp only [List.map_toArray, List.map_cons, List.map_nil]); first | done | rfl | (simp only [List.length_drop, List.length_take]; rfl)) ?_; (with_reducible refine (tamislaw04_awake.calls kj2  t191 _ A14.out).mono ?_); rintro e w15 ⟨rfl, hb⟩; refine ⟨_, rfl, ?_⟩; have n0_ := Aside0.mk (below_step (by repeat (first | (with_reducible first | exact HB.out | apply below_alloc | apply pw_below_drewN | apply below_drew1) | exact HB.out)) hb); clear HB; have HB := n0_; clear n0_; (try clear hb); (try clear hb2); (try clear hk); (try clear hi)))
        go_ret
        exact ⟨by first | rfl | (simp [errW_none, errW_some] <;> rfl) | (simp [*, errW_none, errW_some] <;> rfl), by repeat (first | (with_reducible first | exact HB.out | apply below_alloc | apply pw_below_drewN | apply below_drew1) | exact HB.out)⟩
      · replace c13 := Bool.eq_false_iff.mpr c13
        subst c13
        have H1 : ((code_Reads.f kj2 a0).bind fun bt192 => (if bt192.2 = true then ((code_Kind.f (IntKind.u16.wrap (a0 - 8))).bind fun t194 => (if t194 = t189 then ((code_Name.f (IntKind.u16.wrap (a0 - 8))).bind fun t195 => (if t195.size + 1 ≤ 9223372036854775807 then ((code_Name.f a0).bind fun t196 => (some ((t195 ++ (⟨#[120]⟩ : ByteArray)).toList == t196.toList))) else (none))) else (some false))) else ((code_Kind.f (IntKind.u16.wrap (a0 + 8))).bind fun t197 => (if t197 = t189 then ((code_Name.f a0).bind fun t198 => (if t198.size + 1 ≤ 9223372036854775807 then ((code_Name.f (IntKind.u16.wrap (a0 + 8))).bind fun t199 => (some ((t198 ++ (⟨#[120]⟩ : ByteArray)).toList == t199.toList))) else (none))) else (some false))))) = some r := by rw [if_neg (show ¬ (false = true) by decide)] at H; exact H
        clear H
        have H := H1
        clear H1
        replace H := Option.bind_eq_some_iff.mp H
        obtain ⟨⟨t192, t193⟩, A160, H⟩ := H
        replace H : (if t193 = true then ((code_Kind.f (IntKind.u16.wrap (a0 - 8))).bind fun t194 => (if t194 = t189 then ((code_Name.f (IntKind.u16.wrap (a0 - 8))).bind fun t195 => (if t195.size + 1 ≤ 9223372036854775807 then ((code_Name.f a0).bind fun t196 => (some ((t195 ++ (⟨#[120]⟩ : ByteArray)).toList == t196.toList))) else (none))) else (some false))) else ((code_Kind.f (IntKind.u16.wrap (a0 + 8))).bind fun t197 => (if t197 = t189 then ((code_Name.f a0).bind fun t198 => (if t198.size + 1 ≤ 9223372036854775807 then ((code_Name.f (IntKind.u16.wrap (a0 + 8))).bind fun t199 => (some ((t198 ++ (⟨#[120]⟩ : ByteArray)).toList == t199.toList))) else (none))) else (some false)))) = some r := H
        have A16 := Aside0.mk A160
        clear A160
        by_cases c17 : t193 = true
        · subst c17
          have H1 : ((code_Kind.f (IntKind.u16.wrap (a0 - 8))).bind fun t194 => (if t194 = t189 then ((code_Name.f (IntKind.u16.wrap (a0 - 8))).bind fun t195 => (if t195.size + 1 ≤ 9223372036854775807 then ((code_Name.f a0).bind fun t196 => (some ((t195 ++ (⟨#[120]⟩ : ByteArray)).toList == t196.toList))) else (none))) else (some false))) = some r := by rw [if_pos rfl] at H; exact H
          clear H
          have H := H1
          clear H1
          replace H := Option.bind_eq_some_iff.mp H
          obtain ⟨t194, A180, H⟩ := H
          replace H : (if t194 = t189 then ((code_Name.f (IntKind.u16.wrap (a0 - 8))).bind fun t195 => (if t195.size + 1 ≤ 9223372036854775807 then ((code_Name.f a0).bind fun t196 => (some ((t195 ++ (⟨#[120]⟩ : ByteArray)).toList == t196.toList))) else (none))) else (some false)) = some r := H
          have A18 := Aside0.mk A180
          clear A180
          by_cases c19 : t194 = t189
          · rw [if_pos c19] at H
            have c19b0 : (t194 == t189) = true := beq_iff_eq.mpr c19
            have c19b1 : (t194 != t189) = false := bne_eq_false_iff_eq.mpr c19
            clear c19
            replace H := Option.bind_eq_some_iff.mp H
            obtain ⟨t195, A200, H⟩ := H
            replace H : (if t195.size + 1 ≤ 9223372036854775807 then ((code_Name.f a0).bind fun t196 => (some ((t195 ++ (⟨#[120]⟩ : ByteArray)).toList == t196.toList))) else (none)) = some r := H
            have A20 := Aside0.mk A200
            clear A200
            by_cases c21 : t195.size + 1 ≤ 9223372036854775807
            · rw [if_pos c21] at H
              have c21b0 := eq_true c21
              have c21b1 : decide (t195.size + 1 ≤ 9223372036854775807) = true := decide_eq_true c21
              try have c21b2 : (9223372036854775807 < t195.size + 1) = False := eq_false (Nat.not_lt.2 c21)
              replace H := Option.bind_eq_some_iff.mp H
              obtain ⟨t196, A220, H⟩ := H
              replace H : (some ((t195 ++ (⟨#[120]⟩ : ByteArray)).toList == t196.toList)) = some r := H
              have A22 := Aside0.mk A220
              clear A220
              obtain rfl := Option.some.inj H
              go_wp2_with (first | ((with_reducible refine gate_callee (f := 8) rfl ?_); refine goesL_ (some 25) rfl rfl Try.func8 (by kernel_rfl) rfl #[.int .u16 a0] rfl (by (try simp only [List.map_toArray, List.map_cons, List.map_nil]); first | done | rfl | (simp only [List.length_drop, List.length_take]; rfl)) ?_; (with_reducible refine (code_Reads.calls kj2 a0 t192 true _ A16.out).mono ?_); rintro e w23 ⟨rfl, hb⟩; refine ⟨_, rfl, ?_⟩; have n0_ := Aside0.mk (below_step (by repeat (first | (with_reducible first | exact HB.out | apply below_alloc | apply pw_below_drewN | apply below_drew1) | exact HB.out)) hb); clear HB; have HB := n0_; clear n0_; (try clear hb); (try clear hb2); (try clear hk); (try clear hi)) | ((with_reducible refine gate_callee (f := 12) rfl ?_); refine goesL_ (some 31) rfl rfl Try.func12 (by kernel_rfl) rfl #[.int .u16 (IntKind.u16.wrap (a0 - 8))] rfl (by (try simp only [List.map_toArray, List.map_cons, List.map_nil]); first | done | rfl | (simp only [List.length_drop, List.length_take]; rfl)) ?_; (with_reducible refine (code_Kind.calls (IntKind.u16.wrap (a0 - 8)) t194 _ A18.out).mono ?_); rintro e w24 ⟨rfl, hb⟩; refine ⟨_, rfl, ?_⟩; have n0_ := Aside0.mk (below_step (by repeat (first | (with_reducible first | exact HB.out | apply below_alloc | apply pw_below_drewN | apply below_drew1) | exact HB.out)) hb); clear HB; have HB := n0_; clear n0_; (try clear hb); (try clear hb2); (try clear hk); (try clear hi)) | (go_at_call 13; (with_reducible refine (code_Name.calls (IntKind.u16.wrap (a0 - 8)) t195 _ A20.out).mono ?_); rintro e w25 ⟨rfl, hb⟩; have n0_ := Aside0.mk (below_step (by repeat (first | (with_reducible first | exact HB.out | apply below_alloc | apply pw_below_drewN | apply below_drew1) | exact HB.out)) hb); clear HB; have HB := n0_; clear n0_; (try clear hb); (try clear hb2); (try clear hk); (try clear hi)) | (go_at_call 13; (with_reducible refine (code_Name.calls a0 t196 _ A22.out).mono ?_); rintro e w26 ⟨rfl, hb⟩; have n0_ := Aside0.mk (below_step (by repeat (first | (with_reducible first | exact HB.out | apply below_alloc | apply pw_below_drewN | apply below_drew1) | exact HB.out)) hb); clear HB; have HB := n0_; clear n0_; (try clear hb); (try clear hb2); (try clear hk); (try clear hi)))
              go_ret
              exact ⟨by first | rfl | (simp [errW_none, errW_some] <;> rfl) | (simp [*, errW_none, errW_some] <;> rfl), by repeat (first | (with_reducible first | exact HB.out | apply below_alloc | apply pw_below_drewN | apply below_drew1) | exact HB.out)⟩
            · rw [if_neg c21] at H
              exact absurd H (by simp)
          · rw [if_neg c19] at H
            have c19b0 : (t194 == t189) = false := beq_eq_false_iff_ne.mpr c19
            have c19b1 : (t194 != t189) = true := bne_iff_ne.mpr c19
            obtain rfl := Option.some.inj H
            go_wp2_with (first | ((with_reducible refine gate_callee (f := 8) rfl ?_); refine goesL_ (some 25) rfl rfl Try.func8 (by kernel_rfl) rfl #[.int .u16 a0] rfl (by (try simp only [List.map_toArray, List.map_cons, List.map_nil]); first | done | rfl | (simp only [List.length_drop, List.length_take]; rfl)) ?_; (with_reducible refine (code_Reads.calls kj2 a0 t192 true _ A16.out).mono ?_); rintro e w27 ⟨rfl, hb⟩; refine ⟨_, rfl, ?_⟩; have n0_ := Aside0.mk (below_step (by repeat (first | (with_reducible first | exact HB.out | apply below_alloc | apply pw_below_drewN | apply below_drew1) | exact HB.out)) hb); clear HB; have HB := n0_; clear n0_; (try clear hb); (try clear hb2); (try clear hk); (try clear hi)) | ((with_reducible refine gate_callee (f := 12) rfl ?_); refine goesL_ (some 31) rfl rfl Try.func12 (by kernel_rfl) rfl #[.int .u16 (IntKind.u16.wrap (a0 - 8))] rfl (by (try simp only [List.map_toArray, List.map_cons, List.map_nil]); first | done | rfl | (simp only [List.length_drop, List.length_take]; rfl)) ?_; (with_reducible refine (code_Kind.calls (IntKind.u16.wrap (a0 - 8)) t194 _ A18.out).mono ?_); rintro e w28 ⟨rfl, hb⟩; refine ⟨_, rfl, ?_⟩; have n0_ := Aside0.mk (below_step (by repeat (first | (with_reducible first | exact HB.out | apply below_alloc | apply pw_below_drewN | apply below_drew1) | exact HB.out)) hb); clear HB; have HB := n0_; clear n0_; (try clear hb); (try clear hb2); (try clear hk); (try clear hi)))
            go_ret
            exact ⟨by first | rfl | (simp [errW_none, errW_some] <;> rfl) | (simp [*, errW_none, errW_some] <;> rfl), by repeat (first | (with_reducible first | exact HB.out | apply below_alloc | apply pw_below_drewN | apply below_drew1) | exact HB.out)⟩
        · replace c17 := Bool.eq_false_iff.mpr c17
          subst c17
          have H1 : ((code_Kind.f (IntKind.u16.wrap (a0 + 8))).bind fun t197 => (if t197 = t189 then ((code_Name.f a0).bind fun t198 => (if t198.size + 1 ≤ 9223372036854775807 then ((code_Name.f (IntKind.u16.wrap (a0 + 8))).bind fun t199 => (some ((t198 ++ (⟨#[120]⟩ : ByteArray)).toList == t199.toList))) else (none))) else (some false))) = some r := by rw [if_neg (show ¬ (false = true) by decide)] at H; exact H
          clear H
          have H := H1
          clear H1
          replace H := Option.bind_eq_some_iff.mp H
          obtain ⟨t197, A290, H⟩ := H
          replace H : (if t197 = t189 then ((code_Name.f a0).bind fun t198 => (if t198.size + 1 ≤ 9223372036854775807 then ((code_Name.f (IntKind.u16.wrap (a0 + 8))).bind fun t199 => (some ((t198 ++ (⟨#[120]⟩ : ByteArray)).toList == t199.toList))) else (none))) else (some false)) = some r := H
          have A29 := Aside0.mk A290
          clear A290
          by_cases c30 : t197 = t189
          · rw [if_pos c30] at H
            have c30b0 : (t197 == t189) = true := beq_iff_eq.mpr c30
            have c30b1 : (t197 != t189) = false := bne_eq_false_iff_eq.mpr c30
            clear c30
            replace H := Option.bind_eq_some_iff.mp H
            obtain ⟨t198, A310, H⟩ := H
            replace H : (if t198.size + 1 ≤ 9223372036854775807 then ((code_Name.f (IntKind.u16.wrap (a0 + 8))).bind fun t199 => (some ((t198 ++ (⟨#[120]⟩ : ByteArray)).toList == t199.toList))) else (none)) = some r := H
            have A31 := Aside0.mk A310
            clear A310
            by_cases c32 : t198.size + 1 ≤ 9223372036854775807
            · rw [if_pos c32] at H
              have c32b0 := eq_true c32
              have c32b1 : decide (t198.size + 1 ≤ 9223372036854775807) = true := decide_eq_true c32
              try have c32b2 : (9223372036854775807 < t198.size + 1) = False := eq_false (Nat.not_lt.2 c32)
              replace H := Option.bind_eq_some_iff.mp H
              obtain ⟨t199, A330, H⟩ := H
              replace H : (some ((t198 ++ (⟨#[120]⟩ : ByteArray)).toList == t199.toList)) = some r := H
              have A33 := Aside0.mk A330
              clear A330
              obtain rfl := Option.some.inj H
              go_wp2_with (first | ((with_reducible refine gate_callee (f := 8) rfl ?_); refine goesL_ (some 25) rfl rfl Try.func8 (by kernel_rfl) rfl #[.int .u16 a0] rfl (by (try simp only [List.map_toArray, List.map_cons, List.map_nil]); first | done | rfl | (simp only [List.length_drop, List.length_take]; rfl)) ?_; (with_reducible refine (code_Reads.calls kj2 a0 t192 false _ A16.out).mono ?_); rintro e w34 ⟨rfl, hb⟩; refine ⟨_, rfl, ?_⟩; have n0_ := Aside0.mk (below_step (by repeat (first | (with_reducible first | exact HB.out | apply below_alloc | apply pw_below_drewN | apply below_drew1) | exact HB.out)) hb); clear HB; have HB := n0_; clear n0_; (try clear hb); (try clear hb2); (try clear hk); (try clear hi)) | ((with_reducible refine gate_callee (f := 12) rfl ?_); refine goesL_ (some 45) rfl rfl Try.func12 (by kernel_rfl) rfl #[.int .u16 (IntKind.u16.wrap (a0 + 8))] rfl (by (try simp only [List.map_toArray, List.map_cons, List.map_nil]); first | done | rfl | (simp only [List.length_drop, List.length_take]; rfl)) ?_; (with_reducible refine (code_Kind.calls (IntKind.u16.wrap (a0 + 8)) t197 _ A29.out).mono ?_); rintro e w35 ⟨rfl, hb⟩; refine ⟨_, rfl, ?_⟩; have n0_ := Aside0.mk (below_step (by repeat (first | (with_reducible first | exact HB.out | apply below_alloc | apply pw_below_drewN | apply below_drew1) | exact HB.out)) hb); clear HB; have HB := n0_; clear n0_; (try clear hb); (try clear hb2); (try clear hk); (try clear hi)) | (go_at_call 13; (with_reducible refine (code_Name.calls a0 t198 _ A31.out).mono ?_); rintro e w36 ⟨rfl, hb⟩; have n0_ := Aside0.mk (below_step (by repeat (first | (with_reducible first | exact HB.out | apply below_alloc | apply pw_below_drewN | apply below_drew1) | exact HB.out)) hb); clear HB; have HB := n0_; clear n0_; (try clear hb); (try clear hb2); (try clear hk); (try clear hi)) | (go_at_call 13; (with_reducible refine (code_Name.calls (IntKind.u16.wrap (a0 + 8)) t199 _ A33.out).mono ?_); rintro e w37 ⟨rfl, hb⟩; have n0_ := Aside0.mk (below_step (by repeat (first | (with_reducible first | exact HB.out | apply below_alloc | apply pw_below_drewN | apply below_drew1) | exact HB.out)) hb); clear HB; have HB := n0_; clear n0_; (try clear hb); (try clear hb2); (try clear hk); (try clear hi)))
              go_ret
              exact ⟨by first | rfl | (simp [errW_none, errW_some] <;> rfl) | (simp [*, errW_none, errW_some] <;> rfl), by repeat (first | (with_reducible first | exact HB.out | apply below_alloc | apply pw_below_drewN | apply below_drew1) | exact HB.out)⟩
            · rw [if_neg c32] at H
              exact absurd H (by simp)
          · rw [if_neg c30] at H
            have c30b0 : (t197 == t189) = false := beq_eq_false_iff_ne.mpr c30
            have c30b1 : (t197 != t189) = true := bne_iff_ne.mpr c30
            obtain rfl := Option.some.inj H
            go_wp2_with (first | ((with_reducible refine gate_callee (f := 8) rfl ?_); refine goesL_ (some 25) rfl rfl Try.func8 (by kernel_rfl) rfl #[.int .u16 a0] rfl (by (try simp only [List.map_toArray, List.map_cons, List.map_nil]); first | done | rfl | (simp only [List.length_drop, List.length_take]; rfl)) ?_; (with_reducible refine (code_Reads.calls kj2 a0 t192 false _ A16.out).mono ?_); rintro e w38 ⟨rfl, hb⟩; refine ⟨_, rfl, ?_⟩; have n0_ := Aside0.mk (below_step (by repeat (first | (with_reducible first | exact HB.out | apply below_alloc | apply pw_below_drewN | apply below_drew1) | exact HB.out)) hb); clear HB; have HB := n0_; clear n0_; (try clear hb); (try clear hb2); (try clear hk); (try clear hi)) | ((with_reducible refine gate_callee (f := 12) rfl ?_); refine goesL_ (some 45) rfl rfl Try.func12 (by kernel_rfl) rfl #[.int .u16 (IntKind.u16.wrap (a0 + 8))] rfl (by (try simp only [List.map_toArray, List.map_cons, List.map_nil]); first | done | rfl | (simp only [List.length_drop, List.length_take]; rfl)) ?_; (with_reducible refine (code_Kind.calls (IntKind.u16.wrap (a0 + 8)) t197 _ A29.out).mono ?_); rintro e w39 ⟨rfl, hb⟩; refine ⟨_, rfl, ?_⟩; have n0_ := Aside0.mk (below_step (by repeat (first | (with_reducible first | exact HB.out | apply below_alloc | apply pw_below_drewN | apply below_drew1) | exact HB.out)) hb); clear HB; have HB := n0_; clear n0_; (try clear hb); (try clear hb2); (try clear hk); (try clear hi)))
            go_ret
            exact ⟨by first | rfl | (simp [errW_none, errW_some] <;> rfl) | (simp [*, errW_none, errW_some] <;> rfl), by repeat (first | (with_reducible first | exact HB.out | apply below_alloc | apply pw_below_drewN | apply below_drew1) | exact HB.out)⟩

/-- THE ONE PURE STATEMENT of tamislaw04_CodePairs: yours. -/
def tamislaw04_CodePairs.Pure : Prop := ∀ (a0 : Int), (Lit.int .u16 a0).wf = true → ∃ k, tamislaw04_CodePairs.f k a0 = some true
theorem tamislaw04_CodePairs.walk (P : tamislaw04_CodePairs.Pure) (a0 : Int) (w : World) (w0 : (Lit.int .u16 a0).wf = true) :
    Calls Try.prog 7 #[.int .u16 a0] w fun e w' => e = .returned (.bool true) ∧ Below w.heap.size w w' := by
  obtain ⟨k, h⟩ := P a0 w0
  refine (tamislaw04_CodePairs.calls k a0 true w h).mono ?_
  rintro e w' ⟨rfl, hd⟩
  exact ⟨rfl, hd⟩

end Go.Proofs.Ytkcecfoeimpfeaa.Pr
