-- Made by a program of this session (wip/tools/myprint.sh).
import Derived.Test.YtnagbdcpmbjnpaaDoorGLib
import Derived.Test.YtnagbdcpmbjnpaaDoorPr0
import Derived.Test.YtnagbdcpmbjnpaaDoorFAsmRead
import Derived.Test.YtnagbdcpmbjnpaaDoorFTamisref02Same
import Derived.Test.YtnagbdcpmbjnpaaDoorFTamisref05Print
import Derived.Test.YtnagbdcpmbjnpaaDoorGPrint
import Derived.Test.YtnagbdcpmbjnpaaDoorGAwake05
namespace Go.Proofs.YtnagbdcpmbjnpaaDoor.Pr
open Go.RowKit Go.Proofs.YtnagbdcpmbjnpaaDoorW.PrintWords Go.Proofs.YtnagbdcpmbjnpaaDoorW.PrintLast Go.Proofs.YtnagbdcpmbjnpaaDoorW.PrintMore
attribute [local go_sem] max2_int min2_int max_two min_two max_three min_three max_four min_four   -- for this text's walks alone
set_option linter.unusedVariables false
set_option linter.unusedSimpArgs false

/-! ### tamislaw05_AsmPrints: function 5 -/
def tamislaw05_AsmPrints.j0 : Nat → List (S25) → Bool → Option (Bool)
  | 0, _, _ => none
  | k + 1, x0, x16 => if x16 = true then ((awake05.f).bind fun t253 => (some t253)) else ((some (([] : List (S25)) : List (S25))).bind fun y254 => (if y254.length + x0.length < 17592186044416 then ((asm_Print.f (y254 ++ x0)).bind fun bt260 => ((tamisref05_Print.f k x0).bind fun bt262 => ((asm_Read.f k bt260.1).bind fun bt264 => (if bt260.1.toList = bt262.1.toList then (if bt260.2 = bt262.2 then (if bt260.2 = 0 then (if bt264.2.2 = 0 then (if bt264.2.1 = 0 then ((tamisref02_Same.f k bt264.1 x0).bind fun t269 => (some t269)) else (some false)) else (some false)) else (some true)) else (some false)) else (some false))))) else (none)))
def tamislaw05_AsmPrints.f (k : Nat) (l0 : List (S25)) : Option (Bool) := (awake05.f).bind fun t252 => (if t252 = true then (tamislaw05_AsmPrints.j0 k l0 (decide ((l0.length : Int) > 100))) else (tamislaw05_AsmPrints.j0 k l0 true))
theorem tamislaw05_AsmPrints.mono_l : ∀ k, (∀ y0 y1, LeO (tamislaw05_AsmPrints.j0 k y0 y1) (tamislaw05_AsmPrints.j0 (k + 1) y0 y1))
  | 0 => fun _ _ r h => by simp [tamislaw05_AsmPrints.j0] at h
  | k + 1 => by
    have ih0 := tamislaw05_AsmPrints.mono_l k
    · intro y0 y1
      unfold tamislaw05_AsmPrints.j0
      repeat' first
      | (with_reducible exact ih0 _ _)
      | (with_reducible exact asm_Read.mono _ _)
      | (with_reducible exact tamisref02_Same.mono _ _ _)
      | (with_reducible exact tamisref05_Print.mono _ _)
      | (with_reducible exact LeO.refl _)
      | (with_reducible exact LeO.none _)
      | (with_reducible refine LeO.ite ?_ ?_)
      | (with_reducible refine LeO.bind ?_ (fun _ => ?_))
      | exact ih0 _ _
      | exact asm_Read.mono _ _
      | exact tamisref02_Same.mono _ _ _
      | exact tamisref05_Print.mono _ _
      | exact LeO.none _
      | refine LeO.ite ?_ ?_
      | refine LeO.bind ?_ (fun _ => ?_)
theorem tamislaw05_AsmPrints.mono : ∀ a0 k, LeO (tamislaw05_AsmPrints.f k a0) (tamislaw05_AsmPrints.f (k + 1) a0) := by
  intro a0 k
  have ih0 := tamislaw05_AsmPrints.mono_l k
  unfold tamislaw05_AsmPrints.f
  repeat' first
      | (with_reducible exact ih0 _ _)
      | (with_reducible exact asm_Read.mono _ _)
      | (with_reducible exact tamisref02_Same.mono _ _ _)
      | (with_reducible exact tamisref05_Print.mono _ _)
      | (with_reducible exact LeO.refl _)
      | (with_reducible exact LeO.none _)
      | (with_reducible refine LeO.ite ?_ ?_)
      | (with_reducible refine LeO.bind ?_ (fun _ => ?_))
      | exact ih0 _ _
      | exact asm_Read.mono _ _
      | exact tamisref02_Same.mono _ _ _
      | exact tamisref05_Print.mono _ _
      | exact LeO.none _
      | refine LeO.ite ?_ ?_
      | refine LeO.bind ?_ (fun _ => ?_)
set_option maxHeartbeats 8000000 in
set_option maxRecDepth 100000 in
theorem tamislaw05_AsmPrints.calls (k : Nat) (A0 : Option Addr) (c0 : Nat) (l0 : List (S25)) (r : Bool) (w : World) (hr0 : Kd.C k25 w A0 l0.length l0) (hc0 : l0.length ≤ c0) (hT : r = true) (hG : GlobW w) (h : tamislaw05_AsmPrints.f k l0 = some r) :
    Calls Tryd.prog 5 #[.slice A0 l0.length c0] w fun e w' => e = .returned (.bool r) ∧ Below w.heap.size w w' := by
  have HT := Aside0.mk hT
  clear hT
  have HR0 := Aside0.mk hr0
  have HC0 := Aside0.mk hc0
  clear hr0 hc0
  have HB := Aside0.mk (Below.refl w.heap.size w)
  have H : ((awake05.f).bind fun t252 => (if t252 = true then (tamislaw05_AsmPrints.j0 k l0 (decide ((l0.length : Int) > 100))) else (tamislaw05_AsmPrints.j0 k l0 true))) = some r := h
  clear h
  have HC2 := Aside0.mk H
  clear H
  go_enter Tryd.func5, Tryd.ntmps5
  go_upto_region 1 with (fail)
  go_cut [16] (fun v16 wc => ∃ (kq : Nat) (x16_1 : Bool), v16 = .bool x16_1 ∧ Aside0 (tamislaw05_AsmPrints.j0 kq l0 x16_1 = some r) ∧ Aside0 (kq ≤ k) ∧ Aside0 (Below w.heap.size w wc))
  case first =>
    have H := HC2.out
    clear HC2
    replace H := Option.bind_eq_some_iff.mp H
    obtain ⟨t252, A30, H⟩ := H
    replace H : (if t252 = true then (tamislaw05_AsmPrints.j0 k l0 (decide ((l0.length : Int) > 100))) else (tamislaw05_AsmPrints.j0 k l0 true)) = some r := H
    have A3 := Aside0.mk A30
    clear A30
    by_cases c4 : t252 = true
    · subst c4
      have H1 : (tamislaw05_AsmPrints.j0 k l0 (decide ((l0.length : Int) > 100))) = some r := by rw [if_pos rfl] at H; exact H
      clear H
      have H := H1
      clear H1
      have H' := Aside0.mk H
      clear H
      go_wp2_with (first | ((with_reducible refine gate_callee (f := 9) rfl ?_); refine goesL_ (some 10) rfl rfl Tryd.func9 (by kernel_rfl) rfl #[] rfl (by (try simp only [List.map_toArray, List.map_cons, List.map_nil]); first | done | rfl | (simp only [List.length_drop, List.length_take]; rfl)) ?_; (with_reducible refine (awake05.calls  true _ (hG.on (by repeat (first | (with_reducible first | exact HB.out | apply below_alloc | apply pw_below_drewN | apply below_drew1) | exact HB.out))) A3.out).mono ?_); rintro e w5 ⟨rfl, hb⟩; refine ⟨_, rfl, ?_⟩; have n0_ := Aside0.mk (below_step (by repeat (first | (with_reducible first | exact HB.out | apply below_alloc | apply pw_below_drewN | apply below_drew1) | exact HB.out)) hb); clear HB; have HB := n0_; clear n0_; (try clear hb); (try clear hb2); (try clear hk); (try clear hi)))
      go_meet
      case rel => exact ⟨_, (decide ((l0.length : Int) > 100)), (by first | rfl | (simp; done) | (simp [*]; done)), H', ⟨by first | omega | exact Nat.le_refl _⟩, ⟨by repeat (first | (with_reducible first | exact HB.out | apply below_alloc | apply pw_below_drewN | apply below_drew1) | exact HB.out)⟩⟩
    · replace c4 := Bool.eq_false_iff.mpr c4
      subst c4
      have H1 : (tamislaw05_AsmPrints.j0 k l0 true) = some r := by rw [if_neg (show ¬ (false = true) by decide)] at H; exact H
      clear H
      have H := H1
      clear H1
      have H' := Aside0.mk H
      clear H
      go_wp2_with (first | ((with_reducible refine gate_callee (f := 9) rfl ?_); refine goesL_ (some 10) rfl rfl Tryd.func9 (by kernel_rfl) rfl #[] rfl (by (try simp only [List.map_toArray, List.map_cons, List.map_nil]); first | done | rfl | (simp only [List.length_drop, List.length_take]; rfl)) ?_; (with_reducible refine (awake05.calls  false _ (hG.on (by repeat (first | (with_reducible first | exact HB.out | apply below_alloc | apply pw_below_drewN | apply below_drew1) | exact HB.out))) A3.out).mono ?_); rintro e w6 ⟨rfl, hb⟩; refine ⟨_, rfl, ?_⟩; have n0_ := Aside0.mk (below_step (by repeat (first | (with_reducible first | exact HB.out | apply below_alloc | apply pw_below_drewN | apply below_drew1) | exact HB.out)) hb); clear HB; have HB := n0_; clear n0_; (try clear hb); (try clear hb2); (try clear hk); (try clear hi)))
      go_meet
      case rel => exact ⟨_, (true), (by first | rfl | (simp; done) | (simp [*]; done)), H', ⟨by first | omega | exact Nat.le_refl _⟩, ⟨by repeat (first | (with_reducible first | exact HB.out | apply below_alloc | apply pw_below_drewN | apply below_drew1) | exact HB.out)⟩⟩
  case rest =>
    clear HC2
    try clear p2
    try clear c4
    try clear c5
    obtain ⟨kq, x16_1, rfl, HA, HJ1, HB⟩ := hcut
    cases kq with
    | zero => exact absurd HA.out (by simp [tamislaw05_AsmPrints.j0])
    | succ kj1 =>
      have H := HA.out
      clear HA
      simp only [tamislaw05_AsmPrints.j0] at H
      by_cases c7 : x16_1 = true
      · subst c7
        have H1 : ((awake05.f).bind fun t253 => (some t253)) = some r := by rw [if_pos rfl] at H; exact H
        clear H
        have H := H1
        clear H1
        replace H := Option.bind_eq_some_iff.mp H
        obtain ⟨t253, A80, H⟩ := H
        replace H : (some t253) = some r := H
        have A8 := Aside0.mk A80
        clear A80
        obtain rfl := Option.some.inj H
        go_wp2_with (first | ((with_reducible refine gate_callee (f := 9) rfl ?_); refine goesL_ (some 17) rfl rfl Tryd.func9 (by kernel_rfl) rfl #[] rfl (by (try simp only [List.map_toArray, List.map_cons, List.map_nil]); first | done | rfl | (simp only [List.length_drop, List.length_take]; rfl)) ?_; (with_reducible refine (awake05.calls  t253 _ (hG.on (by repeat (first | (with_reducible first | exact HB.out | apply below_alloc | apply pw_below_drewN | apply below_drew1) | exact HB.out))) A8.out).mono ?_); rintro e w9 ⟨rfl, hb⟩; refine ⟨_, rfl, ?_⟩; have n0_ := Aside0.mk (below_step (by repeat (first | (with_reducible first | exact HB.out | apply below_alloc | apply pw_below_drewN | apply below_drew1) | exact HB.out)) hb); clear HB; have HB := n0_; clear n0_; (try clear hb); (try clear hb2); (try clear hk); (try clear hi)))
        go_ret
        exact ⟨by first | rfl | (simp [errW_none, errW_some] <;> rfl) | (simp [*, errW_none, errW_some] <;> rfl), by repeat (first | (with_reducible first | exact HB.out | apply below_alloc | apply pw_below_drewN | apply below_drew1) | exact HB.out)⟩
      · replace c7 := Bool.eq_false_iff.mpr c7
        subst c7
        have H1 : ((some (([] : List (S25)) : List (S25))).bind fun y254 => (if y254.length + l0.length < 17592186044416 then ((asm_Print.f (y254 ++ l0)).bind fun bt260 => ((tamisref05_Print.f kj1 l0).bind fun bt262 => ((asm_Read.f kj1 bt260.1).bind fun bt264 => (if bt260.1.toList = bt262.1.toList then (if bt260.2 = bt262.2 then (if bt260.2 = 0 then (if bt264.2.2 = 0 then (if bt264.2.1 = 0 then ((tamisref02_Same.f kj1 bt264.1 l0).bind fun t269 => (some t269)) else (some false)) else (some false)) else (some true)) else (some false)) else (some false))))) else (none))) = some r := by rw [if_neg (show ¬ (false = true) by decide)] at H; exact H
        clear H
        have H := H1
        clear H1
        obtain ⟨y254, hy254⟩ : ∃ y_ : List (S25), y_ = (([] : List (S25))) := ⟨_, rfl⟩
        replace H : (if y254.length + l0.length < 17592186044416 then ((asm_Print.f (y254 ++ l0)).bind fun bt260 => ((tamisref05_Print.f kj1 l0).bind fun bt262 => ((asm_Read.f kj1 bt260.1).bind fun bt264 => (if bt260.1.toList = bt262.1.toList then (if bt260.2 = bt262.2 then (if bt260.2 = 0 then (if bt264.2.2 = 0 then (if bt264.2.1 = 0 then ((tamisref02_Same.f kj1 bt264.1 l0).bind fun t269 => (some t269)) else (some false)) else (some false)) else (some true)) else (some false)) else (some false))))) else (none)) = some r := by first | (rw [hy254]; with_reducible exact H) | (have H2_ := (Option.bind_some _ _).symm.trans H; rw [hy254]; with_reducible exact H2_) | (have H2_ := (Option.bind_some _ _).symm.trans H; with_reducible exact H2_) | with_reducible exact H | (rw [hy254]; exact H) | exact H
        have Ny254 := Aside0.mk hy254
        clear hy254
        by_cases c10 : y254.length + l0.length < 17592186044416
        · rw [if_pos c10] at H
          have LMc10 := Aside0.mk c10
          clear c10
          obtain ⟨y257, hy257⟩ : ∃ y_ : List (S25), y_ = (y254 ++ l0) := ⟨_, rfl⟩
          replace H : ((asm_Print.f y257).bind fun bt260 => ((tamisref05_Print.f kj1 l0).bind fun bt262 => ((asm_Read.f kj1 bt260.1).bind fun bt264 => (if bt260.1.toList = bt262.1.toList then (if bt260.2 = bt262.2 then (if bt260.2 = 0 then (if bt264.2.2 = 0 then (if bt264.2.1 = 0 then ((tamisref02_Same.f kj1 bt264.1 l0).bind fun t269 => (some t269)) else (some false)) else (some false)) else (some true)) else (some false)) else (some false))))) = some r := by first | (rw [hy257]; with_reducible exact H) | (have H2_ := (Option.bind_some _ _).symm.trans H; rw [hy257]; with_reducible exact H2_) | (have H2_ := (Option.bind_some _ _).symm.trans H; with_reducible exact H2_) | with_reducible exact H | (rw [hy257]; exact H) | exact H
          have Ny257 := Aside0.mk hy257
          clear hy257
          replace H := Option.bind_eq_some_iff.mp H
          obtain ⟨⟨t260, t261⟩, A110, H⟩ := H
          replace H : ((tamisref05_Print.f kj1 l0).bind fun bt262 => ((asm_Read.f kj1 t260).bind fun bt264 => (if t260.toList = bt262.1.toList then (if t261 = bt262.2 then (if t261 = 0 then (if bt264.2.2 = 0 then (if bt264.2.1 = 0 then ((tamisref02_Same.f kj1 bt264.1 l0).bind fun t269 => (some t269)) else (some false)) else (some false)) else (some true)) else (some false)) else (some false)))) = some r := H
          have A11 := Aside0.mk A110
          clear A110
          replace H := Option.bind_eq_some_iff.mp H
          obtain ⟨⟨t262, t263⟩, A120, H⟩ := H
          replace H : ((asm_Read.f kj1 t260).bind fun bt264 => (if t260.toList = t262.toList then (if t261 = t263 then (if t261 = 0 then (if bt264.2.2 = 0 then (if bt264.2.1 = 0 then ((tamisref02_Same.f kj1 bt264.1 l0).bind fun t269 => (some t269)) else (some false)) else (some false)) else (some true)) else (some false)) else (some false))) = some r := H
          have A12 := Aside0.mk A120
          clear A120
          replace H := Option.bind_eq_some_iff.mp H
          obtain ⟨⟨t264, t265, t266⟩, A130, H⟩ := H
          replace H : (if t260.toList = t262.toList then (if t261 = t263 then (if t261 = 0 then (if t266 = 0 then (if t265 = 0 then ((tamisref02_Same.f kj1 t264 l0).bind fun t269 => (some t269)) else (some false)) else (some false)) else (some true)) else (some false)) else (some false)) = some r := H
          have A13 := Aside0.mk A130
          clear A130
          by_cases c14 : t260.toList = t262.toList
          · rw [if_pos c14] at H
            have c14b0 : (t260.toList == t262.toList) = true := beq_iff_eq.mpr c14
            have c14b1 : (t260.toList != t262.toList) = false := bne_eq_false_iff_eq.mpr c14
            clear c14
            by_cases c15 : t261 = t263
            · rw [if_pos c15] at H
              have c15b0 : (t261 == t263) = true := beq_iff_eq.mpr c15
              have c15b1 : (t261 != t263) = false := bne_eq_false_iff_eq.mpr c15
              clear c15
              by_cases c16 : t261 = 0
              · rw [if_pos c16] at H
                have c16b0 : (t261 == 0) = true := beq_iff_eq.mpr c16
                have c16b1 : (t261 != 0) = false := bne_eq_false_iff_eq.mpr c16
                clear c16
                by_cases c17 : t266 = 0
                · rw [if_pos c17] at H
                  have c17b0 : (t266 == 0) = true := beq_iff_eq.mpr c17
                  have c17b1 : (t266 != 0) = false := bne_eq_false_iff_eq.mpr c17
                  clear c17
                  by_cases c18 : t265 = 0
                  · rw [if_pos c18] at H
                    have c18b0 : (t265 == 0) = true := beq_iff_eq.mpr c18
                    have c18b1 : (t265 != 0) = false := bne_eq_false_iff_eq.mpr c18
                    clear c18
                    replace H := Option.bind_eq_some_iff.mp H
                    obtain ⟨t269, A190, H⟩ := H
                    replace H : (some t269) = some r := H
                    have A19 := Aside0.mk A190
                    clear A190
                    obtain rfl := Option.some.inj H
                    go_wp2_with (first | ((with_reducible refine gate_dst (N := 19) rfl ?_); (try (refine gate_guard (by rfl) ?_; dsimp only)); refine Kd.R_lit k25 _ 25 ?hg (N := 19) ?hd (xs := ([] : List (S25))) (inner := []) (ok := fun _ => True) (okp := fun _ => True) ?hr ?hp (fun _ hk => hk) trivial (Below.refl _ _) (Nat.le_refl _) (by simp) ?_; (case hd => rfl); (case hg => rfl); (case hr => first | (go_simp; done) | (go_simp; rfl)); (case hp => exact (Reps.none _ _)); intro v255 w20 ho21 hb hg_ hnew_; clear hg_ hnew_; (first | rw [← Ny254.out] at ho21 | (simp only [Int.reduceToNat] at ho21; rw [← Ny254.out] at ho21)); have n0_ := Aside0.mk (Kd.R_lower ho21 (below_size (by repeat (first | (with_reducible first | exact HB.out | apply below_alloc | apply pw_below_drewN | apply below_drew1) | exact HB.out)))); have n1_ := Aside0.mk (below_step (by repeat (first | (with_reducible first | exact HB.out | apply below_alloc | apply pw_below_drewN | apply below_drew1) | exact HB.out)) hb); clear HB; have HO256 := n0_; have HB := n1_; clear n0_ n1_; clear hb ho21) | ((with_reducible refine gate_builtin (b := .append) (xs := #[.tmp 19, .tmp 20]) rfl ?_); (try (refine gate_guard (by rfl) ?_; dsimp only)); at_builtin; refine Kd.R_append_rows k25 (w0 := w) w.heap.size rfl (.tmp 19) (.tmp 20) 37 25 (.agg #[(.int .u16 0), (.int .u8 0), (.int .u8 0), (.int .u32 0)]) 8 rfl Tryd.underlying37 info25 rfl (by decide) (by omega) v255 y254 l0 _ _ _ (fun _ => True) (fun _ => False) rfl rfl ?aO ?aR (fun _ _ h => h) (fun _ h => h.elim) ?aF ?aB ?aS ?aL ?_; (case aR => repeat (first | exact (Kd.C_below HR0.out HB.out) | (with_reducible refine Kd.C_alloc ?_ _) | (with_reducible refine Kd.C_drewN ?_ _) | (with_reducible refine Kd.C_drew ?_))); (case aB => exact (by repeat (first | (with_reducible first | exact HB.out | apply below_alloc | apply pw_below_drewN | apply below_drew1) | exact HB.out))); (case aF => exact (fun _ _ => trivial)); (case aO => exact (by (with_reducible repeat (first | apply Kd.R_alloc | apply Kd.R_drewN | apply Kd.R_drew)); exact HO256.out)); (case aS => exact (below_size (by repeat (first | (with_reducible first | exact HB.out | apply below_alloc | apply pw_below_drewN | apply below_drew1) | exact HB.out)))); (case aL => have := LMc10.out; omega); intro v258 w22 ho hb hg hat; rw [← Ny257.out] at ho; have n0_ := Aside0.mk (hb); have n1_ := Aside0.mk (ho); clear HB; clear HO256; have HB := n0_; have HO259 := n1_; clear n0_ n1_; clear ho hb hg hat; obtain ⟨Ao23, co23, eo23⟩ := Kd.R_slice HO259.out; subst eo23) | ((with_reducible refine gate_callee (f := 17) rfl ?_); refine goesL_ (some 22) rfl rfl Tryd.func17 (by kernel_rfl) rfl #[.slice Ao23 y257.length co23] rfl (by (try simp only [List.map_toArray, List.map_cons, List.map_nil]); first | done | rfl | (simp only [List.length_drop, List.length_take]; rfl)) ?_; (with_reducible refine (asm_Print.calls _ _ y257 t260 t261 _ ?side1 ?side2 (hG.on (by repeat (first | (with_reducible first | exact HB.out | apply below_alloc | apply pw_below_drewN | apply below_drew1) | exact HB.out))) A11.out).mono ?_); (case side1 => repeat (first | exact (Kd.R_reads' HO259.out).2.2 | (with_reducible refine Kd.C_alloc ?_ _) | (with_reducible refine Kd.C_drewN ?_ _) | (with_reducible refine Kd.C_drew ?_))); (case side2 => exact (Kd.R_reads' HO259.out).2.1); rintro e w24 ⟨rfl, hb⟩; refine ⟨_, rfl, ?_⟩; have n0_ := Aside0.mk (Kd.R_below (by (with_reducible repeat (first | apply Kd.R_alloc | apply Kd.R_drewN | apply Kd.R_drew)); exact HO259.out) hb); have n1_ := Aside0.mk (below_step (by repeat (first | (with_reducible first | exact HB.out | apply below_alloc | apply pw_below_drewN | apply below_drew1) | exact HB.out)) hb); clear HO259; clear HB; have HO259 := n0_; have HB := n1_; clear n0_ n1_; (try clear hb); (try clear hb2); (try clear hk); (try clear hi)) | ((with_reducible refine gate_callee (f := 18) rfl ?_); refine goesL_ (some 27) rfl rfl Tryd.func18 (by kernel_rfl) rfl #[.slice A0 l0.length c0] rfl (by (try simp only [List.map_toArray, List.map_cons, List.map_nil]); first | done | rfl | (simp only [List.length_drop, List.length_take]; rfl)) ?_; (with_reducible refine (tamisref05_Print.calls kj1 _ _ l0 t262 t263 _ ?side1 ?side2 A12.out).mono ?_); (case side1 => repeat (first | exact (Kd.C_below HR0.out HB.out) | (with_reducible refine Kd.C_alloc ?_ _) | (with_reducible refine Kd.C_drewN ?_ _) | (with_reducible refine Kd.C_drew ?_))); (case side2 => exact HC0.out); rintro e w25 ⟨rfl, hb⟩; refine ⟨_, rfl, ?_⟩; have n0_ := Aside0.mk (Kd.R_below (by (with_reducible repeat (first | apply Kd.R_alloc | apply Kd.R_drewN | apply Kd.R_drew)); exact HO259.out) hb); have n1_ := Aside0.mk (below_step (by repeat (first | (with_reducible first | exact HB.out | apply below_alloc | apply pw_below_drewN | apply below_drew1) | exact HB.out)) hb); clear HO259; clear HB; have HO259 := n0_; have HB := n1_; clear n0_ n1_; (try clear hb); (try clear hb2); (try clear hk); (try clear hi)) | ((with_reducible refine gate_callee (f := 14) rfl ?_); refine goesL_ (some 32) rfl rfl Tryd.func14 (by kernel_rfl) rfl #[.string t260] rfl (by (try simp only [List.map_toArray, List.map_cons, List.map_nil]); first | done | rfl | (simp only [List.length_drop, List.length_take]; rfl)) ?_; (with_reducible refine (asm_Read.calls kj1 t260 t264 t265 t266 _ (hG.on (by repeat (first | (with_reducible first | exact HB.out | apply below_alloc | apply pw_below_drewN | apply below_drew1) | exact HB.out))) A13.out).mono ?_); rintro e w26 ⟨v267, rfl, ho0, hb⟩; refine ⟨_, rfl, ?_⟩; have n0_ := Aside0.mk (Kd.R_elder' (by (with_reducible repeat (first | apply Kd.R_alloc | apply Kd.R_drewN | apply Kd.R_drew)); exact HO259.out) (Kd.R_base ho0) hb); have n1_ := Aside0.mk (Kd.R_lower (Kd.R_new' ho0 (Kd.R_lt (by (with_reducible repeat (first | apply Kd.R_alloc | apply Kd.R_drewN | apply Kd.R_drew)); exact HO259.out))) (below_size (by repeat (first | (with_reducible first | exact HB.out | apply below_alloc | apply pw_below_drewN | apply below_drew1) | exact HB.out)))); have n2_ := Aside0.mk (below_step (by repeat (first | (with_reducible first | exact HB.out | apply below_alloc | apply pw_below_drewN | apply below_drew1) | exact HB.out)) hb); clear HO259; clear HB; have HO259 := n0_; have HO268 := n1_; have HB := n2_; clear n0_ n1_ n2_; (try clear hb); (try clear hb2); (try clear hk); (try clear hi); (try clear ho0); obtain ⟨Ao27, co27, eo27⟩ := Kd.R_slice HO268.out; subst eo27) | (go_at_call 16; (with_reducible refine (tamisref02_Same.calls kj1 _ _ t264 _ _ l0 t269 _ ?side1 ?side2 ?side3 ?side4 A19.out).mono ?_); (case side1 => repeat (first | exact (Kd.R_reads' HO268.out).2.2 | (with_reducible refine Kd.C_alloc ?_ _) | (with_reducible refine Kd.C_drewN ?_ _) | (with_reducible refine Kd.C_drew ?_))); (case side2 => exact (Kd.R_reads' HO268.out).2.1); (case side3 => repeat (first | exact (Kd.C_below HR0.out HB.out) | (with_reducible refine Kd.C_alloc ?_ _) | (with_reducible refine Kd.C_drewN ?_ _) | (with_reducible refine Kd.C_drew ?_))); (case side4 => exact HC0.out); rintro e w' ⟨rfl, ⟨nd, rfl⟩⟩))
                    go_ret
                    exact ⟨by first | rfl | (simp [errW_none, errW_some] <;> rfl) | (simp [*, errW_none, errW_some] <;> rfl), by repeat (first | (with_reducible first | exact HB.out | apply below_alloc | apply pw_below_drewN | apply below_drew1) | exact HB.out)⟩
                  · rw [if_neg c18] at H
                    have c18b0 : (t265 == 0) = false := beq_eq_false_iff_ne.mpr c18
                    have c18b1 : (t265 != 0) = true := bne_iff_ne.mpr c18
                    exact absurd ((Option.some.inj H).trans HT.out) (by simp)
                · rw [if_neg c17] at H
                  have c17b0 : (t266 == 0) = false := beq_eq_false_iff_ne.mpr c17
                  have c17b1 : (t266 != 0) = true := bne_iff_ne.mpr c17
                  exact absurd ((Option.some.inj H).trans HT.out) (by simp)
              · rw [if_neg c16] at H
                have c16b0 : (t261 == 0) = false := beq_eq_false_iff_ne.mpr c16
                have c16b1 : (t261 != 0) = true := bne_iff_ne.mpr c16
                obtain rfl := Option.some.inj H
                go_wp2_with (first | ((with_reducible refine gate_dst (N := 19) rfl ?_); (try (refine gate_guard (by rfl) ?_; dsimp only)); refine Kd.R_lit k25 _ 25 ?hg (N := 19) ?hd (xs := ([] : List (S25))) (inner := []) (ok := fun _ => True) (okp := fun _ => True) ?hr ?hp (fun _ hk => hk) trivial (Below.refl _ _) (Nat.le_refl _) (by simp) ?_; (case hd => rfl); (case hg => rfl); (case hr => first | (go_simp; done) | (go_simp; rfl)); (case hp => exact (Reps.none _ _)); intro v255 w28 ho29 hb hg_ hnew_; clear hg_ hnew_; (first | rw [← Ny254.out] at ho29 | (simp only [Int.reduceToNat] at ho29; rw [← Ny254.out] at ho29)); have n0_ := Aside0.mk (Kd.R_lower ho29 (below_size (by repeat (first | (with_reducible first | exact HB.out | apply below_alloc | apply pw_below_drewN | apply below_drew1) | exact HB.out)))); have n1_ := Aside0.mk (below_step (by repeat (first | (with_reducible first | exact HB.out | apply below_alloc | apply pw_below_drewN | apply below_drew1) | exact HB.out)) hb); clear HB; have HO256 := n0_; have HB := n1_; clear n0_ n1_; clear hb ho29) | ((with_reducible refine gate_builtin (b := .append) (xs := #[.tmp 19, .tmp 20]) rfl ?_); (try (refine gate_guard (by rfl) ?_; dsimp only)); at_builtin; refine Kd.R_append_rows k25 (w0 := w) w.heap.size rfl (.tmp 19) (.tmp 20) 37 25 (.agg #[(.int .u16 0), (.int .u8 0), (.int .u8 0), (.int .u32 0)]) 8 rfl Tryd.underlying37 info25 rfl (by decide) (by omega) v255 y254 l0 _ _ _ (fun _ => True) (fun _ => False) rfl rfl ?aO ?aR (fun _ _ h => h) (fun _ h => h.elim) ?aF ?aB ?aS ?aL ?_; (case aR => repeat (first | exact (Kd.C_below HR0.out HB.out) | (with_reducible refine Kd.C_alloc ?_ _) | (with_reducible refine Kd.C_drewN ?_ _) | (with_reducible refine Kd.C_drew ?_))); (case aB => exact (by repeat (first | (with_reducible first | exact HB.out | apply below_alloc | apply pw_below_drewN | apply below_drew1) | exact HB.out))); (case aF => exact (fun _ _ => trivial)); (case aO => exact (by (with_reducible repeat (first | apply Kd.R_alloc | apply Kd.R_drewN | apply Kd.R_drew)); exact HO256.out)); (case aS => exact (below_size (by repeat (first | (with_reducible first | exact HB.out | apply below_alloc | apply pw_below_drewN | apply below_drew1) | exact HB.out)))); (case aL => have := LMc10.out; omega); intro v258 w30 ho hb hg hat; rw [← Ny257.out] at ho; have n0_ := Aside0.mk (hb); have n1_ := Aside0.mk (ho); clear HB; clear HO256; have HB := n0_; have HO259 := n1_; clear n0_ n1_; clear ho hb hg hat; obtain ⟨Ao31, co31, eo31⟩ := Kd.R_slice HO259.out; subst eo31) | ((with_reducible refine gate_callee (f := 17) rfl ?_); refine goesL_ (some 22) rfl rfl Tryd.func17 (by kernel_rfl) rfl #[.slice Ao31 y257.length co31] rfl (by (try simp only [List.map_toArray, List.map_cons, List.map_nil]); first | done | rfl | (simp only [List.length_drop, List.length_take]; rfl)) ?_; (with_reducible refine (asm_Print.calls _ _ y257 t260 t261 _ ?side1 ?side2 (hG.on (by repeat (first | (with_reducible first | exact HB.out | apply below_alloc | apply pw_below_drewN | apply below_drew1) | exact HB.out))) A11.out).mono ?_); (case side1 => repeat (first | exact (Kd.R_reads' HO259.out).2.2 | (with_reducible refine Kd.C_alloc ?_ _) | (with_reducible refine Kd.C_drewN ?_ _) | (with_reducible refine Kd.C_drew ?_))); (case side2 => exact (Kd.R_reads' HO259.out).2.1); rintro e w32 ⟨rfl, hb⟩; refine ⟨_, rfl, ?_⟩; have n0_ := Aside0.mk (Kd.R_below (by (with_reducible repeat (first | apply Kd.R_alloc | apply Kd.R_drewN | apply Kd.R_drew)); exact HO259.out) hb); have n1_ := Aside0.mk (below_step (by repeat (first | (with_reducible first | exact HB.out | apply below_alloc | apply pw_below_drewN | apply below_drew1) | exact HB.out)) hb); clear HO259; clear HB; have HO259 := n0_; have HB := n1_; clear n0_ n1_; (try clear hb); (try clear hb2); (try clear hk); (try clear hi)) | ((with_reducible refine gate_callee (f := 18) rfl ?_); refine goesL_ (some 27) rfl rfl Tryd.func18 (by kernel_rfl) rfl #[.slice A0 l0.length c0] rfl (by (try simp only [List.map_toArray, List.map_cons, List.map_nil]); first | done | rfl | (simp only [List.length_drop, List.length_take]; rfl)) ?_; (with_reducible refine (tamisref05_Print.calls kj1 _ _ l0 t262 t263 _ ?side1 ?side2 A12.out).mono ?_); (case side1 => repeat (first | exact (Kd.C_below HR0.out HB.out) | (with_reducible refine Kd.C_alloc ?_ _) | (with_reducible refine Kd.C_drewN ?_ _) | (with_reducible refine Kd.C_drew ?_))); (case side2 => exact HC0.out); rintro e w33 ⟨rfl, hb⟩; refine ⟨_, rfl, ?_⟩; have n0_ := Aside0.mk (Kd.R_below (by (with_reducible repeat (first | apply Kd.R_alloc | apply Kd.R_drewN | apply Kd.R_drew)); exact HO259.out) hb); have n1_ := Aside0.mk (below_step (by repeat (first | (with_reducible first | exact HB.out | apply below_alloc | apply pw_below_drewN | apply below_drew1) | exact HB.out)) hb); clear HO259; clear HB; have HO259 := n0_; have HB := n1_; clear n0_ n1_; (try clear hb); (try clear hb2); (try clear hk); (try clear hi)) | ((with_reducible refine gate_callee (f := 14) rfl ?_); refine goesL_ (some 32) rfl rfl Tryd.func14 (by kernel_rfl) rfl #[.string t260] rfl (by (try simp only [List.map_toArray, List.map_cons, List.map_nil]); first | done | rfl | (simp only [List.length_drop, List.length_take]; rfl)) ?_; (with_reducible refine (asm_Read.calls kj1 t260 t264 t265 t266 _ (hG.on (by repeat (first | (with_reducible first | exact HB.out | apply below_alloc | apply pw_below_drewN | apply below_drew1) | exact HB.out))) A13.out).mono ?_); rintro e w34 ⟨v267, rfl, ho0, hb⟩; refine ⟨_, rfl, ?_⟩; have n0_ := Aside0.mk (Kd.R_elder' (by (with_reducible repeat (first | apply Kd.R_alloc | apply Kd.R_drewN | apply Kd.R_drew)); exact HO259.out) (Kd.R_base ho0) hb); have n1_ := Aside0.mk (Kd.R_lower (Kd.R_new' ho0 (Kd.R_lt (by (with_reducible repeat (first | apply Kd.R_alloc | apply Kd.R_drewN | apply Kd.R_drew)); exact HO259.out))) (below_size (by repeat (first | (with_reducible first | exact HB.out | apply below_alloc | apply pw_below_drewN | apply below_drew1) | exact HB.out)))); have n2_ := Aside0.mk (below_step (by repeat (first | (with_reducible first | exact HB.out | apply below_alloc | apply pw_below_drewN | apply below_drew1) | exact HB.out)) hb); clear HO259; clear HB; have HO259 := n0_; have HO268 := n1_; have HB := n2_; clear n0_ n1_ n2_; (try clear hb); (try clear hb2); (try clear hk); (try clear hi); (try clear ho0)))
                go_ret
                exact ⟨by first | rfl | (simp [errW_none, errW_some] <;> rfl) | (simp [*, errW_none, errW_some] <;> rfl), by repeat (first | (with_reducible first | exact HB.out | apply below_alloc | apply pw_below_drewN | apply below_drew1) | exact HB.out)⟩
            · rw [if_neg c15] at H
              have c15b0 : (t261 == t263) = false := beq_eq_false_iff_ne.mpr c15
              have c15b1 : (t261 != t263) = true := bne_iff_ne.mpr c15
              exact absurd ((Option.some.inj H).trans HT.out) (by simp)
          · rw [if_neg c14] at H
            have c14b0 : (t260.toList == t262.toList) = false := beq_eq_false_iff_ne.mpr c14
            have c14b1 : (t260.toList != t262.toList) = true := bne_iff_ne.mpr c14
            exact absurd ((Option.some.inj H).trans HT.out) (by simp)
        · rw [if_neg c10] at H
          exact absurd H (by simp)

end Go.Proofs.YtnagbdcpmbjnpaaDoor.Pr
