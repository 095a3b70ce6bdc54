-- Made by a program of this session (wip/tools/myprint.sh).
import Derived.Test.YtpgjcjgmokfofaaDoorGLib
import Derived.Test.YtpgjcjgmokfofaaDoorPr0
import Derived.Test.YtpgjcjgmokfofaaDoorFTablePrint
import Derived.Test.YtpgjcjgmokfofaaDoorFTamisref19Print
import Derived.Test.YtpgjcjgmokfofaaDoorFTamisref19Read
import Derived.Test.YtpgjcjgmokfofaaDoorGAwake19
import Derived.Test.YtpgjcjgmokfofaaDoorGTabRead
namespace Go.Proofs.YtpgjcjgmokfofaaDoor.Pr
open Go.RowKit Go.Proofs.YtpgjcjgmokfofaaDoorW.PrintWords Go.Proofs.YtpgjcjgmokfofaaDoorW.PrintLast Go.Proofs.YtpgjcjgmokfofaaDoorW.PrintMore
attribute [local go_sem] max2_int min2_int max_two min_two max_three min_three max_four min_four   -- for this text's walks alone
set_option linter.unusedVariables false
set_option linter.unusedSimpArgs false

/-! ### tamislaw19_TableReads: function 5 -/
def tamislaw19_TableReads.j0 : Nat → Int → Int → ByteArray → Bool → Option (Bool)
  | 0, _, _, _, _ => none
  | k + 1, x0, x1, x2, x20 => if x20 = true then ((awake19.f).bind fun t205 => (some t205)) else ((table_Print.f x0 x1).bind fun t206 => ((table_Read.f x0 t206).bind fun bt207 => ((table_Read.f x0 x2).bind fun bt209 => ((tamisref19_Read.f k x0 x2).bind fun bt211 => ((tamisref19_Print.f k x0 x1).bind fun t213 => (if t206.toList = t213.toList then (if bt207.1 = x1 then (if bt207.2 = true then (if bt209.1 = bt211.1 then (if (bt209.2 == bt211.2) = true then (if bt209.2 = true then ((table_Print.f x0 bt209.1).bind fun t214 => (some (t214.toList == x2.toList))) else (some true)) else (some false)) else (some false)) else (some false)) else (some false)) else (some false)))))))
def tamislaw19_TableReads.f (k : Nat) (a0 : Int) (a1 : Int) (a2 : ByteArray) : Option (Bool) := (awake19.f).bind fun t204 => (if t204 = true then (tamislaw19_TableReads.j0 k a0 a1 a2 (decide ((a2.size : Int) > 50))) else (tamislaw19_TableReads.j0 k a0 a1 a2 true))
theorem tamislaw19_TableReads.mono_l : ∀ k, (∀ y0 y1 y2 y3, LeO (tamislaw19_TableReads.j0 k y0 y1 y2 y3) (tamislaw19_TableReads.j0 (k + 1) y0 y1 y2 y3))
  | 0 => fun _ _ _ _ r h => by simp [tamislaw19_TableReads.j0] at h
  | k + 1 => by
    have ih0 := tamislaw19_TableReads.mono_l k
    · intro y0 y1 y2 y3
      unfold tamislaw19_TableReads.j0
      repeat' first
      | (with_reducible exact ih0 _ _ _ _)
      | (with_reducible exact tamisref19_Print.mono _ _ _)
      | (with_reducible exact tamisref19_Read.mono _ _ _)
      | (with_reducible exact LeO.refl _)
      | (with_reducible exact LeO.none _)
      | (with_reducible refine LeO.ite ?_ ?_)
      | (with_reducible refine LeO.bind ?_ (fun _ => ?_))
      | exact ih0 _ _ _ _
      | exact tamisref19_Print.mono _ _ _
      | exact tamisref19_Read.mono _ _ _
      | exact LeO.none _
      | refine LeO.ite ?_ ?_
      | refine LeO.bind ?_ (fun _ => ?_)
theorem tamislaw19_TableReads.mono : ∀ a0 a1 a2 k, LeO (tamislaw19_TableReads.f k a0 a1 a2) (tamislaw19_TableReads.f (k + 1) a0 a1 a2) := by
  intro a0 a1 a2 k
  have ih0 := tamislaw19_TableReads.mono_l k
  unfold tamislaw19_TableReads.f
  repeat' first
      | (with_reducible exact ih0 _ _ _ _)
      | (with_reducible exact tamisref19_Print.mono _ _ _)
      | (with_reducible exact tamisref19_Read.mono _ _ _)
      | (with_reducible exact LeO.refl _)
      | (with_reducible exact LeO.none _)
      | (with_reducible refine LeO.ite ?_ ?_)
      | (with_reducible refine LeO.bind ?_ (fun _ => ?_))
      | exact ih0 _ _ _ _
      | exact tamisref19_Print.mono _ _ _
      | exact tamisref19_Read.mono _ _ _
      | exact LeO.none _
      | refine LeO.ite ?_ ?_
      | refine LeO.bind ?_ (fun _ => ?_)
set_option maxHeartbeats 8000000 in
set_option maxRecDepth 100000 in
theorem tamislaw19_TableReads.calls (k : Nat) (a0 : Int) (a1 : Int) (a2 : ByteArray) (r : Bool) (w : World) (hT : r = true) (hG : GlobW w) (h : tamislaw19_TableReads.f k a0 a1 a2 = some r) :
    Calls Tryd.prog 5 #[.int .u32 a0, .int .u32 a1, .string a2] w fun e w' => e = .returned (.bool r) ∧ Below w.heap.size w w' := by
  have HT := Aside0.mk hT
  clear hT
  have HB := Aside0.mk (Below.refl w.heap.size w)
  have H : ((awake19.f).bind fun t204 => (if t204 = true then (tamislaw19_TableReads.j0 k a0 a1 a2 (decide ((a2.size : Int) > 50))) else (tamislaw19_TableReads.j0 k a0 a1 a2 true))) = some r := h
  clear h
  have HC4 := Aside0.mk H
  clear H
  go_enter Tryd.func5, Tryd.ntmps5
  go_upto_region 1 with (fail)
  go_cut [20] (fun v20 wc => ∃ (kq : Nat) (x20_3 : Bool), v20 = .bool x20_3 ∧ Aside0 (tamislaw19_TableReads.j0 kq a0 a1 a2 x20_3 = some r) ∧ Aside0 (kq ≤ k) ∧ Aside0 (Below w.heap.size w wc))
  case first =>
    have H := HC4.out
    clear HC4
    replace H := Option.bind_eq_some_iff.mp H
    obtain ⟨t204, A50, H⟩ := H
    replace H : (if t204 = true then (tamislaw19_TableReads.j0 k a0 a1 a2 (decide ((a2.size : Int) > 50))) else (tamislaw19_TableReads.j0 k a0 a1 a2 true)) = some r := H
    have A5 := Aside0.mk A50
    clear A50
    by_cases c6 : t204 = true
    · subst c6
      have H1 : (tamislaw19_TableReads.j0 k a0 a1 a2 (decide ((a2.size : Int) > 50))) = some r := by rw [if_pos rfl] at H; exact H
      clear H
      have H := H1
      clear H1
      have H' := Aside0.mk H
      clear H
      go_wp2_with (first | ((with_reducible refine gate_callee (f := 8) rfl ?_); refine goesL_ (some 14) rfl rfl Tryd.func8 (by kernel_rfl) rfl #[] rfl (by (try simp only [List.map_toArray, List.map_cons, List.map_nil]); first | done | rfl | (simp only [List.length_drop, List.length_take]; rfl)) ?_; (with_reducible refine (awake19.calls  true _ (hG.on (by repeat (first | (with_reducible first | exact HB.out | apply below_alloc | apply pw_below_drewN | apply below_drew1) | exact HB.out))) A5.out).mono ?_); rintro e w7 ⟨rfl, hb⟩; refine ⟨_, rfl, ?_⟩; have n0_ := Aside0.mk (below_step (by repeat (first | (with_reducible first | exact HB.out | apply below_alloc | apply pw_below_drewN | apply below_drew1) | exact HB.out)) hb); clear HB; have HB := n0_; clear n0_; (try clear hb); (try clear hb2); (try clear hk); (try clear hi)))
      go_meet
      case rel => exact ⟨_, (decide ((a2.size : Int) > 50)), (by first | rfl | (simp; done) | (simp [*]; done)), H', ⟨by first | omega | exact Nat.le_refl _⟩, ⟨by repeat (first | (with_reducible first | exact HB.out | apply below_alloc | apply pw_below_drewN | apply below_drew1) | exact HB.out)⟩⟩
    · replace c6 := Bool.eq_false_iff.mpr c6
      subst c6
      have H1 : (tamislaw19_TableReads.j0 k a0 a1 a2 true) = some r := by rw [if_neg (show ¬ (false = true) by decide)] at H; exact H
      clear H
      have H := H1
      clear H1
      have H' := Aside0.mk H
      clear H
      go_wp2_with (first | ((with_reducible refine gate_callee (f := 8) rfl ?_); refine goesL_ (some 14) rfl rfl Tryd.func8 (by kernel_rfl) rfl #[] rfl (by (try simp only [List.map_toArray, List.map_cons, List.map_nil]); first | done | rfl | (simp only [List.length_drop, List.length_take]; rfl)) ?_; (with_reducible refine (awake19.calls  false _ (hG.on (by repeat (first | (with_reducible first | exact HB.out | apply below_alloc | apply pw_below_drewN | apply below_drew1) | exact HB.out))) A5.out).mono ?_); rintro e w8 ⟨rfl, hb⟩; refine ⟨_, rfl, ?_⟩; have n0_ := Aside0.mk (below_step (by repeat (first | (with_reducible first | exact HB.out | apply below_alloc | apply pw_below_drewN | apply below_drew1) | exact HB.out)) hb); clear HB; have HB := n0_; clear n0_; (try clear hb); (try clear hb2); (try clear hk); (try clear hi)))
      go_meet
      case rel => exact ⟨_, (true), (by first | rfl | (simp; done) | (simp [*]; done)), H', ⟨by first | omega | exact Nat.le_refl _⟩, ⟨by repeat (first | (with_reducible first | exact HB.out | apply below_alloc | apply pw_below_drewN | apply below_drew1) | exact HB.out)⟩⟩
  case rest =>
    clear HC4
    try clear p2
    try clear c5
    try clear c6
    try clear c8
    obtain ⟨kq, x20_3, rfl, HA, HJ3, HB⟩ := hcut
    cases kq with
    | zero => exact absurd HA.out (by simp [tamislaw19_TableReads.j0])
    | succ kj3 =>
      have H := HA.out
      clear HA
      simp only [tamislaw19_TableReads.j0] at H
      by_cases c9 : x20_3 = true
      · subst c9
        have H1 : ((awake19.f).bind fun t205 => (some t205)) = some r := by rw [if_pos rfl] at H; exact H
        clear H
        have H := H1
        clear H1
        replace H := Option.bind_eq_some_iff.mp H
        obtain ⟨t205, A100, H⟩ := H
        replace H : (some t205) = some r := H
        have A10 := Aside0.mk A100
        clear A100
        obtain rfl := Option.some.inj H
        go_wp2_with (first | ((with_reducible refine gate_callee (f := 8) rfl ?_); refine goesL_ (some 21) rfl rfl Tryd.func8 (by kernel_rfl) rfl #[] rfl (by (try simp only [List.map_toArray, List.map_cons, List.map_nil]); first | done | rfl | (simp only [List.length_drop, List.length_take]; rfl)) ?_; (with_reducible refine (awake19.calls  t205 _ (hG.on (by repeat (first | (with_reducible first | exact HB.out | apply below_alloc | apply pw_below_drewN | apply below_drew1) | exact HB.out))) A10.out).mono ?_); rintro e w11 ⟨rfl, hb⟩; refine ⟨_, rfl, ?_⟩; have n0_ := Aside0.mk (below_step (by repeat (first | (with_reducible first | exact HB.out | apply below_alloc | apply pw_below_drewN | apply below_drew1) | exact HB.out)) hb); clear HB; have HB := n0_; clear n0_; (try clear hb); (try clear hb2); (try clear hk); (try clear hi)))
        go_ret
        exact ⟨by first | rfl | (simp [errW_none, errW_some] <;> rfl) | (simp [*, errW_none, errW_some] <;> rfl), by repeat (first | (with_reducible first | exact HB.out | apply below_alloc | apply pw_below_drewN | apply below_drew1) | exact HB.out)⟩
      · replace c9 := Bool.eq_false_iff.mpr c9
        subst c9
        have H1 : ((table_Print.f a0 a1).bind fun t206 => ((table_Read.f a0 t206).bind fun bt207 => ((table_Read.f a0 a2).bind fun bt209 => ((tamisref19_Read.f kj3 a0 a2).bind fun bt211 => ((tamisref19_Print.f kj3 a0 a1).bind fun t213 => (if t206.toList = t213.toList then (if bt207.1 = a1 then (if bt207.2 = true then (if bt209.1 = bt211.1 then (if (bt209.2 == bt211.2) = true then (if bt209.2 = true then ((table_Print.f a0 bt209.1).bind fun t214 => (some (t214.toList == a2.toList))) else (some true)) else (some false)) else (some false)) else (some false)) else (some false)) else (some false))))))) = some r := by rw [if_neg (show ¬ (false = true) by decide)] at H; exact H
        clear H
        have H := H1
        clear H1
        replace H := Option.bind_eq_some_iff.mp H
        obtain ⟨t206, A120, H⟩ := H
        replace H : ((table_Read.f a0 t206).bind fun bt207 => ((table_Read.f a0 a2).bind fun bt209 => ((tamisref19_Read.f kj3 a0 a2).bind fun bt211 => ((tamisref19_Print.f kj3 a0 a1).bind fun t213 => (if t206.toList = t213.toList then (if bt207.1 = a1 then (if bt207.2 = true then (if bt209.1 = bt211.1 then (if (bt209.2 == bt211.2) = true then (if bt209.2 = true then ((table_Print.f a0 bt209.1).bind fun t214 => (some (t214.toList == a2.toList))) else (some true)) else (some false)) else (some false)) else (some false)) else (some false)) else (some false)))))) = some r := H
        have A12 := Aside0.mk A120
        clear A120
        replace H := Option.bind_eq_some_iff.mp H
        obtain ⟨⟨t207, t208⟩, A130, H⟩ := H
        replace H : ((table_Read.f a0 a2).bind fun bt209 => ((tamisref19_Read.f kj3 a0 a2).bind fun bt211 => ((tamisref19_Print.f kj3 a0 a1).bind fun t213 => (if t206.toList = t213.toList then (if t207 = a1 then (if t208 = true then (if bt209.1 = bt211.1 then (if (bt209.2 == bt211.2) = true then (if bt209.2 = true then ((table_Print.f a0 bt209.1).bind fun t214 => (some (t214.toList == a2.toList))) else (some true)) else (some false)) else (some false)) else (some false)) else (some false)) else (some false))))) = some r := H
        have A13 := Aside0.mk A130
        clear A130
        replace H := Option.bind_eq_some_iff.mp H
        obtain ⟨⟨t209, t210⟩, A140, H⟩ := H
        replace H : ((tamisref19_Read.f kj3 a0 a2).bind fun bt211 => ((tamisref19_Print.f kj3 a0 a1).bind fun t213 => (if t206.toList = t213.toList then (if t207 = a1 then (if t208 = true then (if t209 = bt211.1 then (if (t210 == bt211.2) = true then (if t210 = true then ((table_Print.f a0 t209).bind fun t214 => (some (t214.toList == a2.toList))) else (some true)) else (some false)) else (some false)) else (some false)) else (some false)) else (some false)))) = some r := H
        have A14 := Aside0.mk A140
        clear A140
        replace H := Option.bind_eq_some_iff.mp H
        obtain ⟨⟨t211, t212⟩, A150, H⟩ := H
        replace H : ((tamisref19_Print.f kj3 a0 a1).bind fun t213 => (if t206.toList = t213.toList then (if t207 = a1 then (if t208 = true then (if t209 = t211 then (if (t210 == t212) = true then (if t210 = true then ((table_Print.f a0 t209).bind fun t214 => (some (t214.toList == a2.toList))) else (some true)) else (some false)) else (some false)) else (some false)) else (some false)) else (some false))) = some r := H
        have A15 := Aside0.mk A150
        clear A150
        replace H := Option.bind_eq_some_iff.mp H
        obtain ⟨t213, A160, H⟩ := H
        replace H : (if t206.toList = t213.toList then (if t207 = a1 then (if t208 = true then (if t209 = t211 then (if (t210 == t212) = true then (if t210 = true then ((table_Print.f a0 t209).bind fun t214 => (some (t214.toList == a2.toList))) else (some true)) else (some false)) else (some false)) else (some false)) else (some false)) else (some false)) = some r := H
        have A16 := Aside0.mk A160
        clear A160
        by_cases c17 : t206.toList = t213.toList
        · rw [if_pos c17] at H
          have c17b0 : (t206.toList == t213.toList) = true := beq_iff_eq.mpr c17
          have c17b1 : (t206.toList != t213.toList) = false := bne_eq_false_iff_eq.mpr c17
          clear c17
          by_cases c18 : t207 = a1
          · rw [if_pos c18] at H
            have c18b0 : (t207 == a1) = true := beq_iff_eq.mpr c18
            have c18b1 : (t207 != a1) = false := bne_eq_false_iff_eq.mpr c18
            clear c18
            by_cases c19 : t208 = true
            · subst c19
              have H1 : (if t209 = t211 then (if (t210 == t212) = true then (if t210 = true then ((table_Print.f a0 t209).bind fun t214 => (some (t214.toList == a2.toList))) else (some true)) else (some false)) else (some false)) = some r := by rw [if_pos rfl] at H; exact H
              clear H
              have H := H1
              clear H1
              by_cases c20 : t209 = t211
              · rw [if_pos c20] at H
                have c20b0 : (t209 == t211) = true := beq_iff_eq.mpr c20
                have c20b1 : (t209 != t211) = false := bne_eq_false_iff_eq.mpr c20
                clear c20
                by_cases c21 : (t210 == t212) = true
                · rw [if_pos c21] at H
                  have c21b0 : (t210 == t212) = true := c21
                  (try (have c21b1 : decide (t210 = t212) = true := by simpa using c21))
                  (try (have c21b2 : (t210 == t212) = true := by simpa using c21))
                  clear c21
                  by_cases c22 : t210 = true
                  · subst c22
                    have H1 : ((table_Print.f a0 t209).bind fun t214 => (some (t214.toList == a2.toList))) = some r := by rw [if_pos rfl] at H; exact H
                    clear H
                    have H := H1
                    clear H1
                    replace H := Option.bind_eq_some_iff.mp H
                    obtain ⟨t214, A230, H⟩ := H
                    replace H : (some (t214.toList == a2.toList)) = some r := H
                    have A23 := Aside0.mk A230
                    clear A230
                    obtain rfl := Option.some.inj H
                    go_wp2_with (first | ((with_reducible refine gate_callee (f := 16) rfl ?_); refine goesL_ (some 24) rfl rfl Tryd.func16 (by kernel_rfl) rfl #[.int .u32 a0, .int .u32 a1] rfl (by (try simp only [List.map_toArray, List.map_cons, List.map_nil]); first | done | rfl | (simp only [List.length_drop, List.length_take]; rfl)) ?_; (with_reducible refine (table_Print.calls a0 a1 t206 _ (hG.on (by repeat (first | (with_reducible first | exact HB.out | apply below_alloc | apply pw_below_drewN | apply below_drew1) | exact HB.out))) A12.out).mono ?_); rintro e w24 ⟨rfl, hb⟩; refine ⟨_, rfl, ?_⟩; have n0_ := Aside0.mk (below_step (by repeat (first | (with_reducible first | exact HB.out | apply below_alloc | apply pw_below_drewN | apply below_drew1) | exact HB.out)) hb); clear HB; have HB := n0_; clear n0_; (try clear hb); (try clear hb2); (try clear hk); (try clear hi)) | ((with_reducible refine gate_callee (f := 17) rfl ?_); refine goesL_ (some 28) rfl rfl Tryd.func17 (by kernel_rfl) rfl #[.int .u32 a0, .string t206] rfl (by (try simp only [List.map_toArray, List.map_cons, List.map_nil]); first | done | rfl | (simp only [List.length_drop, List.length_take]; rfl)) ?_; (with_reducible refine (table_Read.calls a0 t206 t207 true _ (hG.on (by repeat (first | (with_reducible first | exact HB.out | apply below_alloc | apply pw_below_drewN | apply below_drew1) | exact HB.out))) A13.out).mono ?_); rintro e w25 ⟨rfl, hb⟩; refine ⟨_, rfl, ?_⟩; have n0_ := Aside0.mk (below_step (by repeat (first | (with_reducible first | exact HB.out | apply below_alloc | apply pw_below_drewN | apply below_drew1) | exact HB.out)) hb); clear HB; have HB := n0_; clear n0_; (try clear hb); (try clear hb2); (try clear hk); (try clear hi)) | ((with_reducible refine gate_callee (f := 17) rfl ?_); refine goesL_ (some 34) rfl rfl Tryd.func17 (by kernel_rfl) rfl #[.int .u32 a0, .string a2] rfl (by (try simp only [List.map_toArray, List.map_cons, List.map_nil]); first | done | rfl | (simp only [List.length_drop, List.length_take]; rfl)) ?_; (with_reducible refine (table_Read.calls a0 a2 t209 true _ (hG.on (by repeat (first | (with_reducible first | exact HB.out | apply below_alloc | apply pw_below_drewN | apply below_drew1) | exact HB.out))) A14.out).mono ?_); rintro e w26 ⟨rfl, hb⟩; refine ⟨_, rfl, ?_⟩; have n0_ := Aside0.mk (below_step (by repeat (first | (with_reducible first | exact HB.out | apply below_alloc | apply pw_below_drewN | apply below_drew1) | exact HB.out)) hb); clear HB; have HB := n0_; clear n0_; (try clear hb); (try clear hb2); (try clear hk); (try clear hi)) | ((with_reducible refine gate_callee (f := 18) rfl ?_); refine goesL_ (some 40) rfl rfl Tryd.func18 (by kernel_rfl) rfl #[.int .u32 a0, .string a2] rfl (by (try simp only [List.map_toArray, List.map_cons, List.map_nil]); first | done | rfl | (simp only [List.length_drop, List.length_take]; rfl)) ?_; (with_reducible refine (tamisref19_Read.calls kj3 a0 a2 t211 t212 _ A15.out).mono ?_); rintro e w27 ⟨rfl, hb⟩; refine ⟨_, rfl, ?_⟩; have n0_ := Aside0.mk (below_step (by repeat (first | (with_reducible first | exact HB.out | apply below_alloc | apply pw_below_drewN | apply below_drew1) | exact HB.out)) hb); clear HB; have HB := n0_; clear n0_; (try clear hb); (try clear hb2); (try clear hk); (try clear hi)) | ((with_reducible refine gate_callee (f := 19) rfl ?_); refine goesL_ (some 46) rfl rfl Tryd.func19 (by kernel_rfl) rfl #[.int .u32 a0, .int .u32 a1] rfl (by (try simp only [List.map_toArray, List.map_cons, List.map_nil]); first | done | rfl | (simp only [List.length_drop, List.length_take]; rfl)) ?_; (with_reducible refine (tamisref19_Print.calls kj3 a0 a1 t213 _ A16.out).mono ?_); rintro e w28 ⟨rfl, hb⟩; refine ⟨_, rfl, ?_⟩; have n0_ := Aside0.mk (below_step (by repeat (first | (with_reducible first | exact HB.out | apply below_alloc | apply pw_below_drewN | apply below_drew1) | exact HB.out)) hb); clear HB; have HB := n0_; clear n0_; (try clear hb); (try clear hb2); (try clear hk); (try clear hi)) | (go_at_call 16; (with_reducible refine (table_Print.calls a0 t209 t214 _ (hG.on (by repeat (first | (with_reducible first | exact HB.out | apply below_alloc | apply pw_below_drewN | apply below_drew1) | exact HB.out))) A23.out).mono ?_); rintro e w29 ⟨rfl, hb⟩; have n0_ := Aside0.mk (below_step (by repeat (first | (with_reducible first | exact HB.out | apply below_alloc | apply pw_below_drewN | apply below_drew1) | exact HB.out)) hb); clear HB; have HB := n0_; clear n0_; (try clear hb); (try clear hb2); (try clear hk); (try clear hi)))
                    go_ret
                    exact ⟨by first | rfl | (simp [errW_none, errW_some] <;> rfl) | (simp [*, errW_none, errW_some] <;> rfl), by repeat (first | (with_reducible first | exact HB.out | apply below_alloc | apply pw_below_drewN | apply below_drew1) | exact HB.out)⟩
                  · replace c22 := Bool.eq_false_iff.mpr c22
                    subst c22
                    have H1 : (some true) = some r := by rw [if_neg (show ¬ (false = true) by decide)] at H; exact H
                    clear H
                    have H := H1
                    clear H1
                    obtain rfl := Option.some.inj H
                    go_wp2_with (first | ((with_reducible refine gate_callee (f := 16) rfl ?_); refine goesL_ (some 24) rfl rfl Tryd.func16 (by kernel_rfl) rfl #[.int .u32 a0, .int .u32 a1] rfl (by (try simp only [List.map_toArray, List.map_cons, List.map_nil]); first | done | rfl | (simp only [List.length_drop, List.length_take]; rfl)) ?_; (with_reducible refine (table_Print.calls a0 a1 t206 _ (hG.on (by repeat (first | (with_reducible first | exact HB.out | apply below_alloc | apply pw_below_drewN | apply below_drew1) | exact HB.out))) A12.out).mono ?_); rintro e w30 ⟨rfl, hb⟩; refine ⟨_, rfl, ?_⟩; have n0_ := Aside0.mk (below_step (by repeat (first | (with_reducible first | exact HB.out | apply below_alloc | apply pw_below_drewN | apply below_drew1) | exact HB.out)) hb); clear HB; have HB := n0_; clear n0_; (try clear hb); (try clear hb2); (try clear hk); (try clear hi)) | ((with_reducible refine gate_callee (f := 17) rfl ?_); refine goesL_ (some 28) rfl rfl Tryd.func17 (by kernel_rfl) rfl #[.int .u32 a0, .string t206] rfl (by (try simp only [List.map_toArray, List.map_cons, List.map_nil]); first | done | rfl | (simp only [List.length_drop, List.length_take]; rfl)) ?_; (with_reducible refine (table_Read.calls a0 t206 t207 true _ (hG.on (by repeat (first | (with_reducible first | exact HB.out | apply below_alloc | apply pw_below_drewN | apply below_drew1) | exact HB.out))) A13.out).mono ?_); rintro e w31 ⟨rfl, hb⟩; refine ⟨_, rfl, ?_⟩; have n0_ := Aside0.mk (below_step (by repeat (first | (with_reducible first | exact HB.out | apply below_alloc | apply pw_below_drewN | apply below_drew1) | exact HB.out)) hb); clear HB; have HB := n0_; clear n0_; (try clear hb); (try clear hb2); (try clear hk); (try clear hi)) | ((with_reducible refine gate_callee (f := 17) rfl ?_); refine goesL_ (some 34) rfl rfl Tryd.func17 (by kernel_rfl) rfl #[.int .u32 a0, .string a2] rfl (by (try simp only [List.map_toArray, List.map_cons, List.map_nil]); first | done | rfl | (simp only [List.length_drop, List.length_take]; rfl)) ?_; (with_reducible refine (table_Read.calls a0 a2 t209 false _ (hG.on (by repeat (first | (with_reducible first | exact HB.out | apply below_alloc | apply pw_below_drewN | apply below_drew1) | exact HB.out))) A14.out).mono ?_); rintro e w32 ⟨rfl, hb⟩; refine ⟨_, rfl, ?_⟩; have n0_ := Aside0.mk (below_step (by repeat (first | (with_reducible first | exact HB.out | apply below_alloc | apply pw_below_drewN | apply below_drew1) | exact HB.out)) hb); clear HB; have HB := n0_; clear n0_; (try clear hb); (try clear hb2); (try clear hk); (try clear hi)) | ((with_reducible refine gate_callee (f := 18) rfl ?_); refine goesL_ (some 40) rfl rfl Tryd.func18 (by kernel_rfl) rfl #[.int .u32 a0, .string a2] rfl (by (try simp only [List.map_toArray, List.map_cons, List.map_nil]); first | done | rfl | (simp only [List.length_drop, List.length_take]; rfl)) ?_; (with_reducible refine (tamisref19_Read.calls kj3 a0 a2 t211 t212 _ A15.out).mono ?_); rintro e w33 ⟨rfl, hb⟩; refine ⟨_, rfl, ?_⟩; have n0_ := Aside0.mk (below_step (by repeat (first | (with_reducible first | exact HB.out | apply below_alloc | apply pw_below_drewN | apply below_drew1) | exact HB.out)) hb); clear HB; have HB := n0_; clear n0_; (try clear hb); (try clear hb2); (try clear hk); (try clear hi)) | ((with_reducible refine gate_callee (f := 19) rfl ?_); refine goesL_ (some 46) rfl rfl Tryd.func19 (by kernel_rfl) rfl #[.int .u32 a0, .int .u32 a1] rfl (by (try simp only [List.map_toArray, List.map_cons, List.map_nil]); first | done | rfl | (simp only [List.length_drop, List.length_take]; rfl)) ?_; (with_reducible refine (tamisref19_Print.calls kj3 a0 a1 t213 _ A16.out).mono ?_); rintro e w34 ⟨rfl, hb⟩; refine ⟨_, rfl, ?_⟩; have n0_ := Aside0.mk (below_step (by repeat (first | (with_reducible first | exact HB.out | apply below_alloc | apply pw_below_drewN | apply below_drew1) | exact HB.out)) hb); clear HB; have HB := n0_; clear n0_; (try clear hb); (try clear hb2); (try clear hk); (try clear hi)))
                    go_ret
                    exact ⟨by first | rfl | (simp [errW_none, errW_some] <;> rfl) | (simp [*, errW_none, errW_some] <;> rfl), by repeat (first | (with_reducible first | exact HB.out | apply below_alloc | apply pw_below_drewN | apply below_drew1) | exact HB.out)⟩
                · rw [if_neg c21] at H
                  have c21b0 : (t210 == t212) = false := by simpa using c21
                  (try (have c21b1 : decide (t210 = t212) = false := by simpa using c21))
                  (try (have c21b2 : (t210 == t212) = false := by simpa using c21))
                  (try (have c21b3 : ¬ (t210 = t212) := by simpa using c21))
                  clear c21
                  exact absurd ((Option.some.inj H).trans HT.out) (by simp)
              · rw [if_neg c20] at H
                have c20b0 : (t209 == t211) = false := beq_eq_false_iff_ne.mpr c20
                have c20b1 : (t209 != t211) = true := bne_iff_ne.mpr c20
                exact absurd ((Option.some.inj H).trans HT.out) (by simp)
            · replace c19 := Bool.eq_false_iff.mpr c19
              subst c19
              have H1 : (some false) = some r := by rw [if_neg (show ¬ (false = true) by decide)] at H; exact H
              clear H
              have H := H1
              clear H1
              exact absurd ((Option.some.inj H).trans HT.out) (by simp)
          · rw [if_neg c18] at H
            have c18b0 : (t207 == a1) = false := beq_eq_false_iff_ne.mpr c18
            have c18b1 : (t207 != a1) = true := bne_iff_ne.mpr c18
            exact absurd ((Option.some.inj H).trans HT.out) (by simp)
        · rw [if_neg c17] at H
          have c17b0 : (t206.toList == t213.toList) = false := beq_eq_false_iff_ne.mpr c17
          have c17b1 : (t206.toList != t213.toList) = true := bne_iff_ne.mpr c17
          exact absurd ((Option.some.inj H).trans HT.out) (by simp)

end Go.Proofs.YtpgjcjgmokfofaaDoor.Pr
