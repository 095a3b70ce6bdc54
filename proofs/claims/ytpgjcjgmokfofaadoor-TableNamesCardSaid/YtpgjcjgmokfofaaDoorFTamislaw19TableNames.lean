-- Made by a program of this session (wip/tools/myprint.sh).
import Derived.Test.YtpgjcjgmokfofaaDoorGLib
import Derived.Test.YtpgjcjgmokfofaaDoorPr0
import Derived.Test.YtpgjcjgmokfofaaDoorFRefT
import Derived.Test.YtpgjcjgmokfofaaDoorFTamisref19Name
import Derived.Test.YtpgjcjgmokfofaaDoorGAwake19
import Derived.Test.YtpgjcjgmokfofaaDoorGTabLook
namespace Go.Proofs.YtpgjcjgmokfofaaDoor.Pr
open Go.RowKit Go.Proofs.YtpgjcjgmokfofaaDoorW.PrintWords Go.Proofs.YtpgjcjgmokfofaaDoorW.PrintLast Go.Proofs.YtpgjcjgmokfofaaDoorW.PrintMore
attribute [local go_sem] max2_int min2_int max_two min_two max_three min_three max_four min_four   -- for this text's walks alone
set_option linter.unusedVariables false
set_option linter.unusedSimpArgs false

/-! ### tamislaw19_TableNames: function 3 -/
mutual
def tamislaw19_TableNames.j0 : Nat → Int → Int → ByteArray → Bool → Option (Bool)
  | 0, _, _, _, _ => none
  | k + 1, x0, x1, x2, x22 => if x22 = true then ((awake19.f).bind fun t146 => (some t146)) else ((table_Name.f x0 x1).bind fun t147 => ((table_Find.f x0 x2).bind fun bt148 => ((tamisref19_Name.f k x0 x1).bind fun t150 => (if t147.toList = t150.toList then (if bt148.2 = true then (if x2.toList = ([] : List UInt8) then (tamislaw19_TableNames.j1 k x0 x1 x2 t147 bt148.2 true) else ((tamisref19_Name.f k x0 bt148.1).bind fun t151 => (tamislaw19_TableNames.j1 k x0 x1 x2 t147 bt148.2 (t151.toList != x2.toList)))) else (if bt148.1 = 0 then (tamislaw19_TableNames.j1 k x0 x1 x2 t147 bt148.2 false) else (tamislaw19_TableNames.j1 k x0 x1 x2 t147 bt148.2 true))) else (tamislaw19_TableNames.j1 k x0 x1 x2 t147 bt148.2 true)))))
def tamislaw19_TableNames.j1 : Nat → Int → Int → ByteArray → ByteArray → Bool → Bool → Option (Bool)
  | 0, _, _, _, _, _, _ => none
  | k + 1, x0, x1, x2, x7, x9, x59 => if x59 = true then (some false) else ((tamisref19_Calls.f x0).bind fun bt152 => (tamislaw19_TableNames.l0 k x0 x1 x2 x7 x9 bt152.2 false (bt152.1.length : Int) 0))
def tamislaw19_TableNames.l0 : Nat → Int → Int → ByteArray → ByteArray → Bool → List ByteArray → Bool → Int → Int → Option (Bool)
  | 0, _, _, _, _, _, _, _, _, _ => none
  | k + 1, x0, x1, x2, x7, x9, x11, x12, x66, x67 => if x67 < x66 then (if x12 = true then (tamislaw19_TableNames.l0 k x0 x1 x2 x7 x9 x11 true x66 (wrap64 (x67 + 1))) else (if 0 ≤ x67 then (if x67 < (x11.length : Int) then (tamislaw19_TableNames.l0 k x0 x1 x2 x7 x9 x11 ((rdOf ByteArray.empty x11 x67).toList == x2.toList) x66 (wrap64 (x67 + 1))) else (none)) else (none))) else ((table_Find.f x0 x7).bind fun bt159 => (if (x12 == x9) = true then (if x7.toList = ([] : List UInt8) then (some true) else (if bt159.2 = true then (some (bt159.1 == x1)) else (some false))) else (some false)))
end
def tamislaw19_TableNames.f (k : Nat) (a0 : Int) (a1 : Int) (a2 : ByteArray) : Option (Bool) := (awake19.f).bind fun t145 => (if t145 = true then (tamislaw19_TableNames.j0 k a0 a1 a2 (decide ((a2.size : Int) > 50))) else (tamislaw19_TableNames.j0 k a0 a1 a2 true))
theorem tamislaw19_TableNames.mono_l : ∀ k, (∀ y0 y1 y2 y3, LeO (tamislaw19_TableNames.j0 k y0 y1 y2 y3) (tamislaw19_TableNames.j0 (k + 1) y0 y1 y2 y3)) ∧ (∀ y0 y1 y2 y3 y4 y5, LeO (tamislaw19_TableNames.j1 k y0 y1 y2 y3 y4 y5) (tamislaw19_TableNames.j1 (k + 1) y0 y1 y2 y3 y4 y5)) ∧ (∀ y0 y1 y2 y3 y4 y5 y6 y7 y8, LeO (tamislaw19_TableNames.l0 k y0 y1 y2 y3 y4 y5 y6 y7 y8) (tamislaw19_TableNames.l0 (k + 1) y0 y1 y2 y3 y4 y5 y6 y7 y8))
  | 0 => ⟨fun _ _ _ _ r h => by simp [tamislaw19_TableNames.j0] at h, fun _ _ _ _ _ _ r h => by simp [tamislaw19_TableNames.j1] at h, fun _ _ _ _ _ _ _ _ _ r h => by simp [tamislaw19_TableNames.l0] at h⟩
  | k + 1 => by
    obtain ⟨ih0, ih1, ih2⟩ := tamislaw19_TableNames.mono_l k
    refine ⟨?_, ?_, ?_⟩
    · intro y0 y1 y2 y3
      unfold tamislaw19_TableNames.j0
      repeat' first
      | (with_reducible exact ih0 _ _ _ _)
      | (with_reducible exact ih1 _ _ _ _ _ _)
      | (with_reducible exact ih2 _ _ _ _ _ _ _ _ _)
      | (with_reducible exact tamisref19_Name.mono _ _ _)
      | (with_reducible exact LeO.refl _)
      | (with_reducible exact LeO.none _)
      | (with_reducible refine LeO.ite ?_ ?_)
      | (with_reducible refine LeO.bind ?_ (fun _ => ?_))
      | exact ih0 _ _ _ _
      | exact ih1 _ _ _ _ _ _
      | exact ih2 _ _ _ _ _ _ _ _ _
      | exact tamisref19_Name.mono _ _ _
      | exact LeO.none _
      | refine LeO.ite ?_ ?_
      | refine LeO.bind ?_ (fun _ => ?_)
    · intro y0 y1 y2 y3 y4 y5
      unfold tamislaw19_TableNames.j1
      repeat' first
      | (with_reducible exact ih0 _ _ _ _)
      | (with_reducible exact ih1 _ _ _ _ _ _)
      | (with_reducible exact ih2 _ _ _ _ _ _ _ _ _)
      | (with_reducible exact tamisref19_Name.mono _ _ _)
      | (with_reducible exact LeO.refl _)
      | (with_reducible exact LeO.none _)
      | (with_reducible refine LeO.ite ?_ ?_)
      | (with_reducible refine LeO.bind ?_ (fun _ => ?_))
      | exact ih0 _ _ _ _
      | exact ih1 _ _ _ _ _ _
      | exact ih2 _ _ _ _ _ _ _ _ _
      | exact tamisref19_Name.mono _ _ _
      | exact LeO.none _
      | refine LeO.ite ?_ ?_
      | refine LeO.bind ?_ (fun _ => ?_)
    · intro y0 y1 y2 y3 y4 y5 y6 y7 y8
      unfold tamislaw19_TableNames.l0
      repeat' first
      | (with_reducible exact ih0 _ _ _ _)
      | (with_reducible exact ih1 _ _ _ _ _ _)
      | (with_reducible exact ih2 _ _ _ _ _ _ _ _ _)
      | (with_reducible exact tamisref19_Name.mono _ _ _)
      | (with_reducible exact LeO.refl _)
      | (with_reducible exact LeO.none _)
      | (with_reducible refine LeO.ite ?_ ?_)
      | (with_reducible refine LeO.bind ?_ (fun _ => ?_))
      | exact ih0 _ _ _ _
      | exact ih1 _ _ _ _ _ _
      | exact ih2 _ _ _ _ _ _ _ _ _
      | exact tamisref19_Name.mono _ _ _
      | exact LeO.none _
      | refine LeO.ite ?_ ?_
      | refine LeO.bind ?_ (fun _ => ?_)
theorem tamislaw19_TableNames.mono : ∀ a0 a1 a2 k, LeO (tamislaw19_TableNames.f k a0 a1 a2) (tamislaw19_TableNames.f (k + 1) a0 a1 a2) := by
  intro a0 a1 a2 k
  obtain ⟨ih0, ih1, ih2⟩ := tamislaw19_TableNames.mono_l k
  unfold tamislaw19_TableNames.f
  repeat' first
      | (with_reducible exact ih0 _ _ _ _)
      | (with_reducible exact ih1 _ _ _ _ _ _)
      | (with_reducible exact ih2 _ _ _ _ _ _ _ _ _)
      | (with_reducible exact tamisref19_Name.mono _ _ _)
      | (with_reducible exact LeO.refl _)
      | (with_reducible exact LeO.none _)
      | (with_reducible refine LeO.ite ?_ ?_)
      | (with_reducible refine LeO.bind ?_ (fun _ => ?_))
      | exact ih0 _ _ _ _
      | exact ih1 _ _ _ _ _ _
      | exact ih2 _ _ _ _ _ _ _ _ _
      | exact tamisref19_Name.mono _ _ _
      | exact LeO.none _
      | refine LeO.ite ?_ ?_
      | refine LeO.bind ?_ (fun _ => ?_)
set_option maxHeartbeats 8000000 in
set_option maxRecDepth 100000 in
theorem tamislaw19_TableNames.calls (k : Nat) (a0 : Int) (a1 : Int) (a2 : ByteArray) (r : Bool) (w : World) (hT : r = true) (hG : GlobW w) (h : tamislaw19_TableNames.f k a0 a1 a2 = some r) :
    Calls Tryd.prog 3 #[.int .u32 a0, .int .u32 a1, .string a2] w fun e w' => e = .returned (.bool r) ∧ Below w.heap.size w w' := by
  have HT := Aside0.mk hT
  clear hT
  have HB := Aside0.mk (Below.refl w.heap.size w)
  have H : ((awake19.f).bind fun t145 => (if t145 = true then (tamislaw19_TableNames.j0 k a0 a1 a2 (decide ((a2.size : Int) > 50))) else (tamislaw19_TableNames.j0 k a0 a1 a2 true))) = some r := h
  clear h
  have HC4 := Aside0.mk H
  clear H
  go_enter Tryd.func3, Tryd.ntmps3
  go_upto_region 1 with (fail)
  go_cut [22] (fun v22 wc => ∃ (kq : Nat) (x22_3 : Bool), v22 = .bool x22_3 ∧ Aside0 (tamislaw19_TableNames.j0 kq a0 a1 a2 x22_3 = some r) ∧ Aside0 (kq ≤ k) ∧ Aside0 (Below w.heap.size w wc))
  case first =>
    have H := HC4.out
    clear HC4
    replace H := Option.bind_eq_some_iff.mp H
    obtain ⟨t145, A50, H⟩ := H
    replace H : (if t145 = true then (tamislaw19_TableNames.j0 k a0 a1 a2 (decide ((a2.size : Int) > 50))) else (tamislaw19_TableNames.j0 k a0 a1 a2 true)) = some r := H
    have A5 := Aside0.mk A50
    clear A50
    by_cases c6 : t145 = true
    · subst c6
      have H1 : (tamislaw19_TableNames.j0 k a0 a1 a2 (decide ((a2.size : Int) > 50))) = some r := by rw [if_pos rfl] at H; exact H
      clear H
      have H := H1
      clear H1
      have H' := Aside0.mk H
      clear H
      go_wp2_with (first | ((with_reducible refine gate_callee (f := 8) rfl ?_); refine goesL_ (some 16) rfl rfl Tryd.func8 (by kernel_rfl) rfl #[] rfl (by (try simp only [List.map_toArray, List.map_cons, List.map_nil]); first | done | rfl | (simp only [List.length_drop, List.length_take]; rfl)) ?_; (with_reducible refine (awake19.calls  true _ (hG.on (by repeat (first | (with_reducible first | exact HB.out | apply below_alloc | apply pw_below_drewN | apply below_drew1) | exact HB.out))) A5.out).mono ?_); rintro e w7 ⟨rfl, hb⟩; refine ⟨_, rfl, ?_⟩; have n0_ := Aside0.mk (below_step (by repeat (first | (with_reducible first | exact HB.out | apply below_alloc | apply pw_below_drewN | apply below_drew1) | exact HB.out)) hb); clear HB; have HB := n0_; clear n0_; (try clear hb); (try clear hb2); (try clear hk); (try clear hi)))
      go_meet
      case rel => exact ⟨_, (decide ((a2.size : Int) > 50)), (by first | rfl | (simp; done) | (simp [*]; done)), H', ⟨by first | omega | exact Nat.le_refl _⟩, ⟨by repeat (first | (with_reducible first | exact HB.out | apply below_alloc | apply pw_below_drewN | apply below_drew1) | exact HB.out)⟩⟩
    · replace c6 := Bool.eq_false_iff.mpr c6
      subst c6
      have H1 : (tamislaw19_TableNames.j0 k a0 a1 a2 true) = some r := by rw [if_neg (show ¬ (false = true) by decide)] at H; exact H
      clear H
      have H := H1
      clear H1
      have H' := Aside0.mk H
      clear H
      go_wp2_with (first | ((with_reducible refine gate_callee (f := 8) rfl ?_); refine goesL_ (some 16) rfl rfl Tryd.func8 (by kernel_rfl) rfl #[] rfl (by (try simp only [List.map_toArray, List.map_cons, List.map_nil]); first | done | rfl | (simp only [List.length_drop, List.length_take]; rfl)) ?_; (with_reducible refine (awake19.calls  false _ (hG.on (by repeat (first | (with_reducible first | exact HB.out | apply below_alloc | apply pw_below_drewN | apply below_drew1) | exact HB.out))) A5.out).mono ?_); rintro e w8 ⟨rfl, hb⟩; refine ⟨_, rfl, ?_⟩; have n0_ := Aside0.mk (below_step (by repeat (first | (with_reducible first | exact HB.out | apply below_alloc | apply pw_below_drewN | apply below_drew1) | exact HB.out)) hb); clear HB; have HB := n0_; clear n0_; (try clear hb); (try clear hb2); (try clear hk); (try clear hi)))
      go_meet
      case rel => exact ⟨_, (true), (by first | rfl | (simp; done) | (simp [*]; done)), H', ⟨by first | omega | exact Nat.le_refl _⟩, ⟨by repeat (first | (with_reducible first | exact HB.out | apply below_alloc | apply pw_below_drewN | apply below_drew1) | exact HB.out)⟩⟩
  case rest =>
    clear HC4
    try clear p2
    try clear c3
    try clear c6
    try clear c8
    obtain ⟨kq, x22_3, rfl, HA, HJ3, HB⟩ := hcut
    cases kq with
    | zero => exact absurd HA.out (by simp [tamislaw19_TableNames.j0])
    | succ kj3 =>
      have H := HA.out
      clear HA
      simp only [tamislaw19_TableNames.j0] at H
      by_cases c9 : x22_3 = true
      · subst c9
        have H1 : ((awake19.f).bind fun t146 => (some t146)) = some r := by rw [if_pos rfl] at H; exact H
        clear H
        have H := H1
        clear H1
        replace H := Option.bind_eq_some_iff.mp H
        obtain ⟨t146, A100, H⟩ := H
        replace H : (some t146) = some r := H
        have A10 := Aside0.mk A100
        clear A100
        obtain rfl := Option.some.inj H
        go_wp2_with (first | ((with_reducible refine gate_callee (f := 8) rfl ?_); refine goesL_ (some 23) rfl rfl Tryd.func8 (by kernel_rfl) rfl #[] rfl (by (try simp only [List.map_toArray, List.map_cons, List.map_nil]); first | done | rfl | (simp only [List.length_drop, List.length_take]; rfl)) ?_; (with_reducible refine (awake19.calls  t146 _ (hG.on (by repeat (first | (with_reducible first | exact HB.out | apply below_alloc | apply pw_below_drewN | apply below_drew1) | exact HB.out))) A10.out).mono ?_); rintro e w11 ⟨rfl, hb⟩; refine ⟨_, rfl, ?_⟩; have n0_ := Aside0.mk (below_step (by repeat (first | (with_reducible first | exact HB.out | apply below_alloc | apply pw_below_drewN | apply below_drew1) | exact HB.out)) hb); clear HB; have HB := n0_; clear n0_; (try clear hb); (try clear hb2); (try clear hk); (try clear hi)))
        go_ret
        exact ⟨by first | rfl | (simp [errW_none, errW_some] <;> rfl) | (simp [*, errW_none, errW_some] <;> rfl), by repeat (first | (with_reducible first | exact HB.out | apply below_alloc | apply pw_below_drewN | apply below_drew1) | exact HB.out)⟩
      · replace c9 := Bool.eq_false_iff.mpr c9
        subst c9
        have H1 : ((table_Name.f a0 a1).bind fun t147 => ((table_Find.f a0 a2).bind fun bt148 => ((tamisref19_Name.f kj3 a0 a1).bind fun t150 => (if t147.toList = t150.toList then (if bt148.2 = true then (if a2.toList = ([] : List UInt8) then (tamislaw19_TableNames.j1 kj3 a0 a1 a2 t147 bt148.2 true) else ((tamisref19_Name.f kj3 a0 bt148.1).bind fun t151 => (tamislaw19_TableNames.j1 kj3 a0 a1 a2 t147 bt148.2 (t151.toList != a2.toList)))) else (if bt148.1 = 0 then (tamislaw19_TableNames.j1 kj3 a0 a1 a2 t147 bt148.2 false) else (tamislaw19_TableNames.j1 kj3 a0 a1 a2 t147 bt148.2 true))) else (tamislaw19_TableNames.j1 kj3 a0 a1 a2 t147 bt148.2 true))))) = some r := by rw [if_neg (show ¬ (false = true) by decide)] at H; exact H
        clear H
        have H := H1
        clear H1
        replace H := Option.bind_eq_some_iff.mp H
        obtain ⟨t147, A120, H⟩ := H
        replace H : ((table_Find.f a0 a2).bind fun bt148 => ((tamisref19_Name.f kj3 a0 a1).bind fun t150 => (if t147.toList = t150.toList then (if bt148.2 = true then (if a2.toList = ([] : List UInt8) then (tamislaw19_TableNames.j1 kj3 a0 a1 a2 t147 bt148.2 true) else ((tamisref19_Name.f kj3 a0 bt148.1).bind fun t151 => (tamislaw19_TableNames.j1 kj3 a0 a1 a2 t147 bt148.2 (t151.toList != a2.toList)))) else (if bt148.1 = 0 then (tamislaw19_TableNames.j1 kj3 a0 a1 a2 t147 bt148.2 false) else (tamislaw19_TableNames.j1 kj3 a0 a1 a2 t147 bt148.2 true))) else (tamislaw19_TableNames.j1 kj3 a0 a1 a2 t147 bt148.2 true)))) = some r := H
        have A12 := Aside0.mk A120
        clear A120
        replace H := Option.bind_eq_some_iff.mp H
        obtain ⟨⟨t148, t149⟩, A130, H⟩ := H
        replace H : ((tamisref19_Name.f kj3 a0 a1).bind fun t150 => (if t147.toList = t150.toList then (if t149 = true then (if a2.toList = ([] : List UInt8) then (tamislaw19_TableNames.j1 kj3 a0 a1 a2 t147 t149 true) else ((tamisref19_Name.f kj3 a0 t148).bind fun t151 => (tamislaw19_TableNames.j1 kj3 a0 a1 a2 t147 t149 (t151.toList != a2.toList)))) else (if t148 = 0 then (tamislaw19_TableNames.j1 kj3 a0 a1 a2 t147 t149 false) else (tamislaw19_TableNames.j1 kj3 a0 a1 a2 t147 t149 true))) else (tamislaw19_TableNames.j1 kj3 a0 a1 a2 t147 t149 true))) = some r := H
        have A13 := Aside0.mk A130
        clear A130
        have HC14 := Aside0.mk H
        clear H
        go_upto_region 5 with (first | ((with_reducible refine gate_callee (f := 9) rfl ?_); refine goesL_ (some 26) rfl rfl Tryd.func9 (by kernel_rfl) rfl #[.int .u32 a0, .int .u32 a1] rfl (by (try simp only [List.map_toArray, List.map_cons, List.map_nil]); first | done | rfl | (simp only [List.length_drop, List.length_take]; rfl)) ?_; (with_reducible refine (table_Name.calls a0 a1 t147 _ A12.out).mono ?_); rintro e w15 ⟨rfl, hb⟩; refine ⟨_, rfl, ?_⟩; have n0_ := Aside0.mk (below_step (by repeat (first | (with_reducible first | exact HB.out | apply below_alloc | apply pw_below_drewN | apply below_drew1) | exact HB.out)) hb); clear HB; have HB := n0_; clear n0_; (try clear hb); (try clear hb2); (try clear hk); (try clear hi)) | ((with_reducible refine gate_callee (f := 10) rfl ?_); refine goesL_ (some 30) rfl rfl Tryd.func10 (by kernel_rfl) rfl #[.int .u32 a0, .string a2] rfl (by (try simp only [List.map_toArray, List.map_cons, List.map_nil]); first | done | rfl | (simp only [List.length_drop, List.length_take]; rfl)) ?_; (with_reducible refine (table_Find.calls a0 a2 t148 t149 _ A13.out).mono ?_); rintro e w16 ⟨rfl, hb⟩; refine ⟨_, rfl, ?_⟩; have n0_ := Aside0.mk (below_step (by repeat (first | (with_reducible first | exact HB.out | apply below_alloc | apply pw_below_drewN | apply below_drew1) | exact HB.out)) hb); clear HB; have HB := n0_; clear n0_; (try clear hb); (try clear hb2); (try clear hk); (try clear hi)))
        (try simp only [Act.put, List.setIfInBounds_toArray, List.set_cons_zero, List.set_cons_succ])
        go_cut [59] (fun v59 wc => ∃ (kq : Nat) (x59_13 : Bool), v59 = .bool x59_13 ∧ Aside0 (tamislaw19_TableNames.j1 kq a0 a1 a2 t147 t149 x59_13 = some r) ∧ Aside0 (kq ≤ kj3) ∧ Aside0 (Below w.heap.size w wc))
        case first =>
          have H := HC14.out
          clear HC14
          replace H := Option.bind_eq_some_iff.mp H
          obtain ⟨t150, A170, H⟩ := H
          replace H : (if t147.toList = t150.toList then (if t149 = true then (if a2.toList = ([] : List UInt8) then (tamislaw19_TableNames.j1 kj3 a0 a1 a2 t147 t149 true) else ((tamisref19_Name.f kj3 a0 t148).bind fun t151 => (tamislaw19_TableNames.j1 kj3 a0 a1 a2 t147 t149 (t151.toList != a2.toList)))) else (if t148 = 0 then (tamislaw19_TableNames.j1 kj3 a0 a1 a2 t147 t149 false) else (tamislaw19_TableNames.j1 kj3 a0 a1 a2 t147 t149 true))) else (tamislaw19_TableNames.j1 kj3 a0 a1 a2 t147 t149 true)) = some r := H
          have A17 := Aside0.mk A170
          clear A170
          by_cases c18 : t147.toList = t150.toList
          · rw [if_pos c18] at H
            have c18b0 : (t147.toList == t150.toList) = true := beq_iff_eq.mpr c18
            have c18b1 : (t147.toList != t150.toList) = false := bne_eq_false_iff_eq.mpr c18
            clear c18
            (first | rw [c18b0] | (simp only [i64_w, i32_w]; rw [c18b0]) | skip)
            by_cases c19 : t149 = true
            · subst c19
              have H1 : (if a2.toList = ([] : List UInt8) then (tamislaw19_TableNames.j1 kj3 a0 a1 a2 t147 true true) else ((tamisref19_Name.f kj3 a0 t148).bind fun t151 => (tamislaw19_TableNames.j1 kj3 a0 a1 a2 t147 true (t151.toList != a2.toList)))) = some r := by rw [if_pos rfl] at H; exact H
              clear H
              have H := H1
              clear H1
              by_cases c20 : a2.toList = ([] : List UInt8)
              · rw [if_pos c20] at H
                have c20b0 : (a2.toList == ([] : List UInt8)) = true := beq_iff_eq.mpr c20
                have c20b1 : (a2.toList != ([] : List UInt8)) = false := bne_eq_false_iff_eq.mpr c20
                clear c20
                have H' := Aside0.mk H
                clear H
                go_wp2_with (first | ((with_reducible refine gate_callee (f := 11) rfl ?_); refine goesL_ (some 36) rfl rfl Tryd.func11 (by kernel_rfl) rfl #[.int .u32 a0, .int .u32 a1] rfl (by (try simp only [List.map_toArray, List.map_cons, List.map_nil]); first | done | rfl | (simp only [List.length_drop, List.length_take]; rfl)) ?_; (with_reducible refine (tamisref19_Name.calls kj3 a0 a1 t150 _ A17.out).mono ?_); rintro e w21 ⟨rfl, hb⟩; refine ⟨_, rfl, ?_⟩; have n0_ := Aside0.mk (below_step (by repeat (first | (with_reducible first | exact HB.out | apply below_alloc | apply pw_below_drewN | apply below_drew1) | exact HB.out)) hb); clear HB; have HB := n0_; clear n0_; (try clear hb); (try clear hb2); (try clear hk); (try clear hi)))
                go_meet
                case rel => exact ⟨_, (true), (by first | rfl | (simp; done) | (simp [*]; done)), H', ⟨by have := HJ3.out; first | omega | exact Nat.le_refl _⟩, ⟨by repeat (first | (with_reducible first | exact HB.out | apply below_alloc | apply pw_below_drewN | apply below_drew1) | exact HB.out)⟩⟩
              · rw [if_neg c20] at H
                have c20b0 : (a2.toList == ([] : List UInt8)) = false := beq_eq_false_iff_ne.mpr c20
                have c20b1 : (a2.toList != ([] : List UInt8)) = true := bne_iff_ne.mpr c20
                replace H := Option.bind_eq_some_iff.mp H
                obtain ⟨t151, A220, H⟩ := H
                replace H : (tamislaw19_TableNames.j1 kj3 a0 a1 a2 t147 true (t151.toList != a2.toList)) = some r := H
                have A22 := Aside0.mk A220
                clear A220
                have H' := Aside0.mk H
                clear H
                go_wp2_with (first | ((with_reducible refine gate_callee (f := 11) rfl ?_); refine goesL_ (some 36) rfl rfl Tryd.func11 (by kernel_rfl) rfl #[.int .u32 a0, .int .u32 a1] rfl (by (try simp only [List.map_toArray, List.map_cons, List.map_nil]); first | done | rfl | (simp only [List.length_drop, List.length_take]; rfl)) ?_; (with_reducible refine (tamisref19_Name.calls kj3 a0 a1 t150 _ A17.out).mono ?_); rintro e w23 ⟨rfl, hb⟩; refine ⟨_, rfl, ?_⟩; have n0_ := Aside0.mk (below_step (by repeat (first | (with_reducible first | exact HB.out | apply below_alloc | apply pw_below_drewN | apply below_drew1) | exact HB.out)) hb); clear HB; have HB := n0_; clear n0_; (try clear hb); (try clear hb2); (try clear hk); (try clear hi)) | (go_at_call 11; (with_reducible refine (tamisref19_Name.calls kj3 a0 t148 t151 _ A22.out).mono ?_); rintro e w24 ⟨rfl, hb⟩; have n0_ := Aside0.mk (below_step (by repeat (first | (with_reducible first | exact HB.out | apply below_alloc | apply pw_below_drewN | apply below_drew1) | exact HB.out)) hb); clear HB; have HB := n0_; clear n0_; (try clear hb); (try clear hb2); (try clear hk); (try clear hi)))
                go_meet
                case rel => exact ⟨_, ((t151.toList != a2.toList)), (by first | rfl | (simp; done) | (simp [*]; done)), H', ⟨by have := HJ3.out; first | omega | exact Nat.le_refl _⟩, ⟨by repeat (first | (with_reducible first | exact HB.out | apply below_alloc | apply pw_below_drewN | apply below_drew1) | exact HB.out)⟩⟩
            · replace c19 := Bool.eq_false_iff.mpr c19
              subst c19
              have H1 : (if t148 = 0 then (tamislaw19_TableNames.j1 kj3 a0 a1 a2 t147 false false) else (tamislaw19_TableNames.j1 kj3 a0 a1 a2 t147 false true)) = some r := by rw [if_neg (show ¬ (false = true) by decide)] at H; exact H
              clear H
              have H := H1
              clear H1
              by_cases c25 : t148 = 0
              · rw [if_pos c25] at H
                have c25b0 : (t148 == 0) = true := beq_iff_eq.mpr c25
                have c25b1 : (t148 != 0) = false := bne_eq_false_iff_eq.mpr c25
                clear c25
                have H' := Aside0.mk H
                clear H
                go_wp2_with (first | ((with_reducible refine gate_callee (f := 11) rfl ?_); refine goesL_ (some 36) rfl rfl Tryd.func11 (by kernel_rfl) rfl #[.int .u32 a0, .int .u32 a1] rfl (by (try simp only [List.map_toArray, List.map_cons, List.map_nil]); first | done | rfl | (simp only [List.length_drop, List.length_take]; rfl)) ?_; (with_reducible refine (tamisref19_Name.calls kj3 a0 a1 t150 _ A17.out).mono ?_); rintro e w26 ⟨rfl, hb⟩; refine ⟨_, rfl, ?_⟩; have n0_ := Aside0.mk (below_step (by repeat (first | (with_reducible first | exact HB.out | apply below_alloc | apply pw_below_drewN | apply below_drew1) | exact HB.out)) hb); clear HB; have HB := n0_; clear n0_; (try clear hb); (try clear hb2); (try clear hk); (try clear hi)))
                go_meet
                case rel => exact ⟨_, (false), (by first | rfl | (simp; done) | (simp [*]; done)), H', ⟨by have := HJ3.out; first | omega | exact Nat.le_refl _⟩, ⟨by repeat (first | (with_reducible first | exact HB.out | apply below_alloc | apply pw_below_drewN | apply below_drew1) | exact HB.out)⟩⟩
              · rw [if_neg c25] at H
                have c25b0 : (t148 == 0) = false := beq_eq_false_iff_ne.mpr c25
                have c25b1 : (t148 != 0) = true := bne_iff_ne.mpr c25
                have H' := Aside0.mk H
                clear H
                go_wp2_with (first | ((with_reducible refine gate_callee (f := 11) rfl ?_); refine goesL_ (some 36) rfl rfl Tryd.func11 (by kernel_rfl) rfl #[.int .u32 a0, .int .u32 a1] rfl (by (try simp only [List.map_toArray, List.map_cons, List.map_nil]); first | done | rfl | (simp only [List.length_drop, List.length_take]; rfl)) ?_; (with_reducible refine (tamisref19_Name.calls kj3 a0 a1 t150 _ A17.out).mono ?_); rintro e w27 ⟨rfl, hb⟩; refine ⟨_, rfl, ?_⟩; have n0_ := Aside0.mk (below_step (by repeat (first | (with_reducible first | exact HB.out | apply below_alloc | apply pw_below_drewN | apply below_drew1) | exact HB.out)) hb); clear HB; have HB := n0_; clear n0_; (try clear hb); (try clear hb2); (try clear hk); (try clear hi)))
                go_meet
                case rel => exact ⟨_, (true), (by first | rfl | (simp; done) | (simp [*]; done)), H', ⟨by have := HJ3.out; first | omega | exact Nat.le_refl _⟩, ⟨by repeat (first | (with_reducible first | exact HB.out | apply below_alloc | apply pw_below_drewN | apply below_drew1) | exact HB.out)⟩⟩
          · rw [if_neg c18] at H
            have c18b0 : (t147.toList == t150.toList) = false := beq_eq_false_iff_ne.mpr c18
            have c18b1 : (t147.toList != t150.toList) = true := bne_iff_ne.mpr c18
            (first | rw [c18b0] | (simp only [i64_w, i32_w]; rw [c18b0]) | skip)
            have H' := Aside0.mk H
            clear H
            go_wp2_with (first | ((with_reducible refine gate_callee (f := 11) rfl ?_); refine goesL_ (some 36) rfl rfl Tryd.func11 (by kernel_rfl) rfl #[.int .u32 a0, .int .u32 a1] rfl (by (try simp only [List.map_toArray, List.map_cons, List.map_nil]); first | done | rfl | (simp only [List.length_drop, List.length_take]; rfl)) ?_; (with_reducible refine (tamisref19_Name.calls kj3 a0 a1 t150 _ A17.out).mono ?_); rintro e w28 ⟨rfl, hb⟩; refine ⟨_, rfl, ?_⟩; have n0_ := Aside0.mk (below_step (by repeat (first | (with_reducible first | exact HB.out | apply below_alloc | apply pw_below_drewN | apply below_drew1) | exact HB.out)) hb); clear HB; have HB := n0_; clear n0_; (try clear hb); (try clear hb2); (try clear hk); (try clear hi)))
            go_meet
            case rel => exact ⟨_, (true), (by first | rfl | (simp; done) | (simp [*]; done)), H', ⟨by have := HJ3.out; first | omega | exact Nat.le_refl _⟩, ⟨by repeat (first | (with_reducible first | exact HB.out | apply below_alloc | apply pw_below_drewN | apply below_drew1) | exact HB.out)⟩⟩
        case rest =>
          clear HC14
          try clear c1
          try clear c2
          try clear p2
          try clear c3
          try clear c6
          try clear c8
          try clear c9
          try clear c10
          try clear c11
          try clear c18
          try clear c18b0
          try clear c18b1
          try clear c19
          try clear c20
          try clear c20b0
          try clear c20b1
          try clear c25
          try clear c25b0
          try clear c25b1
          try clear p2
          obtain ⟨kq, x59_13, rfl, HA, HJ13, HB⟩ := hcut
          cases kq with
          | zero => exact absurd HA.out (by simp [tamislaw19_TableNames.j1])
          | succ kj13 =>
            have H := HA.out
            clear HA
            simp only [tamislaw19_TableNames.j1] at H
            by_cases c29 : x59_13 = true
            · subst c29
              have H1 : (some false) = some r := by rw [if_pos rfl] at H; exact H
              clear H
              have H := H1
              clear H1
              exact absurd ((Option.some.inj H).trans HT.out) (by simp)
            · replace c29 := Bool.eq_false_iff.mpr c29
              subst c29
              have H1 : ((tamisref19_Calls.f a0).bind fun bt152 => (tamislaw19_TableNames.l0 kj13 a0 a1 a2 t147 t149 bt152.2 false (bt152.1.length : Int) 0)) = some r := by rw [if_neg (show ¬ (false = true) by decide)] at H; exact H
              clear H
              have H := H1
              clear H1
              replace H := Option.bind_eq_some_iff.mp H
              obtain ⟨⟨t152, t153⟩, A300, H⟩ := H
              replace H : (tamislaw19_TableNames.l0 kj13 a0 a1 a2 t147 t149 t153 false (t152.length : Int) 0) = some r := H
              have A30 := Aside0.mk A300
              clear A300
              have H' := Aside0.mk H
              clear H
              go_wp2_with (first | ((with_reducible refine gate_callee (f := 12) rfl ?_); refine goesL_ (some 62) rfl rfl Tryd.func12 (by kernel_rfl) rfl #[.int .u32 a0] rfl (by (try simp only [List.map_toArray, List.map_cons, List.map_nil]); first | done | rfl | (simp only [List.length_drop, List.length_take]; rfl)) ?_; (with_reducible refine (tamisref19_Calls.calls a0 t152 t153 _ A30.out).mono ?_); rintro e w31 ⟨v154, v156, rfl, ho0, ho1, hb⟩; refine ⟨_, rfl, ?_⟩; have n0_ := Aside0.mk (Kd.R_lower ho0 (below_size (by repeat (first | (with_reducible first | exact HB.out | apply below_alloc | apply pw_below_drewN | apply below_drew1) | exact HB.out)))); have n1_ := Aside0.mk (Kd.R_lower ho1 (below_size (by repeat (first | (with_reducible first | exact HB.out | apply below_alloc | apply pw_below_drewN | apply below_drew1) | exact HB.out)))); have n2_ := Aside0.mk (below_step (by repeat (first | (with_reducible first | exact HB.out | apply below_alloc | apply pw_below_drewN | apply below_drew1) | exact HB.out)) hb); clear HB; have HO155 := n0_; have HO157 := n1_; have HB := n2_; clear n0_ n1_ n2_; (try clear hb); (try clear hb2); (try clear hk); (try clear hi); (try clear ho0); (try clear ho1); obtain ⟨Ao32, co32, eo32⟩ := Kd.R_slice HO155.out; subst eo32))
              go_loopg [12, 67] kj13 (fun kq v12 v67 w' => ∃ (x12_3 : Bool) (x67_3 : Int), v12 = .bool x12_3 ∧ v67 = .int .i64 x67_3 ∧ Aside0 (tamislaw19_TableNames.l0 kq a0 a1 a2 t147 t149 t153 x12_3 (t152.length : Int) x67_3 = some r) ∧ Aside0 (kq ≤ kj13) ∧ Aside0 (Kd.R Kd.string 9 w' w.heap.size (fun _ => True) v156 t153) ∧ Aside0 (Below w.heap.size w w'))
              case atStart => exact ⟨(false), (0), (by first | rfl | (simp; done) | (simp [*]; done)), (by first | rfl | (simp; done) | (simp [*]; done)), H', ⟨Nat.le_refl _⟩, ⟨by (with_reducible repeat (first | apply Kd.R_alloc | apply Kd.R_drewN | apply Kd.R_drew)); exact HO157.out⟩, ⟨by repeat (first | (with_reducible first | exact HB.out | apply below_alloc | apply pw_below_drewN | apply below_drew1) | exact HB.out)⟩⟩
              case round =>
                clear H'
                try clear c1
                try clear c2
                try clear p2
                try clear c3
                try clear c6
                try clear c8
                try clear c9
                try clear c10
                try clear c11
                try clear c12
                try clear c18
                try clear c18b0
                try clear c18b1
                try clear c19
                try clear c20
                try clear c20b0
                try clear c20b1
                try clear c25
                try clear c25b0
                try clear c25b1
                try clear c29
                try clear p2
                obtain ⟨x12_3, x67_3, rfl, rfl, HA, HK3, HO_11, HB⟩ := hrel
                cases gk with
                | zero => exact absurd HA.out (by simp [tamislaw19_TableNames.l0])
                | succ k3 =>
                  have H := HA.out
                  clear HA
                  simp only [tamislaw19_TableNames.l0] at H
                  by_cases c33 : x67_3 < (t152.length : Int)
                  · rw [if_pos c33] at H
                    have c33b0 : decide (x67_3 < (t152.length : Int)) = true := decide_eq_true c33
                    clear c33
                    by_cases c34 : x12_3 = true
                    · subst c34
                      have H1 : (tamislaw19_TableNames.l0 k3 a0 a1 a2 t147 t149 t153 true (t152.length : Int) (wrap64 (x67_3 + 1))) = some r := by rw [if_pos rfl] at H; exact H
                      clear H
                      have H := H1
                      clear H1
                      have H' := Aside0.mk H
                      clear H
                      go_wp2
                      go_roundg k3
                      case measure => have := HJ3.out; have := HJ13.out; have := HK3.out; omega
                      case rel => exact ⟨(true), (wrap64 (x67_3 + 1)), (by first | rfl | (simp; done) | (simp [*]; done)), (by first | rfl | (simp; done) | (simp [*]; done)), H', ⟨by have := HJ3.out; have := HJ13.out; have := HK3.out; omega⟩, ⟨by (with_reducible repeat (first | apply Kd.R_alloc | apply Kd.R_drewN | apply Kd.R_drew)); exact HO_11.out⟩, ⟨by repeat (first | (with_reducible first | exact HB.out | apply below_alloc | apply pw_below_drewN | apply below_drew1) | exact HB.out)⟩⟩
                    · replace c34 := Bool.eq_false_iff.mpr c34
                      subst c34
                      have H1 : (if 0 ≤ x67_3 then (if x67_3 < (t153.length : Int) then (tamislaw19_TableNames.l0 k3 a0 a1 a2 t147 t149 t153 ((rdOf ByteArray.empty t153 x67_3).toList == a2.toList) (t152.length : Int) (wrap64 (x67_3 + 1))) else (none)) else (none)) = some r := by rw [if_neg (show ¬ (false = true) by decide)] at H; exact H
                      clear H
                      have H := H1
                      clear H1
                      by_cases c35 : 0 ≤ x67_3
                      · rw [if_pos c35] at H
                        have c35b0 : decide (0 ≤ x67_3) = true := decide_eq_true c35
                        clear c35
                        by_cases c36 : x67_3 < (t153.length : Int)
                        · rw [if_pos c36] at H
                          have c36b0 : decide (x67_3 < (t153.length : Int)) = true := decide_eq_true c36
                          clear c36
                          have H' := Aside0.mk H
                          clear H
                          obtain ⟨Ao37, co37, eo37⟩ := Kd.R_slice HO_11.out
                          subst eo37
                          have p158 : 0 ≤ (x67_3 : Int) := of_decide_eq_true (by first | (with_reducible assumption) | assumption)
                          have q158 : x67_3 < (t153.length : Int) := of_decide_eq_true (by first | (with_reducible assumption) | assumption)
                          obtain ⟨ad158, e158, hx158_0⟩ := Kd.at_string (Kd.R_reads' HO_11.out).2.2 x67_3 p158 q158
                          cases e158
                          replace p158 := eq_true p158
                          replace q158 := eq_true q158
                          go_wp2
                          go_roundg k3
                          case measure => have := HJ3.out; have := HJ13.out; have := HK3.out; omega
                          case rel => exact ⟨(((rdOf ByteArray.empty t153 x67_3).toList == a2.toList)), (wrap64 (x67_3 + 1)), (by first | rfl | (simp; done) | (simp [*]; done)), (by first | rfl | (simp; done) | (simp [*]; done)), H', ⟨by have := HJ3.out; have := HJ13.out; have := HK3.out; omega⟩, ⟨by (with_reducible repeat (first | apply Kd.R_alloc | apply Kd.R_drewN | apply Kd.R_drew)); exact HO_11.out⟩, ⟨by repeat (first | (with_reducible first | exact HB.out | apply below_alloc | apply pw_below_drewN | apply below_drew1) | exact HB.out)⟩⟩
                        · rw [if_neg c36] at H
                          exact absurd H (by simp)
                      · rw [if_neg c35] at H
                        exact absurd H (by simp)
                  · rw [if_neg c33] at H
                    have c33b0 : decide (x67_3 < (t152.length : Int)) = false := decide_eq_false c33
                    clear c33
                    replace H := Option.bind_eq_some_iff.mp H
                    obtain ⟨⟨t159, t160⟩, A380, H⟩ := H
                    replace H : (if (x12_3 == t149) = true then (if t147.toList = ([] : List UInt8) then (some true) else (if t160 = true then (some (t159 == a1)) else (some false))) else (some false)) = some r := H
                    have A38 := Aside0.mk A380
                    clear A380
                    by_cases c39 : (x12_3 == t149) = true
                    · rw [if_pos c39] at H
                      have c39b0 : (x12_3 == t149) = true := c39
                      (try (have c39b1 : decide (x12_3 = t149) = true := by simpa using c39))
                      (try (have c39b2 : (x12_3 == t149) = true := by simpa using c39))
                      clear c39
                      by_cases c40 : t147.toList = ([] : List UInt8)
                      · rw [if_pos c40] at H
                        have c40b0 : (t147.toList == ([] : List UInt8)) = true := beq_iff_eq.mpr c40
                        have c40b1 : (t147.toList != ([] : List UInt8)) = false := bne_eq_false_iff_eq.mpr c40
                        clear c40
                        obtain rfl := Option.some.inj H
                        go_wp2_with (first | ((with_reducible refine gate_callee (f := 10) rfl ?_); refine goesL_ (some 83) rfl rfl Tryd.func10 (by kernel_rfl) rfl #[.int .u32 a0, .string t147] rfl (by (try simp only [List.map_toArray, List.map_cons, List.map_nil]); first | done | rfl | (simp only [List.length_drop, List.length_take]; rfl)) ?_; (with_reducible refine (table_Find.calls a0 t147 t159 t160 _ A38.out).mono ?_); rintro e w41 ⟨rfl, hb⟩; refine ⟨_, rfl, ?_⟩; have n0_ := Aside0.mk (Kd.R_below (by (with_reducible repeat (first | apply Kd.R_alloc | apply Kd.R_drewN | apply Kd.R_drew)); exact HO_11.out) hb); have n1_ := Aside0.mk (below_step (by repeat (first | (with_reducible first | exact HB.out | apply below_alloc | apply pw_below_drewN | apply below_drew1) | exact HB.out)) hb); clear HO_11; clear HB; have HO_11 := n0_; have HB := n1_; clear n0_ n1_; (try clear hb); (try clear hb2); (try clear hk); (try clear hi)))
                        go_ret
                        exact ⟨by first | rfl | (simp [errW_none, errW_some] <;> rfl) | (simp [*, errW_none, errW_some] <;> rfl), by repeat (first | (with_reducible first | exact HB.out | apply below_alloc | apply pw_below_drewN | apply below_drew1) | exact HB.out)⟩
                      · rw [if_neg c40] at H
                        have c40b0 : (t147.toList == ([] : List UInt8)) = false := beq_eq_false_iff_ne.mpr c40
                        have c40b1 : (t147.toList != ([] : List UInt8)) = true := bne_iff_ne.mpr c40
                        by_cases c42 : t160 = true
                        · subst c42
                          have H1 : (some (t159 == a1)) = some r := by rw [if_pos rfl] at H; exact H
                          clear H
                          have H := H1
                          clear H1
                          obtain rfl := Option.some.inj H
                          go_wp2_with (first | ((with_reducible refine gate_callee (f := 10) rfl ?_); refine goesL_ (some 83) rfl rfl Tryd.func10 (by kernel_rfl) rfl #[.int .u32 a0, .string t147] rfl (by (try simp only [List.map_toArray, List.map_cons, List.map_nil]); first | done | rfl | (simp only [List.length_drop, List.length_take]; rfl)) ?_; (with_reducible refine (table_Find.calls a0 t147 t159 true _ A38.out).mono ?_); rintro e w43 ⟨rfl, hb⟩; refine ⟨_, rfl, ?_⟩; have n0_ := Aside0.mk (Kd.R_below (by (with_reducible repeat (first | apply Kd.R_alloc | apply Kd.R_drewN | apply Kd.R_drew)); exact HO_11.out) hb); have n1_ := Aside0.mk (below_step (by repeat (first | (with_reducible first | exact HB.out | apply below_alloc | apply pw_below_drewN | apply below_drew1) | exact HB.out)) hb); clear HO_11; clear HB; have HO_11 := n0_; have HB := n1_; clear n0_ n1_; (try clear hb); (try clear hb2); (try clear hk); (try clear hi)))
                          go_ret
                          exact ⟨by first | rfl | (simp [errW_none, errW_some] <;> rfl) | (simp [*, errW_none, errW_some] <;> rfl), by repeat (first | (with_reducible first | exact HB.out | apply below_alloc | apply pw_below_drewN | apply below_drew1) | exact HB.out)⟩
                        · replace c42 := Bool.eq_false_iff.mpr c42
                          subst c42
                          have H1 : (some false) = some r := by rw [if_neg (show ¬ (false = true) by decide)] at H; exact H
                          clear H
                          have H := H1
                          clear H1
                          exact absurd ((Option.some.inj H).trans HT.out) (by simp)
                    · rw [if_neg c39] at H
                      have c39b0 : (x12_3 == t149) = false := by simpa using c39
                      (try (have c39b1 : decide (x12_3 = t149) = false := by simpa using c39))
                      (try (have c39b2 : (x12_3 == t149) = false := by simpa using c39))
                      (try (have c39b3 : ¬ (x12_3 = t149) := by simpa using c39))
                      clear c39
                      exact absurd ((Option.some.inj H).trans HT.out) (by simp)

end Go.Proofs.YtpgjcjgmokfofaaDoor.Pr
