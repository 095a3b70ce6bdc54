-- Made by a program of this session (wip/tools/myprint.sh).
import Derived.Test.YtpgjcjgmokfofaaDoorGLib
import Derived.Test.YtpgjcjgmokfofaaDoorPr0
import Derived.Test.YtpgjcjgmokfofaaDoorFArch
import Derived.Test.YtpgjcjgmokfofaaDoorFRefT
import Derived.Test.YtpgjcjgmokfofaaDoorFTamisref19Name
import Derived.Test.YtpgjcjgmokfofaaDoorGAwake19
import Derived.Test.YtpgjcjgmokfofaaDoorGAllT
import Derived.Test.YtpgjcjgmokfofaaDoorGTabLook
namespace Go.Proofs.YtpgjcjgmokfofaaDoor.Pr
open Go.RowKit Go.Proofs.YtpgjcjgmokfofaaDoorW.PrintWords Go.Proofs.YtpgjcjgmokfofaaDoorW.PrintLast Go.Proofs.YtpgjcjgmokfofaaDoorW.PrintMore
attribute [local go_sem] max2_int min2_int max_two min_two max_three min_three max_four min_four   -- for this text's walks alone
set_option linter.unusedVariables false
set_option linter.unusedSimpArgs false

/-! ### tamislaw19_TableAll: function 4 -/
mutual
def tamislaw19_TableAll.l0 : Nat → Int → Int → List Int → List Int → Bool → List Int → Int → Int → Option (Bool)
  | 0, _, _, _, _, _, _, _, _ => none
  | k + 1, x0, x1, x5, x6, x8, x22, x23, x24 => if x24 < x23 then (if 0 ≤ x24 then (if x24 < (x22.length : Int) then (if x24 > 0 then (if 0 ≤ (wrap64 (x24 - 1)) then (if (wrap64 (x24 - 1)) < (x5.length : Int) then (if (rd x5 (wrap64 (x24 - 1))) ≥ (rd x22 x24) then (some false) else ((tamisref19_Name.f k x0 (rd x22 x24)).bind fun t175 => (if t175.toList = ([] : List UInt8) then (some false) else (if x8 = true then (tamislaw19_TableAll.l0 k x0 x1 x5 x6 true x22 x23 (wrap64 (x24 + 1))) else (tamislaw19_TableAll.l0 k x0 x1 x5 x6 ((rd x22 x24) == x1) x22 x23 (wrap64 (x24 + 1))))))) else (none)) else (none)) else ((tamisref19_Name.f k x0 (rd x22 x24)).bind fun t176 => (if t176.toList = ([] : List UInt8) then (some false) else (if x8 = true then (tamislaw19_TableAll.l0 k x0 x1 x5 x6 true x22 x23 (wrap64 (x24 + 1))) else (tamislaw19_TableAll.l0 k x0 x1 x5 x6 ((rd x22 x24) == x1) x22 x23 (wrap64 (x24 + 1))))))) else (none)) else (none)) else ((table_Archs.f).bind fun t177 => (tamislaw19_TableAll.l1 k x0 x1 x5 x6 x8 t177 false t177 (t177.length : Int) 0))
def tamislaw19_TableAll.l1 : Nat → Int → Int → List Int → List Int → Bool → List Int → Bool → List Int → Int → Int → Option (Bool)
  | 0, _, _, _, _, _, _, _, _, _, _ => none
  | k + 1, x0, x1, x5, x6, x8, x11, x12, x54, x55, x56 => if x56 < x55 then (if 0 ≤ x56 then (if x56 < (x54.length : Int) then (if x56 > 0 then (if 0 ≤ (wrap64 (x56 - 1)) then (if (wrap64 (x56 - 1)) < (x11.length : Int) then (if (rd x11 (wrap64 (x56 - 1))) ≥ (rd x54 x56) then (some false) else ((table_ArchName.f (rd x54 x56)).bind fun t182 => (if t182.toList = ([] : List UInt8) then (some false) else (if x12 = true then (tamislaw19_TableAll.l1 k x0 x1 x5 x6 x8 x11 true x54 x55 (wrap64 (x56 + 1))) else (tamislaw19_TableAll.l1 k x0 x1 x5 x6 x8 x11 ((rd x54 x56) == x0) x54 x55 (wrap64 (x56 + 1))))))) else (none)) else (none)) else ((table_ArchName.f (rd x54 x56)).bind fun t183 => (if t183.toList = ([] : List UInt8) then (some false) else (if x12 = true then (tamislaw19_TableAll.l1 k x0 x1 x5 x6 x8 x11 true x54 x55 (wrap64 (x56 + 1))) else (tamislaw19_TableAll.l1 k x0 x1 x5 x6 x8 x11 ((rd x54 x56) == x0) x54 x55 (wrap64 (x56 + 1))))))) else (none)) else (none)) else ((awake19.f).bind fun t184 => (if t184 = true then (if (x5.length : Int) = (x6.length : Int) then ((table_Name.f x0 x1).bind fun t185 => (if (x8 == (t185.toList != ([] : List UInt8))) = true then ((table_ArchName.f x0).bind fun t186 => (if (x12 == (t186.toList != ([] : List UInt8))) = true then (some (x12 == (decide ((x5.length : Int) > 0)))) else (some false))) else (some false))) else (some false)) else (some false)))
end
def tamislaw19_TableAll.f (k : Nat) (a0 : Int) (a1 : Int) : Option (Bool) := (table_All.f a0).bind fun t164 => ((tamisref19_Calls.f a0).bind fun bt167 => (tamislaw19_TableAll.l0 k a0 a1 t164 bt167.1 false t164 (t164.length : Int) 0))
theorem tamislaw19_TableAll.mono_l : ∀ k, (∀ y0 y1 y2 y3 y4 y5 y6 y7, LeO (tamislaw19_TableAll.l0 k y0 y1 y2 y3 y4 y5 y6 y7) (tamislaw19_TableAll.l0 (k + 1) y0 y1 y2 y3 y4 y5 y6 y7)) ∧ (∀ y0 y1 y2 y3 y4 y5 y6 y7 y8 y9, LeO (tamislaw19_TableAll.l1 k y0 y1 y2 y3 y4 y5 y6 y7 y8 y9) (tamislaw19_TableAll.l1 (k + 1) y0 y1 y2 y3 y4 y5 y6 y7 y8 y9))
  | 0 => ⟨fun _ _ _ _ _ _ _ _ r h => by simp [tamislaw19_TableAll.l0] at h, fun _ _ _ _ _ _ _ _ _ _ r h => by simp [tamislaw19_TableAll.l1] at h⟩
  | k + 1 => by
    obtain ⟨ih0, ih1⟩ := tamislaw19_TableAll.mono_l k
    refine ⟨?_, ?_⟩
    · intro y0 y1 y2 y3 y4 y5 y6 y7
      unfold tamislaw19_TableAll.l0
      repeat' first
      | (with_reducible exact ih0 _ _ _ _ _ _ _ _)
      | (with_reducible exact ih1 _ _ _ _ _ _ _ _ _ _)
      | (with_reducible exact tamisref19_Name.mono _ _ _)
      | (with_reducible exact LeO.refl _)
      | (with_reducible exact LeO.none _)
      | (with_reducible refine LeO.ite ?_ ?_)
      | (with_reducible refine LeO.bind ?_ (fun _ => ?_))
      | exact ih0 _ _ _ _ _ _ _ _
      | exact ih1 _ _ _ _ _ _ _ _ _ _
      | exact tamisref19_Name.mono _ _ _
      | exact LeO.none _
      | refine LeO.ite ?_ ?_
      | refine LeO.bind ?_ (fun _ => ?_)
    · intro y0 y1 y2 y3 y4 y5 y6 y7 y8 y9
      unfold tamislaw19_TableAll.l1
      repeat' first
      | (with_reducible exact ih0 _ _ _ _ _ _ _ _)
      | (with_reducible exact ih1 _ _ _ _ _ _ _ _ _ _)
      | (with_reducible exact tamisref19_Name.mono _ _ _)
      | (with_reducible exact LeO.refl _)
      | (with_reducible exact LeO.none _)
      | (with_reducible refine LeO.ite ?_ ?_)
      | (with_reducible refine LeO.bind ?_ (fun _ => ?_))
      | exact ih0 _ _ _ _ _ _ _ _
      | exact ih1 _ _ _ _ _ _ _ _ _ _
      | exact tamisref19_Name.mono _ _ _
      | exact LeO.none _
      | refine LeO.ite ?_ ?_
      | refine LeO.bind ?_ (fun _ => ?_)
theorem tamislaw19_TableAll.mono : ∀ a0 a1 k, LeO (tamislaw19_TableAll.f k a0 a1) (tamislaw19_TableAll.f (k + 1) a0 a1) := by
  intro a0 a1 k
  obtain ⟨ih0, ih1⟩ := tamislaw19_TableAll.mono_l k
  unfold tamislaw19_TableAll.f
  repeat' first
      | (with_reducible exact ih0 _ _ _ _ _ _ _ _)
      | (with_reducible exact ih1 _ _ _ _ _ _ _ _ _ _)
      | (with_reducible exact tamisref19_Name.mono _ _ _)
      | (with_reducible exact LeO.refl _)
      | (with_reducible exact LeO.none _)
      | (with_reducible refine LeO.ite ?_ ?_)
      | (with_reducible refine LeO.bind ?_ (fun _ => ?_))
      | exact ih0 _ _ _ _ _ _ _ _
      | exact ih1 _ _ _ _ _ _ _ _ _ _
      | exact tamisref19_Name.mono _ _ _
      | exact LeO.none _
      | refine LeO.ite ?_ ?_
      | refine LeO.bind ?_ (fun _ => ?_)
set_option maxHeartbeats 8000000 in
set_option maxRecDepth 100000 in
theorem tamislaw19_TableAll.calls (k : Nat) (a0 : Int) (a1 : Int) (r : Bool) (w : World) (hT : r = true) (hG : GlobW w) (h : tamislaw19_TableAll.f k a0 a1 = some r) :
    Calls Tryd.prog 4 #[.int .u32 a0, .int .u32 a1] w fun e w' => e = .returned (.bool r) ∧ Below w.heap.size w w' := by
  have HT := Aside0.mk hT
  clear hT
  have HB := Aside0.mk (Below.refl w.heap.size w)
  have H : ((table_All.f a0).bind fun t164 => ((tamisref19_Calls.f a0).bind fun bt167 => (tamislaw19_TableAll.l0 k a0 a1 t164 bt167.1 false t164 (t164.length : Int) 0))) = some r := h
  clear h
  replace H := Option.bind_eq_some_iff.mp H
  obtain ⟨t164, A30, H⟩ := H
  replace H : ((tamisref19_Calls.f a0).bind fun bt167 => (tamislaw19_TableAll.l0 k a0 a1 t164 bt167.1 false t164 (t164.length : Int) 0)) = some r := H
  have A3 := Aside0.mk A30
  clear A30
  replace H := Option.bind_eq_some_iff.mp H
  obtain ⟨⟨t167, t168⟩, A40, H⟩ := H
  replace H : (tamislaw19_TableAll.l0 k a0 a1 t164 t167 false t164 (t164.length : Int) 0) = some r := H
  have A4 := Aside0.mk A40
  clear A40
  have H' := Aside0.mk H
  clear H
  go_enter Tryd.func4, Tryd.ntmps4
  go_wp2_with (first | ((with_reducible refine gate_callee (f := 13) rfl ?_); refine goesL_ (some 16) rfl rfl Tryd.func13 (by kernel_rfl) rfl #[.int .u32 a0] rfl (by (try simp only [List.map_toArray, List.map_cons, List.map_nil]); first | done | rfl | (simp only [List.length_drop, List.length_take]; rfl)) ?_; (with_reducible refine (table_All.calls a0 t164 _ A3.out).mono ?_); rintro e w5 ⟨v165, rfl, ho0, hb⟩; refine ⟨_, rfl, ?_⟩; have n0_ := Aside0.mk (Kd.R_lower ho0 (below_size (by repeat (first | (with_reducible first | exact HB.out | apply below_alloc | apply pw_below_drewN | apply below_drew1) | exact HB.out)))); have n1_ := Aside0.mk (below_step (by repeat (first | (with_reducible first | exact HB.out | apply below_alloc | apply pw_below_drewN | apply below_drew1) | exact HB.out)) hb); clear HB; have HO166 := n0_; have HB := n1_; clear n0_ n1_; (try clear hb); (try clear hb2); (try clear hk); (try clear hi); (try clear ho0)) | ((with_reducible refine gate_callee (f := 12) rfl ?_); refine goesL_ (some 19) rfl rfl Tryd.func12 (by kernel_rfl) rfl #[.int .u32 a0] rfl (by (try simp only [List.map_toArray, List.map_cons, List.map_nil]); first | done | rfl | (simp only [List.length_drop, List.length_take]; rfl)) ?_; (with_reducible refine (tamisref19_Calls.calls a0 t167 t168 _ A4.out).mono ?_); rintro e w6 ⟨v169, v171, rfl, ho0, ho1, hb⟩; refine ⟨_, rfl, ?_⟩; have n0_ := Aside0.mk (Kd.R_elder' (by (with_reducible repeat (first | apply Kd.R_alloc | apply Kd.R_drewN | apply Kd.R_drew)); exact HO166.out) (Kd.R_base ho0) hb); have n1_ := Aside0.mk (Kd.R_lower (Kd.R_new' ho0 (Kd.R_lt (by (with_reducible repeat (first | apply Kd.R_alloc | apply Kd.R_drewN | apply Kd.R_drew)); exact HO166.out))) (below_size (by repeat (first | (with_reducible first | exact HB.out | apply below_alloc | apply pw_below_drewN | apply below_drew1) | exact HB.out)))); have n2_ := Aside0.mk (Kd.R_lower ho1 (below_size (by repeat (first | (with_reducible first | exact HB.out | apply below_alloc | apply pw_below_drewN | apply below_drew1) | exact HB.out)))); have n3_ := Aside0.mk (below_step (by repeat (first | (with_reducible first | exact HB.out | apply below_alloc | apply pw_below_drewN | apply below_drew1) | exact HB.out)) hb); clear HO166; clear HB; have HO166 := n0_; have HO170 := n1_; have HO172 := n2_; have HB := n3_; clear n0_ n1_ n2_ n3_; (try clear hb); (try clear hb2); (try clear hk); (try clear hi); (try clear ho0); (try clear ho1); obtain ⟨Ao7, co7, eo7⟩ := Kd.R_slice HO166.out; subst eo7))
  go_loopg [8, 24] k (fun kq v8 v24 w' => ∃ (x8_1 : Bool) (x24_1 : Int), v8 = .bool x8_1 ∧ v24 = .int .i64 x24_1 ∧ Aside0 (tamislaw19_TableAll.l0 kq a0 a1 t164 t167 x8_1 t164 (t164.length : Int) x24_1 = some r) ∧ Aside0 (kq ≤ k) ∧ Aside0 (Kd.R (Kd.int .u32) 22 w' w.heap.size (fun k_ => some k_ ≠ (v169 : Value).ownBlock) (.slice Ao7 t164.length co7) t164) ∧ Aside0 (Kd.R (Kd.int .u32) 22 w' w.heap.size (fun k_ => some k_ ≠ ((.slice Ao7 t164.length co7) : Value).ownBlock ∧ some k_ ≠ ((.slice Ao7 t164.length co7) : Value).ownBlock) v169 t167) ∧ Aside0 (Kd.R (Kd.int .u32) 22 w' w.heap.size (fun k_ => some k_ ≠ (v169 : Value).ownBlock) (.slice Ao7 t164.length co7) t164) ∧ Aside0 (Below w.heap.size w w'))
  case atStart => exact ⟨(false), (0), (by first | rfl | (simp; done) | (simp [*]; done)), (by first | rfl | (simp; done) | (simp [*]; done)), H', ⟨Nat.le_refl _⟩, ⟨by (with_reducible repeat (first | apply Kd.R_alloc | apply Kd.R_drewN | apply Kd.R_drew)); exact Kd.R_mono HO166.out (fun _ hk => hk.2)⟩, ⟨by (with_reducible repeat (first | apply Kd.R_alloc | apply Kd.R_drewN | apply Kd.R_drew)); exact Kd.R_mono HO170.out (fun _ hk => ⟨hk.2, hk.2⟩)⟩, ⟨by (with_reducible repeat (first | apply Kd.R_alloc | apply Kd.R_drewN | apply Kd.R_drew)); exact Kd.R_mono HO166.out (fun _ hk => hk.2)⟩, ⟨by repeat (first | (with_reducible first | exact HB.out | apply below_alloc | apply pw_below_drewN | apply below_drew1) | exact HB.out)⟩⟩
  case round =>
    clear H'
    try clear c1
    try clear p2
    try clear c4
    obtain ⟨x8_1, x24_1, rfl, rfl, HA, HK1, HO_5, HO_6, HO_22, HB⟩ := hrel
    cases gk with
    | zero => exact absurd HA.out (by simp [tamislaw19_TableAll.l0])
    | succ k1 =>
      have H := HA.out
      clear HA
      simp only [tamislaw19_TableAll.l0] at H
      by_cases c8 : x24_1 < (t164.length : Int)
      · rw [if_pos c8] at H
        have c8b0 : decide (x24_1 < (t164.length : Int)) = true := decide_eq_true c8
        clear c8
        by_cases c9 : 0 ≤ x24_1
        · rw [if_pos c9] at H
          have c9b0 : decide (0 ≤ x24_1) = true := decide_eq_true c9
          clear c9
          by_cases c10 : x24_1 < (t164.length : Int)
          · rw [if_pos c10] at H
            have c10b0 : decide (x24_1 < (t164.length : Int)) = true := decide_eq_true c10
            clear c10
            by_cases c11 : x24_1 > 0
            · rw [if_pos c11] at H
              have c11b0 : decide (0 < x24_1) = true := decide_eq_true c11
              clear c11
              obtain ⟨ji12, hji12⟩ : ∃ j_ : Int, (wrap64 (x24_1 - 1)) = j_ := ⟨_, rfl⟩
              replace H : (if 0 ≤ (ji12) then (if (ji12) < (t164.length : Int) then (if (rd t164 (ji12)) ≥ (rd t164 x24_1) then (some false) else ((tamisref19_Name.f k1 a0 (rd t164 x24_1)).bind fun t175 => (if t175.toList = ([] : List UInt8) then (some false) else (if x8_1 = true then (tamislaw19_TableAll.l0 k1 a0 a1 t164 t167 true t164 (t164.length : Int) (wrap64 (x24_1 + 1))) else (tamislaw19_TableAll.l0 k1 a0 a1 t164 t167 ((rd t164 x24_1) == a1) t164 (t164.length : Int) (wrap64 (x24_1 + 1))))))) else (none)) else (none)) = some r := by first | (rw [hji12] at H; exact H) | (simp only [hji12] at H ⊢; exact H)
              have hji12w : (IntKind.i64.wrap (x24_1 - 1)) = ji12 := (i64_w _).trans hji12
              by_cases c13 : 0 ≤ (ji12)
              · rw [if_pos c13] at H
                have c13b0 : decide (0 ≤ (ji12)) = true := decide_eq_true c13
                clear c13
                by_cases c14 : (ji12) < (t164.length : Int)
                · rw [if_pos c14] at H
                  have c14b0 : decide ((ji12) < (t164.length : Int)) = true := decide_eq_true c14
                  clear c14
                  by_cases c15 : (rd t164 (ji12)) ≥ (rd t164 x24_1)
                  · rw [if_pos c15] at H
                    have c15b0 : decide ((rd t164 x24_1) ≤ (rd t164 (ji12))) = true := decide_eq_true c15
                    clear c15
                    exact absurd ((Option.some.inj H).trans HT.out) (by simp)
                  · rw [if_neg c15] at H
                    have c15b0 : decide ((rd t164 x24_1) ≤ (rd t164 (ji12))) = false := decide_eq_false c15
                    clear c15
                    replace H := Option.bind_eq_some_iff.mp H
                    obtain ⟨t175, A160, H⟩ := H
                    replace H : (if t175.toList = ([] : List UInt8) then (some false) else (if x8_1 = true then (tamislaw19_TableAll.l0 k1 a0 a1 t164 t167 true t164 (t164.length : Int) (wrap64 (x24_1 + 1))) else (tamislaw19_TableAll.l0 k1 a0 a1 t164 t167 ((rd t164 x24_1) == a1) t164 (t164.length : Int) (wrap64 (x24_1 + 1))))) = some r := H
                    have A16 := Aside0.mk A160
                    clear A160
                    by_cases c17 : t175.toList = ([] : List UInt8)
                    · rw [if_pos c17] at H
                      have c17b0 : (t175.toList == ([] : List UInt8)) = true := beq_iff_eq.mpr c17
                      have c17b1 : (t175.toList != ([] : List UInt8)) = false := bne_eq_false_iff_eq.mpr c17
                      clear c17
                      exact absurd ((Option.some.inj H).trans HT.out) (by simp)
                    · rw [if_neg c17] at H
                      have c17b0 : (t175.toList == ([] : List UInt8)) = false := beq_eq_false_iff_ne.mpr c17
                      have c17b1 : (t175.toList != ([] : List UInt8)) = true := bne_iff_ne.mpr c17
                      by_cases c18 : x8_1 = true
                      · subst c18
                        have H1 : (tamislaw19_TableAll.l0 k1 a0 a1 t164 t167 true t164 (t164.length : Int) (wrap64 (x24_1 + 1))) = some r := by rw [if_pos rfl] at H; exact H
                        clear H
                        have H := H1
                        clear H1
                        have H' := Aside0.mk H
                        clear H
                        have p173 : 0 ≤ (x24_1 : Int) := of_decide_eq_true (by first | (with_reducible assumption) | assumption)
                        have q173 : x24_1 < (t164.length : Int) := of_decide_eq_true (by first | (with_reducible assumption) | assumption)
                        obtain ⟨ad173, e173, hx173_0⟩ := Kd.at_int (Kd.R_reads' HO_22.out).2.2 x24_1 p173 q173
                        cases e173
                        replace p173 := eq_true p173
                        replace q173 := eq_true q173
                        have p174 : 0 ≤ ((ji12) : Int) := of_decide_eq_true (by first | (with_reducible assumption) | assumption)
                        have q174 : (ji12) < (t164.length : Int) := of_decide_eq_true (by first | (with_reducible assumption) | assumption)
                        obtain ⟨ad174, e174, hx174_0⟩ := Kd.at_int (Kd.R_reads' HO_5.out).2.2 (ji12) p174 q174
                        obtain rfl : ad173 = ad174 := (by injection e174)
                        replace p174 := eq_true p174
                        replace q174 := eq_true q174
                        go_wp2_with (first | (go_at_call 11; (with_reducible refine (tamisref19_Name.calls k1 a0 (rd t164 x24_1) t175 _ A16.out).mono ?_); rintro e w19 ⟨rfl, hb⟩; have n0_ := Aside0.mk (Kd.R_below (by (with_reducible repeat (first | apply Kd.R_alloc | apply Kd.R_drewN | apply Kd.R_drew)); exact HO_5.out) hb); have n1_ := Aside0.mk (Kd.R_below (by (with_reducible repeat (first | apply Kd.R_alloc | apply Kd.R_drewN | apply Kd.R_drew)); exact HO_6.out) hb); have n2_ := Aside0.mk (Kd.R_below (by (with_reducible repeat (first | apply Kd.R_alloc | apply Kd.R_drewN | apply Kd.R_drew)); exact HO_22.out) hb); have n3_ := Aside0.mk (below_step (by repeat (first | (with_reducible first | exact HB.out | apply below_alloc | apply pw_below_drewN | apply below_drew1) | exact HB.out)) hb); clear HO_5; clear HO_6; clear HO_22; clear HB; have HO_5 := n0_; have HO_6 := n1_; have HO_22 := n2_; have HB := n3_; clear n0_ n1_ n2_ n3_; (try clear hb); (try clear hb2); (try clear hk); (try clear hi)))
                        go_roundg k1
                        case measure => have := HK1.out; omega
                        case rel => exact ⟨(true), (wrap64 (x24_1 + 1)), (by first | rfl | (simp; done) | (simp [*]; done)), (by first | rfl | (simp; done) | (simp [*]; done)), H', ⟨by have := HK1.out; omega⟩, ⟨by (with_reducible repeat (first | apply Kd.R_alloc | apply Kd.R_drewN | apply Kd.R_drew)); exact HO_5.out⟩, ⟨by (with_reducible repeat (first | apply Kd.R_alloc | apply Kd.R_drewN | apply Kd.R_drew)); exact HO_6.out⟩, ⟨by (with_reducible repeat (first | apply Kd.R_alloc | apply Kd.R_drewN | apply Kd.R_drew)); exact HO_22.out⟩, ⟨by repeat (first | (with_reducible first | exact HB.out | apply below_alloc | apply pw_below_drewN | apply below_drew1) | exact HB.out)⟩⟩
                      · replace c18 := Bool.eq_false_iff.mpr c18
                        subst c18
                        have H1 : (tamislaw19_TableAll.l0 k1 a0 a1 t164 t167 ((rd t164 x24_1) == a1) t164 (t164.length : Int) (wrap64 (x24_1 + 1))) = some r := by rw [if_neg (show ¬ (false = true) by decide)] at H; exact H
                        clear H
                        have H := H1
                        clear H1
                        have H' := Aside0.mk H
                        clear H
                        have p173 : 0 ≤ (x24_1 : Int) := of_decide_eq_true (by first | (with_reducible assumption) | assumption)
                        have q173 : x24_1 < (t164.length : Int) := of_decide_eq_true (by first | (with_reducible assumption) | assumption)
                        obtain ⟨ad173, e173, hx173_0⟩ := Kd.at_int (Kd.R_reads' HO_22.out).2.2 x24_1 p173 q173
                        cases e173
                        replace p173 := eq_true p173
                        replace q173 := eq_true q173
                        have p174 : 0 ≤ ((ji12) : Int) := of_decide_eq_true (by first | (with_reducible assumption) | assumption)
                        have q174 : (ji12) < (t164.length : Int) := of_decide_eq_true (by first | (with_reducible assumption) | assumption)
                        obtain ⟨ad174, e174, hx174_0⟩ := Kd.at_int (Kd.R_reads' HO_5.out).2.2 (ji12) p174 q174
                        obtain rfl : ad173 = ad174 := (by injection e174)
                        replace p174 := eq_true p174
                        replace q174 := eq_true q174
                        go_wp2_with (first | (go_at_call 11; (with_reducible refine (tamisref19_Name.calls k1 a0 (rd t164 x24_1) t175 _ A16.out).mono ?_); rintro e w20 ⟨rfl, hb⟩; have n0_ := Aside0.mk (Kd.R_below (by (with_reducible repeat (first | apply Kd.R_alloc | apply Kd.R_drewN | apply Kd.R_drew)); exact HO_5.out) hb); have n1_ := Aside0.mk (Kd.R_below (by (with_reducible repeat (first | apply Kd.R_alloc | apply Kd.R_drewN | apply Kd.R_drew)); exact HO_6.out) hb); have n2_ := Aside0.mk (Kd.R_below (by (with_reducible repeat (first | apply Kd.R_alloc | apply Kd.R_drewN | apply Kd.R_drew)); exact HO_22.out) hb); have n3_ := Aside0.mk (below_step (by repeat (first | (with_reducible first | exact HB.out | apply below_alloc | apply pw_below_drewN | apply below_drew1) | exact HB.out)) hb); clear HO_5; clear HO_6; clear HO_22; clear HB; have HO_5 := n0_; have HO_6 := n1_; have HO_22 := n2_; have HB := n3_; clear n0_ n1_ n2_ n3_; (try clear hb); (try clear hb2); (try clear hk); (try clear hi)))
                        go_roundg k1
                        case measure => have := HK1.out; omega
                        case rel => exact ⟨(((rd t164 x24_1) == a1)), (wrap64 (x24_1 + 1)), (by first | rfl | (simp; done) | (simp [*]; done)), (by first | rfl | (simp; done) | (simp [*]; done)), H', ⟨by have := HK1.out; omega⟩, ⟨by (with_reducible repeat (first | apply Kd.R_alloc | apply Kd.R_drewN | apply Kd.R_drew)); exact HO_5.out⟩, ⟨by (with_reducible repeat (first | apply Kd.R_alloc | apply Kd.R_drewN | apply Kd.R_drew)); exact HO_6.out⟩, ⟨by (with_reducible repeat (first | apply Kd.R_alloc | apply Kd.R_drewN | apply Kd.R_drew)); exact HO_22.out⟩, ⟨by repeat (first | (with_reducible first | exact HB.out | apply below_alloc | apply pw_below_drewN | apply below_drew1) | exact HB.out)⟩⟩
                · rw [if_neg c14] at H
                  exact absurd H (by simp)
              · rw [if_neg c13] at H
                exact absurd H (by simp)
            · rw [if_neg c11] at H
              have c11b0 : decide (0 < x24_1) = false := decide_eq_false c11
              clear c11
              replace H := Option.bind_eq_some_iff.mp H
              obtain ⟨t176, A210, H⟩ := H
              replace H : (if t176.toList = ([] : List UInt8) then (some false) else (if x8_1 = true then (tamislaw19_TableAll.l0 k1 a0 a1 t164 t167 true t164 (t164.length : Int) (wrap64 (x24_1 + 1))) else (tamislaw19_TableAll.l0 k1 a0 a1 t164 t167 ((rd t164 x24_1) == a1) t164 (t164.length : Int) (wrap64 (x24_1 + 1))))) = some r := H
              have A21 := Aside0.mk A210
              clear A210
              by_cases c22 : t176.toList = ([] : List UInt8)
              · rw [if_pos c22] at H
                have c22b0 : (t176.toList == ([] : List UInt8)) = true := beq_iff_eq.mpr c22
                have c22b1 : (t176.toList != ([] : List UInt8)) = false := bne_eq_false_iff_eq.mpr c22
                clear c22
                exact absurd ((Option.some.inj H).trans HT.out) (by simp)
              · rw [if_neg c22] at H
                have c22b0 : (t176.toList == ([] : List UInt8)) = false := beq_eq_false_iff_ne.mpr c22
                have c22b1 : (t176.toList != ([] : List UInt8)) = true := bne_iff_ne.mpr c22
                by_cases c23 : x8_1 = true
                · subst c23
                  have H1 : (tamislaw19_TableAll.l0 k1 a0 a1 t164 t167 true t164 (t164.length : Int) (wrap64 (x24_1 + 1))) = some r := by rw [if_pos rfl] at H; exact H
                  clear H
                  have H := H1
                  clear H1
                  have H' := Aside0.mk H
                  clear H
                  have p173 : 0 ≤ (x24_1 : Int) := of_decide_eq_true (by first | (with_reducible assumption) | assumption)
                  have q173 : x24_1 < (t164.length : Int) := of_decide_eq_true (by first | (with_reducible assumption) | assumption)
                  obtain ⟨ad173, e173, hx173_0⟩ := Kd.at_int (Kd.R_reads' HO_22.out).2.2 x24_1 p173 q173
                  cases e173
                  replace p173 := eq_true p173
                  replace q173 := eq_true q173
                  go_wp2_with (first | (go_at_call 11; (with_reducible refine (tamisref19_Name.calls k1 a0 (rd t164 x24_1) t176 _ A21.out).mono ?_); rintro e w24 ⟨rfl, hb⟩; have n0_ := Aside0.mk (Kd.R_below (by (with_reducible repeat (first | apply Kd.R_alloc | apply Kd.R_drewN | apply Kd.R_drew)); exact HO_5.out) hb); have n1_ := Aside0.mk (Kd.R_below (by (with_reducible repeat (first | apply Kd.R_alloc | apply Kd.R_drewN | apply Kd.R_drew)); exact HO_6.out) hb); have n2_ := Aside0.mk (Kd.R_below (by (with_reducible repeat (first | apply Kd.R_alloc | apply Kd.R_drewN | apply Kd.R_drew)); exact HO_22.out) hb); have n3_ := Aside0.mk (below_step (by repeat (first | (with_reducible first | exact HB.out | apply below_alloc | apply pw_below_drewN | apply below_drew1) | exact HB.out)) hb); clear HO_5; clear HO_6; clear HO_22; clear HB; have HO_5 := n0_; have HO_6 := n1_; have HO_22 := n2_; have HB := n3_; clear n0_ n1_ n2_ n3_; (try clear hb); (try clear hb2); (try clear hk); (try clear hi)))
                  go_roundg k1
                  case measure => have := HK1.out; omega
                  case rel => exact ⟨(true), (wrap64 (x24_1 + 1)), (by first | rfl | (simp; done) | (simp [*]; done)), (by first | rfl | (simp; done) | (simp [*]; done)), H', ⟨by have := HK1.out; omega⟩, ⟨by (with_reducible repeat (first | apply Kd.R_alloc | apply Kd.R_drewN | apply Kd.R_drew)); exact HO_5.out⟩, ⟨by (with_reducible repeat (first | apply Kd.R_alloc | apply Kd.R_drewN | apply Kd.R_drew)); exact HO_6.out⟩, ⟨by (with_reducible repeat (first | apply Kd.R_alloc | apply Kd.R_drewN | apply Kd.R_drew)); exact HO_22.out⟩, ⟨by repeat (first | (with_reducible first | exact HB.out | apply below_alloc | apply pw_below_drewN | apply below_drew1) | exact HB.out)⟩⟩
                · replace c23 := Bool.eq_false_iff.mpr c23
                  subst c23
                  have H1 : (tamislaw19_TableAll.l0 k1 a0 a1 t164 t167 ((rd t164 x24_1) == a1) t164 (t164.length : Int) (wrap64 (x24_1 + 1))) = some r := by rw [if_neg (show ¬ (false = true) by decide)] at H; exact H
                  clear H
                  have H := H1
                  clear H1
                  have H' := Aside0.mk H
                  clear H
                  have p173 : 0 ≤ (x24_1 : Int) := of_decide_eq_true (by first | (with_reducible assumption) | assumption)
                  have q173 : x24_1 < (t164.length : Int) := of_decide_eq_true (by first | (with_reducible assumption) | assumption)
                  obtain ⟨ad173, e173, hx173_0⟩ := Kd.at_int (Kd.R_reads' HO_22.out).2.2 x24_1 p173 q173
                  cases e173
                  replace p173 := eq_true p173
                  replace q173 := eq_true q173
                  go_wp2_with (first | (go_at_call 11; (with_reducible refine (tamisref19_Name.calls k1 a0 (rd t164 x24_1) t176 _ A21.out).mono ?_); rintro e w25 ⟨rfl, hb⟩; have n0_ := Aside0.mk (Kd.R_below (by (with_reducible repeat (first | apply Kd.R_alloc | apply Kd.R_drewN | apply Kd.R_drew)); exact HO_5.out) hb); have n1_ := Aside0.mk (Kd.R_below (by (with_reducible repeat (first | apply Kd.R_alloc | apply Kd.R_drewN | apply Kd.R_drew)); exact HO_6.out) hb); have n2_ := Aside0.mk (Kd.R_below (by (with_reducible repeat (first | apply Kd.R_alloc | apply Kd.R_drewN | apply Kd.R_drew)); exact HO_22.out) hb); have n3_ := Aside0.mk (below_step (by repeat (first | (with_reducible first | exact HB.out | apply below_alloc | apply pw_below_drewN | apply below_drew1) | exact HB.out)) hb); clear HO_5; clear HO_6; clear HO_22; clear HB; have HO_5 := n0_; have HO_6 := n1_; have HO_22 := n2_; have HB := n3_; clear n0_ n1_ n2_ n3_; (try clear hb); (try clear hb2); (try clear hk); (try clear hi)))
                  go_roundg k1
                  case measure => have := HK1.out; omega
                  case rel => exact ⟨(((rd t164 x24_1) == a1)), (wrap64 (x24_1 + 1)), (by first | rfl | (simp; done) | (simp [*]; done)), (by first | rfl | (simp; done) | (simp [*]; done)), H', ⟨by have := HK1.out; omega⟩, ⟨by (with_reducible repeat (first | apply Kd.R_alloc | apply Kd.R_drewN | apply Kd.R_drew)); exact HO_5.out⟩, ⟨by (with_reducible repeat (first | apply Kd.R_alloc | apply Kd.R_drewN | apply Kd.R_drew)); exact HO_6.out⟩, ⟨by (with_reducible repeat (first | apply Kd.R_alloc | apply Kd.R_drewN | apply Kd.R_drew)); exact HO_22.out⟩, ⟨by repeat (first | (with_reducible first | exact HB.out | apply below_alloc | apply pw_below_drewN | apply below_drew1) | exact HB.out)⟩⟩
          · rw [if_neg c10] at H
            exact absurd H (by simp)
        · rw [if_neg c9] at H
          exact absurd H (by simp)
      · rw [if_neg c8] at H
        have c8b0 : decide (x24_1 < (t164.length : Int)) = false := decide_eq_false c8
        clear c8
        replace H := Option.bind_eq_some_iff.mp H
        obtain ⟨t177, A260, H⟩ := H
        replace H : (tamislaw19_TableAll.l1 k1 a0 a1 t164 t167 x8_1 t177 false t177 (t177.length : Int) 0) = some r := H
        have A26 := Aside0.mk A260
        clear A260
        have H' := Aside0.mk H
        clear H
        go_wp2_with (first | ((with_reducible refine gate_callee (f := 14) rfl ?_); refine goesL_ (some 53) rfl rfl Tryd.func14 (by kernel_rfl) rfl #[] rfl (by (try simp only [List.map_toArray, List.map_cons, List.map_nil]); first | done | rfl | (simp only [List.length_drop, List.length_take]; rfl)) ?_; (with_reducible refine (table_Archs.calls  t177 _ A26.out).mono ?_); rintro e w27 ⟨v178, rfl, ho0, hb⟩; refine ⟨_, rfl, ?_⟩; have n0_ := Aside0.mk (Kd.R_elder' (by (with_reducible repeat (first | apply Kd.R_alloc | apply Kd.R_drewN | apply Kd.R_drew)); exact HO_5.out) (Kd.R_base ho0) hb); have n1_ := Aside0.mk (Kd.R_elder' (by (with_reducible repeat (first | apply Kd.R_alloc | apply Kd.R_drewN | apply Kd.R_drew)); exact HO_6.out) (Kd.R_base ho0) hb); have n2_ := Aside0.mk (Kd.R_elder' (by (with_reducible repeat (first | apply Kd.R_alloc | apply Kd.R_drewN | apply Kd.R_drew)); exact HO_22.out) (Kd.R_base ho0) hb); have n3_ := Aside0.mk (Kd.R_lower (Kd.R_new' (Kd.R_new' (Kd.R_new' ho0 (Kd.R_lt (by (with_reducible repeat (first | apply Kd.R_alloc | apply Kd.R_drewN | apply Kd.R_drew)); exact HO_5.out))) (Kd.R_lt (by (with_reducible repeat (first | apply Kd.R_alloc | apply Kd.R_drewN | apply Kd.R_drew)); exact HO_6.out))) (Kd.R_lt (by (with_reducible repeat (first | apply Kd.R_alloc | apply Kd.R_drewN | apply Kd.R_drew)); exact HO_22.out))) (below_size (by repeat (first | (with_reducible first | exact HB.out | apply below_alloc | apply pw_below_drewN | apply below_drew1) | exact HB.out)))); have n4_ := Aside0.mk (below_step (by repeat (first | (with_reducible first | exact HB.out | apply below_alloc | apply pw_below_drewN | apply below_drew1) | exact HB.out)) hb); clear HO_5; clear HO_6; clear HO_22; clear HB; have HO_5 := n0_; have HO_6 := n1_; have HO_22 := n2_; have HO179 := n3_; have HB := n4_; clear n0_ n1_ n2_ n3_ n4_; (try clear hb); (try clear hb2); (try clear hk); (try clear hi); (try clear ho0); obtain ⟨Ao28, co28, eo28⟩ := Kd.R_slice HO179.out; subst eo28))
        go_loopg [12, 56] k1 (fun kq v12 v56 w' => ∃ (x12_2 : Bool) (x56_2 : Int), v12 = .bool x12_2 ∧ v56 = .int .i64 x56_2 ∧ Aside0 (tamislaw19_TableAll.l1 kq a0 a1 t164 t167 x8_1 t177 x12_2 t177 (t177.length : Int) x56_2 = some r) ∧ Aside0 (kq ≤ k1) ∧ Aside0 (Kd.R (Kd.int .u32) 22 w' w.heap.size (fun k_ => some k_ ≠ (v169 : Value).ownBlock ∧ some k_ ≠ ((.slice Ao28 t177.length co28) : Value).ownBlock ∧ some k_ ≠ ((.slice Ao28 t177.length co28) : Value).ownBlock) (.slice Ao7 t164.length co7) t164) ∧ Aside0 (Kd.R (Kd.int .u32) 22 w' w.heap.size (fun k_ => some k_ ≠ ((.slice Ao7 t164.length co7) : Value).ownBlock ∧ some k_ ≠ ((.slice Ao28 t177.length co28) : Value).ownBlock ∧ some k_ ≠ ((.slice Ao28 t177.length co28) : Value).ownBlock) v169 t167) ∧ Aside0 (Kd.R (Kd.int .u32) 22 w' w.heap.size (fun k_ => some k_ ≠ ((.slice Ao7 t164.length co7) : Value).ownBlock ∧ some k_ ≠ (v169 : Value).ownBlock) (.slice Ao28 t177.length co28) t177) ∧ Aside0 (Kd.R (Kd.int .u32) 22 w' w.heap.size (fun k_ => some k_ ≠ ((.slice Ao7 t164.length co7) : Value).ownBlock ∧ some k_ ≠ (v169 : Value).ownBlock) (.slice Ao28 t177.length co28) t177) ∧ Aside0 (Below w.heap.size w w'))
        case atStart => exact ⟨(false), (0), (by first | rfl | (simp; done) | (simp [*]; done)), (by first | rfl | (simp; done) | (simp [*]; done)), H', ⟨Nat.le_refl _⟩, ⟨by (with_reducible repeat (first | apply Kd.R_alloc | apply Kd.R_drewN | apply Kd.R_drew)); exact Kd.R_mono HO_5.out (fun _ hk => ⟨hk.1, ⟨hk.2, hk.2⟩⟩)⟩, ⟨by (with_reducible repeat (first | apply Kd.R_alloc | apply Kd.R_drewN | apply Kd.R_drew)); exact Kd.R_mono HO_6.out (fun _ hk => ⟨hk.1.1, ⟨hk.2, hk.2⟩⟩)⟩, ⟨by (with_reducible repeat (first | apply Kd.R_alloc | apply Kd.R_drewN | apply Kd.R_drew)); exact Kd.R_mono HO179.out (fun _ hk => ⟨hk.1.1.2, hk.1.2⟩)⟩, ⟨by (with_reducible repeat (first | apply Kd.R_alloc | apply Kd.R_drewN | apply Kd.R_drew)); exact Kd.R_mono HO179.out (fun _ hk => ⟨hk.1.1.2, hk.1.2⟩)⟩, ⟨by repeat (first | (with_reducible first | exact HB.out | apply below_alloc | apply pw_below_drewN | apply below_drew1) | exact HB.out)⟩⟩
        case round =>
          clear H'
          try clear c1
          try clear p1
          try clear q1
          try clear hx1
          try clear c2
          try clear p2
          try clear c4
          try clear p6
          try clear c8
          try clear c8b0
          try clear c9
          try clear c9b0
          try clear c10
          try clear c10b0
          try clear c11
          try clear c11b0
          try clear c12
          try clear c13
          try clear c13b0
          try clear c14
          try clear c14b0
          try clear c15
          try clear c15b0
          try clear c17
          try clear c17b0
          try clear c17b1
          try clear p17
          try clear q17
          try clear hx17
          try clear c18
          try clear c22
          try clear c22b0
          try clear c22b1
          try clear c23
          try clear hx173_0
          try clear hx174_0
          try clear p173
          try clear p174
          try clear p2
          try clear q173
          try clear q174
          obtain ⟨x12_2, x56_2, rfl, rfl, HA, HK2, HO_5, HO_6, HO_11, HO_54, HB⟩ := hrel
          cases gk with
          | zero => exact absurd HA.out (by simp [tamislaw19_TableAll.l1])
          | succ k2 =>
            have H := HA.out
            clear HA
            simp only [tamislaw19_TableAll.l1] at H
            by_cases c29 : x56_2 < (t177.length : Int)
            · rw [if_pos c29] at H
              have c29b0 : decide (x56_2 < (t177.length : Int)) = true := decide_eq_true c29
              clear c29
              by_cases c30 : 0 ≤ x56_2
              · rw [if_pos c30] at H
                have c30b0 : decide (0 ≤ x56_2) = true := decide_eq_true c30
                clear c30
                by_cases c31 : x56_2 < (t177.length : Int)
                · rw [if_pos c31] at H
                  have c31b0 : decide (x56_2 < (t177.length : Int)) = true := decide_eq_true c31
                  clear c31
                  by_cases c32 : x56_2 > 0
                  · rw [if_pos c32] at H
                    have c32b0 : decide (0 < x56_2) = true := decide_eq_true c32
                    clear c32
                    obtain ⟨ji33, hji33⟩ : ∃ j_ : Int, (wrap64 (x56_2 - 1)) = j_ := ⟨_, rfl⟩
                    replace H : (if 0 ≤ (ji33) then (if (ji33) < (t177.length : Int) then (if (rd t177 (ji33)) ≥ (rd t177 x56_2) then (some false) else ((table_ArchName.f (rd t177 x56_2)).bind fun t182 => (if t182.toList = ([] : List UInt8) then (some false) else (if x12_2 = true then (tamislaw19_TableAll.l1 k2 a0 a1 t164 t167 x8_1 t177 true t177 (t177.length : Int) (wrap64 (x56_2 + 1))) else (tamislaw19_TableAll.l1 k2 a0 a1 t164 t167 x8_1 t177 ((rd t177 x56_2) == a0) t177 (t177.length : Int) (wrap64 (x56_2 + 1))))))) else (none)) else (none)) = some r := by first | (rw [hji33] at H; exact H) | (simp only [hji33] at H ⊢; exact H)
                    have hji33w : (IntKind.i64.wrap (x56_2 - 1)) = ji33 := (i64_w _).trans hji33
                    by_cases c34 : 0 ≤ (ji33)
                    · rw [if_pos c34] at H
                      have c34b0 : decide (0 ≤ (ji33)) = true := decide_eq_true c34
                      clear c34
                      by_cases c35 : (ji33) < (t177.length : Int)
                      · rw [if_pos c35] at H
                        have c35b0 : decide ((ji33) < (t177.length : Int)) = true := decide_eq_true c35
                        clear c35
                        by_cases c36 : (rd t177 (ji33)) ≥ (rd t177 x56_2)
                        · rw [if_pos c36] at H
                          have c36b0 : decide ((rd t177 x56_2) ≤ (rd t177 (ji33))) = true := decide_eq_true c36
                          clear c36
                          exact absurd ((Option.some.inj H).trans HT.out) (by simp)
                        · rw [if_neg c36] at H
                          have c36b0 : decide ((rd t177 x56_2) ≤ (rd t177 (ji33))) = false := decide_eq_false c36
                          clear c36
                          replace H := Option.bind_eq_some_iff.mp H
                          obtain ⟨t182, A370, H⟩ := H
                          replace H : (if t182.toList = ([] : List UInt8) then (some false) else (if x12_2 = true then (tamislaw19_TableAll.l1 k2 a0 a1 t164 t167 x8_1 t177 true t177 (t177.length : Int) (wrap64 (x56_2 + 1))) else (tamislaw19_TableAll.l1 k2 a0 a1 t164 t167 x8_1 t177 ((rd t177 x56_2) == a0) t177 (t177.length : Int) (wrap64 (x56_2 + 1))))) = some r := H
                          have A37 := Aside0.mk A370
                          clear A370
                          by_cases c38 : t182.toList = ([] : List UInt8)
                          · rw [if_pos c38] at H
                            have c38b0 : (t182.toList == ([] : List UInt8)) = true := beq_iff_eq.mpr c38
                            have c38b1 : (t182.toList != ([] : List UInt8)) = false := bne_eq_false_iff_eq.mpr c38
                            clear c38
                            exact absurd ((Option.some.inj H).trans HT.out) (by simp)
                          · rw [if_neg c38] at H
                            have c38b0 : (t182.toList == ([] : List UInt8)) = false := beq_eq_false_iff_ne.mpr c38
                            have c38b1 : (t182.toList != ([] : List UInt8)) = true := bne_iff_ne.mpr c38
                            by_cases c39 : x12_2 = true
                            · subst c39
                              have H1 : (tamislaw19_TableAll.l1 k2 a0 a1 t164 t167 x8_1 t177 true t177 (t177.length : Int) (wrap64 (x56_2 + 1))) = some r := by rw [if_pos rfl] at H; exact H
                              clear H
                              have H := H1
                              clear H1
                              have H' := Aside0.mk H
                              clear H
                              have p180 : 0 ≤ (x56_2 : Int) := of_decide_eq_true (by first | (with_reducible assumption) | assumption)
                              have q180 : x56_2 < (t177.length : Int) := of_decide_eq_true (by first | (with_reducible assumption) | assumption)
                              obtain ⟨ad180, e180, hx180_0⟩ := Kd.at_int (Kd.R_reads' HO_54.out).2.2 x56_2 p180 q180
                              cases e180
                              replace p180 := eq_true p180
                              replace q180 := eq_true q180
                              have p181 : 0 ≤ ((ji33) : Int) := of_decide_eq_true (by first | (with_reducible assumption) | assumption)
                              have q181 : (ji33) < (t177.length : Int) := of_decide_eq_true (by first | (with_reducible assumption) | assumption)
                              obtain ⟨ad181, e181, hx181_0⟩ := Kd.at_int (Kd.R_reads' HO_11.out).2.2 (ji33) p181 q181
                              obtain rfl : ad180 = ad181 := (by injection e181)
                              replace p181 := eq_true p181
                              replace q181 := eq_true q181
                              go_wp2_with (first | (go_at_call 15; (with_reducible refine (table_ArchName.calls (rd t177 x56_2) t182 _ A37.out).mono ?_); rintro e w' ⟨rfl, ⟨nd, rfl⟩⟩))
                              go_roundg k2
                              case measure => have := HK1.out; have := HK2.out; omega
                              case rel => exact ⟨(true), (wrap64 (x56_2 + 1)), (by first | rfl | (simp; done) | (simp [*]; done)), (by first | rfl | (simp; done) | (simp [*]; done)), H', ⟨by have := HK1.out; have := HK2.out; omega⟩, ⟨by (with_reducible repeat (first | apply Kd.R_alloc | apply Kd.R_drewN | apply Kd.R_drew)); exact HO_5.out⟩, ⟨by (with_reducible repeat (first | apply Kd.R_alloc | apply Kd.R_drewN | apply Kd.R_drew)); exact HO_6.out⟩, ⟨by (with_reducible repeat (first | apply Kd.R_alloc | apply Kd.R_drewN | apply Kd.R_drew)); exact HO_11.out⟩, ⟨by (with_reducible repeat (first | apply Kd.R_alloc | apply Kd.R_drewN | apply Kd.R_drew)); exact HO_54.out⟩, ⟨by repeat (first | (with_reducible first | exact HB.out | apply below_alloc | apply pw_below_drewN | apply below_drew1) | exact HB.out)⟩⟩
                            · replace c39 := Bool.eq_false_iff.mpr c39
                              subst c39
                              have H1 : (tamislaw19_TableAll.l1 k2 a0 a1 t164 t167 x8_1 t177 ((rd t177 x56_2) == a0) t177 (t177.length : Int) (wrap64 (x56_2 + 1))) = some r := by rw [if_neg (show ¬ (false = true) by decide)] at H; exact H
                              clear H
                              have H := H1
                              clear H1
                              have H' := Aside0.mk H
                              clear H
                              have p180 : 0 ≤ (x56_2 : Int) := of_decide_eq_true (by first | (with_reducible assumption) | assumption)
                              have q180 : x56_2 < (t177.length : Int) := of_decide_eq_true (by first | (with_reducible assumption) | assumption)
                              obtain ⟨ad180, e180, hx180_0⟩ := Kd.at_int (Kd.R_reads' HO_54.out).2.2 x56_2 p180 q180
                              cases e180
                              replace p180 := eq_true p180
                              replace q180 := eq_true q180
                              have p181 : 0 ≤ ((ji33) : Int) := of_decide_eq_true (by first | (with_reducible assumption) | assumption)
                              have q181 : (ji33) < (t177.length : Int) := of_decide_eq_true (by first | (with_reducible assumption) | assumption)
                              obtain ⟨ad181, e181, hx181_0⟩ := Kd.at_int (Kd.R_reads' HO_11.out).2.2 (ji33) p181 q181
                              obtain rfl : ad180 = ad181 := (by injection e181)
                              replace p181 := eq_true p181
                              replace q181 := eq_true q181
                              go_wp2_with (first | (go_at_call 15; (with_reducible refine (table_ArchName.calls (rd t177 x56_2) t182 _ A37.out).mono ?_); rintro e w' ⟨rfl, ⟨nd, rfl⟩⟩))
                              go_roundg k2
                              case measure => have := HK1.out; have := HK2.out; omega
                              case rel => exact ⟨(((rd t177 x56_2) == a0)), (wrap64 (x56_2 + 1)), (by first | rfl | (simp; done) | (simp [*]; done)), (by first | rfl | (simp; done) | (simp [*]; done)), H', ⟨by have := HK1.out; have := HK2.out; omega⟩, ⟨by (with_reducible repeat (first | apply Kd.R_alloc | apply Kd.R_drewN | apply Kd.R_drew)); exact HO_5.out⟩, ⟨by (with_reducible repeat (first | apply Kd.R_alloc | apply Kd.R_drewN | apply Kd.R_drew)); exact HO_6.out⟩, ⟨by (with_reducible repeat (first | apply Kd.R_alloc | apply Kd.R_drewN | apply Kd.R_drew)); exact HO_11.out⟩, ⟨by (with_reducible repeat (first | apply Kd.R_alloc | apply Kd.R_drewN | apply Kd.R_drew)); exact HO_54.out⟩, ⟨by repeat (first | (with_reducible first | exact HB.out | apply below_alloc | apply pw_below_drewN | apply below_drew1) | exact HB.out)⟩⟩
                      · rw [if_neg c35] at H
                        exact absurd H (by simp)
                    · rw [if_neg c34] at H
                      exact absurd H (by simp)
                  · rw [if_neg c32] at H
                    have c32b0 : decide (0 < x56_2) = false := decide_eq_false c32
                    clear c32
                    replace H := Option.bind_eq_some_iff.mp H
                    obtain ⟨t183, A400, H⟩ := H
                    replace H : (if t183.toList = ([] : List UInt8) then (some false) else (if x12_2 = true then (tamislaw19_TableAll.l1 k2 a0 a1 t164 t167 x8_1 t177 true t177 (t177.length : Int) (wrap64 (x56_2 + 1))) else (tamislaw19_TableAll.l1 k2 a0 a1 t164 t167 x8_1 t177 ((rd t177 x56_2) == a0) t177 (t177.length : Int) (wrap64 (x56_2 + 1))))) = some r := H
                    have A40 := Aside0.mk A400
                    clear A400
                    by_cases c41 : t183.toList = ([] : List UInt8)
                    · rw [if_pos c41] at H
                      have c41b0 : (t183.toList == ([] : List UInt8)) = true := beq_iff_eq.mpr c41
                      have c41b1 : (t183.toList != ([] : List UInt8)) = false := bne_eq_false_iff_eq.mpr c41
                      clear c41
                      exact absurd ((Option.some.inj H).trans HT.out) (by simp)
                    · rw [if_neg c41] at H
                      have c41b0 : (t183.toList == ([] : List UInt8)) = false := beq_eq_false_iff_ne.mpr c41
                      have c41b1 : (t183.toList != ([] : List UInt8)) = true := bne_iff_ne.mpr c41
                      by_cases c42 : x12_2 = true
                      · subst c42
                        have H1 : (tamislaw19_TableAll.l1 k2 a0 a1 t164 t167 x8_1 t177 true t177 (t177.length : Int) (wrap64 (x56_2 + 1))) = some r := by rw [if_pos rfl] at H; exact H
                        clear H
                        have H := H1
                        clear H1
                        have H' := Aside0.mk H
                        clear H
                        have p180 : 0 ≤ (x56_2 : Int) := of_decide_eq_true (by first | (with_reducible assumption) | assumption)
                        have q180 : x56_2 < (t177.length : Int) := of_decide_eq_true (by first | (with_reducible assumption) | assumption)
                        obtain ⟨ad180, e180, hx180_0⟩ := Kd.at_int (Kd.R_reads' HO_54.out).2.2 x56_2 p180 q180
                        cases e180
                        replace p180 := eq_true p180
                        replace q180 := eq_true q180
                        go_wp2_with (first | (go_at_call 15; (with_reducible refine (table_ArchName.calls (rd t177 x56_2) t183 _ A40.out).mono ?_); rintro e w' ⟨rfl, ⟨nd, rfl⟩⟩))
                        go_roundg k2
                        case measure => have := HK1.out; have := HK2.out; omega
                        case rel => exact ⟨(true), (wrap64 (x56_2 + 1)), (by first | rfl | (simp; done) | (simp [*]; done)), (by first | rfl | (simp; done) | (simp [*]; done)), H', ⟨by have := HK1.out; have := HK2.out; omega⟩, ⟨by (with_reducible repeat (first | apply Kd.R_alloc | apply Kd.R_drewN | apply Kd.R_drew)); exact HO_5.out⟩, ⟨by (with_reducible repeat (first | apply Kd.R_alloc | apply Kd.R_drewN | apply Kd.R_drew)); exact HO_6.out⟩, ⟨by (with_reducible repeat (first | apply Kd.R_alloc | apply Kd.R_drewN | apply Kd.R_drew)); exact HO_11.out⟩, ⟨by (with_reducible repeat (first | apply Kd.R_alloc | apply Kd.R_drewN | apply Kd.R_drew)); exact HO_54.out⟩, ⟨by repeat (first | (with_reducible first | exact HB.out | apply below_alloc | apply pw_below_drewN | apply below_drew1) | exact HB.out)⟩⟩
                      · replace c42 := Bool.eq_false_iff.mpr c42
                        subst c42
                        have H1 : (tamislaw19_TableAll.l1 k2 a0 a1 t164 t167 x8_1 t177 ((rd t177 x56_2) == a0) t177 (t177.length : Int) (wrap64 (x56_2 + 1))) = some r := by rw [if_neg (show ¬ (false = true) by decide)] at H; exact H
                        clear H
                        have H := H1
                        clear H1
                        have H' := Aside0.mk H
                        clear H
                        have p180 : 0 ≤ (x56_2 : Int) := of_decide_eq_true (by first | (with_reducible assumption) | assumption)
                        have q180 : x56_2 < (t177.length : Int) := of_decide_eq_true (by first | (with_reducible assumption) | assumption)
                        obtain ⟨ad180, e180, hx180_0⟩ := Kd.at_int (Kd.R_reads' HO_54.out).2.2 x56_2 p180 q180
                        cases e180
                        replace p180 := eq_true p180
                        replace q180 := eq_true q180
                        go_wp2_with (first | (go_at_call 15; (with_reducible refine (table_ArchName.calls (rd t177 x56_2) t183 _ A40.out).mono ?_); rintro e w' ⟨rfl, ⟨nd, rfl⟩⟩))
                        go_roundg k2
                        case measure => have := HK1.out; have := HK2.out; omega
                        case rel => exact ⟨(((rd t177 x56_2) == a0)), (wrap64 (x56_2 + 1)), (by first | rfl | (simp; done) | (simp [*]; done)), (by first | rfl | (simp; done) | (simp [*]; done)), H', ⟨by have := HK1.out; have := HK2.out; omega⟩, ⟨by (with_reducible repeat (first | apply Kd.R_alloc | apply Kd.R_drewN | apply Kd.R_drew)); exact HO_5.out⟩, ⟨by (with_reducible repeat (first | apply Kd.R_alloc | apply Kd.R_drewN | apply Kd.R_drew)); exact HO_6.out⟩, ⟨by (with_reducible repeat (first | apply Kd.R_alloc | apply Kd.R_drewN | apply Kd.R_drew)); exact HO_11.out⟩, ⟨by (with_reducible repeat (first | apply Kd.R_alloc | apply Kd.R_drewN | apply Kd.R_drew)); exact HO_54.out⟩, ⟨by repeat (first | (with_reducible first | exact HB.out | apply below_alloc | apply pw_below_drewN | apply below_drew1) | exact HB.out)⟩⟩
                · rw [if_neg c31] at H
                  exact absurd H (by simp)
              · rw [if_neg c30] at H
                exact absurd H (by simp)
            · rw [if_neg c29] at H
              have c29b0 : decide (x56_2 < (t177.length : Int)) = false := decide_eq_false c29
              clear c29
              replace H := Option.bind_eq_some_iff.mp H
              obtain ⟨t184, A430, H⟩ := H
              replace H : (if t184 = true then (if (t164.length : Int) = (t167.length : Int) then ((table_Name.f a0 a1).bind fun t185 => (if (x8_1 == (t185.toList != ([] : List UInt8))) = true then ((table_ArchName.f a0).bind fun t186 => (if (x12_2 == (t186.toList != ([] : List UInt8))) = true then (some (x12_2 == (decide ((t164.length : Int) > 0)))) else (some false))) else (some false))) else (some false)) else (some false)) = some r := H
              have A43 := Aside0.mk A430
              clear A430
              by_cases c44 : t184 = true
              · subst c44
                have H1 : (if (t164.length : Int) = (t167.length : Int) then ((table_Name.f a0 a1).bind fun t185 => (if (x8_1 == (t185.toList != ([] : List UInt8))) = true then ((table_ArchName.f a0).bind fun t186 => (if (x12_2 == (t186.toList != ([] : List UInt8))) = true then (some (x12_2 == (decide ((t164.length : Int) > 0)))) else (some false))) else (some false))) else (some false)) = some r := by rw [if_pos rfl] at H; exact H
                clear H
                have H := H1
                clear H1
                by_cases c45 : (t164.length : Int) = (t167.length : Int)
                · rw [if_pos c45] at H
                  have c45b0 : ((t164.length : Int) == (t167.length : Int)) = true := beq_iff_eq.mpr c45
                  have c45b1 : ((t164.length : Int) != (t167.length : Int)) = false := bne_eq_false_iff_eq.mpr c45
                  have c45b2 : (t164.length == t167.length) = true := by first | simpa using c45 | (simp at c45 ⊢; omega)
                  clear c45
                  replace H := Option.bind_eq_some_iff.mp H
                  obtain ⟨t185, A460, H⟩ := H
                  replace H : (if (x8_1 == (t185.toList != ([] : List UInt8))) = true then ((table_ArchName.f a0).bind fun t186 => (if (x12_2 == (t186.toList != ([] : List UInt8))) = true then (some (x12_2 == (decide ((t164.length : Int) > 0)))) else (some false))) else (some false)) = some r := H
                  have A46 := Aside0.mk A460
                  clear A460
                  by_cases c47 : (x8_1 == (t185.toList != ([] : List UInt8))) = true
                  · rw [if_pos c47] at H
                    have c47b0 : (x8_1 == (t185.toList != ([] : List UInt8))) = true := c47
                    (try (have c47bz : (x8_1 == !t185.toList.isEmpty) = true := by rw [show (!t185.toList.isEmpty) = (t185.toList != ([] : List UInt8)) by cases t185.toList <;> rfl]; exact c47b0))
                    (try (have c47b1 : decide (x8_1 = (t185.toList != ([] : List UInt8))) = true := by simpa using c47))
                    (try (have c47b2 : (x8_1 == (t185.toList != ([] : List UInt8))) = true := by simpa using c47))
                    clear c47
                    replace H := Option.bind_eq_some_iff.mp H
                    obtain ⟨t186, A480, H⟩ := H
                    replace H : (if (x12_2 == (t186.toList != ([] : List UInt8))) = true then (some (x12_2 == (decide ((t164.length : Int) > 0)))) else (some false)) = some r := H
                    have A48 := Aside0.mk A480
                    clear A480
                    by_cases c49 : (x12_2 == (t186.toList != ([] : List UInt8))) = true
                    · rw [if_pos c49] at H
                      have c49b0 : (x12_2 == (t186.toList != ([] : List UInt8))) = true := c49
                      (try (have c49bz : (x12_2 == !t186.toList.isEmpty) = true := by rw [show (!t186.toList.isEmpty) = (t186.toList != ([] : List UInt8)) by cases t186.toList <;> rfl]; exact c49b0))
                      (try (have c49b1 : decide (x12_2 = (t186.toList != ([] : List UInt8))) = true := by simpa using c49))
                      (try (have c49b2 : (x12_2 == (t186.toList != ([] : List UInt8))) = true := by simpa using c49))
                      clear c49
                      obtain rfl := Option.some.inj H
                      go_wp2_with (first | ((with_reducible refine gate_callee (f := 8) rfl ?_); refine goesL_ (some 84) rfl rfl Tryd.func8 (by kernel_rfl) rfl #[] rfl (by (try simp only [List.map_toArray, List.map_cons, List.map_nil]); first | done | rfl | (simp only [List.length_drop, List.length_take]; rfl)) ?_; (with_reducible refine (awake19.calls  true _ (hG.on (by repeat (first | (with_reducible first | exact HB.out | apply below_alloc | apply pw_below_drewN | apply below_drew1) | exact HB.out))) A43.out).mono ?_); rintro e w50 ⟨rfl, hb⟩; refine ⟨_, rfl, ?_⟩; have n0_ := Aside0.mk (Kd.R_below (by (with_reducible repeat (first | apply Kd.R_alloc | apply Kd.R_drewN | apply Kd.R_drew)); exact HO_5.out) hb); have n1_ := Aside0.mk (Kd.R_below (by (with_reducible repeat (first | apply Kd.R_alloc | apply Kd.R_drewN | apply Kd.R_drew)); exact HO_6.out) hb); have n2_ := Aside0.mk (Kd.R_below (by (with_reducible repeat (first | apply Kd.R_alloc | apply Kd.R_drewN | apply Kd.R_drew)); exact HO_11.out) hb); have n3_ := Aside0.mk (Kd.R_below (by (with_reducible repeat (first | apply Kd.R_alloc | apply Kd.R_drewN | apply Kd.R_drew)); exact HO_54.out) hb); have n4_ := Aside0.mk (below_step (by repeat (first | (with_reducible first | exact HB.out | apply below_alloc | apply pw_below_drewN | apply below_drew1) | exact HB.out)) hb); clear HO_5; clear HO_6; clear HO_11; clear HO_54; clear HB; have HO_5 := n0_; have HO_6 := n1_; have HO_11 := n2_; have HO_54 := n3_; have HB := n4_; clear n0_ n1_ n2_ n3_ n4_; (try clear hb); (try clear hb2); (try clear hk); (try clear hi); obtain ⟨Ao51, co51, eo51⟩ := Kd.R_slice HO_6.out; subst eo51) | (go_at_call 9; (with_reducible refine (table_Name.calls a0 a1 t185 _ A46.out).mono ?_); rintro e w52 ⟨rfl, hb⟩; have n0_ := Aside0.mk (Kd.R_below (by (with_reducible repeat (first | apply Kd.R_alloc | apply Kd.R_drewN | apply Kd.R_drew)); exact HO_5.out) hb); have n1_ := Aside0.mk (Kd.R_below (by (with_reducible repeat (first | apply Kd.R_alloc | apply Kd.R_drewN | apply Kd.R_drew)); exact HO_6.out) hb); have n2_ := Aside0.mk (Kd.R_below (by (with_reducible repeat (first | apply Kd.R_alloc | apply Kd.R_drewN | apply Kd.R_drew)); exact HO_11.out) hb); have n3_ := Aside0.mk (Kd.R_below (by (with_reducible repeat (first | apply Kd.R_alloc | apply Kd.R_drewN | apply Kd.R_drew)); exact HO_54.out) hb); have n4_ := Aside0.mk (below_step (by repeat (first | (with_reducible first | exact HB.out | apply below_alloc | apply pw_below_drewN | apply below_drew1) | exact HB.out)) hb); clear HO_5; clear HO_6; clear HO_11; clear HO_54; clear HB; have HO_5 := n0_; have HO_6 := n1_; have HO_11 := n2_; have HO_54 := n3_; have HB := n4_; clear n0_ n1_ n2_ n3_ n4_; (try clear hb); (try clear hb2); (try clear hk); (try clear hi)) | (go_at_call 15; (with_reducible refine (table_ArchName.calls a0 t186 _ A48.out).mono ?_); rintro e w' ⟨rfl, ⟨nd, rfl⟩⟩))
                      go_ret
                      exact ⟨by first | rfl | (simp [errW_none, errW_some] <;> rfl) | (simp [*, errW_none, errW_some] <;> rfl), by repeat (first | (with_reducible first | exact HB.out | apply below_alloc | apply pw_below_drewN | apply below_drew1) | exact HB.out)⟩
                    · rw [if_neg c49] at H
                      have c49b0 : (x12_2 == (t186.toList != ([] : List UInt8))) = false := by simpa using c49
                      (try (have c49bz : (x12_2 == !t186.toList.isEmpty) = false := by rw [show (!t186.toList.isEmpty) = (t186.toList != ([] : List UInt8)) by cases t186.toList <;> rfl]; exact c49b0))
                      (try (have c49b1 : decide (x12_2 = (t186.toList != ([] : List UInt8))) = false := by simpa using c49))
                      (try (have c49b2 : (x12_2 == (t186.toList != ([] : List UInt8))) = false := by simpa using c49))
                      (try (have c49b3 : ¬ (x12_2 = (t186.toList != ([] : List UInt8))) := by simpa using c49))
                      clear c49
                      exact absurd ((Option.some.inj H).trans HT.out) (by simp)
                  · rw [if_neg c47] at H
                    have c47b0 : (x8_1 == (t185.toList != ([] : List UInt8))) = false := by simpa using c47
                    (try (have c47bz : (x8_1 == !t185.toList.isEmpty) = false := by rw [show (!t185.toList.isEmpty) = (t185.toList != ([] : List UInt8)) by cases t185.toList <;> rfl]; exact c47b0))
                    (try (have c47b1 : decide (x8_1 = (t185.toList != ([] : List UInt8))) = false := by simpa using c47))
                    (try (have c47b2 : (x8_1 == (t185.toList != ([] : List UInt8))) = false := by simpa using c47))
                    (try (have c47b3 : ¬ (x8_1 = (t185.toList != ([] : List UInt8))) := by simpa using c47))
                    clear c47
                    exact absurd ((Option.some.inj H).trans HT.out) (by simp)
                · rw [if_neg c45] at H
                  have c45b0 : ((t164.length : Int) == (t167.length : Int)) = false := beq_eq_false_iff_ne.mpr c45
                  have c45b1 : ((t164.length : Int) != (t167.length : Int)) = true := bne_iff_ne.mpr c45
                  have c45b2 : (t164.length == t167.length) = false := by first | simpa using c45 | (simp at c45 ⊢; omega)
                  exact absurd ((Option.some.inj H).trans HT.out) (by simp)
              · replace c44 := Bool.eq_false_iff.mpr c44
                subst c44
                have H1 : (some false) = some r := by rw [if_neg (show ¬ (false = true) by decide)] at H; exact H
                clear H
                have H := H1
                clear H1
                exact absurd ((Option.some.inj H).trans HT.out) (by simp)

end Go.Proofs.YtpgjcjgmokfofaaDoor.Pr
