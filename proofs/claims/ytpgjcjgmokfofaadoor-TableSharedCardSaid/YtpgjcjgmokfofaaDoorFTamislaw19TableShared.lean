-- Made by a program of this session (wip/tools/myprint.sh).
import Derived.Test.YtpgjcjgmokfofaaDoorGLib
import Derived.Test.YtpgjcjgmokfofaaDoorPr0
import Derived.Test.YtpgjcjgmokfofaaDoorFArch
import Derived.Test.YtpgjcjgmokfofaaDoorFTablePrint
import Derived.Test.YtpgjcjgmokfofaaDoorFTamisref19ArchName
import Derived.Test.YtpgjcjgmokfofaaDoorGAwake19
import Derived.Test.YtpgjcjgmokfofaaDoorGTabLook
namespace Go.Proofs.YtpgjcjgmokfofaaDoor.Pr
open Go.RowKit Go.Proofs.YtpgjcjgmokfofaaDoorW.PrintWords Go.Proofs.YtpgjcjgmokfofaaDoorW.PrintLast Go.Proofs.YtpgjcjgmokfofaaDoorW.PrintMore
attribute [local go_sem] max2_int min2_int max_two min_two max_three min_three max_four min_four   -- for this text's walks alone
set_option linter.unusedVariables false
set_option linter.unusedSimpArgs false

/-! ### tamislaw19_TableShared: function 7 -/
mutual
def tamislaw19_TableShared.j0 : Nat → Int → Int → ByteArray → Bool → Option (Bool)
  | 0, _, _, _, _ => none
  | k + 1, x0, x1, x2, x21 => if x21 = true then ((awake19.f).bind fun t230 => (some t230)) else ((table_ArchName.f x0).bind fun t231 => ((table_ArchName.f x1).bind fun t232 => ((table_Arch.f k t231).bind fun bt233 => ((tamisref19_ArchName.f x0).bind fun t235 => (if t231.toList = t235.toList then ((tamisref19_ArchName.f x1).bind fun t236 => (if t232.toList = t236.toList then (if t231.toList = ([] : List UInt8) then (if (bt233.2 != (t231.toList != ([] : List UInt8))) = true then (tamislaw19_TableShared.j1 k x0 x1 x2 true) else (if bt233.2 = true then (if bt233.1 = x0 then (tamislaw19_TableShared.j1 k x0 x1 x2 false) else (tamislaw19_TableShared.j1 k x0 x1 x2 true)) else (tamislaw19_TableShared.j1 k x0 x1 x2 (bt233.1 != 0)))) else (if ((t231.toList == t232.toList) != (x0 == x1)) = true then (tamislaw19_TableShared.j1 k x0 x1 x2 true) else (if (bt233.2 != (t231.toList != ([] : List UInt8))) = true then (tamislaw19_TableShared.j1 k x0 x1 x2 true) else (if bt233.2 = true then (if bt233.1 = x0 then (tamislaw19_TableShared.j1 k x0 x1 x2 false) else (tamislaw19_TableShared.j1 k x0 x1 x2 true)) else (tamislaw19_TableShared.j1 k x0 x1 x2 (bt233.1 != 0)))))) else (tamislaw19_TableShared.j1 k x0 x1 x2 true))) else (tamislaw19_TableShared.j1 k x0 x1 x2 true))))))
def tamislaw19_TableShared.j1 : Nat → Int → Int → ByteArray → Bool → Option (Bool)
  | 0, _, _, _, _ => none
  | k + 1, x0, x1, x2, x76 => if x76 = true then (some false) else ((table_Find.f x0 x2).bind fun bt237 => ((table_Find.f x1 x2).bind fun bt239 => (if bt237.2 = true then (if bt239.2 = true then ((table_Print.f x0 bt237.1).bind fun t241 => (if t241.toList = x2.toList then ((table_Print.f x1 bt239.1).bind fun t242 => (if t242.toList = x2.toList then ((table_Name.f x0 bt237.1).bind fun t243 => ((table_Name.f x1 bt239.1).bind fun t244 => (some (t243.toList == t244.toList)))) else (some false))) else (some false))) else (some true)) else (some true))))
end
def tamislaw19_TableShared.f (k : Nat) (a0 : Int) (a1 : Int) (a2 : ByteArray) : Option (Bool) := (awake19.f).bind fun t229 => (if t229 = true then (tamislaw19_TableShared.j0 k a0 a1 a2 (decide ((a2.size : Int) > 50))) else (tamislaw19_TableShared.j0 k a0 a1 a2 true))
theorem tamislaw19_TableShared.mono_l : ∀ k, (∀ y0 y1 y2 y3, LeO (tamislaw19_TableShared.j0 k y0 y1 y2 y3) (tamislaw19_TableShared.j0 (k + 1) y0 y1 y2 y3)) ∧ (∀ y0 y1 y2 y3, LeO (tamislaw19_TableShared.j1 k y0 y1 y2 y3) (tamislaw19_TableShared.j1 (k + 1) y0 y1 y2 y3))
  | 0 => ⟨fun _ _ _ _ r h => by simp [tamislaw19_TableShared.j0] at h, fun _ _ _ _ r h => by simp [tamislaw19_TableShared.j1] at h⟩
  | k + 1 => by
    obtain ⟨ih0, ih1⟩ := tamislaw19_TableShared.mono_l k
    refine ⟨?_, ?_⟩
    · intro y0 y1 y2 y3
      unfold tamislaw19_TableShared.j0
      repeat' first
      | (with_reducible exact ih0 _ _ _ _)
      | (with_reducible exact ih1 _ _ _ _)
      | (with_reducible exact table_Arch.mono _ _)
      | (with_reducible exact LeO.refl _)
      | (with_reducible exact LeO.none _)
      | (with_reducible refine LeO.ite ?_ ?_)
      | (with_reducible refine LeO.bind ?_ (fun _ => ?_))
      | exact ih0 _ _ _ _
      | exact ih1 _ _ _ _
      | exact table_Arch.mono _ _
      | exact LeO.none _
      | refine LeO.ite ?_ ?_
      | refine LeO.bind ?_ (fun _ => ?_)
    · intro y0 y1 y2 y3
      unfold tamislaw19_TableShared.j1
      repeat' first
      | (with_reducible exact ih0 _ _ _ _)
      | (with_reducible exact ih1 _ _ _ _)
      | (with_reducible exact table_Arch.mono _ _)
      | (with_reducible exact LeO.refl _)
      | (with_reducible exact LeO.none _)
      | (with_reducible refine LeO.ite ?_ ?_)
      | (with_reducible refine LeO.bind ?_ (fun _ => ?_))
      | exact ih0 _ _ _ _
      | exact ih1 _ _ _ _
      | exact table_Arch.mono _ _
      | exact LeO.none _
      | refine LeO.ite ?_ ?_
      | refine LeO.bind ?_ (fun _ => ?_)
theorem tamislaw19_TableShared.mono : ∀ a0 a1 a2 k, LeO (tamislaw19_TableShared.f k a0 a1 a2) (tamislaw19_TableShared.f (k + 1) a0 a1 a2) := by
  intro a0 a1 a2 k
  obtain ⟨ih0, ih1⟩ := tamislaw19_TableShared.mono_l k
  unfold tamislaw19_TableShared.f
  repeat' first
      | (with_reducible exact ih0 _ _ _ _)
      | (with_reducible exact ih1 _ _ _ _)
      | (with_reducible exact table_Arch.mono _ _)
      | (with_reducible exact LeO.refl _)
      | (with_reducible exact LeO.none _)
      | (with_reducible refine LeO.ite ?_ ?_)
      | (with_reducible refine LeO.bind ?_ (fun _ => ?_))
      | exact ih0 _ _ _ _
      | exact ih1 _ _ _ _
      | exact table_Arch.mono _ _
      | exact LeO.none _
      | refine LeO.ite ?_ ?_
      | refine LeO.bind ?_ (fun _ => ?_)
set_option maxHeartbeats 8000000 in
set_option maxRecDepth 100000 in
theorem tamislaw19_TableShared.calls (k : Nat) (a0 : Int) (a1 : Int) (a2 : ByteArray) (r : Bool) (w : World) (hT : r = true) (hG : GlobW w) (h : tamislaw19_TableShared.f k a0 a1 a2 = some r) :
    Calls Tryd.prog 7 #[.int .u32 a0, .int .u32 a1, .string a2] w fun e w' => e = .returned (.bool r) ∧ Below w.heap.size w w' := by
  have HT := Aside0.mk hT
  clear hT
  have HB := Aside0.mk (Below.refl w.heap.size w)
  have H : ((awake19.f).bind fun t229 => (if t229 = true then (tamislaw19_TableShared.j0 k a0 a1 a2 (decide ((a2.size : Int) > 50))) else (tamislaw19_TableShared.j0 k a0 a1 a2 true))) = some r := h
  clear h
  have HC4 := Aside0.mk H
  clear H
  go_enter Tryd.func7, Tryd.ntmps7
  go_upto_region 1 with (fail)
  go_cut [21] (fun v21 wc => ∃ (kq : Nat) (x21_3 : Bool), v21 = .bool x21_3 ∧ Aside0 (tamislaw19_TableShared.j0 kq a0 a1 a2 x21_3 = some r) ∧ Aside0 (kq ≤ k) ∧ Aside0 (Below w.heap.size w wc))
  case first =>
    have H := HC4.out
    clear HC4
    replace H := Option.bind_eq_some_iff.mp H
    obtain ⟨t229, A50, H⟩ := H
    replace H : (if t229 = true then (tamislaw19_TableShared.j0 k a0 a1 a2 (decide ((a2.size : Int) > 50))) else (tamislaw19_TableShared.j0 k a0 a1 a2 true)) = some r := H
    have A5 := Aside0.mk A50
    clear A50
    by_cases c6 : t229 = true
    · subst c6
      have H1 : (tamislaw19_TableShared.j0 k a0 a1 a2 (decide ((a2.size : Int) > 50))) = some r := by rw [if_pos rfl] at H; exact H
      clear H
      have H := H1
      clear H1
      have H' := Aside0.mk H
      clear H
      go_wp2_with (first | ((with_reducible refine gate_callee (f := 8) rfl ?_); refine goesL_ (some 15) rfl rfl Tryd.func8 (by kernel_rfl) rfl #[] rfl (by (try simp only [List.map_toArray, List.map_cons, List.map_nil]); first | done | rfl | (simp only [List.length_drop, List.length_take]; rfl)) ?_; (with_reducible refine (awake19.calls  true _ (hG.on (by repeat (first | (with_reducible first | exact HB.out | apply below_alloc | apply pw_below_drewN | apply below_drew1) | exact HB.out))) A5.out).mono ?_); rintro e w7 ⟨rfl, hb⟩; refine ⟨_, rfl, ?_⟩; have n0_ := Aside0.mk (below_step (by repeat (first | (with_reducible first | exact HB.out | apply below_alloc | apply pw_below_drewN | apply below_drew1) | exact HB.out)) hb); clear HB; have HB := n0_; clear n0_; (try clear hb); (try clear hb2); (try clear hk); (try clear hi)))
      go_meet
      case rel => exact ⟨_, (decide ((a2.size : Int) > 50)), (by first | rfl | (simp; done) | (simp [*]; done)), H', ⟨by first | omega | exact Nat.le_refl _⟩, ⟨by repeat (first | (with_reducible first | exact HB.out | apply below_alloc | apply pw_below_drewN | apply below_drew1) | exact HB.out)⟩⟩
    · replace c6 := Bool.eq_false_iff.mpr c6
      subst c6
      have H1 : (tamislaw19_TableShared.j0 k a0 a1 a2 true) = some r := by rw [if_neg (show ¬ (false = true) by decide)] at H; exact H
      clear H
      have H := H1
      clear H1
      have H' := Aside0.mk H
      clear H
      go_wp2_with (first | ((with_reducible refine gate_callee (f := 8) rfl ?_); refine goesL_ (some 15) rfl rfl Tryd.func8 (by kernel_rfl) rfl #[] rfl (by (try simp only [List.map_toArray, List.map_cons, List.map_nil]); first | done | rfl | (simp only [List.length_drop, List.length_take]; rfl)) ?_; (with_reducible refine (awake19.calls  false _ (hG.on (by repeat (first | (with_reducible first | exact HB.out | apply below_alloc | apply pw_below_drewN | apply below_drew1) | exact HB.out))) A5.out).mono ?_); rintro e w8 ⟨rfl, hb⟩; refine ⟨_, rfl, ?_⟩; have n0_ := Aside0.mk (below_step (by repeat (first | (with_reducible first | exact HB.out | apply below_alloc | apply pw_below_drewN | apply below_drew1) | exact HB.out)) hb); clear HB; have HB := n0_; clear n0_; (try clear hb); (try clear hb2); (try clear hk); (try clear hi)))
      go_meet
      case rel => exact ⟨_, (true), (by first | rfl | (simp; done) | (simp [*]; done)), H', ⟨by first | omega | exact Nat.le_refl _⟩, ⟨by repeat (first | (with_reducible first | exact HB.out | apply below_alloc | apply pw_below_drewN | apply below_drew1) | exact HB.out)⟩⟩
  case rest =>
    clear HC4
    try clear p2
    try clear c6
    try clear c7
    try clear c8
    obtain ⟨kq, x21_3, rfl, HA, HJ3, HB⟩ := hcut
    cases kq with
    | zero => exact absurd HA.out (by simp [tamislaw19_TableShared.j0])
    | succ kj3 =>
      have H := HA.out
      clear HA
      simp only [tamislaw19_TableShared.j0] at H
      by_cases c9 : x21_3 = true
      · subst c9
        have H1 : ((awake19.f).bind fun t230 => (some t230)) = some r := by rw [if_pos rfl] at H; exact H
        clear H
        have H := H1
        clear H1
        replace H := Option.bind_eq_some_iff.mp H
        obtain ⟨t230, A100, H⟩ := H
        replace H : (some t230) = some r := H
        have A10 := Aside0.mk A100
        clear A100
        obtain rfl := Option.some.inj H
        go_wp2_with (first | ((with_reducible refine gate_callee (f := 8) rfl ?_); refine goesL_ (some 22) rfl rfl Tryd.func8 (by kernel_rfl) rfl #[] rfl (by (try simp only [List.map_toArray, List.map_cons, List.map_nil]); first | done | rfl | (simp only [List.length_drop, List.length_take]; rfl)) ?_; (with_reducible refine (awake19.calls  t230 _ (hG.on (by repeat (first | (with_reducible first | exact HB.out | apply below_alloc | apply pw_below_drewN | apply below_drew1) | exact HB.out))) A10.out).mono ?_); rintro e w11 ⟨rfl, hb⟩; refine ⟨_, rfl, ?_⟩; have n0_ := Aside0.mk (below_step (by repeat (first | (with_reducible first | exact HB.out | apply below_alloc | apply pw_below_drewN | apply below_drew1) | exact HB.out)) hb); clear HB; have HB := n0_; clear n0_; (try clear hb); (try clear hb2); (try clear hk); (try clear hi)))
        go_ret
        exact ⟨by first | rfl | (simp [errW_none, errW_some] <;> rfl) | (simp [*, errW_none, errW_some] <;> rfl), by repeat (first | (with_reducible first | exact HB.out | apply below_alloc | apply pw_below_drewN | apply below_drew1) | exact HB.out)⟩
      · replace c9 := Bool.eq_false_iff.mpr c9
        subst c9
        have H1 : ((table_ArchName.f a0).bind fun t231 => ((table_ArchName.f a1).bind fun t232 => ((table_Arch.f kj3 t231).bind fun bt233 => ((tamisref19_ArchName.f a0).bind fun t235 => (if t231.toList = t235.toList then ((tamisref19_ArchName.f a1).bind fun t236 => (if t232.toList = t236.toList then (if t231.toList = ([] : List UInt8) then (if (bt233.2 != (t231.toList != ([] : List UInt8))) = true then (tamislaw19_TableShared.j1 kj3 a0 a1 a2 true) else (if bt233.2 = true then (if bt233.1 = a0 then (tamislaw19_TableShared.j1 kj3 a0 a1 a2 false) else (tamislaw19_TableShared.j1 kj3 a0 a1 a2 true)) else (tamislaw19_TableShared.j1 kj3 a0 a1 a2 (bt233.1 != 0)))) else (if ((t231.toList == t232.toList) != (a0 == a1)) = true then (tamislaw19_TableShared.j1 kj3 a0 a1 a2 true) else (if (bt233.2 != (t231.toList != ([] : List UInt8))) = true then (tamislaw19_TableShared.j1 kj3 a0 a1 a2 true) else (if bt233.2 = true then (if bt233.1 = a0 then (tamislaw19_TableShared.j1 kj3 a0 a1 a2 false) else (tamislaw19_TableShared.j1 kj3 a0 a1 a2 true)) else (tamislaw19_TableShared.j1 kj3 a0 a1 a2 (bt233.1 != 0)))))) else (tamislaw19_TableShared.j1 kj3 a0 a1 a2 true))) else (tamislaw19_TableShared.j1 kj3 a0 a1 a2 true)))))) = some r := by rw [if_neg (show ¬ (false = true) by decide)] at H; exact H
        clear H
        have H := H1
        clear H1
        replace H := Option.bind_eq_some_iff.mp H
        obtain ⟨t231, A120, H⟩ := H
        replace H : ((table_ArchName.f a1).bind fun t232 => ((table_Arch.f kj3 t231).bind fun bt233 => ((tamisref19_ArchName.f a0).bind fun t235 => (if t231.toList = t235.toList then ((tamisref19_ArchName.f a1).bind fun t236 => (if t232.toList = t236.toList then (if t231.toList = ([] : List UInt8) then (if (bt233.2 != (t231.toList != ([] : List UInt8))) = true then (tamislaw19_TableShared.j1 kj3 a0 a1 a2 true) else (if bt233.2 = true then (if bt233.1 = a0 then (tamislaw19_TableShared.j1 kj3 a0 a1 a2 false) else (tamislaw19_TableShared.j1 kj3 a0 a1 a2 true)) else (tamislaw19_TableShared.j1 kj3 a0 a1 a2 (bt233.1 != 0)))) else (if ((t231.toList == t232.toList) != (a0 == a1)) = true then (tamislaw19_TableShared.j1 kj3 a0 a1 a2 true) else (if (bt233.2 != (t231.toList != ([] : List UInt8))) = true then (tamislaw19_TableShared.j1 kj3 a0 a1 a2 true) else (if bt233.2 = true then (if bt233.1 = a0 then (tamislaw19_TableShared.j1 kj3 a0 a1 a2 false) else (tamislaw19_TableShared.j1 kj3 a0 a1 a2 true)) else (tamislaw19_TableShared.j1 kj3 a0 a1 a2 (bt233.1 != 0)))))) else (tamislaw19_TableShared.j1 kj3 a0 a1 a2 true))) else (tamislaw19_TableShared.j1 kj3 a0 a1 a2 true))))) = some r := H
        have A12 := Aside0.mk A120
        clear A120
        replace H := Option.bind_eq_some_iff.mp H
        obtain ⟨t232, A130, H⟩ := H
        replace H : ((table_Arch.f kj3 t231).bind fun bt233 => ((tamisref19_ArchName.f a0).bind fun t235 => (if t231.toList = t235.toList then ((tamisref19_ArchName.f a1).bind fun t236 => (if t232.toList = t236.toList then (if t231.toList = ([] : List UInt8) then (if (bt233.2 != (t231.toList != ([] : List UInt8))) = true then (tamislaw19_TableShared.j1 kj3 a0 a1 a2 true) else (if bt233.2 = true then (if bt233.1 = a0 then (tamislaw19_TableShared.j1 kj3 a0 a1 a2 false) else (tamislaw19_TableShared.j1 kj3 a0 a1 a2 true)) else (tamislaw19_TableShared.j1 kj3 a0 a1 a2 (bt233.1 != 0)))) else (if ((t231.toList == t232.toList) != (a0 == a1)) = true then (tamislaw19_TableShared.j1 kj3 a0 a1 a2 true) else (if (bt233.2 != (t231.toList != ([] : List UInt8))) = true then (tamislaw19_TableShared.j1 kj3 a0 a1 a2 true) else (if bt233.2 = true then (if bt233.1 = a0 then (tamislaw19_TableShared.j1 kj3 a0 a1 a2 false) else (tamislaw19_TableShared.j1 kj3 a0 a1 a2 true)) else (tamislaw19_TableShared.j1 kj3 a0 a1 a2 (bt233.1 != 0)))))) else (tamislaw19_TableShared.j1 kj3 a0 a1 a2 true))) else (tamislaw19_TableShared.j1 kj3 a0 a1 a2 true)))) = some r := H
        have A13 := Aside0.mk A130
        clear A130
        replace H := Option.bind_eq_some_iff.mp H
        obtain ⟨⟨t233, t234⟩, A140, H⟩ := H
        replace H : ((tamisref19_ArchName.f a0).bind fun t235 => (if t231.toList = t235.toList then ((tamisref19_ArchName.f a1).bind fun t236 => (if t232.toList = t236.toList then (if t231.toList = ([] : List UInt8) then (if (t234 != (t231.toList != ([] : List UInt8))) = true then (tamislaw19_TableShared.j1 kj3 a0 a1 a2 true) else (if t234 = true then (if t233 = a0 then (tamislaw19_TableShared.j1 kj3 a0 a1 a2 false) else (tamislaw19_TableShared.j1 kj3 a0 a1 a2 true)) else (tamislaw19_TableShared.j1 kj3 a0 a1 a2 (t233 != 0)))) else (if ((t231.toList == t232.toList) != (a0 == a1)) = true then (tamislaw19_TableShared.j1 kj3 a0 a1 a2 true) else (if (t234 != (t231.toList != ([] : List UInt8))) = true then (tamislaw19_TableShared.j1 kj3 a0 a1 a2 true) else (if t234 = true then (if t233 = a0 then (tamislaw19_TableShared.j1 kj3 a0 a1 a2 false) else (tamislaw19_TableShared.j1 kj3 a0 a1 a2 true)) else (tamislaw19_TableShared.j1 kj3 a0 a1 a2 (t233 != 0)))))) else (tamislaw19_TableShared.j1 kj3 a0 a1 a2 true))) else (tamislaw19_TableShared.j1 kj3 a0 a1 a2 true))) = some r := H
        have A14 := Aside0.mk A140
        clear A140
        have HC15 := Aside0.mk H
        clear H
        go_upto_region 5 with (first | ((with_reducible refine gate_callee (f := 15) rfl ?_); refine goesL_ (some 24) rfl rfl Tryd.func15 (by kernel_rfl) rfl #[.int .u32 a0] rfl (by (try simp only [List.map_toArray, List.map_cons, List.map_nil]); first | done | rfl | (simp only [List.length_drop, List.length_take]; rfl)) ?_; (with_reducible refine (table_ArchName.calls a0 t231 _ A12.out).mono ?_); rintro e w' ⟨rfl, ⟨nd, rfl⟩⟩; refine ⟨_, rfl, ?_⟩) | ((with_reducible refine gate_callee (f := 15) rfl ?_); refine goesL_ (some 26) rfl rfl Tryd.func15 (by kernel_rfl) rfl #[.int .u32 a1] rfl (by (try simp only [List.map_toArray, List.map_cons, List.map_nil]); first | done | rfl | (simp only [List.length_drop, List.length_take]; rfl)) ?_; (with_reducible refine (table_ArchName.calls a1 t232 _ A13.out).mono ?_); rintro e w' ⟨rfl, ⟨nd, rfl⟩⟩; refine ⟨_, rfl, ?_⟩) | ((with_reducible refine gate_callee (f := 21) rfl ?_); refine goesL_ (some 29) rfl rfl Tryd.func21 (by kernel_rfl) rfl #[.string t231] rfl (by (try simp only [List.map_toArray, List.map_cons, List.map_nil]); first | done | rfl | (simp only [List.length_drop, List.length_take]; rfl)) ?_; (with_reducible refine (table_Arch.calls kj3 t231 t233 t234 _ A14.out).mono ?_); rintro e w16 ⟨rfl, hb⟩; refine ⟨_, rfl, ?_⟩; have n0_ := Aside0.mk (below_step (by repeat (first | (with_reducible first | exact HB.out | apply below_alloc | apply pw_below_drewN | apply below_drew1) | exact HB.out)) hb); clear HB; have HB := n0_; clear n0_; (try clear hb); (try clear hb2); (try clear hk); (try clear hi)))
        (try simp only [Act.put, List.setIfInBounds_toArray, List.set_cons_zero, List.set_cons_succ])
        go_cut [76] (fun v76 wc => ∃ (kq : Nat) (x76_14 : Bool), v76 = .bool x76_14 ∧ Aside0 (tamislaw19_TableShared.j1 kq a0 a1 a2 x76_14 = some r) ∧ Aside0 (kq ≤ kj3) ∧ Aside0 (Below w.heap.size w wc))
        case first =>
          have H := HC15.out
          clear HC15
          replace H := Option.bind_eq_some_iff.mp H
          obtain ⟨t235, A170, H⟩ := H
          replace H : (if t231.toList = t235.toList then ((tamisref19_ArchName.f a1).bind fun t236 => (if t232.toList = t236.toList then (if t231.toList = ([] : List UInt8) then (if (t234 != (t231.toList != ([] : List UInt8))) = true then (tamislaw19_TableShared.j1 kj3 a0 a1 a2 true) else (if t234 = true then (if t233 = a0 then (tamislaw19_TableShared.j1 kj3 a0 a1 a2 false) else (tamislaw19_TableShared.j1 kj3 a0 a1 a2 true)) else (tamislaw19_TableShared.j1 kj3 a0 a1 a2 (t233 != 0)))) else (if ((t231.toList == t232.toList) != (a0 == a1)) = true then (tamislaw19_TableShared.j1 kj3 a0 a1 a2 true) else (if (t234 != (t231.toList != ([] : List UInt8))) = true then (tamislaw19_TableShared.j1 kj3 a0 a1 a2 true) else (if t234 = true then (if t233 = a0 then (tamislaw19_TableShared.j1 kj3 a0 a1 a2 false) else (tamislaw19_TableShared.j1 kj3 a0 a1 a2 true)) else (tamislaw19_TableShared.j1 kj3 a0 a1 a2 (t233 != 0)))))) else (tamislaw19_TableShared.j1 kj3 a0 a1 a2 true))) else (tamislaw19_TableShared.j1 kj3 a0 a1 a2 true)) = some r := H
          have A17 := Aside0.mk A170
          clear A170
          by_cases c18 : t231.toList = t235.toList
          · rw [if_pos c18] at H
            have c18b0 : (t231.toList == t235.toList) = true := beq_iff_eq.mpr c18
            have c18b1 : (t231.toList != t235.toList) = false := bne_eq_false_iff_eq.mpr c18
            clear c18
            (first | rw [c18b0] | (simp only [i64_w, i32_w]; rw [c18b0]) | skip)
            replace H := Option.bind_eq_some_iff.mp H
            obtain ⟨t236, A190, H⟩ := H
            replace H : (if t232.toList = t236.toList then (if t231.toList = ([] : List UInt8) then (if (t234 != (t231.toList != ([] : List UInt8))) = true then (tamislaw19_TableShared.j1 kj3 a0 a1 a2 true) else (if t234 = true then (if t233 = a0 then (tamislaw19_TableShared.j1 kj3 a0 a1 a2 false) else (tamislaw19_TableShared.j1 kj3 a0 a1 a2 true)) else (tamislaw19_TableShared.j1 kj3 a0 a1 a2 (t233 != 0)))) else (if ((t231.toList == t232.toList) != (a0 == a1)) = true then (tamislaw19_TableShared.j1 kj3 a0 a1 a2 true) else (if (t234 != (t231.toList != ([] : List UInt8))) = true then (tamislaw19_TableShared.j1 kj3 a0 a1 a2 true) else (if t234 = true then (if t233 = a0 then (tamislaw19_TableShared.j1 kj3 a0 a1 a2 false) else (tamislaw19_TableShared.j1 kj3 a0 a1 a2 true)) else (tamislaw19_TableShared.j1 kj3 a0 a1 a2 (t233 != 0)))))) else (tamislaw19_TableShared.j1 kj3 a0 a1 a2 true)) = some r := H
            have A19 := Aside0.mk A190
            clear A190
            by_cases c20 : t232.toList = t236.toList
            · rw [if_pos c20] at H
              have c20b0 : (t232.toList == t236.toList) = true := beq_iff_eq.mpr c20
              have c20b1 : (t232.toList != t236.toList) = false := bne_eq_false_iff_eq.mpr c20
              clear c20
              by_cases c21 : t231.toList = ([] : List UInt8)
              · rw [if_pos c21] at H
                have c21b0 : (t231.toList == ([] : List UInt8)) = true := beq_iff_eq.mpr c21
                have c21b1 : (t231.toList != ([] : List UInt8)) = false := bne_eq_false_iff_eq.mpr c21
                clear c21
                by_cases c22 : (t234 != (t231.toList != ([] : List UInt8))) = true
                · rw [if_pos c22] at H
                  have c22b0 : (t234 != (t231.toList != ([] : List UInt8))) = true := c22
                  (try (have c22b1 : decide (t234 = (t231.toList != ([] : List UInt8))) = false := by simpa using c22))
                  (try (have c22b2 : (t234 == (t231.toList != ([] : List UInt8))) = false := by simpa using c22))
                  (try (have c22b3 : ¬ (t234 = (t231.toList != ([] : List UInt8))) := by simpa using c22))
                  clear c22
                  obtain rfl : t234 = true := by have h := c22b0; rw [c21b1] at h; generalize t234 = tB_ at h ⊢; cases tB_ <;> first | rfl | (exact absurd h (by decide))
                  have H' := Aside0.mk H
                  clear H
                  go_wp2_with (first | ((with_reducible refine gate_callee (f := 22) rfl ?_); refine goesL_ (some 34) rfl rfl Tryd.func22 (by kernel_rfl) rfl #[.int .u32 a0] rfl (by (try simp only [List.map_toArray, List.map_cons, List.map_nil]); first | done | rfl | (simp only [List.length_drop, List.length_take]; rfl)) ?_; (with_reducible refine (tamisref19_ArchName.calls a0 t235 _ A17.out).mono ?_); rintro e w' ⟨rfl, ⟨nd, rfl⟩⟩; refine ⟨_, rfl, ?_⟩) | (go_at_call 22; (with_reducible refine (tamisref19_ArchName.calls a1 t236 _ A19.out).mono ?_); rintro e w' ⟨rfl, ⟨nd, rfl⟩⟩))
                  go_meet
                  case rel => exact ⟨_, (true), (by first | rfl | (simp; done) | (simp [*]; done)), H', ⟨by have := HJ3.out; first | omega | exact Nat.le_refl _⟩, ⟨by repeat (first | (with_reducible first | exact HB.out | apply below_alloc | apply pw_below_drewN | apply below_drew1) | exact HB.out)⟩⟩
                · rw [if_neg c22] at H
                  have c22b0 : (t234 != (t231.toList != ([] : List UInt8))) = false := by simpa using c22
                  (try (have c22b1 : decide (t234 = (t231.toList != ([] : List UInt8))) = true := by simpa using c22))
                  (try (have c22b2 : (t234 == (t231.toList != ([] : List UInt8))) = true := by simpa using c22))
                  clear c22
                  by_cases c23 : t234 = true
                  · exact absurd (show (t234 != (t231.toList != ([] : List UInt8))) = true by rw [c23, c21b1]; rfl) (by rw [c22b0]; decide)
                  · replace c23 := Bool.eq_false_iff.mpr c23
                    subst c23
                    have H1 : (tamislaw19_TableShared.j1 kj3 a0 a1 a2 (t233 != 0)) = some r := by rw [if_neg (show ¬ (false = true) by decide)] at H; exact H
                    clear H
                    have H := H1
                    clear H1
                    have H' := Aside0.mk H
                    clear H
                    go_wp2_with (first | ((with_reducible refine gate_callee (f := 22) rfl ?_); refine goesL_ (some 34) rfl rfl Tryd.func22 (by kernel_rfl) rfl #[.int .u32 a0] rfl (by (try simp only [List.map_toArray, List.map_cons, List.map_nil]); first | done | rfl | (simp only [List.length_drop, List.length_take]; rfl)) ?_; (with_reducible refine (tamisref19_ArchName.calls a0 t235 _ A17.out).mono ?_); rintro e w' ⟨rfl, ⟨nd, rfl⟩⟩; refine ⟨_, rfl, ?_⟩) | (go_at_call 22; (with_reducible refine (tamisref19_ArchName.calls a1 t236 _ A19.out).mono ?_); rintro e w' ⟨rfl, ⟨nd, rfl⟩⟩))
                    go_meet
                    case rel => exact ⟨_, ((t233 != 0)), (by first | rfl | (simp; done) | (simp [*]; done)), H', ⟨by have := HJ3.out; first | omega | exact Nat.le_refl _⟩, ⟨by repeat (first | (with_reducible first | exact HB.out | apply below_alloc | apply pw_below_drewN | apply below_drew1) | exact HB.out)⟩⟩
              · rw [if_neg c21] at H
                have c21b0 : (t231.toList == ([] : List UInt8)) = false := beq_eq_false_iff_ne.mpr c21
                have c21b1 : (t231.toList != ([] : List UInt8)) = true := bne_iff_ne.mpr c21
                by_cases c25 : ((t231.toList == t232.toList) != (a0 == a1)) = true
                · rw [if_pos c25] at H
                  have c25b0 : ((t231.toList == t232.toList) != (a0 == a1)) = true := c25
                  (try (have c25b1 : decide ((t231.toList == t232.toList) = (a0 == a1)) = false := by simpa using c25))
                  (try (have c25b2 : ((t231.toList == t232.toList) == (a0 == a1)) = false := by simpa using c25))
                  (try (have c25b3 : ¬ ((t231.toList == t232.toList) = (a0 == a1)) := by simpa using c25))
                  clear c25
                  have H' := Aside0.mk H
                  clear H
                  go_wp2_with (first | ((with_reducible refine gate_callee (f := 22) rfl ?_); refine goesL_ (some 34) rfl rfl Tryd.func22 (by kernel_rfl) rfl #[.int .u32 a0] rfl (by (try simp only [List.map_toArray, List.map_cons, List.map_nil]); first | done | rfl | (simp only [List.length_drop, List.length_take]; rfl)) ?_; (with_reducible refine (tamisref19_ArchName.calls a0 t235 _ A17.out).mono ?_); rintro e w' ⟨rfl, ⟨nd, rfl⟩⟩; refine ⟨_, rfl, ?_⟩) | (go_at_call 22; (with_reducible refine (tamisref19_ArchName.calls a1 t236 _ A19.out).mono ?_); rintro e w' ⟨rfl, ⟨nd, rfl⟩⟩))
                  go_meet
                  case rel => exact ⟨_, (true), (by first | rfl | (simp; done) | (simp [*]; done)), H', ⟨by have := HJ3.out; first | omega | exact Nat.le_refl _⟩, ⟨by repeat (first | (with_reducible first | exact HB.out | apply below_alloc | apply pw_below_drewN | apply below_drew1) | exact HB.out)⟩⟩
                · rw [if_neg c25] at H
                  have c25b0 : ((t231.toList == t232.toList) != (a0 == a1)) = false := by simpa using c25
                  (try (have c25b1 : decide ((t231.toList == t232.toList) = (a0 == a1)) = true := by simpa using c25))
                  (try (have c25b2 : ((t231.toList == t232.toList) == (a0 == a1)) = true := by simpa using c25))
                  clear c25
                  by_cases c26 : (t234 != (t231.toList != ([] : List UInt8))) = true
                  · rw [if_pos c26] at H
                    have c26b0 : (t234 != (t231.toList != ([] : List UInt8))) = true := c26
                    (try (have c26b1 : decide (t234 = (t231.toList != ([] : List UInt8))) = false := by simpa using c26))
                    (try (have c26b2 : (t234 == (t231.toList != ([] : List UInt8))) = false := by simpa using c26))
                    (try (have c26b3 : ¬ (t234 = (t231.toList != ([] : List UInt8))) := by simpa using c26))
                    clear c26
                    obtain rfl : t234 = false := by have h := c26b0; rw [c21b1] at h; generalize t234 = tB_ at h ⊢; cases tB_ <;> first | rfl | (exact absurd h (by decide))
                    have H' := Aside0.mk H
                    clear H
                    go_wp2_with (first | ((with_reducible refine gate_callee (f := 22) rfl ?_); refine goesL_ (some 34) rfl rfl Tryd.func22 (by kernel_rfl) rfl #[.int .u32 a0] rfl (by (try simp only [List.map_toArray, List.map_cons, List.map_nil]); first | done | rfl | (simp only [List.length_drop, List.length_take]; rfl)) ?_; (with_reducible refine (tamisref19_ArchName.calls a0 t235 _ A17.out).mono ?_); rintro e w' ⟨rfl, ⟨nd, rfl⟩⟩; refine ⟨_, rfl, ?_⟩) | (go_at_call 22; (with_reducible refine (tamisref19_ArchName.calls a1 t236 _ A19.out).mono ?_); rintro e w' ⟨rfl, ⟨nd, rfl⟩⟩))
                    go_meet
                    case rel => exact ⟨_, (true), (by first | rfl | (simp; done) | (simp [*]; done)), H', ⟨by have := HJ3.out; first | omega | exact Nat.le_refl _⟩, ⟨by repeat (first | (with_reducible first | exact HB.out | apply below_alloc | apply pw_below_drewN | apply below_drew1) | exact HB.out)⟩⟩
                  · rw [if_neg c26] at H
                    have c26b0 : (t234 != (t231.toList != ([] : List UInt8))) = false := by simpa using c26
                    (try (have c26b1 : decide (t234 = (t231.toList != ([] : List UInt8))) = true := by simpa using c26))
                    (try (have c26b2 : (t234 == (t231.toList != ([] : List UInt8))) = true := by simpa using c26))
                    clear c26
                    by_cases c27 : t234 = true
                    · subst c27
                      have H1 : (if t233 = a0 then (tamislaw19_TableShared.j1 kj3 a0 a1 a2 false) else (tamislaw19_TableShared.j1 kj3 a0 a1 a2 true)) = some r := by rw [if_pos rfl] at H; exact H
                      clear H
                      have H := H1
                      clear H1
                      by_cases c28 : t233 = a0
                      · rw [if_pos c28] at H
                        have c28b0 : (t233 == a0) = true := beq_iff_eq.mpr c28
                        have c28b1 : (t233 != a0) = false := bne_eq_false_iff_eq.mpr c28
                        clear c28
                        have H' := Aside0.mk H
                        clear H
                        go_wp2_with (first | ((with_reducible refine gate_callee (f := 22) rfl ?_); refine goesL_ (some 34) rfl rfl Tryd.func22 (by kernel_rfl) rfl #[.int .u32 a0] rfl (by (try simp only [List.map_toArray, List.map_cons, List.map_nil]); first | done | rfl | (simp only [List.length_drop, List.length_take]; rfl)) ?_; (with_reducible refine (tamisref19_ArchName.calls a0 t235 _ A17.out).mono ?_); rintro e w' ⟨rfl, ⟨nd, rfl⟩⟩; refine ⟨_, rfl, ?_⟩) | (go_at_call 22; (with_reducible refine (tamisref19_ArchName.calls a1 t236 _ A19.out).mono ?_); rintro e w' ⟨rfl, ⟨nd, rfl⟩⟩))
                        go_meet
                        case rel => exact ⟨_, (false), (by first | rfl | (simp; done) | (simp [*]; done)), H', ⟨by have := HJ3.out; first | omega | exact Nat.le_refl _⟩, ⟨by repeat (first | (with_reducible first | exact HB.out | apply below_alloc | apply pw_below_drewN | apply below_drew1) | exact HB.out)⟩⟩
                      · rw [if_neg c28] at H
                        have c28b0 : (t233 == a0) = false := beq_eq_false_iff_ne.mpr c28
                        have c28b1 : (t233 != a0) = true := bne_iff_ne.mpr c28
                        have H' := Aside0.mk H
                        clear H
                        go_wp2_with (first | ((with_reducible refine gate_callee (f := 22) rfl ?_); refine goesL_ (some 34) rfl rfl Tryd.func22 (by kernel_rfl) rfl #[.int .u32 a0] rfl (by (try simp only [List.map_toArray, List.map_cons, List.map_nil]); first | done | rfl | (simp only [List.length_drop, List.length_take]; rfl)) ?_; (with_reducible refine (tamisref19_ArchName.calls a0 t235 _ A17.out).mono ?_); rintro e w' ⟨rfl, ⟨nd, rfl⟩⟩; refine ⟨_, rfl, ?_⟩) | (go_at_call 22; (with_reducible refine (tamisref19_ArchName.calls a1 t236 _ A19.out).mono ?_); rintro e w' ⟨rfl, ⟨nd, rfl⟩⟩))
                        go_meet
                        case rel => exact ⟨_, (true), (by first | rfl | (simp; done) | (simp [*]; done)), H', ⟨by have := HJ3.out; first | omega | exact Nat.le_refl _⟩, ⟨by repeat (first | (with_reducible first | exact HB.out | apply below_alloc | apply pw_below_drewN | apply below_drew1) | exact HB.out)⟩⟩
                    · exact absurd (show (t234 != (t231.toList != ([] : List UInt8))) = true by rw [Bool.eq_false_iff.mpr c27, c21b1]; rfl) (by rw [c26b0]; decide)
            · rw [if_neg c20] at H
              have c20b0 : (t232.toList == t236.toList) = false := beq_eq_false_iff_ne.mpr c20
              have c20b1 : (t232.toList != t236.toList) = true := bne_iff_ne.mpr c20
              have H' := Aside0.mk H
              clear H
              go_wp2_with (first | ((with_reducible refine gate_callee (f := 22) rfl ?_); refine goesL_ (some 34) rfl rfl Tryd.func22 (by kernel_rfl) rfl #[.int .u32 a0] rfl (by (try simp only [List.map_toArray, List.map_cons, List.map_nil]); first | done | rfl | (simp only [List.length_drop, List.length_take]; rfl)) ?_; (with_reducible refine (tamisref19_ArchName.calls a0 t235 _ A17.out).mono ?_); rintro e w' ⟨rfl, ⟨nd, rfl⟩⟩; refine ⟨_, rfl, ?_⟩) | (go_at_call 22; (with_reducible refine (tamisref19_ArchName.calls a1 t236 _ A19.out).mono ?_); rintro e w' ⟨rfl, ⟨nd, rfl⟩⟩))
              go_meet
              case rel => exact ⟨_, (true), (by first | rfl | (simp; done) | (simp [*]; done)), H', ⟨by have := HJ3.out; first | omega | exact Nat.le_refl _⟩, ⟨by repeat (first | (with_reducible first | exact HB.out | apply below_alloc | apply pw_below_drewN | apply below_drew1) | exact HB.out)⟩⟩
          · rw [if_neg c18] at H
            have c18b0 : (t231.toList == t235.toList) = false := beq_eq_false_iff_ne.mpr c18
            have c18b1 : (t231.toList != t235.toList) = true := bne_iff_ne.mpr c18
            (first | rw [c18b0] | (simp only [i64_w, i32_w]; rw [c18b0]) | skip)
            have H' := Aside0.mk H
            clear H
            go_wp2_with (first | ((with_reducible refine gate_callee (f := 22) rfl ?_); refine goesL_ (some 34) rfl rfl Tryd.func22 (by kernel_rfl) rfl #[.int .u32 a0] rfl (by (try simp only [List.map_toArray, List.map_cons, List.map_nil]); first | done | rfl | (simp only [List.length_drop, List.length_take]; rfl)) ?_; (with_reducible refine (tamisref19_ArchName.calls a0 t235 _ A17.out).mono ?_); rintro e w' ⟨rfl, ⟨nd, rfl⟩⟩; refine ⟨_, rfl, ?_⟩))
            go_meet
            case rel => exact ⟨_, (true), (by first | rfl | (simp; done) | (simp [*]; done)), H', ⟨by have := HJ3.out; first | omega | exact Nat.le_refl _⟩, ⟨by repeat (first | (with_reducible first | exact HB.out | apply below_alloc | apply pw_below_drewN | apply below_drew1) | exact HB.out)⟩⟩
        case rest =>
          clear HC15
          try clear c1
          try clear c2
          try clear p2
          try clear c6
          try clear c7
          try clear c8
          try clear c9
          try clear c15
          try clear c18
          try clear c18b0
          try clear c18b1
          try clear c20
          try clear c20b0
          try clear c20b1
          try clear c21
          try clear c21b0
          try clear c21b1
          try clear c22
          try clear c22b0
          try clear c22b1
          try clear c22b2
          try clear c23
          try clear c24
          try clear c24b0
          try clear c24b1
          try clear c25
          try clear c25b0
          try clear c25b1
          try clear c25b2
          try clear c26
          try clear c26b0
          try clear c26b1
          try clear c26b2
          try clear c27
          try clear c28
          try clear c28b0
          try clear c28b1
          try clear p2
          obtain ⟨kq, x76_14, rfl, HA, HJ14, HB⟩ := hcut
          cases kq with
          | zero => exact absurd HA.out (by simp [tamislaw19_TableShared.j1])
          | succ kj14 =>
            have H := HA.out
            clear HA
            simp only [tamislaw19_TableShared.j1] at H
            by_cases c29 : x76_14 = true
            · subst c29
              have H1 : (some false) = some r := by rw [if_pos rfl] at H; exact H
              clear H
              have H := H1
              clear H1
              exact absurd ((Option.some.inj H).trans HT.out) (by simp)
            · replace c29 := Bool.eq_false_iff.mpr c29
              subst c29
              have H1 : ((table_Find.f a0 a2).bind fun bt237 => ((table_Find.f a1 a2).bind fun bt239 => (if bt237.2 = true then (if bt239.2 = true then ((table_Print.f a0 bt237.1).bind fun t241 => (if t241.toList = a2.toList then ((table_Print.f a1 bt239.1).bind fun t242 => (if t242.toList = a2.toList then ((table_Name.f a0 bt237.1).bind fun t243 => ((table_Name.f a1 bt239.1).bind fun t244 => (some (t243.toList == t244.toList)))) else (some false))) else (some false))) else (some true)) else (some true)))) = some r := by rw [if_neg (show ¬ (false = true) by decide)] at H; exact H
              clear H
              have H := H1
              clear H1
              replace H := Option.bind_eq_some_iff.mp H
              obtain ⟨⟨t237, t238⟩, A300, H⟩ := H
              replace H : ((table_Find.f a1 a2).bind fun bt239 => (if t238 = true then (if bt239.2 = true then ((table_Print.f a0 t237).bind fun t241 => (if t241.toList = a2.toList then ((table_Print.f a1 bt239.1).bind fun t242 => (if t242.toList = a2.toList then ((table_Name.f a0 t237).bind fun t243 => ((table_Name.f a1 bt239.1).bind fun t244 => (some (t243.toList == t244.toList)))) else (some false))) else (some false))) else (some true)) else (some true))) = some r := H
              have A30 := Aside0.mk A300
              clear A300
              replace H := Option.bind_eq_some_iff.mp H
              obtain ⟨⟨t239, t240⟩, A310, H⟩ := H
              replace H : (if t238 = true then (if t240 = true then ((table_Print.f a0 t237).bind fun t241 => (if t241.toList = a2.toList then ((table_Print.f a1 t239).bind fun t242 => (if t242.toList = a2.toList then ((table_Name.f a0 t237).bind fun t243 => ((table_Name.f a1 t239).bind fun t244 => (some (t243.toList == t244.toList)))) else (some false))) else (some false))) else (some true)) else (some true)) = some r := H
              have A31 := Aside0.mk A310
              clear A310
              by_cases c32 : t238 = true
              · subst c32
                have H1 : (if t240 = true then ((table_Print.f a0 t237).bind fun t241 => (if t241.toList = a2.toList then ((table_Print.f a1 t239).bind fun t242 => (if t242.toList = a2.toList then ((table_Name.f a0 t237).bind fun t243 => ((table_Name.f a1 t239).bind fun t244 => (some (t243.toList == t244.toList)))) else (some false))) else (some false))) else (some true)) = some r := by rw [if_pos rfl] at H; exact H
                clear H
                have H := H1
                clear H1
                by_cases c33 : t240 = true
                · subst c33
                  have H1 : ((table_Print.f a0 t237).bind fun t241 => (if t241.toList = a2.toList then ((table_Print.f a1 t239).bind fun t242 => (if t242.toList = a2.toList then ((table_Name.f a0 t237).bind fun t243 => ((table_Name.f a1 t239).bind fun t244 => (some (t243.toList == t244.toList)))) else (some false))) else (some false))) = some r := by rw [if_pos rfl] at H; exact H
                  clear H
                  have H := H1
                  clear H1
                  replace H := Option.bind_eq_some_iff.mp H
                  obtain ⟨t241, A340, H⟩ := H
                  replace H : (if t241.toList = a2.toList then ((table_Print.f a1 t239).bind fun t242 => (if t242.toList = a2.toList then ((table_Name.f a0 t237).bind fun t243 => ((table_Name.f a1 t239).bind fun t244 => (some (t243.toList == t244.toList)))) else (some false))) else (some false)) = some r := H
                  have A34 := Aside0.mk A340
                  clear A340
                  by_cases c35 : t241.toList = a2.toList
                  · rw [if_pos c35] at H
                    have c35b0 : (t241.toList == a2.toList) = true := beq_iff_eq.mpr c35
                    have c35b1 : (t241.toList != a2.toList) = false := bne_eq_false_iff_eq.mpr c35
                    clear c35
                    replace H := Option.bind_eq_some_iff.mp H
                    obtain ⟨t242, A360, H⟩ := H
                    replace H : (if t242.toList = a2.toList then ((table_Name.f a0 t237).bind fun t243 => ((table_Name.f a1 t239).bind fun t244 => (some (t243.toList == t244.toList)))) else (some false)) = some r := H
                    have A36 := Aside0.mk A360
                    clear A360
                    by_cases c37 : t242.toList = a2.toList
                    · rw [if_pos c37] at H
                      have c37b0 : (t242.toList == a2.toList) = true := beq_iff_eq.mpr c37
                      have c37b1 : (t242.toList != a2.toList) = false := bne_eq_false_iff_eq.mpr c37
                      clear c37
                      replace H := Option.bind_eq_some_iff.mp H
                      obtain ⟨t243, A380, H⟩ := H
                      replace H : ((table_Name.f a1 t239).bind fun t244 => (some (t243.toList == t244.toList))) = some r := H
                      have A38 := Aside0.mk A380
                      clear A380
                      replace H := Option.bind_eq_some_iff.mp H
                      obtain ⟨t244, A390, H⟩ := H
                      replace H : (some (t243.toList == t244.toList)) = some r := H
                      have A39 := Aside0.mk A390
                      clear A390
                      obtain rfl := Option.some.inj H
                      go_wp2_with (first | ((with_reducible refine gate_callee (f := 10) rfl ?_); refine goesL_ (some 80) rfl rfl Tryd.func10 (by kernel_rfl) rfl #[.int .u32 a0, .string a2] rfl (by (try simp only [List.map_toArray, List.map_cons, List.map_nil]); first | done | rfl | (simp only [List.length_drop, List.length_take]; rfl)) ?_; (with_reducible refine (table_Find.calls a0 a2 t237 true _ A30.out).mono ?_); rintro e w40 ⟨rfl, hb⟩; refine ⟨_, rfl, ?_⟩; have n0_ := Aside0.mk (below_step (by repeat (first | (with_reducible first | exact HB.out | apply below_alloc | apply pw_below_drewN | apply below_drew1) | exact HB.out)) hb); clear HB; have HB := n0_; clear n0_; (try clear hb); (try clear hb2); (try clear hk); (try clear hi)) | ((with_reducible refine gate_callee (f := 10) rfl ?_); refine goesL_ (some 86) rfl rfl Tryd.func10 (by kernel_rfl) rfl #[.int .u32 a1, .string a2] rfl (by (try simp only [List.map_toArray, List.map_cons, List.map_nil]); first | done | rfl | (simp only [List.length_drop, List.length_take]; rfl)) ?_; (with_reducible refine (table_Find.calls a1 a2 t239 true _ A31.out).mono ?_); rintro e w41 ⟨rfl, hb⟩; refine ⟨_, rfl, ?_⟩; have n0_ := Aside0.mk (below_step (by repeat (first | (with_reducible first | exact HB.out | apply below_alloc | apply pw_below_drewN | apply below_drew1) | exact HB.out)) hb); clear HB; have HB := n0_; clear n0_; (try clear hb); (try clear hb2); (try clear hk); (try clear hi)) | (go_at_call 16; (with_reducible refine (table_Print.calls a0 t237 t241 _ (hG.on (by repeat (first | (with_reducible first | exact HB.out | apply below_alloc | apply pw_below_drewN | apply below_drew1) | exact HB.out))) A34.out).mono ?_); rintro e w42 ⟨rfl, hb⟩; have n0_ := Aside0.mk (below_step (by repeat (first | (with_reducible first | exact HB.out | apply below_alloc | apply pw_below_drewN | apply below_drew1) | exact HB.out)) hb); clear HB; have HB := n0_; clear n0_; (try clear hb); (try clear hb2); (try clear hk); (try clear hi)) | (go_at_call 16; (with_reducible refine (table_Print.calls a1 t239 t242 _ (hG.on (by repeat (first | (with_reducible first | exact HB.out | apply below_alloc | apply pw_below_drewN | apply below_drew1) | exact HB.out))) A36.out).mono ?_); rintro e w43 ⟨rfl, hb⟩; have n0_ := Aside0.mk (below_step (by repeat (first | (with_reducible first | exact HB.out | apply below_alloc | apply pw_below_drewN | apply below_drew1) | exact HB.out)) hb); clear HB; have HB := n0_; clear n0_; (try clear hb); (try clear hb2); (try clear hk); (try clear hi)) | (go_at_call 9; (with_reducible refine (table_Name.calls a0 t237 t243 _ A38.out).mono ?_); rintro e w44 ⟨rfl, hb⟩; have n0_ := Aside0.mk (below_step (by repeat (first | (with_reducible first | exact HB.out | apply below_alloc | apply pw_below_drewN | apply below_drew1) | exact HB.out)) hb); clear HB; have HB := n0_; clear n0_; (try clear hb); (try clear hb2); (try clear hk); (try clear hi)) | (go_at_call 9; (with_reducible refine (table_Name.calls a1 t239 t244 _ A39.out).mono ?_); rintro e w45 ⟨rfl, hb⟩; have n0_ := Aside0.mk (below_step (by repeat (first | (with_reducible first | exact HB.out | apply below_alloc | apply pw_below_drewN | apply below_drew1) | exact HB.out)) hb); clear HB; have HB := n0_; clear n0_; (try clear hb); (try clear hb2); (try clear hk); (try clear hi)))
                      go_ret
                      exact ⟨by first | rfl | (simp [errW_none, errW_some] <;> rfl) | (simp [*, errW_none, errW_some] <;> rfl), by repeat (first | (with_reducible first | exact HB.out | apply below_alloc | apply pw_below_drewN | apply below_drew1) | exact HB.out)⟩
                    · rw [if_neg c37] at H
                      have c37b0 : (t242.toList == a2.toList) = false := beq_eq_false_iff_ne.mpr c37
                      have c37b1 : (t242.toList != a2.toList) = true := bne_iff_ne.mpr c37
                      exact absurd ((Option.some.inj H).trans HT.out) (by simp)
                  · rw [if_neg c35] at H
                    have c35b0 : (t241.toList == a2.toList) = false := beq_eq_false_iff_ne.mpr c35
                    have c35b1 : (t241.toList != a2.toList) = true := bne_iff_ne.mpr c35
                    exact absurd ((Option.some.inj H).trans HT.out) (by simp)
                · replace c33 := Bool.eq_false_iff.mpr c33
                  subst c33
                  have H1 : (some true) = some r := by rw [if_neg (show ¬ (false = true) by decide)] at H; exact H
                  clear H
                  have H := H1
                  clear H1
                  obtain rfl := Option.some.inj H
                  go_wp2_with (first | ((with_reducible refine gate_callee (f := 10) rfl ?_); refine goesL_ (some 80) rfl rfl Tryd.func10 (by kernel_rfl) rfl #[.int .u32 a0, .string a2] rfl (by (try simp only [List.map_toArray, List.map_cons, List.map_nil]); first | done | rfl | (simp only [List.length_drop, List.length_take]; rfl)) ?_; (with_reducible refine (table_Find.calls a0 a2 t237 true _ A30.out).mono ?_); rintro e w46 ⟨rfl, hb⟩; refine ⟨_, rfl, ?_⟩; have n0_ := Aside0.mk (below_step (by repeat (first | (with_reducible first | exact HB.out | apply below_alloc | apply pw_below_drewN | apply below_drew1) | exact HB.out)) hb); clear HB; have HB := n0_; clear n0_; (try clear hb); (try clear hb2); (try clear hk); (try clear hi)) | ((with_reducible refine gate_callee (f := 10) rfl ?_); refine goesL_ (some 86) rfl rfl Tryd.func10 (by kernel_rfl) rfl #[.int .u32 a1, .string a2] rfl (by (try simp only [List.map_toArray, List.map_cons, List.map_nil]); first | done | rfl | (simp only [List.length_drop, List.length_take]; rfl)) ?_; (with_reducible refine (table_Find.calls a1 a2 t239 false _ A31.out).mono ?_); rintro e w47 ⟨rfl, hb⟩; refine ⟨_, rfl, ?_⟩; have n0_ := Aside0.mk (below_step (by repeat (first | (with_reducible first | exact HB.out | apply below_alloc | apply pw_below_drewN | apply below_drew1) | exact HB.out)) hb); clear HB; have HB := n0_; clear n0_; (try clear hb); (try clear hb2); (try clear hk); (try clear hi)))
                  go_ret
                  exact ⟨by first | rfl | (simp [errW_none, errW_some] <;> rfl) | (simp [*, errW_none, errW_some] <;> rfl), by repeat (first | (with_reducible first | exact HB.out | apply below_alloc | apply pw_below_drewN | apply below_drew1) | exact HB.out)⟩
              · replace c32 := Bool.eq_false_iff.mpr c32
                subst c32
                have H1 : (some true) = some r := by rw [if_neg (show ¬ (false = true) by decide)] at H; exact H
                clear H
                have H := H1
                clear H1
                obtain rfl := Option.some.inj H
                go_wp2_with (first | ((with_reducible refine gate_callee (f := 10) rfl ?_); refine goesL_ (some 80) rfl rfl Tryd.func10 (by kernel_rfl) rfl #[.int .u32 a0, .string a2] rfl (by (try simp only [List.map_toArray, List.map_cons, List.map_nil]); first | done | rfl | (simp only [List.length_drop, List.length_take]; rfl)) ?_; (with_reducible refine (table_Find.calls a0 a2 t237 false _ A30.out).mono ?_); rintro e w48 ⟨rfl, hb⟩; refine ⟨_, rfl, ?_⟩; have n0_ := Aside0.mk (below_step (by repeat (first | (with_reducible first | exact HB.out | apply below_alloc | apply pw_below_drewN | apply below_drew1) | exact HB.out)) hb); clear HB; have HB := n0_; clear n0_; (try clear hb); (try clear hb2); (try clear hk); (try clear hi)) | ((with_reducible refine gate_callee (f := 10) rfl ?_); refine goesL_ (some 86) rfl rfl Tryd.func10 (by kernel_rfl) rfl #[.int .u32 a1, .string a2] rfl (by (try simp only [List.map_toArray, List.map_cons, List.map_nil]); first | done | rfl | (simp only [List.length_drop, List.length_take]; rfl)) ?_; (with_reducible refine (table_Find.calls a1 a2 t239 t240 _ A31.out).mono ?_); rintro e w49 ⟨rfl, hb⟩; refine ⟨_, rfl, ?_⟩; have n0_ := Aside0.mk (below_step (by repeat (first | (with_reducible first | exact HB.out | apply below_alloc | apply pw_below_drewN | apply below_drew1) | exact HB.out)) hb); clear HB; have HB := n0_; clear n0_; (try clear hb); (try clear hb2); (try clear hk); (try clear hi)))
                go_ret
                exact ⟨by first | rfl | (simp [errW_none, errW_some] <;> rfl) | (simp [*, errW_none, errW_some] <;> rfl), by repeat (first | (with_reducible first | exact HB.out | apply below_alloc | apply pw_below_drewN | apply below_drew1) | exact HB.out)⟩

end Go.Proofs.YtpgjcjgmokfofaaDoor.Pr
