/- FTableArchName | FTableArchs | FTableArch -/
import Derived.Test.YtpgjcjgmokfofaaDoorPr0
namespace Go.Proofs.YtpgjcjgmokfofaaDoor.Pr
open Go.RowKit Go.Proofs.YtpgjcjgmokfofaaDoorW.PrintWords Go.Proofs.YtpgjcjgmokfofaaDoorW.PrintLast Go.Proofs.YtpgjcjgmokfofaaDoorW.PrintMore
attribute [local go_sem] max2_int min2_int max_two min_two max_three min_three max_four min_four   -- for this text's walks alone
set_option linter.unusedVariables false
set_option linter.unusedSimpArgs false

/-! ### table_ArchName: function 15 -/
def table_ArchName.f (a0 : Int) : Option (ByteArray) := if a0 = 3221225534 then (some (⟨#[120, 56, 54, 95, 54, 52]⟩ : ByteArray)) else (if a0 = 1073741827 then (some (⟨#[105, 51, 56, 54]⟩ : ByteArray)) else (if a0 = 3221225655 then (some (⟨#[97, 97, 114, 99, 104, 54, 52]⟩ : ByteArray)) else (some (⟨#[]⟩ : ByteArray))))
set_option maxHeartbeats 8000000 in
set_option maxRecDepth 100000 in
theorem table_ArchName.calls (a0 : Int) (r : ByteArray) (w : World) (h : table_ArchName.f a0 = some r) :
    Calls Tryd.prog 15 #[.int .u32 a0] w fun e w' => e = .returned (.string r) ∧ Drawn0 w w' := by
  have H : (if a0 = 3221225534 then (some (⟨#[120, 56, 54, 95, 54, 52]⟩ : ByteArray)) else (if a0 = 1073741827 then (some (⟨#[105, 51, 56, 54]⟩ : ByteArray)) else (if a0 = 3221225655 then (some (⟨#[97, 97, 114, 99, 104, 54, 52]⟩ : ByteArray)) else (some (⟨#[]⟩ : ByteArray))))) = some r := h
  clear h
  by_cases c2 : a0 = 3221225534
  · rw [if_pos c2] at H
    have c2b0 : (a0 == 3221225534) = true := beq_iff_eq.mpr c2
    have c2b1 : (a0 != 3221225534) = false := bne_eq_false_iff_eq.mpr c2
    clear c2
    obtain rfl := Option.some.inj H
    go_enter Tryd.func15, Tryd.ntmps15
    go_wp2
    go_ret
    exact ⟨by first | rfl | (simp; done) | (simp [*]; done), by repeat (first | exact Drawn0.refl _ | apply Drawn0.step)⟩
  · rw [if_neg c2] at H
    have c2b0 : (a0 == 3221225534) = false := beq_eq_false_iff_ne.mpr c2
    have c2b1 : (a0 != 3221225534) = true := bne_iff_ne.mpr c2
    by_cases c3 : a0 = 1073741827
    · rw [if_pos c3] at H
      have c3b0 : (a0 == 1073741827) = true := beq_iff_eq.mpr c3
      have c3b1 : (a0 != 1073741827) = false := bne_eq_false_iff_eq.mpr c3
      clear c3
      obtain rfl := Option.some.inj H
      go_enter Tryd.func15, Tryd.ntmps15
      go_wp2
      go_ret
      exact ⟨by first | rfl | (simp; done) | (simp [*]; done), by repeat (first | exact Drawn0.refl _ | apply Drawn0.step)⟩
    · rw [if_neg c3] at H
      have c3b0 : (a0 == 1073741827) = false := beq_eq_false_iff_ne.mpr c3
      have c3b1 : (a0 != 1073741827) = true := bne_iff_ne.mpr c3
      by_cases c4 : a0 = 3221225655
      · rw [if_pos c4] at H
        have c4b0 : (a0 == 3221225655) = true := beq_iff_eq.mpr c4
        have c4b1 : (a0 != 3221225655) = false := bne_eq_false_iff_eq.mpr c4
        clear c4
        obtain rfl := Option.some.inj H
        go_enter Tryd.func15, Tryd.ntmps15
        go_wp2
        go_ret
        exact ⟨by first | rfl | (simp; done) | (simp [*]; done), by repeat (first | exact Drawn0.refl _ | apply Drawn0.step)⟩
      · rw [if_neg c4] at H
        have c4b0 : (a0 == 3221225655) = false := beq_eq_false_iff_ne.mpr c4
        have c4b1 : (a0 != 3221225655) = true := bne_iff_ne.mpr c4
        obtain rfl := Option.some.inj H
        go_enter Tryd.func15, Tryd.ntmps15
        go_wp2
        go_ret
        exact ⟨by first | rfl | (simp; done) | (simp [*]; done), by repeat (first | exact Drawn0.refl _ | apply Drawn0.step)⟩

end Go.Proofs.YtpgjcjgmokfofaaDoor.Pr

namespace Go.Proofs.YtpgjcjgmokfofaaDoor.Pr
open Go.RowKit Go.Proofs.YtpgjcjgmokfofaaDoorW.PrintWords Go.Proofs.YtpgjcjgmokfofaaDoorW.PrintLast Go.Proofs.YtpgjcjgmokfofaaDoorW.PrintMore
attribute [local go_sem] max2_int min2_int max_two min_two max_three min_three max_four min_four   -- for this text's walks alone
set_option linter.unusedVariables false
set_option linter.unusedSimpArgs false

/-! ### table_Archs: function 14 -/
def table_Archs.f  : Option (List Int) := some (([1073741827, 3221225534, 3221225655] : List Int))
set_option maxHeartbeats 8000000 in
set_option maxRecDepth 100000 in
theorem table_Archs.calls  (r : List Int) (w : World) (h : table_Archs.f  = some r) :
    Calls Tryd.prog 14 #[] w fun e w' => ∃ v0_ : Value, e = .returned (v0_) ∧ Kd.R (Kd.int .u32) 22 w' w.heap.size (fun _ => True) v0_ r ∧ Below w.heap.size w w' := by
  have HB := Aside0.mk (Below.refl w.heap.size w)
  have H : (some (([1073741827, 3221225534, 3221225655] : List Int))) = some r := h
  clear h
  obtain ⟨y161, hy161⟩ : ∃ y_ : List Int, y_ = (([1073741827, 3221225534, 3221225655] : List Int)) := ⟨_, rfl⟩
  replace H : (some y161) = some r := by first | (rw [hy161]; with_reducible exact H) | (have H2_ := (Option.bind_some _ _).symm.trans H; rw [hy161]; with_reducible exact H2_) | (have H2_ := (Option.bind_some _ _).symm.trans H; with_reducible exact H2_) | with_reducible exact H | (rw [hy161]; exact H) | exact H
  have Ny161 := Aside0.mk hy161
  clear hy161
  obtain rfl := Option.some.inj H
  go_enter Tryd.func14, Tryd.ntmps14
  go_wp2_with (first | ((with_reducible refine gate_dst (N := 1) rfl ?_); refine Kd.R_lit (Kd.int .u32) _ 22 ?hg (N := 1) ?hd (xs := ([1073741827, 3221225534, 3221225655] : List Int)) (inner := [.int .u32 1073741827, .int .u32 3221225534, .int .u32 3221225655]) (ok := fun _ => True) (okp := fun _ => True) ?hr ?hp (fun _ hk => hk) trivial (Below.refl _ _) (Nat.le_refl _) (by simp) ?_; (case hd => rfl); (case hg => rfl); (case hr => first | (go_simp; done) | (go_simp; rfl)); (case hp => exact (Reps.one (show Kd.M (Kd.int .u32) _ _ _ 1073741827 [.int .u32 1073741827] from rfl) (Reps.one (show Kd.M (Kd.int .u32) _ _ _ 3221225534 [.int .u32 3221225534] from rfl) (Reps.one (show Kd.M (Kd.int .u32) _ _ _ 3221225655 [.int .u32 3221225655] from rfl) (Reps.none _ _))))); intro v162 w1 ho2 hb hg_ hnew_; clear hg_ hnew_; (first | rw [← Ny161.out] at ho2 | (simp only [Int.reduceToNat] at ho2; rw [← Ny161.out] at ho2)); have n0_ := Aside0.mk (Kd.R_lower ho2 (below_size (by repeat (first | (with_reducible first | exact HB.out | apply below_alloc | apply pw_below_drewN | apply below_drew1) | exact HB.out)))); have n1_ := Aside0.mk (below_step (by repeat (first | (with_reducible first | exact HB.out | apply below_alloc | apply pw_below_drewN | apply below_drew1) | exact HB.out)) hb); clear HB; have HO163 := n0_; have HB := n1_; clear n0_ n1_; clear hb ho2))
  go_ret
  exact ⟨_, by first | rfl | (simp [errW_none, errW_some] <;> rfl) | (simp [*, errW_none, errW_some] <;> rfl), by (with_reducible repeat (first | apply Kd.R_alloc | apply Kd.R_drewN | apply Kd.R_drew)); exact HO163.out, by repeat (first | (with_reducible first | exact HB.out | apply below_alloc | apply pw_below_drewN | apply below_drew1) | exact HB.out)⟩

end Go.Proofs.YtpgjcjgmokfofaaDoor.Pr

namespace Go.Proofs.YtpgjcjgmokfofaaDoor.Pr
open Go.RowKit Go.Proofs.YtpgjcjgmokfofaaDoorW.PrintWords Go.Proofs.YtpgjcjgmokfofaaDoorW.PrintLast Go.Proofs.YtpgjcjgmokfofaaDoorW.PrintMore
attribute [local go_sem] max2_int min2_int max_two min_two max_three min_three max_four min_four   -- for this text's walks alone
set_option linter.unusedVariables false
set_option linter.unusedSimpArgs false

/-! ### table_Arch: function 21 -/
def table_Arch.l0 : Nat → ByteArray → List Int → Int → Int → Option (Int × Bool)
  | 0, _, _, _, _ => none
  | k + 1, x0, x6, x7, x8 => if x8 < x7 then (if 0 ≤ x8 then (if x8 < (x6.length : Int) then ((table_ArchName.f (rd x6 x8)).bind fun t228 => (if t228.toList = x0.toList then (some (rd x6 x8, true)) else (table_Arch.l0 k x0 x6 x7 (wrap64 (x8 + 1))))) else (none)) else (none)) else (some (0, false))
def table_Arch.f (k : Nat) (a0 : ByteArray) : Option (Int × Bool) := (table_Archs.f).bind fun t224 => (table_Arch.l0 k a0 t224 (t224.length : Int) 0)
theorem table_Arch.mono_l : ∀ k, (∀ y0 y1 y2 y3, LeO (table_Arch.l0 k y0 y1 y2 y3) (table_Arch.l0 (k + 1) y0 y1 y2 y3))
  | 0 => fun _ _ _ _ r h => by simp [table_Arch.l0] at h
  | k + 1 => by
    have ih0 := table_Arch.mono_l k
    · intro y0 y1 y2 y3
      unfold table_Arch.l0
      repeat' first
      | (with_reducible exact ih0 _ _ _ _)
      | (with_reducible exact LeO.refl _)
      | (with_reducible exact LeO.none _)
      | (with_reducible refine LeO.ite ?_ ?_)
      | (with_reducible refine LeO.bind ?_ (fun _ => ?_))
      | exact ih0 _ _ _ _
      | exact LeO.none _
      | refine LeO.ite ?_ ?_
      | refine LeO.bind ?_ (fun _ => ?_)
theorem table_Arch.mono : ∀ a0 k, LeO (table_Arch.f k a0) (table_Arch.f (k + 1) a0) := by
  intro a0 k
  have ih0 := table_Arch.mono_l k
  unfold table_Arch.f
  repeat' first
      | (with_reducible exact ih0 _ _ _ _)
      | (with_reducible exact LeO.refl _)
      | (with_reducible exact LeO.none _)
      | (with_reducible refine LeO.ite ?_ ?_)
      | (with_reducible refine LeO.bind ?_ (fun _ => ?_))
      | exact ih0 _ _ _ _
      | exact LeO.none _
      | refine LeO.ite ?_ ?_
      | refine LeO.bind ?_ (fun _ => ?_)
set_option maxHeartbeats 8000000 in
set_option maxRecDepth 100000 in
theorem table_Arch.calls (k : Nat) (a0 : ByteArray) (r1 : Int) (r2 : Bool) (w : World) (h : table_Arch.f k a0 = some (r1, r2)) :
    Calls Tryd.prog 21 #[.string a0] w fun e w' => e = .returned (.tuple #[.int .u32 r1, .bool r2]) ∧ Below w.heap.size w w' := by
  have HB := Aside0.mk (Below.refl w.heap.size w)
  have H : ((table_Archs.f).bind fun t224 => (table_Arch.l0 k a0 t224 (t224.length : Int) 0)) = some (r1, r2) := h
  clear h
  replace H := Option.bind_eq_some_iff.mp H
  obtain ⟨t224, A20, H⟩ := H
  replace H : (table_Arch.l0 k a0 t224 (t224.length : Int) 0) = some (r1, r2) := H
  have A2 := Aside0.mk A20
  clear A20
  have H' := Aside0.mk H
  clear H
  go_enter Tryd.func21, Tryd.ntmps21
  go_wp2_with (first | ((with_reducible refine gate_callee (f := 14) rfl ?_); refine goesL_ (some 6) rfl rfl Tryd.func14 (by kernel_rfl) rfl #[] rfl (by (try simp only [List.map_toArray, List.map_cons, List.map_nil]); first | done | rfl | (simp only [List.length_drop, List.length_take]; rfl)) ?_; (with_reducible refine (table_Archs.calls  t224 _ A2.out).mono ?_); rintro e w3 ⟨v225, rfl, ho0, hb⟩; refine ⟨_, rfl, ?_⟩; have n0_ := Aside0.mk (Kd.R_lower ho0 (below_size (by repeat (first | (with_reducible first | exact HB.out | apply below_alloc | apply pw_below_drewN | apply below_drew1) | exact HB.out)))); have n1_ := Aside0.mk (below_step (by repeat (first | (with_reducible first | exact HB.out | apply below_alloc | apply pw_below_drewN | apply below_drew1) | exact HB.out)) hb); clear HB; have HO226 := n0_; have HB := n1_; clear n0_ n1_; (try clear hb); (try clear hb2); (try clear hk); (try clear hi); (try clear ho0); obtain ⟨Ao4, co4, eo4⟩ := Kd.R_slice HO226.out; subst eo4))
  go_loopg [8] k (fun kq v8 w' => ∃ (x8_1 : Int), v8 = .int .i64 x8_1 ∧ Aside0 (table_Arch.l0 kq a0 t224 (t224.length : Int) x8_1 = some (r1, r2)) ∧ Aside0 (kq ≤ k) ∧ Aside0 (Kd.R (Kd.int .u32) 22 w' w.heap.size (fun _ => True) (.slice Ao4 t224.length co4) t224) ∧ Aside0 (Below w.heap.size w w'))
  case atStart => exact ⟨(0), (by first | rfl | (simp; done) | (simp [*]; done)), H', ⟨Nat.le_refl _⟩, ⟨by (with_reducible repeat (first | apply Kd.R_alloc | apply Kd.R_drewN | apply Kd.R_drew)); exact HO226.out⟩, ⟨by repeat (first | (with_reducible first | exact HB.out | apply below_alloc | apply pw_below_drewN | apply below_drew1) | exact HB.out)⟩⟩
  case round =>
    clear H'
    try clear c1
    try clear c2
    try clear p2
    obtain ⟨x8_1, rfl, HA, HK1, HO_6, HB⟩ := hrel
    cases gk with
    | zero => exact absurd HA.out (by simp [table_Arch.l0])
    | succ k1 =>
      have H := HA.out
      clear HA
      simp only [table_Arch.l0] at H
      by_cases c5 : x8_1 < (t224.length : Int)
      · rw [if_pos c5] at H
        have c5b0 : decide (x8_1 < (t224.length : Int)) = true := decide_eq_true c5
        clear c5
        by_cases c6 : 0 ≤ x8_1
        · rw [if_pos c6] at H
          have c6b0 : decide (0 ≤ x8_1) = true := decide_eq_true c6
          clear c6
          by_cases c7 : x8_1 < (t224.length : Int)
          · rw [if_pos c7] at H
            have c7b0 : decide (x8_1 < (t224.length : Int)) = true := decide_eq_true c7
            clear c7
            replace H := Option.bind_eq_some_iff.mp H
            obtain ⟨t228, A80, H⟩ := H
            replace H : (if t228.toList = a0.toList then (some (rd t224 x8_1, true)) else (table_Arch.l0 k1 a0 t224 (t224.length : Int) (wrap64 (x8_1 + 1)))) = some (r1, r2) := H
            have A8 := Aside0.mk A80
            clear A80
            by_cases c9 : t228.toList = a0.toList
            · rw [if_pos c9] at H
              have c9b0 : (t228.toList == a0.toList) = true := beq_iff_eq.mpr c9
              have c9b1 : (t228.toList != a0.toList) = false := bne_eq_false_iff_eq.mpr c9
              clear c9
              simp only [Option.some.injEq, Prod.mk.injEq] at H
              obtain ⟨rfl, rfl⟩ := H
              have p227 : 0 ≤ (x8_1 : Int) := of_decide_eq_true (by first | (with_reducible assumption) | assumption)
              have q227 : x8_1 < (t224.length : Int) := of_decide_eq_true (by first | (with_reducible assumption) | assumption)
              obtain ⟨ad227, e227, hx227_0⟩ := Kd.at_int (Kd.R_reads' HO_6.out).2.2 x8_1 p227 q227
              cases e227
              replace p227 := eq_true p227
              replace q227 := eq_true q227
              go_wp2_with (first | ((with_reducible refine gate_callee (f := 15) rfl ?_); refine goesL_ (some 13) rfl rfl Tryd.func15 (by kernel_rfl) rfl #[.int .u32 (rd t224 x8_1)] rfl (by (try simp only [List.map_toArray, List.map_cons, List.map_nil]); first | done | rfl | (simp only [List.length_drop, List.length_take]; rfl)) ?_; (with_reducible refine (table_ArchName.calls (rd t224 x8_1) t228 _ A8.out).mono ?_); rintro e w' ⟨rfl, ⟨nd, rfl⟩⟩; refine ⟨_, rfl, ?_⟩))
              go_ret2
              exact ⟨by first | rfl | (simp [errW_none, errW_some] <;> rfl) | (simp [*, errW_none, errW_some] <;> rfl), by repeat (first | (with_reducible first | exact HB.out | apply below_alloc | apply pw_below_drewN | apply below_drew1) | exact HB.out)⟩
            · rw [if_neg c9] at H
              have c9b0 : (t228.toList == a0.toList) = false := beq_eq_false_iff_ne.mpr c9
              have c9b1 : (t228.toList != a0.toList) = true := bne_iff_ne.mpr c9
              have H' := Aside0.mk H
              clear H
              have p227 : 0 ≤ (x8_1 : Int) := of_decide_eq_true (by first | (with_reducible assumption) | assumption)
              have q227 : x8_1 < (t224.length : Int) := of_decide_eq_true (by first | (with_reducible assumption) | assumption)
              obtain ⟨ad227, e227, hx227_0⟩ := Kd.at_int (Kd.R_reads' HO_6.out).2.2 x8_1 p227 q227
              cases e227
              replace p227 := eq_true p227
              replace q227 := eq_true q227
              go_wp2_with (first | ((with_reducible refine gate_callee (f := 15) rfl ?_); refine goesL_ (some 13) rfl rfl Tryd.func15 (by kernel_rfl) rfl #[.int .u32 (rd t224 x8_1)] rfl (by (try simp only [List.map_toArray, List.map_cons, List.map_nil]); first | done | rfl | (simp only [List.length_drop, List.length_take]; rfl)) ?_; (with_reducible refine (table_ArchName.calls (rd t224 x8_1) t228 _ A8.out).mono ?_); rintro e w' ⟨rfl, ⟨nd, rfl⟩⟩; refine ⟨_, rfl, ?_⟩))
              go_roundg k1
              case measure => have := HK1.out; omega
              case rel => exact ⟨(wrap64 (x8_1 + 1)), (by first | rfl | (simp; done) | (simp [*]; done)), H', ⟨by have := HK1.out; omega⟩, ⟨by (with_reducible repeat (first | apply Kd.R_alloc | apply Kd.R_drewN | apply Kd.R_drew)); exact HO_6.out⟩, ⟨by repeat (first | (with_reducible first | exact HB.out | apply below_alloc | apply pw_below_drewN | apply below_drew1) | exact HB.out)⟩⟩
          · rw [if_neg c7] at H
            exact absurd H (by simp)
        · rw [if_neg c6] at H
          exact absurd H (by simp)
      · rw [if_neg c5] at H
        have c5b0 : decide (x8_1 < (t224.length : Int)) = false := decide_eq_false c5
        clear c5
        simp only [Option.some.injEq, Prod.mk.injEq] at H
        obtain ⟨rfl, rfl⟩ := H
        go_wp2
        go_ret2
        exact ⟨by first | rfl | (simp [errW_none, errW_some] <;> rfl) | (simp [*, errW_none, errW_some] <;> rfl), by repeat (first | (with_reducible first | exact HB.out | apply below_alloc | apply pw_below_drewN | apply below_drew1) | exact HB.out)⟩

end Go.Proofs.YtpgjcjgmokfofaaDoor.Pr
