-- Made by a program of this session (wip/tools/myprint.sh).
import Derived.Test.YtjgapcidhoecfaaPr0
import Derived.Test.YtjgapcidhoecfaaFInstrLength
import Derived.Test.YtjgapcidhoecfaaGInstrRead
namespace Go.Proofs.Ytjgapcidhoecfaa.Pr
open Go.RowKit Go.Proofs.YtjgapcidhoecfaaW.PrintWords Go.Proofs.YtjgapcidhoecfaaW.PrintLast Go.Proofs.YtjgapcidhoecfaaW.PrintMore
attribute [local go_sem] max2_int min2_int max_two min_two max_three min_three max_four min_four   -- for this text's walks alone
set_option linter.unusedVariables false
set_option linter.unusedSimpArgs false

/-! ### instr_Read: function 9 -/
def instr_Read.l0 : Nat → ByteArray → List (S39) → Option ((List (S39)) × Int)
  | 0, _, _ => none
  | k + 1, x0, x2 => if x0.toList = ([] : List UInt8) then (some (x2, 0)) else ((instr_read.f x0).bind fun bt102 => (if x2.length < 17592186044416 then (if 8 ≤ (x0.size : Int) then (instr_Read.l0 k (x0.extract 8 x0.size) (x2 ++ [(⟨bt102.1, bt102.2.1, bt102.2.2.1, bt102.2.2.2⟩ : S39)])) else (none)) else (none)))
def instr_Read.f (k : Nat) (a0 : ByteArray) : Option ((List (S39)) × Int) := if ((a0.size : Int) % 8) = 0 then ((instr_length.f (wrap64 ((a0.size : Int) / 8))).bind fun t101 => (if t101 = 0 then (instr_Read.l0 k a0 ([] : List (S39))) else (some (([] : List (S39)), t101)))) else (some (([] : List (S39)), 4))
theorem instr_Read.mono_l : ∀ k, (∀ y0 y1, LeO (instr_Read.l0 k y0 y1) (instr_Read.l0 (k + 1) y0 y1))
  | 0 => fun _ _ r h => by simp [instr_Read.l0] at h
  | k + 1 => by
    have ih0 := instr_Read.mono_l k
    · intro y0 y1
      unfold instr_Read.l0
      repeat' first
      | (with_reducible exact ih0 _ _)
      | (with_reducible exact LeO.refl _)
      | (with_reducible exact LeO.none _)
      | (with_reducible refine LeO.ite ?_ ?_)
      | (with_reducible refine LeO.bind ?_ (fun _ => ?_))
      | exact ih0 _ _
      | exact LeO.none _
      | refine LeO.ite ?_ ?_
      | refine LeO.bind ?_ (fun _ => ?_)
theorem instr_Read.mono : ∀ a0 k, LeO (instr_Read.f k a0) (instr_Read.f (k + 1) a0) := by
  intro a0 k
  have ih0 := instr_Read.mono_l k
  unfold instr_Read.f
  repeat' first
      | (with_reducible exact ih0 _ _)
      | (with_reducible exact LeO.refl _)
      | (with_reducible exact LeO.none _)
      | (with_reducible refine LeO.ite ?_ ?_)
      | (with_reducible refine LeO.bind ?_ (fun _ => ?_))
      | exact ih0 _ _
      | exact LeO.none _
      | refine LeO.ite ?_ ?_
      | refine LeO.bind ?_ (fun _ => ?_)
set_option maxHeartbeats 8000000 in
set_option maxRecDepth 100000 in
theorem instr_Read.calls (k : Nat) (a0 : ByteArray) (r1 : List (S39)) (r2 : Int) (w : World) (h : instr_Read.f k a0 = some (r1, r2)) :
    Calls Try.prog 9 #[.string a0] w fun e w' => ∃ v0_ : Value, e = .returned (.tuple #[v0_, .int .i64 r2]) ∧ Kd.R k39 39 w' w.heap.size (fun _ => True) v0_ r1 ∧ Below w.heap.size w w' := by
  have HB := Aside0.mk (Below.refl w.heap.size w)
  have H : (if ((a0.size : Int) % 8) = 0 then ((instr_length.f (wrap64 ((a0.size : Int) / 8))).bind fun t101 => (if t101 = 0 then (instr_Read.l0 k a0 ([] : List (S39))) else (some (([] : List (S39)), t101)))) else (some (([] : List (S39)), 4))) = some (r1, r2) := h
  clear h
  by_cases c2 : ((a0.size : Int) % 8) = 0
  · rw [if_pos c2] at H
    have c2b0 : (((a0.size : Int) % 8) == 0) = true := beq_iff_eq.mpr c2
    have c2b1 : (((a0.size : Int) % 8) != 0) = false := bne_eq_false_iff_eq.mpr c2
    clear c2
    replace H := Option.bind_eq_some_iff.mp H
    obtain ⟨t101, A30, H⟩ := H
    replace H : (if t101 = 0 then (instr_Read.l0 k a0 ([] : List (S39))) else (some (([] : List (S39)), t101))) = some (r1, r2) := H
    have A3 := Aside0.mk A30
    clear A30
    by_cases c4 : t101 = 0
    · rw [if_pos c4] at H
      have c4b0 : (t101 == 0) = true := beq_iff_eq.mpr c4
      have c4b1 : (t101 != 0) = false := bne_eq_false_iff_eq.mpr c4
      clear c4
      have H' := Aside0.mk H
      clear H
      go_enter Try.func9, Try.ntmps9
      go_wp2_with (first | ((with_reducible refine gate_callee (f := 20) rfl ?_); refine goesL_ (some 12) rfl rfl Try.func20 (by kernel_rfl) rfl #[.int .i64 (wrap64 ((a0.size : Int) / 8))] rfl (by (try simp only [List.map_toArray, List.map_cons, List.map_nil]); first | done | rfl | (simp only [List.length_drop, List.length_take]; rfl)) ?_; (with_reducible refine (instr_length.calls (wrap64 ((a0.size : Int) / 8)) t101 _ A3.out).mono ?_); rintro e w' ⟨rfl, ⟨nd, rfl⟩⟩; refine ⟨_, rfl, ?_⟩))
      go_loopg [0, 2] k (fun kq v0 v2 w' => ∃ (x0_1 : ByteArray) (x2_1 : List (S39)), v0 = .string x0_1 ∧ Aside0 (instr_Read.l0 kq x0_1 x2_1 = some (r1, r2)) ∧ Aside0 (kq ≤ k) ∧ Aside0 (Kd.R k39 39 w' w.heap.size (fun _ => True) v2 x2_1) ∧ Aside0 (Below w.heap.size w w'))
      case atStart => exact ⟨(a0), (([] : List (S39))), (by first | rfl | (simp; done) | (simp [*]; done)), H', ⟨Nat.le_refl _⟩, ⟨by first | exact Kd.R_nil _ _ _ _ _ | exact Kd.N_nil _ _ _ _ _ | exact Kd.V_nil _ _ _ _ _ | exact Kd.Q_nil _ _ _ _ _ | exact Kd.S_nil _ _ _ _ _⟩, ⟨by repeat (first | (with_reducible first | exact HB.out | apply below_alloc | apply pw_below_drewN | apply below_drew1) | exact HB.out)⟩⟩
      case round =>
        clear H'
        try clear c2
        try clear c2b0
        try clear c2b1
        try clear p2
        try clear c4
        try clear c4b0
        try clear c4b1
        obtain ⟨x0_1, x2_1, rfl, HA, HK1, HO_2, HB⟩ := hrel
        cases gk with
        | zero => exact absurd HA.out (by simp [instr_Read.l0])
        | succ k1 =>
          have H := HA.out
          clear HA
          simp only [instr_Read.l0] at H
          by_cases c5 : x0_1.toList = ([] : List UInt8)
          · rw [if_pos c5] at H
            have c5b0 : (x0_1.toList == ([] : List UInt8)) = true := beq_iff_eq.mpr c5
            have c5b1 : (x0_1.toList != ([] : List UInt8)) = false := bne_eq_false_iff_eq.mpr c5
            clear c5
            simp only [Option.some.injEq, Prod.mk.injEq] at H
            obtain ⟨rfl, rfl⟩ := H
            go_wp2
            go_ret2
            exact ⟨_, by first | rfl | (simp [errW_none, errW_some] <;> rfl) | (simp [*, errW_none, errW_some] <;> rfl), by (with_reducible repeat (first | apply Kd.R_alloc | apply Kd.R_drewN | apply Kd.R_drew)); exact HO_2.out, by repeat (first | (with_reducible first | exact HB.out | apply below_alloc | apply pw_below_drewN | apply below_drew1) | exact HB.out)⟩
          · rw [if_neg c5] at H
            have c5b0 : (x0_1.toList == ([] : List UInt8)) = false := beq_eq_false_iff_ne.mpr c5
            have c5b1 : (x0_1.toList != ([] : List UInt8)) = true := bne_iff_ne.mpr c5
            replace H := Option.bind_eq_some_iff.mp H
            obtain ⟨⟨t102, t103, t104, t105⟩, A60, H⟩ := H
            replace H : (if x2_1.length < 17592186044416 then (if 8 ≤ (x0_1.size : Int) then (instr_Read.l0 k1 (x0_1.extract 8 x0_1.size) (x2_1 ++ [(⟨t102, t103, t104, t105⟩ : S39)])) else (none)) else (none)) = some (r1, r2) := H
            have A6 := Aside0.mk A60
            clear A60
            by_cases c7 : x2_1.length < 17592186044416
            · rw [if_pos c7] at H
              have LMc7 := Aside0.mk c7
              clear c7
              obtain ⟨y106, hy106⟩ : ∃ y_ : List (S39), y_ = (x2_1 ++ [(⟨t102, t103, t104, t105⟩ : S39)]) := ⟨_, rfl⟩
              replace H : (if 8 ≤ (x0_1.size : Int) then (instr_Read.l0 k1 (x0_1.extract 8 x0_1.size) y106) else (none)) = some (r1, r2) := by first | (rw [hy106]; with_reducible exact H) | (have H2_ := (Option.bind_some _ _).symm.trans H; rw [hy106]; with_reducible exact H2_) | (have H2_ := (Option.bind_some _ _).symm.trans H; with_reducible exact H2_) | with_reducible exact H | (rw [hy106]; exact H) | exact H
              have Ny106 := Aside0.mk hy106
              clear hy106
              by_cases c8 : 8 ≤ (x0_1.size : Int)
              · rw [if_pos c8] at H
                have c8b0 := eq_true c8
                have c8b1 : decide (8 ≤ (x0_1.size : Int)) = true := decide_eq_true c8
                clear c8
                have H' := Aside0.mk H
                clear H
                go_wp2_with (first | ((with_reducible refine gate_callee (f := 21) rfl ?_); refine goesL_ (some 22) rfl rfl Try.func21 (by kernel_rfl) rfl #[.string x0_1] rfl (by (try simp only [List.map_toArray, List.map_cons, List.map_nil]); first | done | rfl | (simp only [List.length_drop, List.length_take]; rfl)) ?_; (with_reducible refine (instr_read.calls x0_1 t102 t103 t104 t105 _ A6.out).mono ?_); rintro e w9 ⟨rfl, hb⟩; refine ⟨_, rfl, ?_⟩; have n0_ := Aside0.mk (Kd.R_below (by (with_reducible repeat (first | apply Kd.R_alloc | apply Kd.R_drewN | apply Kd.R_drew)); exact HO_2.out) hb); have n1_ := Aside0.mk (below_step (by repeat (first | (with_reducible first | exact HB.out | apply below_alloc | apply pw_below_drewN | apply below_drew1) | exact HB.out)) hb); clear HO_2; clear HB; have HO_2 := n0_; have HB := n1_; clear n0_ n1_; (try clear hb); (try clear hb2); (try clear hk); (try clear hi)) | ((with_reducible refine gate_builtin (b := .append) (xs := #[.tmp 20, .tmp 23]) rfl ?_); at_builtin; refine Kd.R_append k39 (w0 := w) w.heap.size rfl (.tmp 20) (.tmp 23) 23 39 (.agg #[(.int .u16 0), (.int .u8 0), (.int .u8 0), (.int .u32 0)]) 8 rfl Try.underlying23 info39 rfl (by decide) (by omega) u2 x2_1 (⟨t102, t103, t104, t105⟩ : S39) [.int .u16 t102, .int .u8 t103, .int .u8 t104, .int .u32 t105] (fun _ => True) (fun _ => False) rfl rfl ?aP (fun _ hk => hk.elim) ?aF ?aO ?aB ?aS ?aL ?_; (case aP => exact k39_mkM _ _ _ (⟨t102, t103, t104, t105⟩ : S39)); (case aB => exact (by repeat (first | (with_reducible first | exact HB.out | apply below_alloc | apply pw_below_drewN | apply below_drew1) | exact HB.out))); (case aF => exact (fun _ _ => trivial)); (case aO => exact (by (with_reducible repeat (first | apply Kd.R_alloc | apply Kd.R_drewN | apply Kd.R_drew)); exact HO_2.out)); (case aS => exact (below_size (by repeat (first | (with_reducible first | exact HB.out | apply below_alloc | apply pw_below_drewN | apply below_drew1) | exact HB.out)))); (case aL => have := LMc7.out; omega); intro v107 w10 ho hb hg hat; rw [← Ny106.out] at ho; have n0_ := Aside0.mk (hb); have n1_ := Aside0.mk (ho); clear HB; clear HO_2; have HB := n0_; have HO108 := n1_; clear n0_ n1_; clear ho hb hg hat))
                go_roundg k1
                case measure => have := HK1.out; omega
                case rel => exact ⟨(x0_1.extract 8 x0_1.size), (y106), (by first | rfl | (simp; done) | (simp [*]; done)), H', ⟨by have := HK1.out; omega⟩, ⟨by (with_reducible repeat (first | apply Kd.R_alloc | apply Kd.R_drewN | apply Kd.R_drew)); exact HO108.out⟩, ⟨by repeat (first | (with_reducible first | exact HB.out | apply below_alloc | apply pw_below_drewN | apply below_drew1) | exact HB.out)⟩⟩
              · rw [if_neg c8] at H
                exact absurd H (by simp)
            · rw [if_neg c7] at H
              exact absurd H (by simp)
    · rw [if_neg c4] at H
      have c4b0 : (t101 == 0) = false := beq_eq_false_iff_ne.mpr c4
      have c4b1 : (t101 != 0) = true := bne_iff_ne.mpr c4
      simp only [Option.some.injEq, Prod.mk.injEq] at H
      obtain ⟨rfl, rfl⟩ := H
      go_enter Try.func9, Try.ntmps9
      go_wp2_with (first | ((with_reducible refine gate_callee (f := 20) rfl ?_); refine goesL_ (some 12) rfl rfl Try.func20 (by kernel_rfl) rfl #[.int .i64 (wrap64 ((a0.size : Int) / 8))] rfl (by (try simp only [List.map_toArray, List.map_cons, List.map_nil]); first | done | rfl | (simp only [List.length_drop, List.length_take]; rfl)) ?_; (with_reducible refine (instr_length.calls (wrap64 ((a0.size : Int) / 8)) t101 _ A3.out).mono ?_); rintro e w' ⟨rfl, ⟨nd, rfl⟩⟩; refine ⟨_, rfl, ?_⟩))
      go_ret2
      exact ⟨_, by first | rfl | (simp [errW_none, errW_some] <;> rfl) | (simp [*, errW_none, errW_some] <;> rfl), by first | exact Kd.R_nil _ _ _ _ _ | exact Kd.N_nil _ _ _ _ _ | exact Kd.V_nil _ _ _ _ _ | exact Kd.Q_nil _ _ _ _ _ | exact Kd.S_nil _ _ _ _ _, by repeat (first | (with_reducible first | exact HB.out | apply below_alloc | apply pw_below_drewN | apply below_drew1) | exact HB.out)⟩
  · rw [if_neg c2] at H
    have c2b0 : (((a0.size : Int) % 8) == 0) = false := beq_eq_false_iff_ne.mpr c2
    have c2b1 : (((a0.size : Int) % 8) != 0) = true := bne_iff_ne.mpr c2
    simp only [Option.some.injEq, Prod.mk.injEq] at H
    obtain ⟨rfl, rfl⟩ := H
    go_enter Try.func9, Try.ntmps9
    go_wp2
    go_ret2
    exact ⟨_, by first | rfl | (simp [errW_none, errW_some] <;> rfl) | (simp [*, errW_none, errW_some] <;> rfl), by first | exact Kd.R_nil _ _ _ _ _ | exact Kd.N_nil _ _ _ _ _ | exact Kd.V_nil _ _ _ _ _ | exact Kd.Q_nil _ _ _ _ _ | exact Kd.S_nil _ _ _ _ _, by repeat (first | (with_reducible first | exact HB.out | apply below_alloc | apply pw_below_drewN | apply below_drew1) | exact HB.out)⟩

end Go.Proofs.Ytjgapcidhoecfaa.Pr
