-- Made by a program of this session (wip/tools/myprint.sh).
import Derived.Test.YtjgapcidhoecfaaPr0
namespace Go.Proofs.Ytjgapcidhoecfaa.Pr
open Go.RowKit Go.Proofs.YtjgapcidhoecfaaW.PrintWords Go.Proofs.YtjgapcidhoecfaaW.PrintLast Go.Proofs.YtjgapcidhoecfaaW.PrintMore
attribute [local go_sem] max2_int min2_int max_two min_two max_three min_three max_four min_four   -- for this text's walks alone
set_option linter.unusedVariables false
set_option linter.unusedSimpArgs false

/-! ### instr_One: function 18 -/
def instr_One.l0 : Nat → List Int → Int → Int → Int → Int → Int → Option (ByteArray)
  | 0, _, _, _, _, _, _ => none
  | k + 1, x3, x17, x158000, x158001, x158002, x158003 => if x17 < 4 then (if 0 ≤ (wrap64 (8 * x17)) then (if x3.length < 140737488355328 then (instr_One.l0 k (x3 ++ [(shr .u32 x158003 (wrap64 (8 * x17))) % 256]) (wrap64 (x17 + 1)) x158000 x158001 x158002 x158003) else (none)) else (none)) else (some (strOfNums x3))
def instr_One.f (k : Nat) (a0_0 : Int) (a0_1 : Int) (a0_2 : Int) (a0_3 : Int) : Option (ByteArray) := instr_One.l0 k (([(a0_0) % 256, (a0_0 / 256) % 256, a0_1, a0_2] : List Int)) 0 a0_0 a0_1 a0_2 a0_3
theorem instr_One.mono_l : ∀ k, (∀ y0 y1 y2 y3 y4 y5, LeO (instr_One.l0 k y0 y1 y2 y3 y4 y5) (instr_One.l0 (k + 1) y0 y1 y2 y3 y4 y5))
  | 0 => fun _ _ _ _ _ _ r h => by simp [instr_One.l0] at h
  | k + 1 => by
    have ih0 := instr_One.mono_l k
    · intro y0 y1 y2 y3 y4 y5
      unfold instr_One.l0
      repeat' first
      | (with_reducible exact ih0 _ _ _ _ _ _)
      | (with_reducible exact LeO.refl _)
      | (with_reducible exact LeO.none _)
      | (with_reducible refine LeO.ite ?_ ?_)
      | (with_reducible refine LeO.bind ?_ (fun _ => ?_))
      | exact ih0 _ _ _ _ _ _
      | exact LeO.none _
      | refine LeO.ite ?_ ?_
      | refine LeO.bind ?_ (fun _ => ?_)
theorem instr_One.mono : ∀ a0 a1 a2 a3 k, LeO (instr_One.f k a0 a1 a2 a3) (instr_One.f (k + 1) a0 a1 a2 a3) := by
  intro a0 a1 a2 a3 k
  have ih0 := instr_One.mono_l k
  unfold instr_One.f
  repeat' first
      | (with_reducible exact ih0 _ _ _ _ _ _)
      | (with_reducible exact LeO.refl _)
      | (with_reducible exact LeO.none _)
      | (with_reducible refine LeO.ite ?_ ?_)
      | (with_reducible refine LeO.bind ?_ (fun _ => ?_))
      | exact ih0 _ _ _ _ _ _
      | exact LeO.none _
      | refine LeO.ite ?_ ?_
      | refine LeO.bind ?_ (fun _ => ?_)
set_option maxHeartbeats 8000000 in
set_option maxRecDepth 100000 in
theorem instr_One.calls (k : Nat) (a0_0 : Int) (a0_1 : Int) (a0_2 : Int) (a0_3 : Int) (r : ByteArray) (w : World) (h : instr_One.f k a0_0 a0_1 a0_2 a0_3 = some r) :
    Calls Try.prog 18 #[.agg #[.int .u16 a0_0, .int .u8 a0_1, .int .u8 a0_2, .int .u32 a0_3]] w fun e w' => e = .returned (.string r) ∧ Below w.heap.size w w' := by
  have hu39 := Try.underlying39
  have HB := Aside0.mk (Below.refl w.heap.size w)
  have H : (instr_One.l0 k (([(a0_0) % 256, (a0_0 / 256) % 256, a0_1, a0_2] : List Int)) 0 a0_0 a0_1 a0_2 a0_3) = some r := h
  clear h
  obtain ⟨y158, hy158⟩ : ∃ y_ : List Int, y_ = (([(a0_0) % 256, (a0_0 / 256) % 256, a0_1, a0_2] : List Int)) := ⟨_, rfl⟩
  replace H : (instr_One.l0 k y158 0 a0_0 a0_1 a0_2 a0_3) = some r := by first | (rw [hy158]; with_reducible exact H) | (have H2_ := (Option.bind_some _ _).symm.trans H; rw [hy158]; with_reducible exact H2_) | (have H2_ := (Option.bind_some _ _).symm.trans H; with_reducible exact H2_) | with_reducible exact H | (rw [hy158]; exact H) | exact H
  have Ny158 := Aside0.mk hy158
  clear hy158
  have H' := Aside0.mk H
  clear H
  go_enter Try.func18, Try.ntmps18
  go_wp2_with (first | ((with_reducible refine gate_dst (N := 1) rfl ?_); refine box_event ?hg (N := 1) ?hd (cs := #[.int .u16 a0_0, .int .u8 a0_1, .int .u8 a0_2, .int .u32 a0_3]) (t := 39) ?hr ?_; (case hd => rfl); (case hg => rfl); (case hr => first | (go_simp; done) | (go_simp; rfl)); intro gb157 hg w2 hbox hb; have n0_ := Aside0.mk (below_step (by repeat (first | (with_reducible first | exact HB.out | apply below_alloc | apply pw_below_drewN | apply below_drew1) | exact HB.out)) hb); have n1_ := Aside0.mk (hbox); have n2_ := Aside0.mk ((by rw [hg]; exact (below_size (by repeat (first | (with_reducible first | exact HB.out | apply below_alloc | apply pw_below_drewN | apply below_drew1) | exact HB.out))) : w.heap.size ≤ gb157)); have n3_ := Aside0.mk ((by rw [hg]; exact (below_size (by repeat (first | (with_reducible first | exact HB.out | apply below_alloc | apply pw_below_drewN | apply below_drew1) | exact HB.out))) : w.heap.size ≤ gb157)); clear HB; have HB := n0_; have BK157 := n1_; have GW157 := n2_; have GE157 := n3_; clear n0_ n1_ n2_ n3_; clear hb hbox hg; have hcz3_0 : w2.cell? ⟨gb157, 0, none⟩ = some (.int .u16 a0_0) := (blk_cell BK157.out 0).trans rfl; have hcz3_1 : w2.cell? ⟨gb157, 1, none⟩ = some (.int .u8 a0_1) := (blk_cell BK157.out 1).trans rfl; have hcz3_2 : w2.cell? ⟨gb157, 2, none⟩ = some (.int .u8 a0_2) := (blk_cell BK157.out 2).trans rfl; have hcz3_3 : w2.cell? ⟨gb157, 3, none⟩ = some (.int .u32 a0_3) := (blk_cell BK157.out 3).trans rfl; have hfz3_0 := blk_frozen BK157.out 0; have hfz3_1 := blk_frozen BK157.out 1; have hfz3_2 := blk_frozen BK157.out 2; have hfz3_3 := blk_frozen BK157.out 3) | ((with_reducible refine gate_dst (N := 16) rfl ?_); refine Kd.R_lit (Kd.int .u8) _ 5 ?hg (N := 16) ?hd (xs := ([(a0_0) % 256, (a0_0 / 256) % 256, a0_1, a0_2] : List Int)) (inner := [.int .u8 ((a0_0) % 256), .int .u8 ((a0_0 / 256) % 256), .int .u8 a0_1, .int .u8 a0_2]) (ok := fun _ => True) (okp := fun _ => True) ?hr ?hp (fun _ hk => hk) trivial (Below.refl _ _) (Nat.le_refl _) (by simp) ?_; (case hd => rfl); (case hg => rfl); (case hr => first | (go_simp; done) | (go_simp; rfl)); (case hp => exact (Reps.one (show Kd.M (Kd.int .u8) _ _ _ ((a0_0) % 256) [.int .u8 ((a0_0) % 256)] from rfl) (Reps.one (show Kd.M (Kd.int .u8) _ _ _ ((a0_0 / 256) % 256) [.int .u8 ((a0_0 / 256) % 256)] from rfl) (Reps.one (show Kd.M (Kd.int .u8) _ _ _ a0_1 [.int .u8 a0_1] from rfl) (Reps.one (show Kd.M (Kd.int .u8) _ _ _ a0_2 [.int .u8 a0_2] from rfl) (Reps.none _ _)))))); intro v159 w4 ho5 hb hg_ hnew_; clear hg_ hnew_; (first | rw [← Ny158.out] at ho5 | (simp only [Int.reduceToNat] at ho5; rw [← Ny158.out] at ho5)); have n0_ := Aside0.mk (Kd.R_lower ho5 (below_size (by repeat (first | (with_reducible first | exact HB.out | apply below_alloc | apply pw_below_drewN | apply below_drew1 | refine below_set ?_ GE157.out) | exact HB.out)))); have n1_ := Aside0.mk (blk_below (g := gb157) (o := .cells #[.int .u16 a0_0, .int .u8 a0_1, .int .u8 a0_2, .int .u32 a0_3] 39 (0, 0)) (by (with_reducible repeat (first | refine blk_drewN ?_ _ | refine blk_drew ?_ | refine blk_alloc ?_ _)); exact BK157.out) hb); have n2_ := Aside0.mk (below_step (by repeat (first | (with_reducible first | exact HB.out | apply below_alloc | apply pw_below_drewN | apply below_drew1 | refine below_set ?_ GE157.out) | exact HB.out)) hb); clear BK157; clear HB; have HO160 := n0_; have BK157 := n1_; have HB := n2_; clear n0_ n1_ n2_; clear hb ho5))
  go_loopg [3, 17] k (fun kq v3 v17 w' => ∃ (x3_1 : List Int) (x17_1 : Int), v17 = .int .i64 x17_1 ∧ Aside0 (instr_One.l0 kq x3_1 x17_1 a0_0 a0_1 a0_2 a0_3 = some r) ∧ Aside0 (kq ≤ k) ∧ Aside0 (Kd.R (Kd.int .u8) 5 w' w.heap.size (fun _ => True) v3 x3_1) ∧ Aside0 (w'.heap[gb157]? = some (.cells #[.int .u16 a0_0, .int .u8 a0_1, .int .u8 a0_2, .int .u32 a0_3] 39 (0, 0))) ∧ Aside0 (Below w.heap.size w w'))
  case atStart => exact ⟨(y158), (0), (by first | rfl | (simp; done) | (simp [*]; done)), H', ⟨Nat.le_refl _⟩, ⟨by (with_reducible repeat (first | apply Kd.R_alloc | apply Kd.R_drewN | apply Kd.R_drew)); exact HO160.out⟩, ⟨by (with_reducible repeat (first | refine blk_drewN ?_ _ | refine blk_drew ?_ | refine blk_alloc ?_ _)); exact BK157.out⟩, ⟨by repeat (first | (with_reducible first | exact HB.out | apply below_alloc | apply pw_below_drewN | apply below_drew1 | refine below_set ?_ GE157.out) | exact HB.out)⟩⟩
  case round =>
    clear H'
    try clear c1
    try clear p2
    try clear hcz3_0
    try clear hcz3_1
    try clear hcz3_2
    try clear hcz3_3
    try clear hfz3_0
    try clear hfz3_1
    try clear hfz3_2
    try clear hfz3_3
    obtain ⟨x3_1, x17_1, rfl, HA, HK1, HO_3, BK157, HB⟩ := hrel
    cases gk with
    | zero => exact absurd HA.out (by simp [instr_One.l0])
    | succ k1 =>
      have H := HA.out
      clear HA
      simp only [instr_One.l0] at H
      by_cases c6 : x17_1 < 4
      · rw [if_pos c6] at H
        have c6b0 : decide (x17_1 < 4) = true := decide_eq_true c6
        clear c6
        obtain ⟨ji7, hji7⟩ : ∃ j_ : Int, (wrap64 (8 * x17_1)) = j_ := ⟨_, rfl⟩
        replace H : (if 0 ≤ (ji7) then (if x3_1.length < 140737488355328 then (instr_One.l0 k1 (x3_1 ++ [(shr .u32 a0_3 (ji7)) % 256]) (wrap64 (x17_1 + 1)) a0_0 a0_1 a0_2 a0_3) else (none)) else (none)) = some r := by first | (rw [hji7] at H; exact H) | (simp only [hji7] at H ⊢; exact H)
        have hji7w : (IntKind.i64.wrap (8 * x17_1)) = ji7 := (i64_w _).trans hji7
        by_cases c8 : 0 ≤ (ji7)
        · rw [if_pos c8] at H
          have c8b0 := eq_true c8
          have c8b1 : decide (0 ≤ (ji7)) = true := decide_eq_true c8
          clear c8
          obtain ⟨ji9, hji9⟩ : ∃ j_ : Int, (shr .u32 a0_3 (ji7)) = j_ := ⟨_, rfl⟩
          replace H : (if x3_1.length < 140737488355328 then (instr_One.l0 k1 (x3_1 ++ [(ji9) % 256]) (wrap64 (x17_1 + 1)) a0_0 a0_1 a0_2 a0_3) else (none)) = some r := by first | (rw [hji9] at H; exact H) | (simp only [hji9] at H ⊢; exact H)
          have hji9_ : (a0_3 / 2 ^ min (ji7).toNat 32) = ji9 := hji9
          have hji9z : (ji7) ≤ 32 → (a0_3 / 2 ^ (ji7).toNat) = ji9 := shr_small hji9
          by_cases c10 : x3_1.length < 140737488355328
          · rw [if_pos c10] at H
            have LMc10 := Aside0.mk c10
            clear c10
            obtain ⟨y161, hy161⟩ : ∃ y_ : List Int, y_ = (x3_1 ++ [(ji9) % 256]) := ⟨_, rfl⟩
            replace H : (instr_One.l0 k1 y161 (wrap64 (x17_1 + 1)) a0_0 a0_1 a0_2 a0_3) = some r := by first | (rw [hy161]; with_reducible exact H) | (have H2_ := (Option.bind_some _ _).symm.trans H; rw [hy161]; with_reducible exact H2_) | (have H2_ := (Option.bind_some _ _).symm.trans H; with_reducible exact H2_) | with_reducible exact H | (rw [hy161]; exact H) | exact H
            have Ny161 := Aside0.mk hy161
            clear hy161
            have H' := Aside0.mk H
            clear H
            have hcz11_0 : wr.cell? ⟨gb157, 0, none⟩ = some (.int .u16 a0_0) := (blk_cell BK157.out 0).trans rfl
            have hcz11_1 : wr.cell? ⟨gb157, 1, none⟩ = some (.int .u8 a0_1) := (blk_cell BK157.out 1).trans rfl
            have hcz11_2 : wr.cell? ⟨gb157, 2, none⟩ = some (.int .u8 a0_2) := (blk_cell BK157.out 2).trans rfl
            have hcz11_3 : wr.cell? ⟨gb157, 3, none⟩ = some (.int .u32 a0_3) := (blk_cell BK157.out 3).trans rfl
            have hfz11_0 := blk_frozen BK157.out 0
            have hfz11_1 := blk_frozen BK157.out 1
            have hfz11_2 := blk_frozen BK157.out 2
            have hfz11_3 := blk_frozen BK157.out 3
            go_wp2_with (first | ((with_reducible refine gate_builtin (b := .append) (xs := #[.tmp 20, .tmp 27]) rfl ?_); at_builtin; refine Kd.R_append (Kd.int .u8) (w0 := w) w.heap.size rfl (.tmp 20) (.tmp 27) 47 5 (.int .u8 0) 1 rfl Try.underlying47 info5 rfl (by decide) (by omega) u3 x3_1 ((ji9) % 256) [.int .u8 ((ji9) % 256)] (fun _ => True) (fun _ => False) rfl rfl ?aP (fun _ hk => hk.elim) ?aF ?aO ?aB ?aS ?aL ?_; (case aP => exact rfl); (case aB => exact (by repeat (first | (with_reducible first | exact HB.out | apply below_alloc | apply pw_below_drewN | apply below_drew1 | refine below_set ?_ GE157.out) | exact HB.out))); (case aF => exact (fun _ _ => trivial)); (case aO => exact (by (with_reducible repeat (first | apply Kd.R_alloc | apply Kd.R_drewN | apply Kd.R_drew)); exact HO_3.out)); (case aS => exact (below_size (by repeat (first | (with_reducible first | exact HB.out | apply below_alloc | apply pw_below_drewN | apply below_drew1 | refine below_set ?_ GE157.out) | exact HB.out)))); (case aL => have := LMc10.out; omega); intro v162 w12 ho hb hg hat; rw [← Ny161.out] at ho; have n0_ := Aside0.mk (blk_grown (g := gb157) (o := .cells #[.int .u16 a0_0, .int .u8 a0_1, .int .u8 a0_2, .int .u32 a0_3] 39 (0, 0)) (by (with_reducible repeat (first | refine blk_drewN ?_ _ | refine blk_drew ?_ | refine blk_alloc ?_ _)); exact BK157.out) hg (Kd.R_ne HO_3.out BK157.out (by decide))); have n1_ := Aside0.mk (hb); have n2_ := Aside0.mk (ho); clear BK157; clear HB; clear HO_3; have BK157 := n0_; have HB := n1_; have HO163 := n2_; clear n0_ n1_ n2_; clear ho hb hg hat))
            go_roundg k1
            case measure => have := HK1.out; omega
            case rel => exact ⟨(y161), (wrap64 (x17_1 + 1)), (by first | rfl | (simp; done) | (simp [*]; done)), H', ⟨by have := HK1.out; omega⟩, ⟨by (with_reducible repeat (first | apply Kd.R_alloc | apply Kd.R_drewN | apply Kd.R_drew)); exact HO163.out⟩, ⟨by (with_reducible repeat (first | refine blk_drewN ?_ _ | refine blk_drew ?_ | refine blk_alloc ?_ _)); exact BK157.out⟩, ⟨by repeat (first | (with_reducible first | exact HB.out | apply below_alloc | apply pw_below_drewN | apply below_drew1 | refine below_set ?_ GE157.out) | exact HB.out)⟩⟩
          · rw [if_neg c10] at H
            exact absurd H (by simp)
        · rw [if_neg c8] at H
          exact absurd H (by simp)
      · rw [if_neg c6] at H
        have c6b0 : decide (x17_1 < 4) = false := decide_eq_false c6
        clear c6
        obtain rfl := Option.some.inj H
        have hcv13 := own_string (P := Try.prog) Try.underlying47 Try.underlying5 Try.underlying9 (Kd.own_of_R HO_3.out)
        go_wp2
        go_ret
        exact ⟨by first | rfl | (simp [errW_none, errW_some] <;> rfl) | (simp [*, errW_none, errW_some] <;> rfl), by repeat (first | (with_reducible first | exact HB.out | apply below_alloc | apply pw_below_drewN | apply below_drew1 | refine below_set ?_ GE157.out) | exact HB.out)⟩

end Go.Proofs.Ytjgapcidhoecfaa.Pr
