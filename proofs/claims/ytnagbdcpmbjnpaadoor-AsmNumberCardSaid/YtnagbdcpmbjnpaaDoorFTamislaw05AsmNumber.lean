-- Made by a program of this session (wip/tools/myprint.sh).
import Derived.Test.YtnagbdcpmbjnpaaDoorGLib
import Derived.Test.YtnagbdcpmbjnpaaDoorPr0
import Derived.Test.YtnagbdcpmbjnpaaDoorFEqA25
import Derived.Test.YtnagbdcpmbjnpaaDoorFRef05
import Derived.Test.YtnagbdcpmbjnpaaDoorGAsmParse
import Derived.Test.YtnagbdcpmbjnpaaDoorGAwake05
namespace Go.Proofs.YtnagbdcpmbjnpaaDoor.Pr
open Go.RowKit Go.Proofs.YtnagbdcpmbjnpaaDoorW.PrintWords Go.Proofs.YtnagbdcpmbjnpaaDoorW.PrintLast Go.Proofs.YtnagbdcpmbjnpaaDoorW.PrintMore
attribute [local go_sem] max2_int min2_int max_two min_two max_three min_three max_four min_four   -- for this text's walks alone
set_option linter.unusedVariables false
set_option linter.unusedSimpArgs false

attribute [local go_sem high] eqA25
/-! ### tamislaw05_AsmNumber: function 7 -/
def tamislaw05_AsmNumber.f (k : Nat) (a0 : Int) : Option (Bool) := (asm_Number.f a0).bind fun t290 => (if 4 + t290.size ≤ 9223372036854775807 then ((asm_Parse.f ((⟨#[114, 101, 116, 32]⟩ : ByteArray) ++ t290)).bind fun bt291 => (if 5 + t290.size ≤ 9223372036854775807 then ((asm_Parse.f ((⟨#[114, 101, 116, 32, 48]⟩ : ByteArray) ++ t290)).bind fun bt297 => ((awake05.f).bind fun t303 => (if t303 = true then ((tamisref05_Number.f k a0).bind fun t304 => (if t290.toList = t304.toList then (if bt291.2.2.2.2 = 0 then (if (bt291.1 == 6 && (bt291.2.1 == 0 && (bt291.2.2.1 == 0 && (bt291.2.2.2.1 == a0)))) = true then (some (bt297.2.2.2.2 == 3)) else (some false)) else (some false)) else (some false))) else (some false)))) else (none))) else (none))
theorem tamislaw05_AsmNumber.mono : ∀ a0 k, LeO (tamislaw05_AsmNumber.f k a0) (tamislaw05_AsmNumber.f (k + 1) a0) := by
  intro a0 k
  unfold tamislaw05_AsmNumber.f
  repeat' first
      | (with_reducible exact tamisref05_Number.mono _ _)
      | (with_reducible exact LeO.refl _)
      | (with_reducible exact LeO.none _)
      | (with_reducible refine LeO.ite ?_ ?_)
      | (with_reducible refine LeO.bind ?_ (fun _ => ?_))
      | exact tamisref05_Number.mono _ _
      | exact LeO.none _
      | refine LeO.ite ?_ ?_
      | refine LeO.bind ?_ (fun _ => ?_)
set_option maxHeartbeats 8000000 in
set_option maxRecDepth 100000 in
theorem tamislaw05_AsmNumber.calls (k : Nat) (a0 : Int) (r : Bool) (w : World) (hT : r = true) (hG : GlobW w) (h : tamislaw05_AsmNumber.f k a0 = some r) :
    Calls Tryd.prog 7 #[.int .u32 a0] w fun e w' => e = .returned (.bool r) ∧ Below w.heap.size w w' := by
  have hu25 := Tryd.underlying25
  have HT := Aside0.mk hT
  clear hT
  have HB := Aside0.mk (Below.refl w.heap.size w)
  have H : ((asm_Number.f a0).bind fun t290 => (if 4 + t290.size ≤ 9223372036854775807 then ((asm_Parse.f ((⟨#[114, 101, 116, 32]⟩ : ByteArray) ++ t290)).bind fun bt291 => (if 5 + t290.size ≤ 9223372036854775807 then ((asm_Parse.f ((⟨#[114, 101, 116, 32, 48]⟩ : ByteArray) ++ t290)).bind fun bt297 => ((awake05.f).bind fun t303 => (if t303 = true then ((tamisref05_Number.f k a0).bind fun t304 => (if t290.toList = t304.toList then (if bt291.2.2.2.2 = 0 then (if (bt291.1 == 6 && (bt291.2.1 == 0 && (bt291.2.2.1 == 0 && (bt291.2.2.2.1 == a0)))) = true then (some (bt297.2.2.2.2 == 3)) else (some false)) else (some false)) else (some false))) else (some false)))) else (none))) else (none))) = some r := h
  clear h
  replace H := Option.bind_eq_some_iff.mp H
  obtain ⟨t290, A20, H⟩ := H
  replace H : (if 4 + t290.size ≤ 9223372036854775807 then ((asm_Parse.f ((⟨#[114, 101, 116, 32]⟩ : ByteArray) ++ t290)).bind fun bt291 => (if 5 + t290.size ≤ 9223372036854775807 then ((asm_Parse.f ((⟨#[114, 101, 116, 32, 48]⟩ : ByteArray) ++ t290)).bind fun bt297 => ((awake05.f).bind fun t303 => (if t303 = true then ((tamisref05_Number.f k a0).bind fun t304 => (if t290.toList = t304.toList then (if bt291.2.2.2.2 = 0 then (if (bt291.1 == 6 && (bt291.2.1 == 0 && (bt291.2.2.1 == 0 && (bt291.2.2.2.1 == a0)))) = true then (some (bt297.2.2.2.2 == 3)) else (some false)) else (some false)) else (some false))) else (some false)))) else (none))) else (none)) = some r := H
  have A2 := Aside0.mk A20
  clear A20
  by_cases c3 : 4 + t290.size ≤ 9223372036854775807
  · rw [if_pos c3] at H
    have c3b0 := eq_true c3
    have c3b1 : decide (4 + t290.size ≤ 9223372036854775807) = true := decide_eq_true c3
    try have c3b2 : (9223372036854775807 < 4 + t290.size) = False := eq_false (Nat.not_lt.2 c3)
    replace H := Option.bind_eq_some_iff.mp H
    obtain ⟨⟨t291, t292, t293, t294, t295⟩, A40, H⟩ := H
    replace H : (if 5 + t290.size ≤ 9223372036854775807 then ((asm_Parse.f ((⟨#[114, 101, 116, 32, 48]⟩ : ByteArray) ++ t290)).bind fun bt297 => ((awake05.f).bind fun t303 => (if t303 = true then ((tamisref05_Number.f k a0).bind fun t304 => (if t290.toList = t304.toList then (if t295 = 0 then (if (t291 == 6 && (t292 == 0 && (t293 == 0 && (t294 == a0)))) = true then (some (bt297.2.2.2.2 == 3)) else (some false)) else (some false)) else (some false))) else (some false)))) else (none)) = some r := H
    have A4 := Aside0.mk A40
    clear A40
    by_cases c5 : 5 + t290.size ≤ 9223372036854775807
    · rw [if_pos c5] at H
      have c5b0 := eq_true c5
      have c5b1 : decide (5 + t290.size ≤ 9223372036854775807) = true := decide_eq_true c5
      try have c5b2 : (9223372036854775807 < 5 + t290.size) = False := eq_false (Nat.not_lt.2 c5)
      replace H := Option.bind_eq_some_iff.mp H
      obtain ⟨⟨t297, t298, t299, t300, t301⟩, A60, H⟩ := H
      replace H : ((awake05.f).bind fun t303 => (if t303 = true then ((tamisref05_Number.f k a0).bind fun t304 => (if t290.toList = t304.toList then (if t295 = 0 then (if (t291 == 6 && (t292 == 0 && (t293 == 0 && (t294 == a0)))) = true then (some (t301 == 3)) else (some false)) else (some false)) else (some false))) else (some false))) = some r := H
      have A6 := Aside0.mk A60
      clear A60
      replace H := Option.bind_eq_some_iff.mp H
      obtain ⟨t303, A70, H⟩ := H
      replace H : (if t303 = true then ((tamisref05_Number.f k a0).bind fun t304 => (if t290.toList = t304.toList then (if t295 = 0 then (if (t291 == 6 && (t292 == 0 && (t293 == 0 && (t294 == a0)))) = true then (some (t301 == 3)) else (some false)) else (some false)) else (some false))) else (some false)) = some r := H
      have A7 := Aside0.mk A70
      clear A70
      by_cases c8 : t303 = true
      · subst c8
        have H1 : ((tamisref05_Number.f k a0).bind fun t304 => (if t290.toList = t304.toList then (if t295 = 0 then (if (t291 == 6 && (t292 == 0 && (t293 == 0 && (t294 == a0)))) = true then (some (t301 == 3)) else (some false)) else (some false)) else (some false))) = some r := by rw [if_pos rfl] at H; exact H
        clear H
        have H := H1
        clear H1
        replace H := Option.bind_eq_some_iff.mp H
        obtain ⟨t304, A90, H⟩ := H
        replace H : (if t290.toList = t304.toList then (if t295 = 0 then (if (t291 == 6 && (t292 == 0 && (t293 == 0 && (t294 == a0)))) = true then (some (t301 == 3)) else (some false)) else (some false)) else (some false)) = some r := H
        have A9 := Aside0.mk A90
        clear A90
        by_cases c10 : t290.toList = t304.toList
        · rw [if_pos c10] at H
          have c10b0 : (t290.toList == t304.toList) = true := beq_iff_eq.mpr c10
          have c10b1 : (t290.toList != t304.toList) = false := bne_eq_false_iff_eq.mpr c10
          clear c10
          by_cases c11 : t295 = 0
          · rw [if_pos c11] at H
            have c11b0 : (t295 == 0) = true := beq_iff_eq.mpr c11
            have c11b1 : (t295 != 0) = false := bne_eq_false_iff_eq.mpr c11
            clear c11
            by_cases c12 : (t291 == 6 && (t292 == 0 && (t293 == 0 && (t294 == a0)))) = true
            · rw [if_pos c12] at H
              have c12b0 : (t291 == 6 && (t292 == 0 && (t293 == 0 && (t294 == a0)))) = true := c12
              (try (have c12b1 : decide (t291 = 6 && (t292 == 0 && (t293 == 0 && (t294 == a0)))) = true := by simpa using c12))
              (try (have c12b2 : (t291 == 6 && (t292 == 0 && (t293 == 0 && (t294 == a0)))) = true := by simpa using c12))
              clear c12
              obtain rfl := Option.some.inj H
              go_enter Tryd.func7, Tryd.ntmps7
              go_wp2_with (first | ((with_reducible refine gate_callee (f := 19) rfl ?_); refine goesL_ (some 9) rfl rfl Tryd.func19 (by kernel_rfl) rfl #[.int .u32 a0] rfl (by (try simp only [List.map_toArray, List.map_cons, List.map_nil]); first | done | rfl | (simp only [List.length_drop, List.length_take]; rfl)) ?_; (with_reducible refine (asm_Number.calls a0 t290 _ (hG.on (by repeat (first | (with_reducible first | exact HB.out | apply below_alloc | apply pw_below_drewN | apply below_drew1) | exact HB.out))) A2.out).mono ?_); rintro e w13 ⟨rfl, hb⟩; refine ⟨_, rfl, ?_⟩; have n0_ := Aside0.mk (below_step (by repeat (first | (with_reducible first | exact HB.out | apply below_alloc | apply pw_below_drewN | apply below_drew1) | exact HB.out)) hb); clear HB; have HB := n0_; clear n0_; (try clear hb); (try clear hb2); (try clear hk); (try clear hi)) | ((with_reducible refine gate_callee (f := 12) rfl ?_); refine goesL_ (some 13) rfl rfl Tryd.func12 (by kernel_rfl) rfl #[.string ((⟨#[114, 101, 116, 32]⟩ : ByteArray) ++ t290)] rfl (by (try simp only [List.map_toArray, List.map_cons, List.map_nil]); first | done | rfl | (simp only [List.length_drop, List.length_take]; rfl)) ?_; (with_reducible refine (asm_Parse.calls ((⟨#[114, 101, 116, 32]⟩ : ByteArray) ++ t290) t291 t292 t293 t294 t295 _ (hG.on (by repeat (first | (with_reducible first | exact HB.out | apply below_alloc | apply pw_below_drewN | apply below_drew1) | exact HB.out))) A4.out).mono ?_); rintro e w14 ⟨rfl, hb⟩; refine ⟨_, rfl, ?_⟩; have n0_ := Aside0.mk (below_step (by repeat (first | (with_reducible first | exact HB.out | apply below_alloc | apply pw_below_drewN | apply below_drew1) | exact HB.out)) hb); clear HB; have HB := n0_; clear n0_; (try clear hb); (try clear hb2); (try clear hk); (try clear hi)) | ((with_reducible refine gate_dst (N := 4) rfl ?_); refine box_event ?hg (N := 4) ?hd (cs := #[.int .u16 0, .int .u8 0, .int .u8 0, .int .u32 0]) (t := 25) ?hr ?_; (case hd => rfl); (case hg => rfl); (case hr => first | (go_simp; done) | (go_simp; rfl)); intro gb296 hg w15 hbox hb; have n0_ := Aside0.mk (below_step (by repeat (first | (with_reducible first | exact HB.out | apply below_alloc | apply pw_below_drewN | apply below_drew1) | exact HB.out)) hb); have n1_ := Aside0.mk (hbox); have n2_ := Aside0.mk ((by rw [hg]; exact (below_size (by repeat (first | (with_reducible first | exact HB.out | apply below_alloc | apply pw_below_drewN | apply below_drew1) | exact HB.out))) : w.heap.size ≤ gb296)); have n3_ := Aside0.mk ((by rw [hg]; exact (below_size (by repeat (first | (with_reducible first | exact HB.out | apply below_alloc | apply pw_below_drewN | apply below_drew1) | exact HB.out))) : w.heap.size ≤ gb296)); clear HB; have HB := n0_; have BK296 := n1_; have GW296 := n2_; have GE296 := n3_; clear n0_ n1_ n2_ n3_; clear hb hbox hg; have hcz16_0 : w15.cell? ⟨gb296, 0, none⟩ = some (.int .u16 0) := (blk_cell BK296.out 0).trans rfl; have hcz16_1 : w15.cell? ⟨gb296, 1, none⟩ = some (.int .u8 0) := (blk_cell BK296.out 1).trans rfl; have hcz16_2 : w15.cell? ⟨gb296, 2, none⟩ = some (.int .u8 0) := (blk_cell BK296.out 2).trans rfl; have hcz16_3 : w15.cell? ⟨gb296, 3, none⟩ = some (.int .u32 0) := (blk_cell BK296.out 3).trans rfl; have hfz16_0 := blk_frozen BK296.out 0; have hfz16_1 := blk_frozen BK296.out 1; have hfz16_2 := blk_frozen BK296.out 2; have hfz16_3 := blk_frozen BK296.out 3) | ((with_reducible refine gate_callee (f := 12) rfl ?_); refine goesL_ (some 19) rfl rfl Tryd.func12 (by kernel_rfl) rfl #[.string ((⟨#[114, 101, 116, 32, 48]⟩ : ByteArray) ++ t290)] rfl (by (try simp only [List.map_toArray, List.map_cons, List.map_nil]); first | done | rfl | (simp only [List.length_drop, List.length_take]; rfl)) ?_; (with_reducible refine (asm_Parse.calls ((⟨#[114, 101, 116, 32, 48]⟩ : ByteArray) ++ t290) t297 t298 t299 t300 t301 _ (hG.on (by repeat (first | (with_reducible first | exact HB.out | apply below_alloc | apply pw_below_drewN | apply below_drew1 | refine below_set ?_ GE296.out) | exact HB.out))) A6.out).mono ?_); rintro e w17 ⟨rfl, hb⟩; refine ⟨_, rfl, ?_⟩; have n0_ := Aside0.mk (blk_below (g := gb296) (o := .cells #[.int .u16 t291, .int .u8 t292, .int .u8 t293, .int .u32 t294] 25 (0, 0)) (by (with_reducible repeat (first | refine blk_drewN ?_ _ | refine blk_drew ?_ | refine blk_alloc ?_ _)); refine blk_put (cs := #[.int .u16 t291, .int .u8 t292, .int .u8 t293, .int .u32 0]) ?_ 3 _ rfl; (with_reducible repeat (first | refine blk_drewN ?_ _ | refine blk_drew ?_ | refine blk_alloc ?_ _)); refine blk_put (cs := #[.int .u16 t291, .int .u8 t292, .int .u8 0, .int .u32 0]) ?_ 2 _ rfl; (with_reducible repeat (first | refine blk_drewN ?_ _ | refine blk_drew ?_ | refine blk_alloc ?_ _)); refine blk_put (cs := #[.int .u16 t291, .int .u8 0, .int .u8 0, .int .u32 0]) ?_ 1 _ rfl; (with_reducible repeat (first | refine blk_drewN ?_ _ | refine blk_drew ?_ | refine blk_alloc ?_ _)); refine blk_put (cs := #[.int .u16 0, .int .u8 0, .int .u8 0, .int .u32 0]) ?_ 0 _ rfl; (with_reducible repeat (first | refine blk_drewN ?_ _ | refine blk_drew ?_ | refine blk_alloc ?_ _)); exact BK296.out) hb); have n1_ := Aside0.mk (below_step (by repeat (first | (with_reducible first | exact HB.out | apply below_alloc | apply pw_below_drewN | apply below_drew1 | refine below_set ?_ GE296.out) | exact HB.out)) hb); clear BK296; clear HB; have BK296 := n0_; have HB := n1_; clear n0_ n1_; (try clear hb); (try clear hb2); (try clear hk); (try clear hi)) | ((with_reducible refine gate_dst (N := 6) rfl ?_); refine box_event ?hg (N := 6) ?hd (cs := #[.int .u16 0, .int .u8 0, .int .u8 0, .int .u32 0]) (t := 25) ?hr ?_; (case hd => rfl); (case hg => rfl); (case hr => first | (go_simp; done) | (go_simp; rfl)); intro gb302 hg w18 hbox hb; have n0_ := Aside0.mk (blk_below (g := gb296) (o := .cells #[.int .u16 t291, .int .u8 t292, .int .u8 t293, .int .u32 t294] 25 (0, 0)) (by (with_reducible repeat (first | refine blk_drewN ?_ _ | refine blk_drew ?_ | refine blk_alloc ?_ _)); exact BK296.out) hb); have n1_ := Aside0.mk (below_step (by repeat (first | (with_reducible first | exact HB.out | apply below_alloc | apply pw_below_drewN | apply below_drew1 | refine below_set ?_ GE296.out) | exact HB.out)) hb); have n2_ := Aside0.mk (hbox); have n3_ := Aside0.mk ((by rw [hg]; exact (below_size (by repeat (first | (with_reducible first | exact HB.out | apply below_alloc | apply pw_below_drewN | apply below_drew1 | refine below_set ?_ GE296.out) | exact HB.out))) : w.heap.size ≤ gb302)); have n4_ := Aside0.mk ((by rw [hg]; exact (below_size (by repeat (first | (with_reducible first | exact HB.out | apply below_alloc | apply pw_below_drewN | apply below_drew1 | refine below_set ?_ GE296.out) | exact HB.out))) : w.heap.size ≤ gb302)); have n5_ := Aside0.mk ((by rw [hg]; exact Nat.ne_of_lt (blk_lt (g := gb296) (o := .cells #[.int .u16 t291, .int .u8 t292, .int .u8 t293, .int .u32 t294] 25 (0, 0)) (by (with_reducible repeat (first | refine blk_drewN ?_ _ | refine blk_drew ?_ | refine blk_alloc ?_ _)); exact BK296.out)) : gb296 ≠ gb302)); have n6_ := Aside0.mk ((by rw [hg]; exact Nat.ne_of_gt (blk_lt (g := gb296) (o := .cells #[.int .u16 t291, .int .u8 t292, .int .u8 t293, .int .u32 t294] 25 (0, 0)) (by (with_reducible repeat (first | refine blk_drewN ?_ _ | refine blk_drew ?_ | refine blk_alloc ?_ _)); exact BK296.out)) : gb302 ≠ gb296)); clear BK296; clear HB; have BK296 := n0_; have HB := n1_; have BK302 := n2_; have GW302 := n3_; have GE302 := n4_; have NB296_302 := n5_; have NB302_296 := n6_; clear n0_ n1_ n2_ n3_ n4_ n5_ n6_; clear hb hbox hg; have hnb19 := NB302_296.out; have hnc19 := NB296_302.out; have hcz20_0 : w18.cell? ⟨gb302, 0, none⟩ = some (.int .u16 0) := (blk_cell BK302.out 0).trans rfl; have hcz20_1 : w18.cell? ⟨gb302, 1, none⟩ = some (.int .u8 0) := (blk_cell BK302.out 1).trans rfl; have hcz20_2 : w18.cell? ⟨gb302, 2, none⟩ = some (.int .u8 0) := (blk_cell BK302.out 2).trans rfl; have hcz20_3 : w18.cell? ⟨gb302, 3, none⟩ = some (.int .u32 0) := (blk_cell BK302.out 3).trans rfl; have hfz20_0 := blk_frozen BK302.out 0; have hfz20_1 := blk_frozen BK302.out 1; have hfz20_2 := blk_frozen BK302.out 2; have hfz20_3 := blk_frozen BK302.out 3) | ((with_reducible refine gate_callee (f := 9) rfl ?_); refine goesL_ (some 22) rfl rfl Tryd.func9 (by kernel_rfl) rfl #[] rfl (by (try simp only [List.map_toArray, List.map_cons, List.map_nil]); first | done | rfl | (simp only [List.length_drop, List.length_take]; rfl)) ?_; (with_reducible refine (awake05.calls  true _ (hG.on (by repeat (first | (with_reducible first | exact HB.out | apply below_alloc | apply pw_below_drewN | apply below_drew1 | refine below_set ?_ GE296.out | refine below_set ?_ GE302.out) | exact HB.out))) A7.out).mono ?_); rintro e w21 ⟨rfl, hb⟩; refine ⟨_, rfl, ?_⟩; have n0_ := Aside0.mk (blk_below (g := gb296) (o := .cells #[.int .u16 t291, .int .u8 t292, .int .u8 t293, .int .u32 t294] 25 (0, 0)) (by (with_reducible repeat (first | refine blk_drewN ?_ _ | refine blk_drew ?_ | refine blk_alloc ?_ _)); refine blk_far ?_ NB296_302.out _; (with_reducible repeat (first | refine blk_drewN ?_ _ | refine blk_drew ?_ | refine blk_alloc ?_ _)); refine blk_far ?_ NB296_302.out _; (with_reducible repeat (first | refine blk_drewN ?_ _ | refine blk_drew ?_ | refine blk_alloc ?_ _)); refine blk_far ?_ NB296_302.out _; (with_reducible repeat (first | refine blk_drewN ?_ _ | refine blk_drew ?_ | refine blk_alloc ?_ _)); refine blk_far ?_ NB296_302.out _; (with_reducible repeat (first | refine blk_drewN ?_ _ | refine blk_drew ?_ | refine blk_alloc ?_ _)); exact BK296.out) hb); have n1_ := Aside0.mk (blk_below (g := gb302) (o := .cells #[.int .u16 t297, .int .u8 t298, .int .u8 t299, .int .u32 t300] 25 (0, 0)) (by (with_reducible repeat (first | refine blk_drewN ?_ _ | refine blk_drew ?_ | refine blk_alloc ?_ _)); refine blk_put (cs := #[.int .u16 t297, .int .u8 t298, .int .u8 t299, .int .u32 0]) ?_ 3 _ rfl; (with_reducible repeat (first | refine blk_drewN ?_ _ | refine blk_drew ?_ | refine blk_alloc ?_ _)); refine blk_put (cs := #[.int .u16 t297, .int .u8 t298, .int .u8 0, .int .u32 0]) ?_ 2 _ rfl; (with_reducible repeat (first | refine blk_drewN ?_ _ | refine blk_drew ?_ | refine blk_alloc ?_ _)); refine blk_put (cs := #[.int .u16 t297, .int .u8 0, .int .u8 0, .int .u32 0]) ?_ 1 _ rfl; (with_reducible repeat (first | refine blk_drewN ?_ _ | refine blk_drew ?_ | refine blk_alloc ?_ _)); refine blk_put (cs := #[.int .u16 0, .int .u8 0, .int .u8 0, .int .u32 0]) ?_ 0 _ rfl; (with_reducible repeat (first | refine blk_drewN ?_ _ | refine blk_drew ?_ | refine blk_alloc ?_ _)); exact BK302.out) hb); have n2_ := Aside0.mk (below_step (by repeat (first | (with_reducible first | exact HB.out | apply below_alloc | apply pw_below_drewN | apply below_drew1 | refine below_set ?_ GE296.out | refine below_set ?_ GE302.out) | exact HB.out)) hb); clear BK296; clear BK302; clear HB; have BK296 := n0_; have BK302 := n1_; have HB := n2_; clear n0_ n1_ n2_; (try clear hb); (try clear hb2); (try clear hk); (try clear hi)) | (go_at_call 20; (with_reducible refine (tamisref05_Number.calls k a0 t304 _ A9.out).mono ?_); rintro e w22 ⟨rfl, hb⟩; have n0_ := Aside0.mk (blk_below (g := gb296) (o := .cells #[.int .u16 t291, .int .u8 t292, .int .u8 t293, .int .u32 t294] 25 (0, 0)) (by (with_reducible repeat (first | refine blk_drewN ?_ _ | refine blk_drew ?_ | refine blk_alloc ?_ _)); exact BK296.out) hb); have n1_ := Aside0.mk (blk_below (g := gb302) (o := .cells #[.int .u16 t297, .int .u8 t298, .int .u8 t299, .int .u32 t300] 25 (0, 0)) (by (with_reducible repeat (first | refine blk_drewN ?_ _ | refine blk_drew ?_ | refine blk_alloc ?_ _)); exact BK302.out) hb); have n2_ := Aside0.mk (below_step (by repeat (first | (with_reducible first | exact HB.out | apply below_alloc | apply pw_below_drewN | apply below_drew1 | refine below_set ?_ GE296.out | refine below_set ?_ GE302.out) | exact HB.out)) hb); clear BK296; clear BK302; clear HB; have BK296 := n0_; have BK302 := n1_; have HB := n2_; clear n0_ n1_ n2_; (try clear hb); (try clear hb2); (try clear hk); (try clear hi); have hcz23_0 : w22.cell? ⟨gb296, 0, none⟩ = some (.int .u16 t291) := (blk_cell BK296.out 0).trans rfl; have hcz23_1 : w22.cell? ⟨gb296, 1, none⟩ = some (.int .u8 t292) := (blk_cell BK296.out 1).trans rfl; have hcz23_2 : w22.cell? ⟨gb296, 2, none⟩ = some (.int .u8 t293) := (blk_cell BK296.out 2).trans rfl; have hcz23_3 : w22.cell? ⟨gb296, 3, none⟩ = some (.int .u32 t294) := (blk_cell BK296.out 3).trans rfl; have hfz23_0 := blk_frozen BK296.out 0; have hfz23_1 := blk_frozen BK296.out 1; have hfz23_2 := blk_frozen BK296.out 2; have hfz23_3 := blk_frozen BK296.out 3))
              go_ret
              exact ⟨by first | rfl | (simp [errW_none, errW_some] <;> rfl) | (simp [*, errW_none, errW_some] <;> rfl), by repeat (first | (with_reducible first | exact HB.out | apply below_alloc | apply pw_below_drewN | apply below_drew1 | refine below_set ?_ GE296.out | refine below_set ?_ GE302.out) | exact HB.out)⟩
            · rw [if_neg c12] at H
              have c12b0 : (t291 == 6 && (t292 == 0 && (t293 == 0 && (t294 == a0)))) = false := by simpa using c12
              (try (have c12b1 : decide (t291 = 6 && (t292 == 0 && (t293 == 0 && (t294 == a0)))) = false := by simpa using c12))
              (try (have c12b2 : (t291 == 6 && (t292 == 0 && (t293 == 0 && (t294 == a0)))) = false := by simpa using c12))
              (try (have c12b3 : ¬ (t291 = 6 && (t292 == 0 && (t293 == 0 && (t294 == a0)))) := by simpa using c12))
              clear c12
              exact absurd ((Option.some.inj H).trans HT.out) (by simp)
          · rw [if_neg c11] at H
            have c11b0 : (t295 == 0) = false := beq_eq_false_iff_ne.mpr c11
            have c11b1 : (t295 != 0) = true := bne_iff_ne.mpr c11
            exact absurd ((Option.some.inj H).trans HT.out) (by simp)
        · rw [if_neg c10] at H
          have c10b0 : (t290.toList == t304.toList) = false := beq_eq_false_iff_ne.mpr c10
          have c10b1 : (t290.toList != t304.toList) = true := bne_iff_ne.mpr c10
          exact absurd ((Option.some.inj H).trans HT.out) (by simp)
      · replace c8 := Bool.eq_false_iff.mpr c8
        subst c8
        have H1 : (some false) = some r := by rw [if_neg (show ¬ (false = true) by decide)] at H; exact H
        clear H
        have H := H1
        clear H1
        exact absurd ((Option.some.inj H).trans HT.out) (by simp)
    · rw [if_neg c5] at H
      exact absurd H (by simp)
  · rw [if_neg c3] at H
    exact absurd H (by simp)

end Go.Proofs.YtnagbdcpmbjnpaaDoor.Pr
