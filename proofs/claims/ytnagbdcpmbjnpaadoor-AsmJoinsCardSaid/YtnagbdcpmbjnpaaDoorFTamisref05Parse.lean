-- Made by a program of this session (wip/tools/myprint.sh).
import Derived.Test.YtnagbdcpmbjnpaaDoorPr0
import Derived.Test.YtnagbdcpmbjnpaaDoorFRef04
import Derived.Test.YtnagbdcpmbjnpaaDoorFRef05
namespace Go.Proofs.YtnagbdcpmbjnpaaDoor.Pr
open Go.RowKit Go.Proofs.YtnagbdcpmbjnpaaDoorW.PrintWords Go.Proofs.YtnagbdcpmbjnpaaDoorW.PrintLast Go.Proofs.YtnagbdcpmbjnpaaDoorW.PrintMore
attribute [local go_sem] max2_int min2_int max_two min_two max_three min_three max_four min_four   -- for this text's walks alone
set_option linter.unusedVariables false
set_option linter.unusedSimpArgs false

/-! ### tamisref05_Parse: function 13 -/
mutual
def tamisref05_Parse.l0 : Nat → ByteArray → List ByteArray → List Int → Int → Option (Int × Int × Int × Int × Bool)
  | 0, _, _, _, _ => none
  | k + 1, x0, x4, x5, x6 => if x6 < (x5.length : Int) then (if 0 ≤ x6 then ((tamisref04_Name.f k (rd x5 x6)).bind fun t165 => (if 0 < (x4.length : Int) then (if t165.toList = (rdOf ByteArray.empty x4 0).toList then ((tamisref05_hasK.f k (rd x5 x6)).bind fun t170 => (if t170 = true then (tamisref05_Parse.j1 k x0 x4 x5 x6 1 (decide ((x4.length : Int) > 1)) (rd x5 x6) 0 0 0) else (tamisref05_Parse.j1 k x0 x4 x5 x6 1 false (rd x5 x6) 0 0 0))) else (tamisref05_Parse.l0 k x0 x4 x5 (wrap64 (x6 + 1)))) else (none))) else (none)) else (some (0, 0, 0, 0, false))
def tamisref05_Parse.j1 : Nat → ByteArray → List ByteArray → List Int → Int → Int → Bool → Int → Int → Int → Int → Option (Int × Int × Int × Int × Bool)
  | 0, _, _, _, _, _, _, _, _, _, _ => none
  | k + 1, x0, x4, x5, x6, x8, x44, x169000, x169001, x169002, x169003 => if x44 = true then (if 0 ≤ x8 then (if x8 < (x4.length : Int) then ((tamisref05_value.f k (rdOf ByteArray.empty x4 x8)).bind fun t172 => (tamisref05_Parse.j2 k x0 x4 x5 x6 (wrap64 (x8 + 1)) x169000 x169001 x169002 t172)) else (none)) else (none)) else (tamisref05_Parse.j2 k x0 x4 x5 x6 x8 x169000 x169001 x169002 x169003)
def tamisref05_Parse.j2 : Nat → ByteArray → List ByteArray → List Int → Int → Int → Int → Int → Int → Int → Option (Int × Int × Int × Int × Bool)
  | 0, _, _, _, _, _, _, _, _, _ => none
  | k + 1, x0, x4, x5, x6, x8, x169000, x169001, x169002, x169003 => if 0 ≤ x6 then (if x6 < (x5.length : Int) then ((tamisref04_Kind.f k (rd x5 x6)).bind fun t174 => (if t174 = 12 then (tamisref05_Parse.j3 k x0 x4 x8 (decide ((x4.length : Int) > (wrap64 (x8 + 1)))) x169000 x169001 x169002 x169003) else (tamisref05_Parse.j3 k x0 x4 x8 false x169000 x169001 x169002 x169003))) else (none)) else (none)
def tamisref05_Parse.j3 : Nat → ByteArray → List ByteArray → Int → Bool → Int → Int → Int → Int → Option (Int × Int × Int × Int × Bool)
  | 0, _, _, _, _, _, _, _, _ => none
  | k + 1, x0, x4, x8, x65, x169000, x169001, x169002, x169003 => if x65 = true then (if 0 ≤ x8 then (if x8 < (x4.length : Int) then ((tamisref05_value.f k (rdOf ByteArray.empty x4 x8)).bind fun t176 => (if 0 ≤ (wrap64 (x8 + 1)) then (if (wrap64 (x8 + 1)) < (x4.length : Int) then ((tamisref05_value.f k (rdOf ByteArray.empty x4 (wrap64 (x8 + 1)))).bind fun t178 => ((tamisref05_Line.f k x169000 ((t176) % 256) ((t178) % 256) x169003).bind fun bt179 => (if bt179.2 = 0 then (if bt179.1.toList = x0.toList then (some (x169000, (t176) % 256, (t178) % 256, x169003, true)) else (some (0, 0, 0, 0, false))) else (some (0, 0, 0, 0, false))))) else (none)) else (none))) else (none)) else (none)) else ((tamisref05_Line.f k x169000 x169001 x169002 x169003).bind fun bt181 => (if bt181.2 = 0 then (if bt181.1.toList = x0.toList then (some (x169000, x169001, x169002, x169003, true)) else (some (0, 0, 0, 0, false))) else (some (0, 0, 0, 0, false))))
end
def tamisref05_Parse.f (k : Nat) (a0 : ByteArray) : Option (Int × Int × Int × Int × Bool) := (tamisref05_words.f k a0).bind fun t158 => ((tamisref04_All.f).bind fun t161 => (tamisref05_Parse.l0 k a0 t158 t161 0))
theorem tamisref05_Parse.mono_l : ∀ k, (∀ y0 y1 y2 y3, LeO (tamisref05_Parse.l0 k y0 y1 y2 y3) (tamisref05_Parse.l0 (k + 1) y0 y1 y2 y3)) ∧ (∀ y0 y1 y2 y3 y4 y5 y6 y7 y8 y9, LeO (tamisref05_Parse.j1 k y0 y1 y2 y3 y4 y5 y6 y7 y8 y9) (tamisref05_Parse.j1 (k + 1) y0 y1 y2 y3 y4 y5 y6 y7 y8 y9)) ∧ (∀ y0 y1 y2 y3 y4 y5 y6 y7 y8, LeO (tamisref05_Parse.j2 k y0 y1 y2 y3 y4 y5 y6 y7 y8) (tamisref05_Parse.j2 (k + 1) y0 y1 y2 y3 y4 y5 y6 y7 y8)) ∧ (∀ y0 y1 y2 y3 y4 y5 y6 y7, LeO (tamisref05_Parse.j3 k y0 y1 y2 y3 y4 y5 y6 y7) (tamisref05_Parse.j3 (k + 1) y0 y1 y2 y3 y4 y5 y6 y7))
  | 0 => ⟨fun _ _ _ _ r h => by simp [tamisref05_Parse.l0] at h, fun _ _ _ _ _ _ _ _ _ _ r h => by simp [tamisref05_Parse.j1] at h, fun _ _ _ _ _ _ _ _ _ r h => by simp [tamisref05_Parse.j2] at h, fun _ _ _ _ _ _ _ _ r h => by simp [tamisref05_Parse.j3] at h⟩
  | k + 1 => by
    obtain ⟨ih0, ih1, ih2, ih3⟩ := tamisref05_Parse.mono_l k
    refine ⟨?_, ?_, ?_, ?_⟩
    · intro y0 y1 y2 y3
      unfold tamisref05_Parse.l0
      repeat' first
      | (with_reducible exact ih0 _ _ _ _)
      | (with_reducible exact ih1 _ _ _ _ _ _ _ _ _ _)
      | (with_reducible exact ih2 _ _ _ _ _ _ _ _ _)
      | (with_reducible exact ih3 _ _ _ _ _ _ _ _)
      | (with_reducible exact tamisref04_Kind.mono _ _)
      | (with_reducible exact tamisref04_Name.mono _ _)
      | (with_reducible exact tamisref05_Line.mono _ _ _ _ _)
      | (with_reducible exact tamisref05_hasK.mono _ _)
      | (with_reducible exact tamisref05_value.mono _ _)
      | (with_reducible exact tamisref05_words.mono _ _)
      | (with_reducible exact LeO.refl _)
      | (with_reducible exact LeO.none _)
      | (with_reducible refine LeO.ite ?_ ?_)
      | (with_reducible refine LeO.bind ?_ (fun _ => ?_))
      | exact ih0 _ _ _ _
      | exact ih1 _ _ _ _ _ _ _ _ _ _
      | exact ih2 _ _ _ _ _ _ _ _ _
      | exact ih3 _ _ _ _ _ _ _ _
      | exact tamisref04_Kind.mono _ _
      | exact tamisref04_Name.mono _ _
      | exact tamisref05_Line.mono _ _ _ _ _
      | exact tamisref05_hasK.mono _ _
      | exact tamisref05_value.mono _ _
      | exact tamisref05_words.mono _ _
      | exact LeO.none _
      | refine LeO.ite ?_ ?_
      | refine LeO.bind ?_ (fun _ => ?_)
    · intro y0 y1 y2 y3 y4 y5 y6 y7 y8 y9
      unfold tamisref05_Parse.j1
      repeat' first
      | (with_reducible exact ih0 _ _ _ _)
      | (with_reducible exact ih1 _ _ _ _ _ _ _ _ _ _)
      | (with_reducible exact ih2 _ _ _ _ _ _ _ _ _)
      | (with_reducible exact ih3 _ _ _ _ _ _ _ _)
      | (with_reducible exact tamisref04_Kind.mono _ _)
      | (with_reducible exact tamisref04_Name.mono _ _)
      | (with_reducible exact tamisref05_Line.mono _ _ _ _ _)
      | (with_reducible exact tamisref05_hasK.mono _ _)
      | (with_reducible exact tamisref05_value.mono _ _)
      | (with_reducible exact tamisref05_words.mono _ _)
      | (with_reducible exact LeO.refl _)
      | (with_reducible exact LeO.none _)
      | (with_reducible refine LeO.ite ?_ ?_)
      | (with_reducible refine LeO.bind ?_ (fun _ => ?_))
      | exact ih0 _ _ _ _
      | exact ih1 _ _ _ _ _ _ _ _ _ _
      | exact ih2 _ _ _ _ _ _ _ _ _
      | exact ih3 _ _ _ _ _ _ _ _
      | exact tamisref04_Kind.mono _ _
      | exact tamisref04_Name.mono _ _
      | exact tamisref05_Line.mono _ _ _ _ _
      | exact tamisref05_hasK.mono _ _
      | exact tamisref05_value.mono _ _
      | exact tamisref05_words.mono _ _
      | exact LeO.none _
      | refine LeO.ite ?_ ?_
      | refine LeO.bind ?_ (fun _ => ?_)
    · intro y0 y1 y2 y3 y4 y5 y6 y7 y8
      unfold tamisref05_Parse.j2
      repeat' first
      | (with_reducible exact ih0 _ _ _ _)
      | (with_reducible exact ih1 _ _ _ _ _ _ _ _ _ _)
      | (with_reducible exact ih2 _ _ _ _ _ _ _ _ _)
      | (with_reducible exact ih3 _ _ _ _ _ _ _ _)
      | (with_reducible exact tamisref04_Kind.mono _ _)
      | (with_reducible exact tamisref04_Name.mono _ _)
      | (with_reducible exact tamisref05_Line.mono _ _ _ _ _)
      | (with_reducible exact tamisref05_hasK.mono _ _)
      | (with_reducible exact tamisref05_value.mono _ _)
      | (with_reducible exact tamisref05_words.mono _ _)
      | (with_reducible exact LeO.refl _)
      | (with_reducible exact LeO.none _)
      | (with_reducible refine LeO.ite ?_ ?_)
      | (with_reducible refine LeO.bind ?_ (fun _ => ?_))
      | exact ih0 _ _ _ _
      | exact ih1 _ _ _ _ _ _ _ _ _ _
      | exact ih2 _ _ _ _ _ _ _ _ _
      | exact ih3 _ _ _ _ _ _ _ _
      | exact tamisref04_Kind.mono _ _
      | exact tamisref04_Name.mono _ _
      | exact tamisref05_Line.mono _ _ _ _ _
      | exact tamisref05_hasK.mono _ _
      | exact tamisref05_value.mono _ _
      | exact tamisref05_words.mono _ _
      | exact LeO.none _
      | refine LeO.ite ?_ ?_
      | refine LeO.bind ?_ (fun _ => ?_)
    · intro y0 y1 y2 y3 y4 y5 y6 y7
      unfold tamisref05_Parse.j3
      repeat' first
      | (with_reducible exact ih0 _ _ _ _)
      | (with_reducible exact ih1 _ _ _ _ _ _ _ _ _ _)
      | (with_reducible exact ih2 _ _ _ _ _ _ _ _ _)
      | (with_reducible exact ih3 _ _ _ _ _ _ _ _)
      | (with_reducible exact tamisref04_Kind.mono _ _)
      | (with_reducible exact tamisref04_Name.mono _ _)
      | (with_reducible exact tamisref05_Line.mono _ _ _ _ _)
      | (with_reducible exact tamisref05_hasK.mono _ _)
      | (with_reducible exact tamisref05_value.mono _ _)
      | (with_reducible exact tamisref05_words.mono _ _)
      | (with_reducible exact LeO.refl _)
      | (with_reducible exact LeO.none _)
      | (with_reducible refine LeO.ite ?_ ?_)
      | (with_reducible refine LeO.bind ?_ (fun _ => ?_))
      | exact ih0 _ _ _ _
      | exact ih1 _ _ _ _ _ _ _ _ _ _
      | exact ih2 _ _ _ _ _ _ _ _ _
      | exact ih3 _ _ _ _ _ _ _ _
      | exact tamisref04_Kind.mono _ _
      | exact tamisref04_Name.mono _ _
      | exact tamisref05_Line.mono _ _ _ _ _
      | exact tamisref05_hasK.mono _ _
      | exact tamisref05_value.mono _ _
      | exact tamisref05_words.mono _ _
      | exact LeO.none _
      | refine LeO.ite ?_ ?_
      | refine LeO.bind ?_ (fun _ => ?_)
theorem tamisref05_Parse.mono : ∀ a0 k, LeO (tamisref05_Parse.f k a0) (tamisref05_Parse.f (k + 1) a0) := by
  intro a0 k
  obtain ⟨ih0, ih1, ih2, ih3⟩ := tamisref05_Parse.mono_l k
  unfold tamisref05_Parse.f
  repeat' first
      | (with_reducible exact ih0 _ _ _ _)
      | (with_reducible exact ih1 _ _ _ _ _ _ _ _ _ _)
      | (with_reducible exact ih2 _ _ _ _ _ _ _ _ _)
      | (with_reducible exact ih3 _ _ _ _ _ _ _ _)
      | (with_reducible exact tamisref04_Kind.mono _ _)
      | (with_reducible exact tamisref04_Name.mono _ _)
      | (with_reducible exact tamisref05_Line.mono _ _ _ _ _)
      | (with_reducible exact tamisref05_hasK.mono _ _)
      | (with_reducible exact tamisref05_value.mono _ _)
      | (with_reducible exact tamisref05_words.mono _ _)
      | (with_reducible exact LeO.refl _)
      | (with_reducible exact LeO.none _)
      | (with_reducible refine LeO.ite ?_ ?_)
      | (with_reducible refine LeO.bind ?_ (fun _ => ?_))
      | exact ih0 _ _ _ _
      | exact ih1 _ _ _ _ _ _ _ _ _ _
      | exact ih2 _ _ _ _ _ _ _ _ _
      | exact ih3 _ _ _ _ _ _ _ _
      | exact tamisref04_Kind.mono _ _
      | exact tamisref04_Name.mono _ _
      | exact tamisref05_Line.mono _ _ _ _ _
      | exact tamisref05_hasK.mono _ _
      | exact tamisref05_value.mono _ _
      | exact tamisref05_words.mono _ _
      | exact LeO.none _
      | refine LeO.ite ?_ ?_
      | refine LeO.bind ?_ (fun _ => ?_)
def tamisref05_Parse.T6 : Bool × List (List Nat × List Nat) := (true, [([], []), ([], []), ([0, 1], [0, 1]), ([2], [2]), ([3], [3]), ([], []), ([5], [5]), ([6], [6]), ([4, 7], [4, 7])])
def tamisref05_Parse.B6 : List Nat := [0, 0, 3, 7, 15, 0, 32, 96, 255]
theorem tamisref05_Parse.tab6 : rtab .any (opsOf Tryd.f13 6) = tamisref05_Parse.T6 := by kernel_rfl
theorem tamisref05_Parse.bits6 : waitsOk tamisref05_Parse.T6.2 tamisref05_Parse.B6 = true := by kernel_rfl
set_option maxHeartbeats 8000000 in
set_option maxRecDepth 100000 in
theorem tamisref05_Parse.calls (k : Nat) (a0 : ByteArray) (r1 : Int) (r2 : Int) (r3 : Int) (r4 : Int) (r5 : Bool) (w : World) (h : tamisref05_Parse.f k a0 = some (r1, r2, r3, r4, r5)) :
    Calls Tryd.prog 13 #[.string a0] w fun e w' => e = .returned (.tuple #[.agg #[.int .u16 r1, .int .u8 r2, .int .u8 r3, .int .u32 r4], .bool r5]) ∧ Below w.heap.size w w' := by
  have hu25 := Tryd.underlying25
  have HB := Aside0.mk (Below.refl w.heap.size w)
  have H : ((tamisref05_words.f k a0).bind fun t158 => ((tamisref04_All.f).bind fun t161 => (tamisref05_Parse.l0 k a0 t158 t161 0))) = some (r1, r2, r3, r4, r5) := h
  clear h
  replace H := Option.bind_eq_some_iff.mp H
  obtain ⟨t158, A20, H⟩ := H
  replace H : ((tamisref04_All.f).bind fun t161 => (tamisref05_Parse.l0 k a0 t158 t161 0)) = some (r1, r2, r3, r4, r5) := H
  have A2 := Aside0.mk A20
  clear A20
  replace H := Option.bind_eq_some_iff.mp H
  obtain ⟨t161, A30, H⟩ := H
  replace H : (tamisref05_Parse.l0 k a0 t158 t161 0) = some (r1, r2, r3, r4, r5) := H
  have A3 := Aside0.mk A30
  clear A30
  have H' := Aside0.mk H
  clear H
  go_enter Tryd.func13, Tryd.ntmps13
  go_wp2_with (first | ((with_reducible refine gate_dst (N := 2) rfl ?_); (try (refine gate_guard (by rfl) ?_; dsimp only)); refine box_event ?hg (N := 2) ?hd (cs := #[.int .u16 0, .int .u8 0, .int .u8 0, .int .u32 0]) (t := 25) ?hr ?_; (case hd => rfl); (case hg => rfl); (case hr => first | (go_simp; done) | (go_simp; rfl)); intro gb157 hg w4 hbox hb; have n0_ := Aside0.mk (below_step (by repeat (first | (with_reducible first | exact HB.out | apply below_alloc | apply pw_below_drewN | apply below_drew1) | exact HB.out)) hb); have n1_ := Aside0.mk (hbox); have n2_ := Aside0.mk ((by rw [hg]; exact (below_size (by repeat (first | (with_reducible first | exact HB.out | apply below_alloc | apply pw_below_drewN | apply below_drew1) | exact HB.out))) : w.heap.size ≤ gb157)); have n3_ := Aside0.mk ((by rw [hg]; exact (below_size (by repeat (first | (with_reducible first | exact HB.out | apply below_alloc | apply pw_below_drewN | apply below_drew1) | exact HB.out))) : w.heap.size ≤ gb157)); clear HB; have HB := n0_; have BK157 := n1_; have GW157 := n2_; have GE157 := n3_; clear n0_ n1_ n2_ n3_; clear hb hbox hg) | ((with_reducible refine gate_callee (f := 30) rfl ?_); refine goesL_ (some 12) rfl rfl Tryd.func30 (by kernel_rfl) rfl #[.string a0] rfl (by (try simp only [List.map_toArray, List.map_cons, List.map_nil]); first | done | rfl | (simp only [List.length_drop, List.length_take]; rfl)) ?_; (with_reducible refine (tamisref05_words.calls k a0 t158 _ A2.out).mono ?_); rintro e w5 ⟨v159, rfl, ho0, hb⟩; refine ⟨_, rfl, ?_⟩; have n0_ := Aside0.mk (Kd.R_lower ho0 (below_size (by repeat (first | (with_reducible first | exact HB.out | apply below_alloc | apply pw_below_drewN | apply below_drew1 | refine below_set ?_ GE157.out) | exact HB.out)))); have n1_ := Aside0.mk (blk_below (g := gb157) (o := .cells #[.int .u16 0, .int .u8 0, .int .u8 0, .int .u32 0] 25 (0, 0)) (by (with_reducible repeat (first | refine blk_drewN ?_ _ | refine blk_drew ?_ | refine blk_alloc ?_ _)); exact BK157.out) hb); have n2_ := Aside0.mk (below_step (by repeat (first | (with_reducible first | exact HB.out | apply below_alloc | apply pw_below_drewN | apply below_drew1 | refine below_set ?_ GE157.out) | exact HB.out)) hb); clear BK157; clear HB; have HO160 := n0_; have BK157 := n1_; have HB := n2_; clear n0_ n1_ n2_; (try clear hb); (try clear hb2); (try clear hk); (try clear hi); (try clear ho0)) | ((with_reducible refine gate_callee (f := 31) rfl ?_); refine goesL_ (some 13) rfl rfl Tryd.func31 (by kernel_rfl) rfl #[] rfl (by (try simp only [List.map_toArray, List.map_cons, List.map_nil]); first | done | rfl | (simp only [List.length_drop, List.length_take]; rfl)) ?_; (with_reducible refine (tamisref04_All.calls  t161 _ A3.out).mono ?_); rintro e w6 ⟨v162, rfl, ho0, hb⟩; refine ⟨_, rfl, ?_⟩; have n0_ := Aside0.mk (Kd.R_below (by (with_reducible repeat (first | apply Kd.R_alloc | apply Kd.R_drewN | apply Kd.R_drew)); exact HO160.out) hb); have n1_ := Aside0.mk (Kd.R_lower ho0 (below_size (by repeat (first | (with_reducible first | exact HB.out | apply below_alloc | apply pw_below_drewN | apply below_drew1 | refine below_set ?_ GE157.out) | exact HB.out)))); have n2_ := Aside0.mk (blk_below (g := gb157) (o := .cells #[.int .u16 0, .int .u8 0, .int .u8 0, .int .u32 0] 25 (0, 0)) (by (with_reducible repeat (first | refine blk_drewN ?_ _ | refine blk_drew ?_ | refine blk_alloc ?_ _)); exact BK157.out) hb); have n3_ := Aside0.mk (below_step (by repeat (first | (with_reducible first | exact HB.out | apply below_alloc | apply pw_below_drewN | apply below_drew1 | refine below_set ?_ GE157.out) | exact HB.out)) hb); clear HO160; clear BK157; clear HB; have HO160 := n0_; have HO163 := n1_; have BK157 := n2_; have HB := n3_; clear n0_ n1_ n2_ n3_; (try clear hb); (try clear hb2); (try clear hk); (try clear hi); (try clear ho0)))
  go_loopg [6] k (fun kq v6 w' => ∃ (x6_1 : Int) (x158000_1 : Int) (x158001_1 : Int) (x158002_1 : Int) (x158003_1 : Int), v6 = .int .i64 x6_1 ∧ Aside0 (tamisref05_Parse.l0 kq a0 t158 t161 x6_1 = some (r1, r2, r3, r4, r5)) ∧ Aside0 (kq ≤ k) ∧ Aside0 (Kd.R Kd.string 9 w' w.heap.size (fun _ => True) v159 t158) ∧ Aside0 (Kd.R (Kd.int .u16) 22 w' w.heap.size (fun _ => True) v162 t161) ∧ Aside0 (w'.heap[gb157]? = some (.cells #[.int .u16 x158000_1, .int .u8 x158001_1, .int .u8 x158002_1, .int .u32 x158003_1] 25 (0, 0))) ∧ Aside0 (Below w.heap.size w w'))
  case atStart => exact ⟨(0), (0), (0), (0), (0), (by first | rfl | (simp; done) | (simp [*]; done)), H', ⟨Nat.le_refl _⟩, ⟨by (with_reducible repeat (first | apply Kd.R_alloc | apply Kd.R_drewN | apply Kd.R_drew)); exact HO160.out⟩, ⟨by (with_reducible repeat (first | apply Kd.R_alloc | apply Kd.R_drewN | apply Kd.R_drew)); exact HO163.out⟩, ⟨by (with_reducible repeat (first | refine blk_drewN ?_ _ | refine blk_drew ?_ | refine blk_alloc ?_ _)); exact BK157.out⟩, ⟨by repeat (first | (with_reducible first | exact HB.out | apply below_alloc | apply pw_below_drewN | apply below_drew1 | refine below_set ?_ GE157.out) | exact HB.out)⟩⟩
  case round =>
    clear H'
    try clear c1
    try clear p2
    try clear c3
    obtain ⟨x6_1, x158000_1, x158001_1, x158002_1, x158003_1, rfl, HA, HK1, HO_4, HO_5, BK157, HB⟩ := hrel
    cases gk with
    | zero => exact absurd HA.out (by simp [tamisref05_Parse.l0])
    | succ k1 =>
      have H := HA.out
      clear HA
      simp only [tamisref05_Parse.l0] at H
      by_cases c7 : x6_1 < (t161.length : Int)
      · rw [if_pos c7] at H
        have c7b0 : decide (x6_1 < (t161.length : Int)) = true := decide_eq_true c7
        clear c7
        by_cases c8 : 0 ≤ x6_1
        · rw [if_pos c8] at H
          have c8b0 : decide (0 ≤ x6_1) = true := decide_eq_true c8
          clear c8
          replace H := Option.bind_eq_some_iff.mp H
          obtain ⟨t165, A90, H⟩ := H
          replace H : (if 0 < (t158.length : Int) then (if t165.toList = (rdOf ByteArray.empty t158 0).toList then ((tamisref05_hasK.f k1 (rd t161 x6_1)).bind fun t170 => (if t170 = true then (tamisref05_Parse.j1 k1 a0 t158 t161 x6_1 1 (decide ((t158.length : Int) > 1)) (rd t161 x6_1) 0 0 0) else (tamisref05_Parse.j1 k1 a0 t158 t161 x6_1 1 false (rd t161 x6_1) 0 0 0))) else (tamisref05_Parse.l0 k1 a0 t158 t161 (wrap64 (x6_1 + 1)))) else (none)) = some (r1, r2, r3, r4, r5) := H
          have A9 := Aside0.mk A90
          clear A90
          by_cases c10 : 0 < (t158.length : Int)
          · rw [if_pos c10] at H
            have c10b0 : decide (0 < (t158.length : Int)) = true := decide_eq_true c10
            have c10b1 : decide (0 < t158.length) = true := decide_eq_true (by omega)
            clear c10
            by_cases c11 : t165.toList = (rdOf ByteArray.empty t158 0).toList
            · rw [if_pos c11] at H
              have c11b0 : (t165.toList == (rdOf ByteArray.empty t158 0).toList) = true := beq_iff_eq.mpr c11
              have c11b1 : (t165.toList != (rdOf ByteArray.empty t158 0).toList) = false := bne_eq_false_iff_eq.mpr c11
              clear c11
              have HC12 := Aside0.mk H
              clear H
              obtain ⟨Ao13, co13, eo13⟩ := Kd.R_slice HO_5.out
              subst eo13
              try go_wp2
              have n0_ := Aside0.mk (Kd.R_drew HO_4.out)
              have n1_ := Aside0.mk (Kd.R_drew HO_5.out)
              have n2_ := Aside0.mk (blk_drew BK157.out)
              have n3_ := Aside0.mk (below_drew1 HB.out)
              clear HO_4
              clear HO_5
              clear BK157
              clear HB
              have HO_4 := n0_
              have HO_5 := n1_
              have BK157 := n2_
              have HB := n3_
              clear n0_ n1_ n2_ n3_
              have p164 : 0 ≤ (x6_1 : Int) := of_decide_eq_true (by first | (with_reducible assumption) | assumption)
              have q164 : x6_1 < (t161.length : Int) := of_decide_eq_true (by first | (with_reducible assumption) | assumption)
              obtain ⟨ad164, e164, hx164_0⟩ := Kd.at_int (Kd.R_reads' HO_5.out).2.2 x6_1 p164 q164
              cases e164
              replace p164 := eq_true p164
              replace q164 := eq_true q164
              obtain ⟨Ao15, co15, eo15⟩ := Kd.R_slice HO_4.out
              (first | subst eo15 | (injection eo15 with f1_ f2_ f3_; have f4_ := f1_.symm; have f5_ := f3_.symm; clear f1_ f2_ f3_; subst f4_; subst f5_))
              have p166 : 0 ≤ (0 : Int) := (by omega)
              have q166 : 0 < (t158.length : Int) := of_decide_eq_true (by first | (with_reducible assumption) | assumption)
              obtain ⟨ad166, e166, hx166_0⟩ := Kd.at_string (Kd.R_reads' HO_4.out).2.2 0 p166 q166
              cases e166
              have qi166 : (0 < t158.length) = True := eq_true (by omega)
              (try rw [show ((0 : Int)).toNat = 0 from rfl] at hx166_0)
              (try rw [Addr.add_zero'] at hx166_0)
              replace p166 := eq_true p166
              replace q166 := eq_true q166
              refine start_ (n := 9) (S := fun w' => w'.cell? (ad164.add (x6_1).toNat) = some (.int .u16 (rd t161 x6_1)) ∧ w'.cell? ad166 = some (.string (rdOf ByteArray.empty t158 0))) (ds := []) #[false, false, false, false, false, false, false, false, false] (by kernel_rfl) rfl rfl ⟨hx164_0, hx166_0⟩ (fun hHeld => ?_); refine with_tabW tamisref05_Parse.tab6 tamisref05_Parse.bits6 (fun HT_ HW_ => ?_)
              generalize wr.drew = w14 at HO_4 HO_5 BK157 HB hx164_0 hx166_0 hHeld ⊢
              refine pure_ (i := 0) (N := some 20) (v := ?_) (a' := ?_) #[true, false, false, false, false, false, false, false, false] rfl rfl (any_of HT_.out (by kernel_rfl)) (fun _ _ _ h => h) (Or.inl ⟨by rfl, ?_⟩) ?_ ?_
              rotate_left
              · intro w'
                go_simp
                with_reducible rfl
              rotate_left
              · simp only [Act.put, List.setIfInBounds_toArray, List.set_cons_zero, List.set_cons_succ, i64_w, i32_w]
                rfl
              refine pure_ (i := 1) (N := some 21) (v := ?_) (a' := ?_) #[true, true, false, false, false, false, false, false, false] rfl rfl (any_of HT_.out (by kernel_rfl)) (fun _ _ _ h => h) (Or.inl ⟨by rfl, ?_⟩) ?_ ?_
              rotate_left
              · intro w'
                go_simp
                with_reducible rfl
              rotate_left
              · simp only [Act.put, List.setIfInBounds_toArray, List.set_cons_zero, List.set_cons_succ, i64_w, i32_w]
                rfl
              refine pure_ (i := 2) (N := some 22) (v := ?_) (a' := ?_) #[true, true, true, false, false, false, false, false, false] rfl rfl (any_of HT_.out (by kernel_rfl)) (fun _ _ _ h => h) (Or.inl ⟨by rfl, ?_⟩) ?_ ?_
              rotate_left
              · intro w'
                go_simp
                with_reducible rfl
              rotate_left
              · simp only [Act.put, List.setIfInBounds_toArray, List.set_cons_zero, List.set_cons_succ, i64_w, i32_w]
                rfl
              refine pure_ (i := 5) (N := some 25) (v := ?_) (a' := ?_) #[true, true, true, false, false, true, false, false, false] rfl rfl (any_of HT_.out (by kernel_rfl)) (fun _ _ _ h => h) (Or.inl ⟨by rfl, ?_⟩) ?_ ?_
              rotate_left
              · intro w'
                go_simp
                with_reducible rfl
              rotate_left
              · simp only [Act.put, List.setIfInBounds_toArray, List.set_cons_zero, List.set_cons_succ, i64_w, i32_w]
                rfl
              refine pure_ (i := 6) (N := some 26) (v := ?_) (a' := ?_) #[true, true, true, false, false, true, true, false, false] rfl rfl (any_of HT_.out (by kernel_rfl)) (fun _ _ _ h => h) (Or.inl ⟨by rfl, ?_⟩) ?_ ?_
              rotate_left
              · intro w'
                go_simp
                with_reducible rfl
              rotate_left
              · simp only [Act.put, List.setIfInBounds_toArray, List.set_cons_zero, List.set_cons_succ, i64_w, i32_w]
                rfl
              refine take_ (i := 3) (N := some 23) (v := ?_) (a' := ?_) #[true, true, true, true, false, true, true, false, false] rfl rfl (take_ofW HT_.out HW_.out (by kernel_rfl)) (fun _ _ _ h => h) (Or.inl ⟨by rfl, ?_⟩) hHeld ?_ ?_
              rotate_left
              · rintro w' ⟨s0, s1⟩
                go_simp
                with_reducible rfl
              rotate_left
              · simp only [Act.put, List.setIfInBounds_toArray, List.set_cons_zero, List.set_cons_succ, i64_w, i32_w]
                rfl
              refine take_ (i := 7) (N := some 27) (v := ?_) (a' := ?_) #[true, true, true, true, false, true, true, true, false] rfl rfl (take_ofW HT_.out HW_.out (by kernel_rfl)) (fun _ _ _ h => h) (Or.inl ⟨by rfl, ?_⟩) hHeld ?_ ?_
              rotate_left
              · rintro w' ⟨s0, s1⟩
                go_simp
                with_reducible rfl
              rotate_left
              · simp only [Act.put, List.setIfInBounds_toArray, List.set_cons_zero, List.set_cons_succ, i64_w, i32_w]
                rfl
              refine one_ (i := 4) (N := some 24) #[true, true, true, true, true, true, true, true, false] rfl rfl (one_of HT_.out (by kernel_rfl)) (by decide) (fun K hK => ?_)
              refine goes_ Tryd.func24 (by kernel_rfl) rfl #[.int .u16 (rd t161 x6_1)] (by rfl) rfl rfl (by (try simp only [List.map_toArray, List.map_cons, List.map_nil]); first | done | rfl | (simp only [List.length_drop, List.length_take]; rfl)) ?_
              with_reducible refine (tamisref04_Name.calls k1 (rd t161 x6_1) t165 _ A9.out).mono ?_
              rintro e w16 ⟨rfl, hb⟩
              have HS0_ := (hb.cell (World.block_lt_of_cell? _ _ (hHeld.1))).trans (hHeld.1)
              have HS1_ := (hb.cell (World.block_lt_of_cell? _ _ (hHeld.2))).trans (hHeld.2)
              refine ⟨_, rfl, ?_⟩
              have n0_ := Aside0.mk (Kd.R_below (by (with_reducible repeat (first | apply Kd.R_alloc | apply Kd.R_drewN | apply Kd.R_drew)); exact HO_4.out) hb)
              have n1_ := Aside0.mk (Kd.R_below (by (with_reducible repeat (first | apply Kd.R_alloc | apply Kd.R_drewN | apply Kd.R_drew)); exact HO_5.out) hb)
              have n2_ := Aside0.mk (blk_below (g := gb157) (o := .cells #[.int .u16 x158000_1, .int .u8 x158001_1, .int .u8 x158002_1, .int .u32 x158003_1] 25 (0, 0)) (by (with_reducible repeat (first | refine blk_drewN ?_ _ | refine blk_drew ?_ | refine blk_alloc ?_ _)); exact BK157.out) hb)
              have n3_ := Aside0.mk (below_step (by repeat (first | (with_reducible first | exact HB.out | apply below_alloc | apply pw_below_drewN | apply below_drew1 | refine below_set ?_ GE157.out) | exact HB.out)) hb)
              clear HO_4
              clear HO_5
              clear BK157
              clear HB
              have HO_4 := n0_
              have HO_5 := n1_
              have BK157 := n2_
              have HB := n3_
              clear n0_ n1_ n2_ n3_
              (try clear hb)
              (try clear hb2)
              (try clear hk)
              (try clear hi)
              refine hK.out _ _ ⟨HS0_, HS1_⟩ (fun hHeld => ?_)
              clear hK K
              refine norm_ (a' := ?_) ?_ ?_
              rotate_left
              · show Act.put _ (some 24) _ = _
                simp only [Act.put, List.setIfInBounds_toArray, List.set_cons_zero, List.set_cons_succ, i64_w, i32_w]
                rfl
              refine pure_ (i := 8) (N := some 28) (v := ?_) (a' := ?_) #[true, true, true, true, true, true, true, true, true] rfl rfl (any_of HT_.out (by kernel_rfl)) (fun _ _ _ h => h) (Or.inl ⟨by rfl, ?_⟩) ?_ ?_
              rotate_left
              · intro w'
                go_simp
                with_reducible rfl
              rotate_left
              · simp only [Act.put, List.setIfInBounds_toArray, List.set_cons_zero, List.set_cons_succ, i64_w, i32_w]
                rfl
              refine done_ (done_of HT_.out (by kernel_rfl)) ?_
              have p167 : 0 ≤ (x6_1 : Int) := of_decide_eq_true (by first | (with_reducible assumption) | assumption)
              have q167 : x6_1 < (t161.length : Int) := of_decide_eq_true (by first | (with_reducible assumption) | assumption)
              obtain ⟨ad167, e167, hx167_0⟩ := Kd.at_int (Kd.R_reads' HO_5.out).2.2 x6_1 p167 q167
              obtain rfl : ad164 = ad167 := (by injection e167)
              replace p167 := eq_true p167
              replace q167 := eq_true q167
              go_upto_region 9 with (first | ((with_reducible refine gate_dst (N := 7) rfl ?_); (try (refine gate_guard (by rfl) ?_; dsimp only)); refine box_event ?hg (N := 7) ?hd (cs := #[.int .u16 0, .int .u8 0, .int .u8 0, .int .u32 0]) (t := 25) ?hr ?_; (case hd => rfl); (case hg => rfl); (case hr => first | (go_simp; done) | (go_simp; rfl)); intro gb168 hg w17 hbox hb; have n0_ := Aside0.mk (Kd.R_below (by (with_reducible repeat (first | apply Kd.R_alloc | apply Kd.R_drewN | apply Kd.R_drew)); exact HO_4.out) hb); have n1_ := Aside0.mk (Kd.R_below (by (with_reducible repeat (first | apply Kd.R_alloc | apply Kd.R_drewN | apply Kd.R_drew)); exact HO_5.out) hb); have n2_ := Aside0.mk (blk_below (g := gb157) (o := .cells #[.int .u16 x158000_1, .int .u8 x158001_1, .int .u8 x158002_1, .int .u32 x158003_1] 25 (0, 0)) (by (with_reducible repeat (first | refine blk_drewN ?_ _ | refine blk_drew ?_ | refine blk_alloc ?_ _)); exact BK157.out) hb); have n3_ := Aside0.mk (below_step (by repeat (first | (with_reducible first | exact HB.out | apply below_alloc | apply pw_below_drewN | apply below_drew1 | refine below_set ?_ GE157.out) | exact HB.out)) hb); have n4_ := Aside0.mk (hbox); have n5_ := Aside0.mk ((by rw [hg]; exact (below_size (by repeat (first | (with_reducible first | exact HB.out | apply below_alloc | apply pw_below_drewN | apply below_drew1 | refine below_set ?_ GE157.out) | exact HB.out))) : w.heap.size ≤ gb168)); have n6_ := Aside0.mk ((by rw [hg]; exact (below_size (by repeat (first | (with_reducible first | exact HB.out | apply below_alloc | apply pw_below_drewN | apply below_drew1 | refine below_set ?_ GE157.out) | exact HB.out))) : w.heap.size ≤ gb168)); have n7_ := Aside0.mk ((by rw [hg]; exact Nat.ne_of_lt (blk_lt (g := gb157) (o := .cells #[.int .u16 x158000_1, .int .u8 x158001_1, .int .u8 x158002_1, .int .u32 x158003_1] 25 (0, 0)) (by (with_reducible repeat (first | refine blk_drewN ?_ _ | refine blk_drew ?_ | refine blk_alloc ?_ _)); exact BK157.out)) : gb157 ≠ gb168)); have n8_ := Aside0.mk ((by rw [hg]; exact Nat.ne_of_gt (blk_lt (g := gb157) (o := .cells #[.int .u16 x158000_1, .int .u8 x158001_1, .int .u8 x158002_1, .int .u32 x158003_1] 25 (0, 0)) (by (with_reducible repeat (first | refine blk_drewN ?_ _ | refine blk_drew ?_ | refine blk_alloc ?_ _)); exact BK157.out)) : gb168 ≠ gb157)); clear HO_4; clear HO_5; clear BK157; clear HB; have HO_4 := n0_; have HO_5 := n1_; have BK157 := n2_; have HB := n3_; have BK168 := n4_; have GW168 := n5_; have GE168 := n6_; have NB157_168 := n7_; have NB168_157 := n8_; clear n0_ n1_ n2_ n3_ n4_ n5_ n6_ n7_ n8_; clear hb hbox hg; have hnb18 := NB168_157.out; have hnc18 := NB157_168.out; have hcz19_0 : w17.cell? ⟨gb168, 0, none⟩ = some (.int .u16 0) := (blk_cell BK168.out 0).trans rfl; have hcz19_1 : w17.cell? ⟨gb168, 1, none⟩ = some (.int .u8 0) := (blk_cell BK168.out 1).trans rfl; have hcz19_2 : w17.cell? ⟨gb168, 2, none⟩ = some (.int .u8 0) := (blk_cell BK168.out 2).trans rfl; have hcz19_3 : w17.cell? ⟨gb168, 3, none⟩ = some (.int .u32 0) := (blk_cell BK168.out 3).trans rfl; have hfz19_0 := blk_frozen BK168.out 0; have hfz19_1 := blk_frozen BK168.out 1; have hfz19_2 := blk_frozen BK168.out 2; have hfz19_3 := blk_frozen BK168.out 3))
              (try simp only [Act.put, List.setIfInBounds_toArray, List.set_cons_zero, List.set_cons_succ])
              go_cut [44] (fun v44 wc => ∃ (kq : Nat) (x44_11 : Bool), v44 = .bool x44_11 ∧ Aside0 (tamisref05_Parse.j1 kq a0 t158 t161 x6_1 1 x44_11 (rd t161 x6_1) 0 0 0 = some (r1, r2, r3, r4, r5)) ∧ Aside0 (kq ≤ k1) ∧ Aside0 (Kd.R Kd.string 9 wc w.heap.size (fun _ => True) (.slice (some ad166) t158.length co15) t158) ∧ Aside0 (Kd.R (Kd.int .u16) 22 wc w.heap.size (fun _ => True) (.slice (some ad164) t161.length co13) t161) ∧ Aside0 (wc.heap[gb157]? = some (.cells #[.int .u16 x158000_1, .int .u8 x158001_1, .int .u8 x158002_1, .int .u32 x158003_1] 25 (0, 0))) ∧ Aside0 (wc.heap[gb168]? = some (.cells #[.int .u16 (rd t161 x6_1), .int .u8 0, .int .u8 0, .int .u32 0] 25 (0, 0))) ∧ Aside0 (Below w.heap.size w wc))
              case first =>
                have H := HC12.out
                clear HC12
                replace H := Option.bind_eq_some_iff.mp H
                obtain ⟨t170, A200, H⟩ := H
                replace H : (if t170 = true then (tamisref05_Parse.j1 k1 a0 t158 t161 x6_1 1 (decide ((t158.length : Int) > 1)) (rd t161 x6_1) 0 0 0) else (tamisref05_Parse.j1 k1 a0 t158 t161 x6_1 1 false (rd t161 x6_1) 0 0 0)) = some (r1, r2, r3, r4, r5) := H
                have A20 := Aside0.mk A200
                clear A200
                by_cases c21 : t170 = true
                · subst c21
                  have H1 : (tamisref05_Parse.j1 k1 a0 t158 t161 x6_1 1 (decide ((t158.length : Int) > 1)) (rd t161 x6_1) 0 0 0) = some (r1, r2, r3, r4, r5) := by rw [if_pos rfl] at H; exact H
                  clear H
                  have H := H1
                  clear H1
                  have H' := Aside0.mk H
                  clear H
                  have p169 : 0 ≤ (x6_1 : Int) := of_decide_eq_true (by first | (with_reducible assumption) | assumption)
                  have q169 : x6_1 < (t161.length : Int) := of_decide_eq_true (by first | (with_reducible assumption) | assumption)
                  obtain ⟨ad169, e169, hx169_0⟩ := Kd.at_int (Kd.R_reads' HO_5.out).2.2 x6_1 p169 q169
                  obtain rfl : ad164 = ad169 := (by injection e169)
                  have hn169_0 : ad164.block ≠ gb168 := Kd.own_blk (Kd.R_ne HO_5.out BK168.out (by decide))
                  have hn169_1 : ad164.block ≠ gb168 := Kd.own_blk (Kd.R_ne HO_5.out BK168.out (by decide))
                  have hn169_2 : ad164.block ≠ gb168 := Kd.own_blk (Kd.R_ne HO_5.out BK168.out (by decide))
                  have hn169_3 : ad164.block ≠ gb168 := Kd.own_blk (Kd.R_ne HO_5.out BK168.out (by decide))
                  replace hx169_0 := (cell_far (p := ⟨gb168, 0, none⟩) (by first | (rw [add_block]; exact hn169_0) | (show (Addr.add _ _).block ≠ _; rw [add_block]; exact hn169_0) | exact hn169_0) (.int .u16 (rd t161 x6_1))).trans hx169_0
                  replace hx169_0 := (cell_far (p := ⟨gb168, 1, none⟩) (by first | (rw [add_block]; exact hn169_1) | (show (Addr.add _ _).block ≠ _; rw [add_block]; exact hn169_1) | exact hn169_1) (.int .u8 0)).trans hx169_0
                  replace hx169_0 := (cell_far (p := ⟨gb168, 2, none⟩) (by first | (rw [add_block]; exact hn169_2) | (show (Addr.add _ _).block ≠ _; rw [add_block]; exact hn169_2) | exact hn169_2) (.int .u8 0)).trans hx169_0
                  replace hx169_0 := (cell_far (p := ⟨gb168, 3, none⟩) (by first | (rw [add_block]; exact hn169_3) | (show (Addr.add _ _).block ≠ _; rw [add_block]; exact hn169_3) | exact hn169_3) (.int .u32 0)).trans hx169_0
                  clear hn169_0
                  clear hn169_1
                  clear hn169_2
                  clear hn169_3
                  replace p169 := eq_true p169
                  replace q169 := eq_true q169
                  go_wp2_with (first | ((with_reducible refine gate_callee (f := 26) rfl ?_); refine goesL_ (some 38) rfl rfl Tryd.func26 (by kernel_rfl) rfl #[.int .u16 (rd t161 x6_1)] rfl (by (try simp only [List.map_toArray, List.map_cons, List.map_nil]); first | done | rfl | (simp only [List.length_drop, List.length_take]; rfl)) ?_; (with_reducible refine (tamisref05_hasK.calls k1 (rd t161 x6_1) true _ A20.out).mono ?_); rintro e w22 ⟨rfl, hb⟩; refine ⟨_, rfl, ?_⟩; have n0_ := Aside0.mk (Kd.R_below (by (with_reducible repeat (first | apply Kd.R_alloc | apply Kd.R_drewN | apply Kd.R_drew)); exact (Kd.R_mono (Kd.R_far (p := ⟨gb168, 3, none⟩) (Kd.R_far (p := ⟨gb168, 2, none⟩) (Kd.R_far (p := ⟨gb168, 1, none⟩) (Kd.R_far (p := ⟨gb168, 0, none⟩) (Kd.R_types HO_4.out BK168.out (by decide)) (fun _ hk => hk.2) (.int .u16 (rd t161 x6_1))) (fun _ hk => hk.2) (.int .u8 0)) (fun _ hk => hk.2) (.int .u8 0)) (fun _ hk => hk.2) (.int .u32 0)) (fun _ h_ => h_.1))) hb); have n1_ := Aside0.mk (Kd.R_below (by (with_reducible repeat (first | apply Kd.R_alloc | apply Kd.R_drewN | apply Kd.R_drew)); exact (Kd.R_mono (Kd.R_far (p := ⟨gb168, 3, none⟩) (Kd.R_far (p := ⟨gb168, 2, none⟩) (Kd.R_far (p := ⟨gb168, 1, none⟩) (Kd.R_far (p := ⟨gb168, 0, none⟩) (Kd.R_types HO_5.out BK168.out (by decide)) (fun _ hk => hk.2) (.int .u16 (rd t161 x6_1))) (fun _ hk => hk.2) (.int .u8 0)) (fun _ hk => hk.2) (.int .u8 0)) (fun _ hk => hk.2) (.int .u32 0)) (fun _ h_ => h_.1))) hb); have n2_ := Aside0.mk (blk_below (g := gb157) (o := .cells #[.int .u16 x158000_1, .int .u8 x158001_1, .int .u8 x158002_1, .int .u32 x158003_1] 25 (0, 0)) (by (with_reducible repeat (first | refine blk_drewN ?_ _ | refine blk_drew ?_ | refine blk_alloc ?_ _)); refine blk_far ?_ NB157_168.out _; (with_reducible repeat (first | refine blk_drewN ?_ _ | refine blk_drew ?_ | refine blk_alloc ?_ _)); refine blk_far ?_ NB157_168.out _; (with_reducible repeat (first | refine blk_drewN ?_ _ | refine blk_drew ?_ | refine blk_alloc ?_ _)); refine blk_far ?_ NB157_168.out _; (with_reducible repeat (first | refine blk_drewN ?_ _ | refine blk_drew ?_ | refine blk_alloc ?_ _)); refine blk_far ?_ NB157_168.out _; (with_reducible repeat (first | refine blk_drewN ?_ _ | refine blk_drew ?_ | refine blk_alloc ?_ _)); exact BK157.out) hb); have n3_ := Aside0.mk (blk_below (g := gb168) (o := .cells #[.int .u16 (rd t161 x6_1), .int .u8 0, .int .u8 0, .int .u32 0] 25 (0, 0)) (by (with_reducible repeat (first | refine blk_drewN ?_ _ | refine blk_drew ?_ | refine blk_alloc ?_ _)); refine blk_put (cs := #[.int .u16 (rd t161 x6_1), .int .u8 0, .int .u8 0, .int .u32 0]) ?_ 3 _ rfl; (with_reducible repeat (first | refine blk_drewN ?_ _ | refine blk_drew ?_ | refine blk_alloc ?_ _)); refine blk_put (cs := #[.int .u16 (rd t161 x6_1), .int .u8 0, .int .u8 0, .int .u32 0]) ?_ 2 _ rfl; (with_reducible repeat (first | refine blk_drewN ?_ _ | refine blk_drew ?_ | refine blk_alloc ?_ _)); refine blk_put (cs := #[.int .u16 (rd t161 x6_1), .int .u8 0, .int .u8 0, .int .u32 0]) ?_ 1 _ rfl; (with_reducible repeat (first | refine blk_drewN ?_ _ | refine blk_drew ?_ | refine blk_alloc ?_ _)); refine blk_put (cs := #[.int .u16 0, .int .u8 0, .int .u8 0, .int .u32 0]) ?_ 0 _ rfl; (with_reducible repeat (first | refine blk_drewN ?_ _ | refine blk_drew ?_ | refine blk_alloc ?_ _)); exact BK168.out) hb); have n4_ := Aside0.mk (below_step (by repeat (first | (with_reducible first | exact HB.out | apply below_alloc | apply pw_below_drewN | apply below_drew1 | refine below_set ?_ GE157.out | refine below_set ?_ GE168.out) | exact HB.out)) hb); clear HO_4; clear HO_5; clear BK157; clear BK168; clear HB; have HO_4 := n0_; have HO_5 := n1_; have BK157 := n2_; have BK168 := n3_; have HB := n4_; clear n0_ n1_ n2_ n3_ n4_; (try clear hb); (try clear hb2); (try clear hk); (try clear hi)))
                  go_meet
                  case rel => exact ⟨_, (decide ((t158.length : Int) > 1)), (by first | rfl | (simp; done) | (simp [*]; done)), H', ⟨by have := HK1.out; first | omega | exact Nat.le_refl _⟩, ⟨by (with_reducible repeat (first | apply Kd.R_alloc | apply Kd.R_drewN | apply Kd.R_drew)); exact HO_4.out⟩, ⟨by (with_reducible repeat (first | apply Kd.R_alloc | apply Kd.R_drewN | apply Kd.R_drew)); exact HO_5.out⟩, ⟨by (with_reducible repeat (first | refine blk_drewN ?_ _ | refine blk_drew ?_ | refine blk_alloc ?_ _)); exact BK157.out⟩, ⟨by (with_reducible repeat (first | refine blk_drewN ?_ _ | refine blk_drew ?_ | refine blk_alloc ?_ _)); exact BK168.out⟩, ⟨by repeat (first | (with_reducible first | exact HB.out | apply below_alloc | apply pw_below_drewN | apply below_drew1 | refine below_set ?_ GE157.out | refine below_set ?_ GE168.out) | exact HB.out)⟩⟩
                · replace c21 := Bool.eq_false_iff.mpr c21
                  subst c21
                  have H1 : (tamisref05_Parse.j1 k1 a0 t158 t161 x6_1 1 false (rd t161 x6_1) 0 0 0) = some (r1, r2, r3, r4, r5) := by rw [if_neg (show ¬ (false = true) by decide)] at H; exact H
                  clear H
                  have H := H1
                  clear H1
                  have H' := Aside0.mk H
                  clear H
                  have p169 : 0 ≤ (x6_1 : Int) := of_decide_eq_true (by first | (with_reducible assumption) | assumption)
                  have q169 : x6_1 < (t161.length : Int) := of_decide_eq_true (by first | (with_reducible assumption) | assumption)
                  obtain ⟨ad169, e169, hx169_0⟩ := Kd.at_int (Kd.R_reads' HO_5.out).2.2 x6_1 p169 q169
                  obtain rfl : ad164 = ad169 := (by injection e169)
                  have hn169_0 : ad164.block ≠ gb168 := Kd.own_blk (Kd.R_ne HO_5.out BK168.out (by decide))
                  have hn169_1 : ad164.block ≠ gb168 := Kd.own_blk (Kd.R_ne HO_5.out BK168.out (by decide))
                  have hn169_2 : ad164.block ≠ gb168 := Kd.own_blk (Kd.R_ne HO_5.out BK168.out (by decide))
                  have hn169_3 : ad164.block ≠ gb168 := Kd.own_blk (Kd.R_ne HO_5.out BK168.out (by decide))
                  replace hx169_0 := (cell_far (p := ⟨gb168, 0, none⟩) (by first | (rw [add_block]; exact hn169_0) | (show (Addr.add _ _).block ≠ _; rw [add_block]; exact hn169_0) | exact hn169_0) (.int .u16 (rd t161 x6_1))).trans hx169_0
                  replace hx169_0 := (cell_far (p := ⟨gb168, 1, none⟩) (by first | (rw [add_block]; exact hn169_1) | (show (Addr.add _ _).block ≠ _; rw [add_block]; exact hn169_1) | exact hn169_1) (.int .u8 0)).trans hx169_0
                  replace hx169_0 := (cell_far (p := ⟨gb168, 2, none⟩) (by first | (rw [add_block]; exact hn169_2) | (show (Addr.add _ _).block ≠ _; rw [add_block]; exact hn169_2) | exact hn169_2) (.int .u8 0)).trans hx169_0
                  replace hx169_0 := (cell_far (p := ⟨gb168, 3, none⟩) (by first | (rw [add_block]; exact hn169_3) | (show (Addr.add _ _).block ≠ _; rw [add_block]; exact hn169_3) | exact hn169_3) (.int .u32 0)).trans hx169_0
                  clear hn169_0
                  clear hn169_1
                  clear hn169_2
                  clear hn169_3
                  replace p169 := eq_true p169
                  replace q169 := eq_true q169
                  go_wp2_with (first | ((with_reducible refine gate_callee (f := 26) rfl ?_); refine goesL_ (some 38) rfl rfl Tryd.func26 (by kernel_rfl) rfl #[.int .u16 (rd t161 x6_1)] rfl (by (try simp only [List.map_toArray, List.map_cons, List.map_nil]); first | done | rfl | (simp only [List.length_drop, List.length_take]; rfl)) ?_; (with_reducible refine (tamisref05_hasK.calls k1 (rd t161 x6_1) false _ A20.out).mono ?_); rintro e w23 ⟨rfl, hb⟩; refine ⟨_, rfl, ?_⟩; have n0_ := Aside0.mk (Kd.R_below (by (with_reducible repeat (first | apply Kd.R_alloc | apply Kd.R_drewN | apply Kd.R_drew)); exact (Kd.R_mono (Kd.R_far (p := ⟨gb168, 3, none⟩) (Kd.R_far (p := ⟨gb168, 2, none⟩) (Kd.R_far (p := ⟨gb168, 1, none⟩) (Kd.R_far (p := ⟨gb168, 0, none⟩) (Kd.R_types HO_4.out BK168.out (by decide)) (fun _ hk => hk.2) (.int .u16 (rd t161 x6_1))) (fun _ hk => hk.2) (.int .u8 0)) (fun _ hk => hk.2) (.int .u8 0)) (fun _ hk => hk.2) (.int .u32 0)) (fun _ h_ => h_.1))) hb); have n1_ := Aside0.mk (Kd.R_below (by (with_reducible repeat (first | apply Kd.R_alloc | apply Kd.R_drewN | apply Kd.R_drew)); exact (Kd.R_mono (Kd.R_far (p := ⟨gb168, 3, none⟩) (Kd.R_far (p := ⟨gb168, 2, none⟩) (Kd.R_far (p := ⟨gb168, 1, none⟩) (Kd.R_far (p := ⟨gb168, 0, none⟩) (Kd.R_types HO_5.out BK168.out (by decide)) (fun _ hk => hk.2) (.int .u16 (rd t161 x6_1))) (fun _ hk => hk.2) (.int .u8 0)) (fun _ hk => hk.2) (.int .u8 0)) (fun _ hk => hk.2) (.int .u32 0)) (fun _ h_ => h_.1))) hb); have n2_ := Aside0.mk (blk_below (g := gb157) (o := .cells #[.int .u16 x158000_1, .int .u8 x158001_1, .int .u8 x158002_1, .int .u32 x158003_1] 25 (0, 0)) (by (with_reducible repeat (first | refine blk_drewN ?_ _ | refine blk_drew ?_ | refine blk_alloc ?_ _)); refine blk_far ?_ NB157_168.out _; (with_reducible repeat (first | refine blk_drewN ?_ _ | refine blk_drew ?_ | refine blk_alloc ?_ _)); refine blk_far ?_ NB157_168.out _; (with_reducible repeat (first | refine blk_drewN ?_ _ | refine blk_drew ?_ | refine blk_alloc ?_ _)); refine blk_far ?_ NB157_168.out _; (with_reducible repeat (first | refine blk_drewN ?_ _ | refine blk_drew ?_ | refine blk_alloc ?_ _)); refine blk_far ?_ NB157_168.out _; (with_reducible repeat (first | refine blk_drewN ?_ _ | refine blk_drew ?_ | refine blk_alloc ?_ _)); exact BK157.out) hb); have n3_ := Aside0.mk (blk_below (g := gb168) (o := .cells #[.int .u16 (rd t161 x6_1), .int .u8 0, .int .u8 0, .int .u32 0] 25 (0, 0)) (by (with_reducible repeat (first | refine blk_drewN ?_ _ | refine blk_drew ?_ | refine blk_alloc ?_ _)); refine blk_put (cs := #[.int .u16 (rd t161 x6_1), .int .u8 0, .int .u8 0, .int .u32 0]) ?_ 3 _ rfl; (with_reducible repeat (first | refine blk_drewN ?_ _ | refine blk_drew ?_ | refine blk_alloc ?_ _)); refine blk_put (cs := #[.int .u16 (rd t161 x6_1), .int .u8 0, .int .u8 0, .int .u32 0]) ?_ 2 _ rfl; (with_reducible repeat (first | refine blk_drewN ?_ _ | refine blk_drew ?_ | refine blk_alloc ?_ _)); refine blk_put (cs := #[.int .u16 (rd t161 x6_1), .int .u8 0, .int .u8 0, .int .u32 0]) ?_ 1 _ rfl; (with_reducible repeat (first | refine blk_drewN ?_ _ | refine blk_drew ?_ | refine blk_alloc ?_ _)); refine blk_put (cs := #[.int .u16 0, .int .u8 0, .int .u8 0, .int .u32 0]) ?_ 0 _ rfl; (with_reducible repeat (first | refine blk_drewN ?_ _ | refine blk_drew ?_ | refine blk_alloc ?_ _)); exact BK168.out) hb); have n4_ := Aside0.mk (below_step (by repeat (first | (with_reducible first | exact HB.out | apply below_alloc | apply pw_below_drewN | apply below_drew1 | refine below_set ?_ GE157.out | refine below_set ?_ GE168.out) | exact HB.out)) hb); clear HO_4; clear HO_5; clear BK157; clear BK168; clear HB; have HO_4 := n0_; have HO_5 := n1_; have BK157 := n2_; have BK168 := n3_; have HB := n4_; clear n0_ n1_ n2_ n3_ n4_; (try clear hb); (try clear hb2); (try clear hk); (try clear hi)))
                  go_meet
                  case rel => exact ⟨_, (false), (by first | rfl | (simp; done) | (simp [*]; done)), H', ⟨by have := HK1.out; first | omega | exact Nat.le_refl _⟩, ⟨by (with_reducible repeat (first | apply Kd.R_alloc | apply Kd.R_drewN | apply Kd.R_drew)); exact HO_4.out⟩, ⟨by (with_reducible repeat (first | apply Kd.R_alloc | apply Kd.R_drewN | apply Kd.R_drew)); exact HO_5.out⟩, ⟨by (with_reducible repeat (first | refine blk_drewN ?_ _ | refine blk_drew ?_ | refine blk_alloc ?_ _)); exact BK157.out⟩, ⟨by (with_reducible repeat (first | refine blk_drewN ?_ _ | refine blk_drew ?_ | refine blk_alloc ?_ _)); exact BK168.out⟩, ⟨by repeat (first | (with_reducible first | exact HB.out | apply below_alloc | apply pw_below_drewN | apply below_drew1 | refine below_set ?_ GE157.out | refine below_set ?_ GE168.out) | exact HB.out)⟩⟩
              case rest =>
                clear HC12
                try clear c1
                try clear p1
                try clear q1
                try clear hx1
                try clear qi1
                try clear c2
                try clear p2
                try clear c3
                try clear p6
                try clear c7
                try clear c7b0
                try clear c8
                try clear c8b0
                try clear c10
                try clear c10b0
                try clear c10b1
                try clear c11
                try clear c11b0
                try clear c11b1
                try clear c13
                try clear p16
                try clear q16
                try clear hx16
                try clear qi16
                try clear c18
                try clear c21
                try clear hcz19_0
                try clear hcz19_1
                try clear hcz19_2
                try clear hcz19_3
                try clear hfz19_0
                try clear hfz19_1
                try clear hfz19_2
                try clear hfz19_3
                try clear hx164_0
                try clear hx166_0
                try clear hx167_0
                try clear hx169_0
                try clear p164
                try clear p166
                try clear p167
                try clear p169
                try clear p2
                try clear q164
                try clear q166
                try clear q167
                try clear q169
                obtain ⟨kq, x44_11, rfl, HA, HJ11, HO_4, HO_5, BK157, BK168, HB⟩ := hcut
                cases kq with
                | zero => exact absurd HA.out (by simp [tamisref05_Parse.j1])
                | succ kj11 =>
                  have H := HA.out
                  clear HA
                  simp only [tamisref05_Parse.j1] at H
                  have HC24 := Aside0.mk H
                  clear H
                  go_upto_if 44 with (fail)
                  go_cut [8] (fun v8 wc => ∃ (kq : Nat) (x8_23 : Int) (x169003_23 : Int), v8 = .int .i64 x8_23 ∧ Aside0 (tamisref05_Parse.j2 kq a0 t158 t161 x6_1 x8_23 (rd t161 x6_1) 0 0 x169003_23 = some (r1, r2, r3, r4, r5)) ∧ Aside0 (kq ≤ kj11) ∧ Aside0 (Kd.R Kd.string 9 wc w.heap.size (fun _ => True) (.slice (some ad166) t158.length co15) t158) ∧ Aside0 (Kd.R (Kd.int .u16) 22 wc w.heap.size (fun _ => True) (.slice (some ad164) t161.length co13) t161) ∧ Aside0 (wc.heap[gb157]? = some (.cells #[.int .u16 x158000_1, .int .u8 x158001_1, .int .u8 x158002_1, .int .u32 x158003_1] 25 (0, 0))) ∧ Aside0 (wc.heap[gb168]? = some (.cells #[.int .u16 (rd t161 x6_1), .int .u8 0, .int .u8 0, .int .u32 x169003_23] 25 (0, 0))) ∧ Aside0 (Below w.heap.size w wc))
                  case first =>
                    have H := HC24.out
                    clear HC24
                    by_cases c25 : x44_11 = true
                    · subst c25
                      have H1 : (if 0 ≤ 1 then (if 1 < (t158.length : Int) then ((tamisref05_value.f kj11 (rdOf ByteArray.empty t158 1)).bind fun t172 => (tamisref05_Parse.j2 kj11 a0 t158 t161 x6_1 (wrap64 (1 + 1)) (rd t161 x6_1) 0 0 t172)) else (none)) else (none)) = some (r1, r2, r3, r4, r5) := by rw [if_pos rfl] at H; exact H
                      clear H
                      have H := H1
                      clear H1
                      by_cases c26 : 0 ≤ 1
                      · rw [if_pos c26] at H
                        have c26b0 : decide (0 ≤ 1) = true := decide_eq_true c26
                        clear c26
                        (first | rw [c26b0] | (simp only [i64_w, i32_w]; rw [c26b0]) | skip)
                        by_cases c27 : 1 < (t158.length : Int)
                        · rw [if_pos c27] at H
                          have c27b0 : decide (1 < (t158.length : Int)) = true := decide_eq_true c27
                          have c27b1 : decide (1 < t158.length) = true := decide_eq_true (by omega)
                          clear c27
                          replace H := Option.bind_eq_some_iff.mp H
                          obtain ⟨t172, A280, H⟩ := H
                          replace H : (tamisref05_Parse.j2 kj11 a0 t158 t161 x6_1 (wrap64 (1 + 1)) (rd t161 x6_1) 0 0 t172) = some (r1, r2, r3, r4, r5) := H
                          have A28 := Aside0.mk A280
                          clear A280
                          have H' := Aside0.mk H
                          clear H
                          have p171 : 0 ≤ (1 : Int) := (by omega)
                          have q171 : 1 < (t158.length : Int) := of_decide_eq_true (by first | (with_reducible assumption) | assumption)
                          obtain ⟨ad171, e171, hx171_0⟩ := Kd.at_string (Kd.R_reads' HO_4.out).2.2 1 p171 q171
                          obtain rfl : ad166 = ad171 := (by injection e171)
                          (try simp only [show (1 : Int).toNat = 1 from rfl, Nat.reduceMul, Nat.reduceEqDiff, Go.Addr.add, ↓reduceIte] at hx171_0)
                          have qi171 : (1 < t158.length) = True := eq_true (by omega)
                          (try rw [show ((1 : Int)).toNat = 1 from rfl] at hx171_0)
                          replace p171 := eq_true p171
                          replace q171 := eq_true q171
                          go_wp2_with (first | ((with_reducible refine gate_callee (f := 32) rfl ?_); refine goesL_ (some 49) rfl rfl Tryd.func32 (by kernel_rfl) rfl #[.string (rdOf ByteArray.empty t158 1)] rfl (by (try simp only [List.map_toArray, List.map_cons, List.map_nil]); first | done | rfl | (simp only [List.length_drop, List.length_take]; rfl)) ?_; (with_reducible refine (tamisref05_value.calls kj11 (rdOf ByteArray.empty t158 1) t172 _ A28.out).mono ?_); rintro e w' ⟨rfl, ⟨nd, rfl⟩⟩; refine ⟨_, rfl, ?_⟩; (try (rw [drewN_self wc]; generalize hq_ : World.drewN wc _ = wc; have n0_ : Aside0 (Kd.R Kd.string 9 wc w.heap.size (fun _ => True) (.slice (some ad166) t158.length co15) t158) := ⟨by rw [← hq_]; exact (by (with_reducible repeat (first | apply Kd.R_alloc | apply Kd.R_drewN | apply Kd.R_drew)); exact HO_4.out)⟩; have n1_ : Aside0 (Kd.R (Kd.int .u16) 22 wc w.heap.size (fun _ => True) (.slice (some ad164) t161.length co13) t161) := ⟨by rw [← hq_]; exact (by (with_reducible repeat (first | apply Kd.R_alloc | apply Kd.R_drewN | apply Kd.R_drew)); exact HO_5.out)⟩; have n2_ : Aside0 (wc.heap[gb157]? = some (.cells #[.int .u16 x158000_1, .int .u8 x158001_1, .int .u8 x158002_1, .int .u32 x158003_1] 25 (0, 0))) := ⟨by rw [← hq_]; exact (by (with_reducible repeat (first | refine blk_drewN ?_ _ | refine blk_drew ?_ | refine blk_alloc ?_ _)); exact BK157.out)⟩; have n3_ : Aside0 (wc.heap[gb168]? = some (.cells #[.int .u16 (rd t161 x6_1), .int .u8 0, .int .u8 0, .int .u32 0] 25 (0, 0))) := ⟨by rw [← hq_]; exact (by (with_reducible repeat (first | refine blk_drewN ?_ _ | refine blk_drew ?_ | refine blk_alloc ?_ _)); exact BK168.out)⟩; have n4_ : Aside0 (Below w.heap.size w wc) := ⟨by rw [← hq_]; exact (by repeat (first | (with_reducible first | exact HB.out | apply below_alloc | apply pw_below_drewN | apply below_drew1 | refine below_set ?_ GE157.out | refine below_set ?_ GE168.out) | exact HB.out))⟩; clear HO_4 HO_5 BK157 BK168 HB hq_; have HO_4 := n0_; have HO_5 := n1_; have BK157 := n2_; have BK168 := n3_; have HB := n4_; clear n0_ n1_ n2_ n3_ n4_)); have hnb29 := NB168_157.out; have hnc29 := NB157_168.out; have hcz30_0 : wc.cell? ⟨gb168, 0, none⟩ = some (.int .u16 (rd t161 x6_1)) := (blk_cell BK168.out 0).trans rfl; have hcz30_1 : wc.cell? ⟨gb168, 1, none⟩ = some (.int .u8 0) := (blk_cell BK168.out 1).trans rfl; have hcz30_2 : wc.cell? ⟨gb168, 2, none⟩ = some (.int .u8 0) := (blk_cell BK168.out 2).trans rfl; have hcz30_3 : wc.cell? ⟨gb168, 3, none⟩ = some (.int .u32 0) := (blk_cell BK168.out 3).trans rfl; have hfz30_0 := blk_frozen BK168.out 0; have hfz30_1 := blk_frozen BK168.out 1; have hfz30_2 := blk_frozen BK168.out 2; have hfz30_3 := blk_frozen BK168.out 3))
                          go_meet
                          case rel => exact ⟨_, (wrap64 (1 + 1)), (t172), (by first | (rw [show wrap64 (1 + 1) = 2 by kernel_rfl]; done) | (rw [show wrap64 (1 + 1) = 2 by kernel_rfl]) | rfl | (simp; done) | (simp [*]; done)), H', ⟨by have := HK1.out; have := HJ11.out; first | omega | exact Nat.le_refl _⟩, ⟨by (with_reducible repeat (first | apply Kd.R_alloc | apply Kd.R_drewN | apply Kd.R_drew)); exact Kd.R_mono (Kd.R_far (p := ⟨gb168, 3, none⟩) (Kd.R_types HO_4.out BK168.out (by decide)) (fun _ hk => hk.2) (.int .u32 t172)) (fun _ hk => trivial)⟩, ⟨by (with_reducible repeat (first | apply Kd.R_alloc | apply Kd.R_drewN | apply Kd.R_drew)); exact Kd.R_mono (Kd.R_far (p := ⟨gb168, 3, none⟩) (Kd.R_types HO_5.out BK168.out (by decide)) (fun _ hk => hk.2) (.int .u32 t172)) (fun _ hk => trivial)⟩, ⟨by (with_reducible repeat (first | refine blk_drewN ?_ _ | refine blk_drew ?_ | refine blk_alloc ?_ _)); refine blk_far ?_ NB157_168.out _; (with_reducible repeat (first | refine blk_drewN ?_ _ | refine blk_drew ?_ | refine blk_alloc ?_ _)); exact BK157.out⟩, ⟨by (with_reducible repeat (first | refine blk_drewN ?_ _ | refine blk_drew ?_ | refine blk_alloc ?_ _)); refine blk_put (cs := #[.int .u16 (rd t161 x6_1), .int .u8 0, .int .u8 0, .int .u32 0]) ?_ 3 _ rfl; (with_reducible repeat (first | refine blk_drewN ?_ _ | refine blk_drew ?_ | refine blk_alloc ?_ _)); exact BK168.out⟩, ⟨by repeat (first | (with_reducible first | exact HB.out | apply below_alloc | apply pw_below_drewN | apply below_drew1 | refine below_set ?_ GE157.out | refine below_set ?_ GE168.out) | exact HB.out)⟩⟩
                        · rw [if_neg c27] at H
                          exact absurd H (by simp)
                      · rw [if_neg c26] at H
                        exact absurd H (by simp)
                    · replace c25 := Bool.eq_false_iff.mpr c25
                      subst c25
                      have H1 : (tamisref05_Parse.j2 kj11 a0 t158 t161 x6_1 1 (rd t161 x6_1) 0 0 0) = some (r1, r2, r3, r4, r5) := by rw [if_neg (show ¬ (false = true) by decide)] at H; exact H
                      clear H
                      have H := H1
                      clear H1
                      have H' := Aside0.mk H
                      clear H
                      go_wp2
                      go_meet
                      case rel => exact ⟨_, (1), (0), (by first | rfl | (simp; done) | (simp [*]; done)), H', ⟨by have := HK1.out; have := HJ11.out; first | omega | exact Nat.le_refl _⟩, ⟨by (with_reducible repeat (first | apply Kd.R_alloc | apply Kd.R_drewN | apply Kd.R_drew)); exact HO_4.out⟩, ⟨by (with_reducible repeat (first | apply Kd.R_alloc | apply Kd.R_drewN | apply Kd.R_drew)); exact HO_5.out⟩, ⟨by (with_reducible repeat (first | refine blk_drewN ?_ _ | refine blk_drew ?_ | refine blk_alloc ?_ _)); exact BK157.out⟩, ⟨by (with_reducible repeat (first | refine blk_drewN ?_ _ | refine blk_drew ?_ | refine blk_alloc ?_ _)); exact BK168.out⟩, ⟨by repeat (first | (with_reducible first | exact HB.out | apply below_alloc | apply pw_below_drewN | apply below_drew1 | refine below_set ?_ GE157.out | refine below_set ?_ GE168.out) | exact HB.out)⟩⟩
                  case rest =>
                    clear HC24
                    try clear c1
                    try clear p1
                    try clear q1
                    try clear hx1
                    try clear qi1
                    try clear c2
                    try clear p2
                    try clear c3
                    try clear p6
                    try clear c7
                    try clear c7b0
                    try clear c8
                    try clear c8b0
                    try clear c10
                    try clear c10b0
                    try clear c10b1
                    try clear c11
                    try clear c11b0
                    try clear c11b1
                    try clear c13
                    try clear p16
                    try clear q16
                    try clear hx16
                    try clear qi16
                    try clear p17
                    try clear q17
                    try clear hx17
                    try clear qi17
                    try clear c18
                    try clear c21
                    try clear c24
                    try clear c25
                    try clear c26
                    try clear c26b0
                    try clear c27
                    try clear c27b0
                    try clear c27b1
                    try clear c29
                    try clear c30
                    try clear hcz19_0
                    try clear hcz19_1
                    try clear hcz19_2
                    try clear hcz19_3
                    try clear hcz30_0
                    try clear hcz30_1
                    try clear hcz30_2
                    try clear hcz30_3
                    try clear hfz19_0
                    try clear hfz19_1
                    try clear hfz19_2
                    try clear hfz19_3
                    try clear hfz30_0
                    try clear hfz30_1
                    try clear hfz30_2
                    try clear hfz30_3
                    try clear hx164_0
                    try clear hx166_0
                    try clear hx167_0
                    try clear hx169_0
                    try clear hx171_0
                    try clear p1
                    try clear p16
                    try clear p164
                    try clear p166
                    try clear p167
                    try clear p169
                    try clear p171
                    try clear p2
                    try clear p6
                    try clear q1
                    try clear q16
                    try clear q164
                    try clear q166
                    try clear q167
                    try clear q169
                    try clear q171
                    obtain ⟨kq, x8_23, x169003_23, rfl, HA, HJ23, HO_4, HO_5, BK157, BK168, HB⟩ := hcut
                    cases kq with
                    | zero => exact absurd HA.out (by simp [tamisref05_Parse.j2])
                    | succ kj23 =>
                      have H := HA.out
                      clear HA
                      simp only [tamisref05_Parse.j2] at H
                      have HC31 := Aside0.mk H
                      clear H
                      go_upto_region 12 with (fail)
                      go_cut [65] (fun v65 wc => ∃ (kq : Nat) (x65_30 : Bool), v65 = .bool x65_30 ∧ Aside0 (tamisref05_Parse.j3 kq a0 t158 x8_23 x65_30 (rd t161 x6_1) 0 0 x169003_23 = some (r1, r2, r3, r4, r5)) ∧ Aside0 (kq ≤ kj23) ∧ Aside0 (Kd.R Kd.string 9 wc w.heap.size (fun _ => True) (.slice (some ad166) t158.length co15) t158) ∧ Aside0 (wc.heap[gb157]? = some (.cells #[.int .u16 x158000_1, .int .u8 x158001_1, .int .u8 x158002_1, .int .u32 x158003_1] 25 (0, 0))) ∧ Aside0 (wc.heap[gb168]? = some (.cells #[.int .u16 (rd t161 x6_1), .int .u8 0, .int .u8 0, .int .u32 x169003_23] 25 (0, 0))) ∧ Aside0 (Below w.heap.size w wc))
                      case first =>
                        have H := HC31.out
                        clear HC31
                        by_cases c32 : 0 ≤ x6_1
                        · rw [if_pos c32] at H
                          have c32b0 : decide (0 ≤ x6_1) = true := decide_eq_true c32
                          clear c32
                          (first | rw [c32b0] | (simp only [i64_w, i32_w]; rw [c32b0]) | skip)
                          by_cases c33 : x6_1 < (t161.length : Int)
                          · rw [if_pos c33] at H
                            have c33b0 : decide (x6_1 < (t161.length : Int)) = true := decide_eq_true c33
                            clear c33
                            replace H := Option.bind_eq_some_iff.mp H
                            obtain ⟨t174, A340, H⟩ := H
                            replace H : (if t174 = 12 then (tamisref05_Parse.j3 kj23 a0 t158 x8_23 (decide ((t158.length : Int) > (wrap64 (x8_23 + 1)))) (rd t161 x6_1) 0 0 x169003_23) else (tamisref05_Parse.j3 kj23 a0 t158 x8_23 false (rd t161 x6_1) 0 0 x169003_23)) = some (r1, r2, r3, r4, r5) := H
                            have A34 := Aside0.mk A340
                            clear A340
                            by_cases c35 : t174 = 12
                            · rw [if_pos c35] at H
                              have c35b0 : (t174 == 12) = true := beq_iff_eq.mpr c35
                              have c35b1 : (t174 != 12) = false := bne_eq_false_iff_eq.mpr c35
                              clear c35
                              have H' := Aside0.mk H
                              clear H
                              have p173 : 0 ≤ (x6_1 : Int) := of_decide_eq_true (by first | (with_reducible assumption) | assumption)
                              have q173 : x6_1 < (t161.length : Int) := of_decide_eq_true (by first | (with_reducible assumption) | assumption)
                              obtain ⟨ad173, e173, hx173_0⟩ := Kd.at_int (Kd.R_reads' HO_5.out).2.2 x6_1 p173 q173
                              obtain rfl : ad164 = ad173 := (by injection e173)
                              replace p173 := eq_true p173
                              replace q173 := eq_true q173
                              go_wp2_with (first | ((with_reducible refine gate_callee (f := 25) rfl ?_); refine goesL_ (some 57) rfl rfl Tryd.func25 (by kernel_rfl) rfl #[.int .u16 (rd t161 x6_1)] rfl (by (try simp only [List.map_toArray, List.map_cons, List.map_nil]); first | done | rfl | (simp only [List.length_drop, List.length_take]; rfl)) ?_; (with_reducible refine (tamisref04_Kind.calls kj23 (rd t161 x6_1) t174 _ A34.out).mono ?_); rintro e w36 ⟨rfl, hb⟩; refine ⟨_, rfl, ?_⟩; have n0_ := Aside0.mk (Kd.R_below (by (with_reducible repeat (first | apply Kd.R_alloc | apply Kd.R_drewN | apply Kd.R_drew)); exact HO_4.out) hb); have n1_ := Aside0.mk (Kd.R_below (by (with_reducible repeat (first | apply Kd.R_alloc | apply Kd.R_drewN | apply Kd.R_drew)); exact HO_5.out) hb); have n2_ := Aside0.mk (blk_below (g := gb157) (o := .cells #[.int .u16 x158000_1, .int .u8 x158001_1, .int .u8 x158002_1, .int .u32 x158003_1] 25 (0, 0)) (by (with_reducible repeat (first | refine blk_drewN ?_ _ | refine blk_drew ?_ | refine blk_alloc ?_ _)); exact BK157.out) hb); have n3_ := Aside0.mk (blk_below (g := gb168) (o := .cells #[.int .u16 (rd t161 x6_1), .int .u8 0, .int .u8 0, .int .u32 x169003_23] 25 (0, 0)) (by (with_reducible repeat (first | refine blk_drewN ?_ _ | refine blk_drew ?_ | refine blk_alloc ?_ _)); exact BK168.out) hb); have n4_ := Aside0.mk (below_step (by repeat (first | (with_reducible first | exact HB.out | apply below_alloc | apply pw_below_drewN | apply below_drew1 | refine below_set ?_ GE157.out | refine below_set ?_ GE168.out) | exact HB.out)) hb); clear HO_4; clear HO_5; clear BK157; clear BK168; clear HB; have HO_4 := n0_; have HO_5 := n1_; have BK157 := n2_; have BK168 := n3_; have HB := n4_; clear n0_ n1_ n2_ n3_ n4_; (try clear hb); (try clear hb2); (try clear hk); (try clear hi)))
                              go_meet
                              case rel => exact ⟨_, (decide ((t158.length : Int) > (wrap64 (x8_23 + 1)))), (by first | rfl | (simp; done) | (simp [*]; done)), H', ⟨by have := HK1.out; have := HJ11.out; have := HJ23.out; first | omega | exact Nat.le_refl _⟩, ⟨by (with_reducible repeat (first | apply Kd.R_alloc | apply Kd.R_drewN | apply Kd.R_drew)); exact HO_4.out⟩, ⟨by (with_reducible repeat (first | refine blk_drewN ?_ _ | refine blk_drew ?_ | refine blk_alloc ?_ _)); exact BK157.out⟩, ⟨by (with_reducible repeat (first | refine blk_drewN ?_ _ | refine blk_drew ?_ | refine blk_alloc ?_ _)); exact BK168.out⟩, ⟨by repeat (first | (with_reducible first | exact HB.out | apply below_alloc | apply pw_below_drewN | apply below_drew1 | refine below_set ?_ GE157.out | refine below_set ?_ GE168.out) | exact HB.out)⟩⟩
                            · rw [if_neg c35] at H
                              have c35b0 : (t174 == 12) = false := beq_eq_false_iff_ne.mpr c35
                              have c35b1 : (t174 != 12) = true := bne_iff_ne.mpr c35
                              have H' := Aside0.mk H
                              clear H
                              have p173 : 0 ≤ (x6_1 : Int) := of_decide_eq_true (by first | (with_reducible assumption) | assumption)
                              have q173 : x6_1 < (t161.length : Int) := of_decide_eq_true (by first | (with_reducible assumption) | assumption)
                              obtain ⟨ad173, e173, hx173_0⟩ := Kd.at_int (Kd.R_reads' HO_5.out).2.2 x6_1 p173 q173
                              obtain rfl : ad164 = ad173 := (by injection e173)
                              replace p173 := eq_true p173
                              replace q173 := eq_true q173
                              go_wp2_with (first | ((with_reducible refine gate_callee (f := 25) rfl ?_); refine goesL_ (some 57) rfl rfl Tryd.func25 (by kernel_rfl) rfl #[.int .u16 (rd t161 x6_1)] rfl (by (try simp only [List.map_toArray, List.map_cons, List.map_nil]); first | done | rfl | (simp only [List.length_drop, List.length_take]; rfl)) ?_; (with_reducible refine (tamisref04_Kind.calls kj23 (rd t161 x6_1) t174 _ A34.out).mono ?_); rintro e w37 ⟨rfl, hb⟩; refine ⟨_, rfl, ?_⟩; have n0_ := Aside0.mk (Kd.R_below (by (with_reducible repeat (first | apply Kd.R_alloc | apply Kd.R_drewN | apply Kd.R_drew)); exact HO_4.out) hb); have n1_ := Aside0.mk (Kd.R_below (by (with_reducible repeat (first | apply Kd.R_alloc | apply Kd.R_drewN | apply Kd.R_drew)); exact HO_5.out) hb); have n2_ := Aside0.mk (blk_below (g := gb157) (o := .cells #[.int .u16 x158000_1, .int .u8 x158001_1, .int .u8 x158002_1, .int .u32 x158003_1] 25 (0, 0)) (by (with_reducible repeat (first | refine blk_drewN ?_ _ | refine blk_drew ?_ | refine blk_alloc ?_ _)); exact BK157.out) hb); have n3_ := Aside0.mk (blk_below (g := gb168) (o := .cells #[.int .u16 (rd t161 x6_1), .int .u8 0, .int .u8 0, .int .u32 x169003_23] 25 (0, 0)) (by (with_reducible repeat (first | refine blk_drewN ?_ _ | refine blk_drew ?_ | refine blk_alloc ?_ _)); exact BK168.out) hb); have n4_ := Aside0.mk (below_step (by repeat (first | (with_reducible first | exact HB.out | apply below_alloc | apply pw_below_drewN | apply below_drew1 | refine below_set ?_ GE157.out | refine below_set ?_ GE168.out) | exact HB.out)) hb); clear HO_4; clear HO_5; clear BK157; clear BK168; clear HB; have HO_4 := n0_; have HO_5 := n1_; have BK157 := n2_; have BK168 := n3_; have HB := n4_; clear n0_ n1_ n2_ n3_ n4_; (try clear hb); (try clear hb2); (try clear hk); (try clear hi)))
                              go_meet
                              case rel => exact ⟨_, (false), (by first | rfl | (simp; done) | (simp [*]; done)), H', ⟨by have := HK1.out; have := HJ11.out; have := HJ23.out; first | omega | exact Nat.le_refl _⟩, ⟨by (with_reducible repeat (first | apply Kd.R_alloc | apply Kd.R_drewN | apply Kd.R_drew)); exact HO_4.out⟩, ⟨by (with_reducible repeat (first | refine blk_drewN ?_ _ | refine blk_drew ?_ | refine blk_alloc ?_ _)); exact BK157.out⟩, ⟨by (with_reducible repeat (first | refine blk_drewN ?_ _ | refine blk_drew ?_ | refine blk_alloc ?_ _)); exact BK168.out⟩, ⟨by repeat (first | (with_reducible first | exact HB.out | apply below_alloc | apply pw_below_drewN | apply below_drew1 | refine below_set ?_ GE157.out | refine below_set ?_ GE168.out) | exact HB.out)⟩⟩
                          · rw [if_neg c33] at H
                            exact absurd H (by simp)
                        · rw [if_neg c32] at H
                          exact absurd H (by simp)
                      case rest =>
                        clear HC31
                        try clear c1
                        try clear p1
                        try clear q1
                        try clear hx1
                        try clear qi1
                        try clear c2
                        try clear p2
                        try clear c3
                        try clear p6
                        try clear c7
                        try clear c7b0
                        try clear c8
                        try clear c8b0
                        try clear c10
                        try clear c10b0
                        try clear c10b1
                        try clear c11
                        try clear c11b0
                        try clear c11b1
                        try clear c13
                        try clear p16
                        try clear q16
                        try clear hx16
                        try clear qi16
                        try clear p17
                        try clear q17
                        try clear hx17
                        try clear qi17
                        try clear c18
                        try clear c21
                        try clear c24
                        try clear c25
                        try clear c26
                        try clear c26b0
                        try clear c27
                        try clear c27b0
                        try clear c27b1
                        try clear c29
                        try clear c30
                        try clear c31
                        try clear c32
                        try clear c32b0
                        try clear c33
                        try clear c33b0
                        try clear c35
                        try clear c35b0
                        try clear c35b1
                        try clear hcz19_0
                        try clear hcz19_1
                        try clear hcz19_2
                        try clear hcz19_3
                        try clear hcz30_0
                        try clear hcz30_1
                        try clear hcz30_2
                        try clear hcz30_3
                        try clear hfz19_0
                        try clear hfz19_1
                        try clear hfz19_2
                        try clear hfz19_3
                        try clear hfz30_0
                        try clear hfz30_1
                        try clear hfz30_2
                        try clear hfz30_3
                        try clear hx164_0
                        try clear hx166_0
                        try clear hx167_0
                        try clear hx169_0
                        try clear hx171_0
                        try clear hx173_0
                        try clear p1
                        try clear p16
                        try clear p164
                        try clear p166
                        try clear p167
                        try clear p169
                        try clear p17
                        try clear p171
                        try clear p173
                        try clear p2
                        try clear p6
                        try clear q1
                        try clear q16
                        try clear q164
                        try clear q166
                        try clear q167
                        try clear q169
                        try clear q17
                        try clear q171
                        try clear q173
                        obtain ⟨kq, x65_30, rfl, HA, HJ30, HO_4, BK157, BK168, HB⟩ := hcut
                        cases kq with
                        | zero => exact absurd HA.out (by simp [tamisref05_Parse.j3])
                        | succ kj30 =>
                          have H := HA.out
                          clear HA
                          simp only [tamisref05_Parse.j3] at H
                          by_cases c38 : x65_30 = true
                          · subst c38
                            have H1 : (if 0 ≤ x8_23 then (if x8_23 < (t158.length : Int) then ((tamisref05_value.f kj30 (rdOf ByteArray.empty t158 x8_23)).bind fun t176 => (if 0 ≤ (wrap64 (x8_23 + 1)) then (if (wrap64 (x8_23 + 1)) < (t158.length : Int) then ((tamisref05_value.f kj30 (rdOf ByteArray.empty t158 (wrap64 (x8_23 + 1)))).bind fun t178 => ((tamisref05_Line.f kj30 (rd t161 x6_1) ((t176) % 256) ((t178) % 256) x169003_23).bind fun bt179 => (if bt179.2 = 0 then (if bt179.1.toList = a0.toList then (some ((rd t161 x6_1), (t176) % 256, (t178) % 256, x169003_23, true)) else (some (0, 0, 0, 0, false))) else (some (0, 0, 0, 0, false))))) else (none)) else (none))) else (none)) else (none)) = some (r1, r2, r3, r4, r5) := by rw [if_pos rfl] at H; exact H
                            clear H
                            have H := H1
                            clear H1
                            by_cases c39 : 0 ≤ x8_23
                            · rw [if_pos c39] at H
                              have c39b0 : decide (0 ≤ x8_23) = true := decide_eq_true c39
                              clear c39
                              by_cases c40 : x8_23 < (t158.length : Int)
                              · rw [if_pos c40] at H
                                have c40b0 : decide (x8_23 < (t158.length : Int)) = true := decide_eq_true c40
                                clear c40
                                replace H := Option.bind_eq_some_iff.mp H
                                obtain ⟨t176, A410, H⟩ := H
                                replace H : (if 0 ≤ (wrap64 (x8_23 + 1)) then (if (wrap64 (x8_23 + 1)) < (t158.length : Int) then ((tamisref05_value.f kj30 (rdOf ByteArray.empty t158 (wrap64 (x8_23 + 1)))).bind fun t178 => ((tamisref05_Line.f kj30 (rd t161 x6_1) ((t176) % 256) ((t178) % 256) x169003_23).bind fun bt179 => (if bt179.2 = 0 then (if bt179.1.toList = a0.toList then (some ((rd t161 x6_1), (t176) % 256, (t178) % 256, x169003_23, true)) else (some (0, 0, 0, 0, false))) else (some (0, 0, 0, 0, false))))) else (none)) else (none)) = some (r1, r2, r3, r4, r5) := H
                                have A41 := Aside0.mk A410
                                clear A410
                                obtain ⟨ji42, hji42⟩ : ∃ j_ : Int, (wrap64 (x8_23 + 1)) = j_ := ⟨_, rfl⟩
                                replace H : (if 0 ≤ (ji42) then (if (ji42) < (t158.length : Int) then ((tamisref05_value.f kj30 (rdOf ByteArray.empty t158 (ji42))).bind fun t178 => ((tamisref05_Line.f kj30 (rd t161 x6_1) ((t176) % 256) ((t178) % 256) x169003_23).bind fun bt179 => (if bt179.2 = 0 then (if bt179.1.toList = a0.toList then (some ((rd t161 x6_1), (t176) % 256, (t178) % 256, x169003_23, true)) else (some (0, 0, 0, 0, false))) else (some (0, 0, 0, 0, false))))) else (none)) else (none)) = some (r1, r2, r3, r4, r5) := by first | (rw [hji42] at H; exact H) | (simp only [hji42] at H ⊢; exact H)
                                (try rw [hji42] at A41)
                                have hji42w : (IntKind.i64.wrap (x8_23 + 1)) = ji42 := (i64_w _).trans hji42
                                by_cases c43 : 0 ≤ (ji42)
                                · rw [if_pos c43] at H
                                  have c43b0 : decide (0 ≤ (ji42)) = true := decide_eq_true c43
                                  clear c43
                                  by_cases c44 : (ji42) < (t158.length : Int)
                                  · rw [if_pos c44] at H
                                    have c44b0 : decide ((ji42) < (t158.length : Int)) = true := decide_eq_true c44
                                    clear c44
                                    replace H := Option.bind_eq_some_iff.mp H
                                    obtain ⟨t178, A450, H⟩ := H
                                    replace H : ((tamisref05_Line.f kj30 (rd t161 x6_1) ((t176) % 256) ((t178) % 256) x169003_23).bind fun bt179 => (if bt179.2 = 0 then (if bt179.1.toList = a0.toList then (some ((rd t161 x6_1), (t176) % 256, (t178) % 256, x169003_23, true)) else (some (0, 0, 0, 0, false))) else (some (0, 0, 0, 0, false)))) = some (r1, r2, r3, r4, r5) := H
                                    have A45 := Aside0.mk A450
                                    clear A450
                                    replace H := Option.bind_eq_some_iff.mp H
                                    obtain ⟨⟨t179, t180⟩, A460, H⟩ := H
                                    replace H : (if t180 = 0 then (if t179.toList = a0.toList then (some ((rd t161 x6_1), (t176) % 256, (t178) % 256, x169003_23, true)) else (some (0, 0, 0, 0, false))) else (some (0, 0, 0, 0, false))) = some (r1, r2, r3, r4, r5) := H
                                    have A46 := Aside0.mk A460
                                    clear A460
                                    by_cases c47 : t180 = 0
                                    · rw [if_pos c47] at H
                                      have c47b0 : (t180 == 0) = true := beq_iff_eq.mpr c47
                                      have c47b1 : (t180 != 0) = false := bne_eq_false_iff_eq.mpr c47
                                      clear c47
                                      by_cases c48 : t179.toList = a0.toList
                                      · rw [if_pos c48] at H
                                        have c48b0 : (t179.toList == a0.toList) = true := beq_iff_eq.mpr c48
                                        have c48b1 : (t179.toList != a0.toList) = false := bne_eq_false_iff_eq.mpr c48
                                        clear c48
                                        simp only [Option.some.injEq, Prod.mk.injEq] at H
                                        obtain ⟨rfl, rfl, rfl, rfl, rfl⟩ := H
                                        have p175 : 0 ≤ (x8_23 : Int) := of_decide_eq_true (by first | (with_reducible assumption) | assumption)
                                        have q175 : x8_23 < (t158.length : Int) := of_decide_eq_true (by first | (with_reducible assumption) | assumption)
                                        obtain ⟨ad175, e175, hx175_0⟩ := Kd.at_string (Kd.R_reads' HO_4.out).2.2 x8_23 p175 q175
                                        obtain rfl : ad166 = ad175 := (by injection e175)
                                        replace p175 := eq_true p175
                                        replace q175 := eq_true q175
                                        go_wp2_with (first | ((with_reducible refine gate_callee (f := 32) rfl ?_); refine goesL_ (some 70) rfl rfl Tryd.func32 (by kernel_rfl) rfl #[.string (rdOf ByteArray.empty t158 x8_23)] rfl (by (try simp only [List.map_toArray, List.map_cons, List.map_nil]); first | done | rfl | (simp only [List.length_drop, List.length_take]; rfl)) ?_; (with_reducible refine (tamisref05_value.calls kj30 (rdOf ByteArray.empty t158 x8_23) t176 _ A41.out).mono ?_); rintro e w' ⟨rfl, ⟨nd, rfl⟩⟩; refine ⟨_, rfl, ?_⟩; (try (rw [drewN_self wc]; generalize hq_ : World.drewN wc _ = wc; have n0_ : Aside0 (Kd.R Kd.string 9 wc w.heap.size (fun _ => True) (.slice (some ad166) t158.length co15) t158) := ⟨by rw [← hq_]; exact (by (with_reducible repeat (first | apply Kd.R_alloc | apply Kd.R_drewN | apply Kd.R_drew)); exact HO_4.out)⟩; have n1_ : Aside0 (wc.heap[gb157]? = some (.cells #[.int .u16 x158000_1, .int .u8 x158001_1, .int .u8 x158002_1, .int .u32 x158003_1] 25 (0, 0))) := ⟨by rw [← hq_]; exact (by (with_reducible repeat (first | refine blk_drewN ?_ _ | refine blk_drew ?_ | refine blk_alloc ?_ _)); exact BK157.out)⟩; have n2_ : Aside0 (wc.heap[gb168]? = some (.cells #[.int .u16 (rd t161 x6_1), .int .u8 0, .int .u8 0, .int .u32 x169003_23] 25 (0, 0))) := ⟨by rw [← hq_]; exact (by (with_reducible repeat (first | refine blk_drewN ?_ _ | refine blk_drew ?_ | refine blk_alloc ?_ _)); exact BK168.out)⟩; have n3_ : Aside0 (Below w.heap.size w wc) := ⟨by rw [← hq_]; exact (by repeat (first | (with_reducible first | exact HB.out | apply below_alloc | apply pw_below_drewN | apply below_drew1 | refine below_set ?_ GE157.out | refine below_set ?_ GE168.out) | exact HB.out))⟩; clear HO_4 BK157 BK168 HB hq_; have HO_4 := n0_; have BK157 := n1_; have BK168 := n2_; have HB := n3_; clear n0_ n1_ n2_ n3_)); have hnb49 := NB168_157.out; have hnc49 := NB157_168.out; have hcz50_0 : wc.cell? ⟨gb168, 0, none⟩ = some (.int .u16 (rd t161 x6_1)) := (blk_cell BK168.out 0).trans rfl; have hcz50_1 : wc.cell? ⟨gb168, 1, none⟩ = some (.int .u8 0) := (blk_cell BK168.out 1).trans rfl; have hcz50_2 : wc.cell? ⟨gb168, 2, none⟩ = some (.int .u8 0) := (blk_cell BK168.out 2).trans rfl; have hcz50_3 : wc.cell? ⟨gb168, 3, none⟩ = some (.int .u32 x169003_23) := (blk_cell BK168.out 3).trans rfl; have hfz50_0 := blk_frozen BK168.out 0; have hfz50_1 := blk_frozen BK168.out 1; have hfz50_2 := blk_frozen BK168.out 2; have hfz50_3 := blk_frozen BK168.out 3; have p177 : 0 ≤ ((ji42) : Int) := of_decide_eq_true (by first | (with_reducible assumption) | assumption); have q177 : (ji42) < (t158.length : Int) := of_decide_eq_true (by first | (with_reducible assumption) | assumption); obtain ⟨ad177, e177, hx177_0⟩ := Kd.at_string (Kd.R_reads' HO_4.out).2.2 (ji42) p177 q177; obtain rfl : ad166 = ad177 := (by injection e177); have hn177_0 : ad166.block ≠ gb168 := Kd.own_blk (Kd.R_ne HO_4.out BK168.out (by decide)); replace hx177_0 := (cell_far (p := ⟨gb168, 1, none⟩) (by first | (rw [add_block]; exact hn177_0) | (show (Addr.add _ _).block ≠ _; rw [add_block]; exact hn177_0) | exact hn177_0) (.int .u8 ((t176) % 256))).trans hx177_0; clear hn177_0; replace p177 := eq_true p177; replace q177 := eq_true q177) | ((with_reducible refine gate_callee (f := 32) rfl ?_); refine goesL_ (some 78) rfl rfl Tryd.func32 (by kernel_rfl) rfl #[.string (rdOf ByteArray.empty t158 (ji42))] rfl (by (try simp only [List.map_toArray, List.map_cons, List.map_nil]); first | done | (simp only [hji42]; rfl) | rfl | (simp only [List.length_drop, List.length_take]; rfl)) ?_; (with_reducible refine (tamisref05_value.calls kj30 (rdOf ByteArray.empty t158 (ji42)) t178 _ A45.out).mono ?_); rintro e w' ⟨rfl, ⟨nd, rfl⟩⟩; refine ⟨_, rfl, ?_⟩) | ((with_reducible refine gate_callee (f := 11) rfl ?_); refine goesL_ (some 83) rfl rfl Tryd.func11 (by kernel_rfl) rfl #[.agg #[.int .u16 (rd t161 x6_1), .int .u8 ((t176) % 256), .int .u8 ((t178) % 256), .int .u32 x169003_23]] rfl (by (try simp only [List.map_toArray, List.map_cons, List.map_nil]); first | done | rfl | (simp only [List.length_drop, List.length_take]; rfl)) ?_; (with_reducible refine (tamisref05_Line.calls kj30 (rd t161 x6_1) ((t176) % 256) ((t178) % 256) x169003_23 t179 t180 _ A46.out).mono ?_); rintro e w51 ⟨rfl, hb⟩; refine ⟨_, rfl, ?_⟩; have n0_ := Aside0.mk (Kd.R_below (by (with_reducible repeat (first | apply Kd.R_alloc | apply Kd.R_drewN | apply Kd.R_drew)); exact (Kd.R_mono (Kd.R_far (p := ⟨gb168, 2, none⟩) (Kd.R_far (p := ⟨gb168, 1, none⟩) (Kd.R_types HO_4.out BK168.out (by decide)) (fun _ hk => hk.2) (.int .u8 ((t176) % 256))) (fun _ hk => hk.2) (.int .u8 ((t178) % 256))) (fun _ h_ => h_.1))) hb); have n1_ := Aside0.mk (blk_below (g := gb157) (o := .cells #[.int .u16 x158000_1, .int .u8 x158001_1, .int .u8 x158002_1, .int .u32 x158003_1] 25 (0, 0)) (by (with_reducible repeat (first | refine blk_drewN ?_ _ | refine blk_drew ?_ | refine blk_alloc ?_ _)); refine blk_far ?_ NB157_168.out _; (with_reducible repeat (first | refine blk_drewN ?_ _ | refine blk_drew ?_ | refine blk_alloc ?_ _)); refine blk_far ?_ NB157_168.out _; (with_reducible repeat (first | refine blk_drewN ?_ _ | refine blk_drew ?_ | refine blk_alloc ?_ _)); exact BK157.out) hb); have n2_ := Aside0.mk (blk_below (g := gb168) (o := .cells #[.int .u16 (rd t161 x6_1), .int .u8 ((t176) % 256), .int .u8 ((t178) % 256), .int .u32 x169003_23] 25 (0, 0)) (by (with_reducible repeat (first | refine blk_drewN ?_ _ | refine blk_drew ?_ | refine blk_alloc ?_ _)); refine blk_put (cs := #[.int .u16 (rd t161 x6_1), .int .u8 ((t176) % 256), .int .u8 0, .int .u32 x169003_23]) ?_ 2 _ rfl; (with_reducible repeat (first | refine blk_drewN ?_ _ | refine blk_drew ?_ | refine blk_alloc ?_ _)); refine blk_put (cs := #[.int .u16 (rd t161 x6_1), .int .u8 0, .int .u8 0, .int .u32 x169003_23]) ?_ 1 _ rfl; (with_reducible repeat (first | refine blk_drewN ?_ _ | refine blk_drew ?_ | refine blk_alloc ?_ _)); exact BK168.out) hb); have n3_ := Aside0.mk (below_step (by repeat (first | (with_reducible first | exact HB.out | apply below_alloc | apply pw_below_drewN | apply below_drew1 | refine below_set ?_ GE157.out | refine below_set ?_ GE168.out) | exact HB.out)) hb); clear HO_4; clear BK157; clear BK168; clear HB; have HO_4 := n0_; have BK157 := n1_; have BK168 := n2_; have HB := n3_; clear n0_ n1_ n2_ n3_; (try clear hb); (try clear hb2); (try clear hk); (try clear hi); have hcz52_0 : w51.cell? ⟨gb168, 0, none⟩ = some (.int .u16 (rd t161 x6_1)) := (blk_cell BK168.out 0).trans rfl; have hcz52_1 : w51.cell? ⟨gb168, 1, none⟩ = some (.int .u8 ((t176) % 256)) := (blk_cell BK168.out 1).trans rfl; have hcz52_2 : w51.cell? ⟨gb168, 2, none⟩ = some (.int .u8 ((t178) % 256)) := (blk_cell BK168.out 2).trans rfl; have hcz52_3 : w51.cell? ⟨gb168, 3, none⟩ = some (.int .u32 x169003_23) := (blk_cell BK168.out 3).trans rfl; have hfz52_0 := blk_frozen BK168.out 0; have hfz52_1 := blk_frozen BK168.out 1; have hfz52_2 := blk_frozen BK168.out 2; have hfz52_3 := blk_frozen BK168.out 3; have hcz53_0 : w51.cell? ⟨gb157, 0, none⟩ = some (.int .u16 x158000_1) := (blk_cell BK157.out 0).trans rfl; have hcz53_1 : w51.cell? ⟨gb157, 1, none⟩ = some (.int .u8 x158001_1) := (blk_cell BK157.out 1).trans rfl; have hcz53_2 : w51.cell? ⟨gb157, 2, none⟩ = some (.int .u8 x158002_1) := (blk_cell BK157.out 2).trans rfl; have hcz53_3 : w51.cell? ⟨gb157, 3, none⟩ = some (.int .u32 x158003_1) := (blk_cell BK157.out 3).trans rfl; have hfz53_0 := blk_frozen BK157.out 0; have hfz53_1 := blk_frozen BK157.out 1; have hfz53_2 := blk_frozen BK157.out 2; have hfz53_3 := blk_frozen BK157.out 3))
                                        refine bodyPost_ret (results_ct rfl _ _ gb157 25 #[.int .u16 (rd t161 x6_1), .int .u8 ((t176) % 256), .int .u8 ((t178) % 256), .int .u32 x169003_23] (0, 0) _ rfl (by (with_reducible repeat (first | refine blk_drewN ?_ _ | refine blk_drew ?_ | refine blk_alloc ?_ _)); refine blk_put (cs := #[.int .u16 (rd t161 x6_1), .int .u8 ((t176) % 256), .int .u8 ((t178) % 256), .int .u32 x158003_1]) ?_ 3 _ rfl; (with_reducible repeat (first | refine blk_drewN ?_ _ | refine blk_drew ?_ | refine blk_alloc ?_ _)); refine blk_put (cs := #[.int .u16 (rd t161 x6_1), .int .u8 ((t176) % 256), .int .u8 x158002_1, .int .u32 x158003_1]) ?_ 2 _ rfl; (with_reducible repeat (first | refine blk_drewN ?_ _ | refine blk_drew ?_ | refine blk_alloc ?_ _)); refine blk_put (cs := #[.int .u16 (rd t161 x6_1), .int .u8 x158001_1, .int .u8 x158002_1, .int .u32 x158003_1]) ?_ 1 _ rfl; (with_reducible repeat (first | refine blk_drewN ?_ _ | refine blk_drew ?_ | refine blk_alloc ?_ _)); refine blk_put (cs := #[.int .u16 x158000_1, .int .u8 x158001_1, .int .u8 x158002_1, .int .u32 x158003_1]) ?_ 0 _ rfl; (with_reducible repeat (first | refine blk_drewN ?_ _ | refine blk_drew ?_ | refine blk_alloc ?_ _)); exact BK157.out) Tryd.underlying25 rfl (by kernel_rfl)) rfl ?_
                                        exact ⟨by first | rfl | (simp [errW_none, errW_some] <;> rfl) | (simp only [← hji42]; first | rfl | (simp [errW_none, errW_some] <;> rfl)) | (simp [*, errW_none, errW_some] <;> rfl), by repeat (first | (with_reducible first | exact HB.out | apply below_alloc | apply pw_below_drewN | apply below_drew1 | refine below_set ?_ GE157.out | refine below_set ?_ GE168.out) | exact HB.out)⟩
                                      · rw [if_neg c48] at H
                                        have c48b0 : (t179.toList == a0.toList) = false := beq_eq_false_iff_ne.mpr c48
                                        have c48b1 : (t179.toList != a0.toList) = true := bne_iff_ne.mpr c48
                                        simp only [Option.some.injEq, Prod.mk.injEq] at H
                                        obtain ⟨rfl, rfl, rfl, rfl, rfl⟩ := H
                                        have p175 : 0 ≤ (x8_23 : Int) := of_decide_eq_true (by first | (with_reducible assumption) | assumption)
                                        have q175 : x8_23 < (t158.length : Int) := of_decide_eq_true (by first | (with_reducible assumption) | assumption)
                                        obtain ⟨ad175, e175, hx175_0⟩ := Kd.at_string (Kd.R_reads' HO_4.out).2.2 x8_23 p175 q175
                                        obtain rfl : ad166 = ad175 := (by injection e175)
                                        replace p175 := eq_true p175
                                        replace q175 := eq_true q175
                                        go_wp2_with (first | ((with_reducible refine gate_callee (f := 32) rfl ?_); refine goesL_ (some 70) rfl rfl Tryd.func32 (by kernel_rfl) rfl #[.string (rdOf ByteArray.empty t158 x8_23)] rfl (by (try simp only [List.map_toArray, List.map_cons, List.map_nil]); first | done | rfl | (simp only [List.length_drop, List.length_take]; rfl)) ?_; (with_reducible refine (tamisref05_value.calls kj30 (rdOf ByteArray.empty t158 x8_23) t176 _ A41.out).mono ?_); rintro e w' ⟨rfl, ⟨nd, rfl⟩⟩; refine ⟨_, rfl, ?_⟩; (try (rw [drewN_self wc]; generalize hq_ : World.drewN wc _ = wc; have n0_ : Aside0 (Kd.R Kd.string 9 wc w.heap.size (fun _ => True) (.slice (some ad166) t158.length co15) t158) := ⟨by rw [← hq_]; exact (by (with_reducible repeat (first | apply Kd.R_alloc | apply Kd.R_drewN | apply Kd.R_drew)); exact HO_4.out)⟩; have n1_ : Aside0 (wc.heap[gb157]? = some (.cells #[.int .u16 x158000_1, .int .u8 x158001_1, .int .u8 x158002_1, .int .u32 x158003_1] 25 (0, 0))) := ⟨by rw [← hq_]; exact (by (with_reducible repeat (first | refine blk_drewN ?_ _ | refine blk_drew ?_ | refine blk_alloc ?_ _)); exact BK157.out)⟩; have n2_ : Aside0 (wc.heap[gb168]? = some (.cells #[.int .u16 (rd t161 x6_1), .int .u8 0, .int .u8 0, .int .u32 x169003_23] 25 (0, 0))) := ⟨by rw [← hq_]; exact (by (with_reducible repeat (first | refine blk_drewN ?_ _ | refine blk_drew ?_ | refine blk_alloc ?_ _)); exact BK168.out)⟩; have n3_ : Aside0 (Below w.heap.size w wc) := ⟨by rw [← hq_]; exact (by repeat (first | (with_reducible first | exact HB.out | apply below_alloc | apply pw_below_drewN | apply below_drew1 | refine below_set ?_ GE157.out | refine below_set ?_ GE168.out) | exact HB.out))⟩; clear HO_4 BK157 BK168 HB hq_; have HO_4 := n0_; have BK157 := n1_; have BK168 := n2_; have HB := n3_; clear n0_ n1_ n2_ n3_)); have hnb54 := NB168_157.out; have hnc54 := NB157_168.out; have hcz55_0 : wc.cell? ⟨gb168, 0, none⟩ = some (.int .u16 (rd t161 x6_1)) := (blk_cell BK168.out 0).trans rfl; have hcz55_1 : wc.cell? ⟨gb168, 1, none⟩ = some (.int .u8 0) := (blk_cell BK168.out 1).trans rfl; have hcz55_2 : wc.cell? ⟨gb168, 2, none⟩ = some (.int .u8 0) := (blk_cell BK168.out 2).trans rfl; have hcz55_3 : wc.cell? ⟨gb168, 3, none⟩ = some (.int .u32 x169003_23) := (blk_cell BK168.out 3).trans rfl; have hfz55_0 := blk_frozen BK168.out 0; have hfz55_1 := blk_frozen BK168.out 1; have hfz55_2 := blk_frozen BK168.out 2; have hfz55_3 := blk_frozen BK168.out 3; have p177 : 0 ≤ ((ji42) : Int) := of_decide_eq_true (by first | (with_reducible assumption) | assumption); have q177 : (ji42) < (t158.length : Int) := of_decide_eq_true (by first | (with_reducible assumption) | assumption); obtain ⟨ad177, e177, hx177_0⟩ := Kd.at_string (Kd.R_reads' HO_4.out).2.2 (ji42) p177 q177; obtain rfl : ad166 = ad177 := (by injection e177); have hn177_0 : ad166.block ≠ gb168 := Kd.own_blk (Kd.R_ne HO_4.out BK168.out (by decide)); replace hx177_0 := (cell_far (p := ⟨gb168, 1, none⟩) (by first | (rw [add_block]; exact hn177_0) | (show (Addr.add _ _).block ≠ _; rw [add_block]; exact hn177_0) | exact hn177_0) (.int .u8 ((t176) % 256))).trans hx177_0; clear hn177_0; replace p177 := eq_true p177; replace q177 := eq_true q177) | ((with_reducible refine gate_callee (f := 32) rfl ?_); refine goesL_ (some 78) rfl rfl Tryd.func32 (by kernel_rfl) rfl #[.string (rdOf ByteArray.empty t158 (ji42))] rfl (by (try simp only [List.map_toArray, List.map_cons, List.map_nil]); first | done | (simp only [hji42]; rfl) | rfl | (simp only [List.length_drop, List.length_take]; rfl)) ?_; (with_reducible refine (tamisref05_value.calls kj30 (rdOf ByteArray.empty t158 (ji42)) t178 _ A45.out).mono ?_); rintro e w' ⟨rfl, ⟨nd, rfl⟩⟩; refine ⟨_, rfl, ?_⟩) | ((with_reducible refine gate_callee (f := 11) rfl ?_); refine goesL_ (some 83) rfl rfl Tryd.func11 (by kernel_rfl) rfl #[.agg #[.int .u16 (rd t161 x6_1), .int .u8 ((t176) % 256), .int .u8 ((t178) % 256), .int .u32 x169003_23]] rfl (by (try simp only [List.map_toArray, List.map_cons, List.map_nil]); first | done | rfl | (simp only [List.length_drop, List.length_take]; rfl)) ?_; (with_reducible refine (tamisref05_Line.calls kj30 (rd t161 x6_1) ((t176) % 256) ((t178) % 256) x169003_23 t179 t180 _ A46.out).mono ?_); rintro e w56 ⟨rfl, hb⟩; refine ⟨_, rfl, ?_⟩; have n0_ := Aside0.mk (Kd.R_below (by (with_reducible repeat (first | apply Kd.R_alloc | apply Kd.R_drewN | apply Kd.R_drew)); exact (Kd.R_mono (Kd.R_far (p := ⟨gb168, 2, none⟩) (Kd.R_far (p := ⟨gb168, 1, none⟩) (Kd.R_types HO_4.out BK168.out (by decide)) (fun _ hk => hk.2) (.int .u8 ((t176) % 256))) (fun _ hk => hk.2) (.int .u8 ((t178) % 256))) (fun _ h_ => h_.1))) hb); have n1_ := Aside0.mk (blk_below (g := gb157) (o := .cells #[.int .u16 x158000_1, .int .u8 x158001_1, .int .u8 x158002_1, .int .u32 x158003_1] 25 (0, 0)) (by (with_reducible repeat (first | refine blk_drewN ?_ _ | refine blk_drew ?_ | refine blk_alloc ?_ _)); refine blk_far ?_ NB157_168.out _; (with_reducible repeat (first | refine blk_drewN ?_ _ | refine blk_drew ?_ | refine blk_alloc ?_ _)); refine blk_far ?_ NB157_168.out _; (with_reducible repeat (first | refine blk_drewN ?_ _ | refine blk_drew ?_ | refine blk_alloc ?_ _)); exact BK157.out) hb); have n2_ := Aside0.mk (blk_below (g := gb168) (o := .cells #[.int .u16 (rd t161 x6_1), .int .u8 ((t176) % 256), .int .u8 ((t178) % 256), .int .u32 x169003_23] 25 (0, 0)) (by (with_reducible repeat (first | refine blk_drewN ?_ _ | refine blk_drew ?_ | refine blk_alloc ?_ _)); refine blk_put (cs := #[.int .u16 (rd t161 x6_1), .int .u8 ((t176) % 256), .int .u8 0, .int .u32 x169003_23]) ?_ 2 _ rfl; (with_reducible repeat (first | refine blk_drewN ?_ _ | refine blk_drew ?_ | refine blk_alloc ?_ _)); refine blk_put (cs := #[.int .u16 (rd t161 x6_1), .int .u8 0, .int .u8 0, .int .u32 x169003_23]) ?_ 1 _ rfl; (with_reducible repeat (first | refine blk_drewN ?_ _ | refine blk_drew ?_ | refine blk_alloc ?_ _)); exact BK168.out) hb); have n3_ := Aside0.mk (below_step (by repeat (first | (with_reducible first | exact HB.out | apply below_alloc | apply pw_below_drewN | apply below_drew1 | refine below_set ?_ GE157.out | refine below_set ?_ GE168.out) | exact HB.out)) hb); clear HO_4; clear BK157; clear BK168; clear HB; have HO_4 := n0_; have BK157 := n1_; have BK168 := n2_; have HB := n3_; clear n0_ n1_ n2_ n3_; (try clear hb); (try clear hb2); (try clear hk); (try clear hi); have hcz57_0 : w56.cell? ⟨gb157, 0, none⟩ = some (.int .u16 x158000_1) := (blk_cell BK157.out 0).trans rfl; have hcz57_1 : w56.cell? ⟨gb157, 1, none⟩ = some (.int .u8 x158001_1) := (blk_cell BK157.out 1).trans rfl; have hcz57_2 : w56.cell? ⟨gb157, 2, none⟩ = some (.int .u8 x158002_1) := (blk_cell BK157.out 2).trans rfl; have hcz57_3 : w56.cell? ⟨gb157, 3, none⟩ = some (.int .u32 x158003_1) := (blk_cell BK157.out 3).trans rfl; have hfz57_0 := blk_frozen BK157.out 0; have hfz57_1 := blk_frozen BK157.out 1; have hfz57_2 := blk_frozen BK157.out 2; have hfz57_3 := blk_frozen BK157.out 3))
                                        refine bodyPost_ret (results_ct rfl _ _ gb157 25 #[.int .u16 0, .int .u8 0, .int .u8 0, .int .u32 0] (0, 0) _ rfl (by (with_reducible repeat (first | refine blk_drewN ?_ _ | refine blk_drew ?_ | refine blk_alloc ?_ _)); refine blk_put (cs := #[.int .u16 0, .int .u8 0, .int .u8 0, .int .u32 x158003_1]) ?_ 3 _ rfl; (with_reducible repeat (first | refine blk_drewN ?_ _ | refine blk_drew ?_ | refine blk_alloc ?_ _)); refine blk_put (cs := #[.int .u16 0, .int .u8 0, .int .u8 x158002_1, .int .u32 x158003_1]) ?_ 2 _ rfl; (with_reducible repeat (first | refine blk_drewN ?_ _ | refine blk_drew ?_ | refine blk_alloc ?_ _)); refine blk_put (cs := #[.int .u16 0, .int .u8 x158001_1, .int .u8 x158002_1, .int .u32 x158003_1]) ?_ 1 _ rfl; (with_reducible repeat (first | refine blk_drewN ?_ _ | refine blk_drew ?_ | refine blk_alloc ?_ _)); refine blk_put (cs := #[.int .u16 x158000_1, .int .u8 x158001_1, .int .u8 x158002_1, .int .u32 x158003_1]) ?_ 0 _ rfl; (with_reducible repeat (first | refine blk_drewN ?_ _ | refine blk_drew ?_ | refine blk_alloc ?_ _)); exact BK157.out) Tryd.underlying25 rfl (by kernel_rfl)) rfl ?_
                                        exact ⟨by first | rfl | (simp [errW_none, errW_some] <;> rfl) | (simp only [← hji42]; first | rfl | (simp [errW_none, errW_some] <;> rfl)) | (simp [*, errW_none, errW_some] <;> rfl), by repeat (first | (with_reducible first | exact HB.out | apply below_alloc | apply pw_below_drewN | apply below_drew1 | refine below_set ?_ GE157.out | refine below_set ?_ GE168.out) | exact HB.out)⟩
                                    · rw [if_neg c47] at H
                                      have c47b0 : (t180 == 0) = false := beq_eq_false_iff_ne.mpr c47
                                      have c47b1 : (t180 != 0) = true := bne_iff_ne.mpr c47
                                      simp only [Option.some.injEq, Prod.mk.injEq] at H
                                      obtain ⟨rfl, rfl, rfl, rfl, rfl⟩ := H
                                      have p175 : 0 ≤ (x8_23 : Int) := of_decide_eq_true (by first | (with_reducible assumption) | assumption)
                                      have q175 : x8_23 < (t158.length : Int) := of_decide_eq_true (by first | (with_reducible assumption) | assumption)
                                      obtain ⟨ad175, e175, hx175_0⟩ := Kd.at_string (Kd.R_reads' HO_4.out).2.2 x8_23 p175 q175
                                      obtain rfl : ad166 = ad175 := (by injection e175)
                                      replace p175 := eq_true p175
                                      replace q175 := eq_true q175
                                      go_wp2_with (first | ((with_reducible refine gate_callee (f := 32) rfl ?_); refine goesL_ (some 70) rfl rfl Tryd.func32 (by kernel_rfl) rfl #[.string (rdOf ByteArray.empty t158 x8_23)] rfl (by (try simp only [List.map_toArray, List.map_cons, List.map_nil]); first | done | rfl | (simp only [List.length_drop, List.length_take]; rfl)) ?_; (with_reducible refine (tamisref05_value.calls kj30 (rdOf ByteArray.empty t158 x8_23) t176 _ A41.out).mono ?_); rintro e w' ⟨rfl, ⟨nd, rfl⟩⟩; refine ⟨_, rfl, ?_⟩; (try (rw [drewN_self wc]; generalize hq_ : World.drewN wc _ = wc; have n0_ : Aside0 (Kd.R Kd.string 9 wc w.heap.size (fun _ => True) (.slice (some ad166) t158.length co15) t158) := ⟨by rw [← hq_]; exact (by (with_reducible repeat (first | apply Kd.R_alloc | apply Kd.R_drewN | apply Kd.R_drew)); exact HO_4.out)⟩; have n1_ : Aside0 (wc.heap[gb157]? = some (.cells #[.int .u16 x158000_1, .int .u8 x158001_1, .int .u8 x158002_1, .int .u32 x158003_1] 25 (0, 0))) := ⟨by rw [← hq_]; exact (by (with_reducible repeat (first | refine blk_drewN ?_ _ | refine blk_drew ?_ | refine blk_alloc ?_ _)); exact BK157.out)⟩; have n2_ : Aside0 (wc.heap[gb168]? = some (.cells #[.int .u16 (rd t161 x6_1), .int .u8 0, .int .u8 0, .int .u32 x169003_23] 25 (0, 0))) := ⟨by rw [← hq_]; exact (by (with_reducible repeat (first | refine blk_drewN ?_ _ | refine blk_drew ?_ | refine blk_alloc ?_ _)); exact BK168.out)⟩; have n3_ : Aside0 (Below w.heap.size w wc) := ⟨by rw [← hq_]; exact (by repeat (first | (with_reducible first | exact HB.out | apply below_alloc | apply pw_below_drewN | apply below_drew1 | refine below_set ?_ GE157.out | refine below_set ?_ GE168.out) | exact HB.out))⟩; clear HO_4 BK157 BK168 HB hq_; have HO_4 := n0_; have BK157 := n1_; have BK168 := n2_; have HB := n3_; clear n0_ n1_ n2_ n3_)); have hnb58 := NB168_157.out; have hnc58 := NB157_168.out; have hcz59_0 : wc.cell? ⟨gb168, 0, none⟩ = some (.int .u16 (rd t161 x6_1)) := (blk_cell BK168.out 0).trans rfl; have hcz59_1 : wc.cell? ⟨gb168, 1, none⟩ = some (.int .u8 0) := (blk_cell BK168.out 1).trans rfl; have hcz59_2 : wc.cell? ⟨gb168, 2, none⟩ = some (.int .u8 0) := (blk_cell BK168.out 2).trans rfl; have hcz59_3 : wc.cell? ⟨gb168, 3, none⟩ = some (.int .u32 x169003_23) := (blk_cell BK168.out 3).trans rfl; have hfz59_0 := blk_frozen BK168.out 0; have hfz59_1 := blk_frozen BK168.out 1; have hfz59_2 := blk_frozen BK168.out 2; have hfz59_3 := blk_frozen BK168.out 3; have p177 : 0 ≤ ((ji42) : Int) := of_decide_eq_true (by first | (with_reducible assumption) | assumption); have q177 : (ji42) < (t158.length : Int) := of_decide_eq_true (by first | (with_reducible assumption) | assumption); obtain ⟨ad177, e177, hx177_0⟩ := Kd.at_string (Kd.R_reads' HO_4.out).2.2 (ji42) p177 q177; obtain rfl : ad166 = ad177 := (by injection e177); have hn177_0 : ad166.block ≠ gb168 := Kd.own_blk (Kd.R_ne HO_4.out BK168.out (by decide)); replace hx177_0 := (cell_far (p := ⟨gb168, 1, none⟩) (by first | (rw [add_block]; exact hn177_0) | (show (Addr.add _ _).block ≠ _; rw [add_block]; exact hn177_0) | exact hn177_0) (.int .u8 ((t176) % 256))).trans hx177_0; clear hn177_0; replace p177 := eq_true p177; replace q177 := eq_true q177) | ((with_reducible refine gate_callee (f := 32) rfl ?_); refine goesL_ (some 78) rfl rfl Tryd.func32 (by kernel_rfl) rfl #[.string (rdOf ByteArray.empty t158 (ji42))] rfl (by (try simp only [List.map_toArray, List.map_cons, List.map_nil]); first | done | (simp only [hji42]; rfl) | rfl | (simp only [List.length_drop, List.length_take]; rfl)) ?_; (with_reducible refine (tamisref05_value.calls kj30 (rdOf ByteArray.empty t158 (ji42)) t178 _ A45.out).mono ?_); rintro e w' ⟨rfl, ⟨nd, rfl⟩⟩; refine ⟨_, rfl, ?_⟩) | ((with_reducible refine gate_callee (f := 11) rfl ?_); refine goesL_ (some 83) rfl rfl Tryd.func11 (by kernel_rfl) rfl #[.agg #[.int .u16 (rd t161 x6_1), .int .u8 ((t176) % 256), .int .u8 ((t178) % 256), .int .u32 x169003_23]] rfl (by (try simp only [List.map_toArray, List.map_cons, List.map_nil]); first | done | rfl | (simp only [List.length_drop, List.length_take]; rfl)) ?_; (with_reducible refine (tamisref05_Line.calls kj30 (rd t161 x6_1) ((t176) % 256) ((t178) % 256) x169003_23 t179 t180 _ A46.out).mono ?_); rintro e w60 ⟨rfl, hb⟩; refine ⟨_, rfl, ?_⟩; have n0_ := Aside0.mk (Kd.R_below (by (with_reducible repeat (first | apply Kd.R_alloc | apply Kd.R_drewN | apply Kd.R_drew)); exact (Kd.R_mono (Kd.R_far (p := ⟨gb168, 2, none⟩) (Kd.R_far (p := ⟨gb168, 1, none⟩) (Kd.R_types HO_4.out BK168.out (by decide)) (fun _ hk => hk.2) (.int .u8 ((t176) % 256))) (fun _ hk => hk.2) (.int .u8 ((t178) % 256))) (fun _ h_ => h_.1))) hb); have n1_ := Aside0.mk (blk_below (g := gb157) (o := .cells #[.int .u16 x158000_1, .int .u8 x158001_1, .int .u8 x158002_1, .int .u32 x158003_1] 25 (0, 0)) (by (with_reducible repeat (first | refine blk_drewN ?_ _ | refine blk_drew ?_ | refine blk_alloc ?_ _)); refine blk_far ?_ NB157_168.out _; (with_reducible repeat (first | refine blk_drewN ?_ _ | refine blk_drew ?_ | refine blk_alloc ?_ _)); refine blk_far ?_ NB157_168.out _; (with_reducible repeat (first | refine blk_drewN ?_ _ | refine blk_drew ?_ | refine blk_alloc ?_ _)); exact BK157.out) hb); have n2_ := Aside0.mk (blk_below (g := gb168) (o := .cells #[.int .u16 (rd t161 x6_1), .int .u8 ((t176) % 256), .int .u8 ((t178) % 256), .int .u32 x169003_23] 25 (0, 0)) (by (with_reducible repeat (first | refine blk_drewN ?_ _ | refine blk_drew ?_ | refine blk_alloc ?_ _)); refine blk_put (cs := #[.int .u16 (rd t161 x6_1), .int .u8 ((t176) % 256), .int .u8 0, .int .u32 x169003_23]) ?_ 2 _ rfl; (with_reducible repeat (first | refine blk_drewN ?_ _ | refine blk_drew ?_ | refine blk_alloc ?_ _)); refine blk_put (cs := #[.int .u16 (rd t161 x6_1), .int .u8 0, .int .u8 0, .int .u32 x169003_23]) ?_ 1 _ rfl; (with_reducible repeat (first | refine blk_drewN ?_ _ | refine blk_drew ?_ | refine blk_alloc ?_ _)); exact BK168.out) hb); have n3_ := Aside0.mk (below_step (by repeat (first | (with_reducible first | exact HB.out | apply below_alloc | apply pw_below_drewN | apply below_drew1 | refine below_set ?_ GE157.out | refine below_set ?_ GE168.out) | exact HB.out)) hb); clear HO_4; clear BK157; clear BK168; clear HB; have HO_4 := n0_; have BK157 := n1_; have BK168 := n2_; have HB := n3_; clear n0_ n1_ n2_ n3_; (try clear hb); (try clear hb2); (try clear hk); (try clear hi); have hcz61_0 : w60.cell? ⟨gb157, 0, none⟩ = some (.int .u16 x158000_1) := (blk_cell BK157.out 0).trans rfl; have hcz61_1 : w60.cell? ⟨gb157, 1, none⟩ = some (.int .u8 x158001_1) := (blk_cell BK157.out 1).trans rfl; have hcz61_2 : w60.cell? ⟨gb157, 2, none⟩ = some (.int .u8 x158002_1) := (blk_cell BK157.out 2).trans rfl; have hcz61_3 : w60.cell? ⟨gb157, 3, none⟩ = some (.int .u32 x158003_1) := (blk_cell BK157.out 3).trans rfl; have hfz61_0 := blk_frozen BK157.out 0; have hfz61_1 := blk_frozen BK157.out 1; have hfz61_2 := blk_frozen BK157.out 2; have hfz61_3 := blk_frozen BK157.out 3))
                                      refine bodyPost_ret (results_ct rfl _ _ gb157 25 #[.int .u16 0, .int .u8 0, .int .u8 0, .int .u32 0] (0, 0) _ rfl (by (with_reducible repeat (first | refine blk_drewN ?_ _ | refine blk_drew ?_ | refine blk_alloc ?_ _)); refine blk_put (cs := #[.int .u16 0, .int .u8 0, .int .u8 0, .int .u32 x158003_1]) ?_ 3 _ rfl; (with_reducible repeat (first | refine blk_drewN ?_ _ | refine blk_drew ?_ | refine blk_alloc ?_ _)); refine blk_put (cs := #[.int .u16 0, .int .u8 0, .int .u8 x158002_1, .int .u32 x158003_1]) ?_ 2 _ rfl; (with_reducible repeat (first | refine blk_drewN ?_ _ | refine blk_drew ?_ | refine blk_alloc ?_ _)); refine blk_put (cs := #[.int .u16 0, .int .u8 x158001_1, .int .u8 x158002_1, .int .u32 x158003_1]) ?_ 1 _ rfl; (with_reducible repeat (first | refine blk_drewN ?_ _ | refine blk_drew ?_ | refine blk_alloc ?_ _)); refine blk_put (cs := #[.int .u16 x158000_1, .int .u8 x158001_1, .int .u8 x158002_1, .int .u32 x158003_1]) ?_ 0 _ rfl; (with_reducible repeat (first | refine blk_drewN ?_ _ | refine blk_drew ?_ | refine blk_alloc ?_ _)); exact BK157.out) Tryd.underlying25 rfl (by kernel_rfl)) rfl ?_
                                      exact ⟨by first | rfl | (simp [errW_none, errW_some] <;> rfl) | (simp only [← hji42]; first | rfl | (simp [errW_none, errW_some] <;> rfl)) | (simp [*, errW_none, errW_some] <;> rfl), by repeat (first | (with_reducible first | exact HB.out | apply below_alloc | apply pw_below_drewN | apply below_drew1 | refine below_set ?_ GE157.out | refine below_set ?_ GE168.out) | exact HB.out)⟩
                                  · rw [if_neg c44] at H
                                    exact absurd H (by simp)
                                · rw [if_neg c43] at H
                                  exact absurd H (by simp)
                              · rw [if_neg c40] at H
                                exact absurd H (by simp)
                            · rw [if_neg c39] at H
                              exact absurd H (by simp)
                          · replace c38 := Bool.eq_false_iff.mpr c38
                            subst c38
                            have H1 : ((tamisref05_Line.f kj30 (rd t161 x6_1) 0 0 x169003_23).bind fun bt181 => (if bt181.2 = 0 then (if bt181.1.toList = a0.toList then (some ((rd t161 x6_1), 0, 0, x169003_23, true)) else (some (0, 0, 0, 0, false))) else (some (0, 0, 0, 0, false)))) = some (r1, r2, r3, r4, r5) := by rw [if_neg (show ¬ (false = true) by decide)] at H; exact H
                            clear H
                            have H := H1
                            clear H1
                            replace H := Option.bind_eq_some_iff.mp H
                            obtain ⟨⟨t181, t182⟩, A620, H⟩ := H
                            replace H : (if t182 = 0 then (if t181.toList = a0.toList then (some ((rd t161 x6_1), 0, 0, x169003_23, true)) else (some (0, 0, 0, 0, false))) else (some (0, 0, 0, 0, false))) = some (r1, r2, r3, r4, r5) := H
                            have A62 := Aside0.mk A620
                            clear A620
                            by_cases c63 : t182 = 0
                            · rw [if_pos c63] at H
                              have c63b0 : (t182 == 0) = true := beq_iff_eq.mpr c63
                              have c63b1 : (t182 != 0) = false := bne_eq_false_iff_eq.mpr c63
                              clear c63
                              by_cases c64 : t181.toList = a0.toList
                              · rw [if_pos c64] at H
                                have c64b0 : (t181.toList == a0.toList) = true := beq_iff_eq.mpr c64
                                have c64b1 : (t181.toList != a0.toList) = false := bne_eq_false_iff_eq.mpr c64
                                clear c64
                                simp only [Option.some.injEq, Prod.mk.injEq] at H
                                obtain ⟨rfl, rfl, rfl, rfl, rfl⟩ := H
                                have hnb65 := NB168_157.out
                                have hnc65 := NB157_168.out
                                have hcz66_0 : wc.cell? ⟨gb168, 0, none⟩ = some (.int .u16 (rd t161 x6_1)) := (blk_cell BK168.out 0).trans rfl
                                have hcz66_1 : wc.cell? ⟨gb168, 1, none⟩ = some (.int .u8 0) := (blk_cell BK168.out 1).trans rfl
                                have hcz66_2 : wc.cell? ⟨gb168, 2, none⟩ = some (.int .u8 0) := (blk_cell BK168.out 2).trans rfl
                                have hcz66_3 : wc.cell? ⟨gb168, 3, none⟩ = some (.int .u32 x169003_23) := (blk_cell BK168.out 3).trans rfl
                                have hfz66_0 := blk_frozen BK168.out 0
                                have hfz66_1 := blk_frozen BK168.out 1
                                have hfz66_2 := blk_frozen BK168.out 2
                                have hfz66_3 := blk_frozen BK168.out 3
                                go_wp2_with (first | ((with_reducible refine gate_callee (f := 11) rfl ?_); refine goesL_ (some 83) rfl rfl Tryd.func11 (by kernel_rfl) rfl #[.agg #[.int .u16 (rd t161 x6_1), .int .u8 0, .int .u8 0, .int .u32 x169003_23]] rfl (by (try simp only [List.map_toArray, List.map_cons, List.map_nil]); first | done | rfl | (simp only [List.length_drop, List.length_take]; rfl)) ?_; (with_reducible refine (tamisref05_Line.calls kj30 (rd t161 x6_1) 0 0 x169003_23 t181 t182 _ A62.out).mono ?_); rintro e w67 ⟨rfl, hb⟩; refine ⟨_, rfl, ?_⟩; have n0_ := Aside0.mk (Kd.R_below (by (with_reducible repeat (first | apply Kd.R_alloc | apply Kd.R_drewN | apply Kd.R_drew)); exact HO_4.out) hb); have n1_ := Aside0.mk (blk_below (g := gb157) (o := .cells #[.int .u16 x158000_1, .int .u8 x158001_1, .int .u8 x158002_1, .int .u32 x158003_1] 25 (0, 0)) (by (with_reducible repeat (first | refine blk_drewN ?_ _ | refine blk_drew ?_ | refine blk_alloc ?_ _)); exact BK157.out) hb); have n2_ := Aside0.mk (blk_below (g := gb168) (o := .cells #[.int .u16 (rd t161 x6_1), .int .u8 0, .int .u8 0, .int .u32 x169003_23] 25 (0, 0)) (by (with_reducible repeat (first | refine blk_drewN ?_ _ | refine blk_drew ?_ | refine blk_alloc ?_ _)); exact BK168.out) hb); have n3_ := Aside0.mk (below_step (by repeat (first | (with_reducible first | exact HB.out | apply below_alloc | apply pw_below_drewN | apply below_drew1 | refine below_set ?_ GE157.out | refine below_set ?_ GE168.out) | exact HB.out)) hb); clear HO_4; clear BK157; clear BK168; clear HB; have HO_4 := n0_; have BK157 := n1_; have BK168 := n2_; have HB := n3_; clear n0_ n1_ n2_ n3_; (try clear hb); (try clear hb2); (try clear hk); (try clear hi); have hcz68_0 : w67.cell? ⟨gb168, 0, none⟩ = some (.int .u16 (rd t161 x6_1)) := (blk_cell BK168.out 0).trans rfl; have hcz68_1 : w67.cell? ⟨gb168, 1, none⟩ = some (.int .u8 0) := (blk_cell BK168.out 1).trans rfl; have hcz68_2 : w67.cell? ⟨gb168, 2, none⟩ = some (.int .u8 0) := (blk_cell BK168.out 2).trans rfl; have hcz68_3 : w67.cell? ⟨gb168, 3, none⟩ = some (.int .u32 x169003_23) := (blk_cell BK168.out 3).trans rfl; have hfz68_0 := blk_frozen BK168.out 0; have hfz68_1 := blk_frozen BK168.out 1; have hfz68_2 := blk_frozen BK168.out 2; have hfz68_3 := blk_frozen BK168.out 3; have hcz69_0 : w67.cell? ⟨gb157, 0, none⟩ = some (.int .u16 x158000_1) := (blk_cell BK157.out 0).trans rfl; have hcz69_1 : w67.cell? ⟨gb157, 1, none⟩ = some (.int .u8 x158001_1) := (blk_cell BK157.out 1).trans rfl; have hcz69_2 : w67.cell? ⟨gb157, 2, none⟩ = some (.int .u8 x158002_1) := (blk_cell BK157.out 2).trans rfl; have hcz69_3 : w67.cell? ⟨gb157, 3, none⟩ = some (.int .u32 x158003_1) := (blk_cell BK157.out 3).trans rfl; have hfz69_0 := blk_frozen BK157.out 0; have hfz69_1 := blk_frozen BK157.out 1; have hfz69_2 := blk_frozen BK157.out 2; have hfz69_3 := blk_frozen BK157.out 3))
                                refine bodyPost_ret (results_ct rfl _ _ gb157 25 #[.int .u16 (rd t161 x6_1), .int .u8 0, .int .u8 0, .int .u32 x169003_23] (0, 0) _ rfl (by (with_reducible repeat (first | refine blk_drewN ?_ _ | refine blk_drew ?_ | refine blk_alloc ?_ _)); refine blk_put (cs := #[.int .u16 (rd t161 x6_1), .int .u8 0, .int .u8 0, .int .u32 x158003_1]) ?_ 3 _ rfl; (with_reducible repeat (first | refine blk_drewN ?_ _ | refine blk_drew ?_ | refine blk_alloc ?_ _)); refine blk_put (cs := #[.int .u16 (rd t161 x6_1), .int .u8 0, .int .u8 x158002_1, .int .u32 x158003_1]) ?_ 2 _ rfl; (with_reducible repeat (first | refine blk_drewN ?_ _ | refine blk_drew ?_ | refine blk_alloc ?_ _)); refine blk_put (cs := #[.int .u16 (rd t161 x6_1), .int .u8 x158001_1, .int .u8 x158002_1, .int .u32 x158003_1]) ?_ 1 _ rfl; (with_reducible repeat (first | refine blk_drewN ?_ _ | refine blk_drew ?_ | refine blk_alloc ?_ _)); refine blk_put (cs := #[.int .u16 x158000_1, .int .u8 x158001_1, .int .u8 x158002_1, .int .u32 x158003_1]) ?_ 0 _ rfl; (with_reducible repeat (first | refine blk_drewN ?_ _ | refine blk_drew ?_ | refine blk_alloc ?_ _)); exact BK157.out) Tryd.underlying25 rfl (by kernel_rfl)) rfl ?_
                                exact ⟨by first | rfl | (simp [errW_none, errW_some] <;> rfl) | (simp [*, errW_none, errW_some] <;> rfl), by repeat (first | (with_reducible first | exact HB.out | apply below_alloc | apply pw_below_drewN | apply below_drew1 | refine below_set ?_ GE157.out | refine below_set ?_ GE168.out) | exact HB.out)⟩
                              · rw [if_neg c64] at H
                                have c64b0 : (t181.toList == a0.toList) = false := beq_eq_false_iff_ne.mpr c64
                                have c64b1 : (t181.toList != a0.toList) = true := bne_iff_ne.mpr c64
                                simp only [Option.some.injEq, Prod.mk.injEq] at H
                                obtain ⟨rfl, rfl, rfl, rfl, rfl⟩ := H
                                have hnb70 := NB168_157.out
                                have hnc70 := NB157_168.out
                                have hcz71_0 : wc.cell? ⟨gb168, 0, none⟩ = some (.int .u16 (rd t161 x6_1)) := (blk_cell BK168.out 0).trans rfl
                                have hcz71_1 : wc.cell? ⟨gb168, 1, none⟩ = some (.int .u8 0) := (blk_cell BK168.out 1).trans rfl
                                have hcz71_2 : wc.cell? ⟨gb168, 2, none⟩ = some (.int .u8 0) := (blk_cell BK168.out 2).trans rfl
                                have hcz71_3 : wc.cell? ⟨gb168, 3, none⟩ = some (.int .u32 x169003_23) := (blk_cell BK168.out 3).trans rfl
                                have hfz71_0 := blk_frozen BK168.out 0
                                have hfz71_1 := blk_frozen BK168.out 1
                                have hfz71_2 := blk_frozen BK168.out 2
                                have hfz71_3 := blk_frozen BK168.out 3
                                go_wp2_with (first | ((with_reducible refine gate_callee (f := 11) rfl ?_); refine goesL_ (some 83) rfl rfl Tryd.func11 (by kernel_rfl) rfl #[.agg #[.int .u16 (rd t161 x6_1), .int .u8 0, .int .u8 0, .int .u32 x169003_23]] rfl (by (try simp only [List.map_toArray, List.map_cons, List.map_nil]); first | done | rfl | (simp only [List.length_drop, List.length_take]; rfl)) ?_; (with_reducible refine (tamisref05_Line.calls kj30 (rd t161 x6_1) 0 0 x169003_23 t181 t182 _ A62.out).mono ?_); rintro e w72 ⟨rfl, hb⟩; refine ⟨_, rfl, ?_⟩; have n0_ := Aside0.mk (Kd.R_below (by (with_reducible repeat (first | apply Kd.R_alloc | apply Kd.R_drewN | apply Kd.R_drew)); exact HO_4.out) hb); have n1_ := Aside0.mk (blk_below (g := gb157) (o := .cells #[.int .u16 x158000_1, .int .u8 x158001_1, .int .u8 x158002_1, .int .u32 x158003_1] 25 (0, 0)) (by (with_reducible repeat (first | refine blk_drewN ?_ _ | refine blk_drew ?_ | refine blk_alloc ?_ _)); exact BK157.out) hb); have n2_ := Aside0.mk (blk_below (g := gb168) (o := .cells #[.int .u16 (rd t161 x6_1), .int .u8 0, .int .u8 0, .int .u32 x169003_23] 25 (0, 0)) (by (with_reducible repeat (first | refine blk_drewN ?_ _ | refine blk_drew ?_ | refine blk_alloc ?_ _)); exact BK168.out) hb); have n3_ := Aside0.mk (below_step (by repeat (first | (with_reducible first | exact HB.out | apply below_alloc | apply pw_below_drewN | apply below_drew1 | refine below_set ?_ GE157.out | refine below_set ?_ GE168.out) | exact HB.out)) hb); clear HO_4; clear BK157; clear BK168; clear HB; have HO_4 := n0_; have BK157 := n1_; have BK168 := n2_; have HB := n3_; clear n0_ n1_ n2_ n3_; (try clear hb); (try clear hb2); (try clear hk); (try clear hi); have hcz73_0 : w72.cell? ⟨gb157, 0, none⟩ = some (.int .u16 x158000_1) := (blk_cell BK157.out 0).trans rfl; have hcz73_1 : w72.cell? ⟨gb157, 1, none⟩ = some (.int .u8 x158001_1) := (blk_cell BK157.out 1).trans rfl; have hcz73_2 : w72.cell? ⟨gb157, 2, none⟩ = some (.int .u8 x158002_1) := (blk_cell BK157.out 2).trans rfl; have hcz73_3 : w72.cell? ⟨gb157, 3, none⟩ = some (.int .u32 x158003_1) := (blk_cell BK157.out 3).trans rfl; have hfz73_0 := blk_frozen BK157.out 0; have hfz73_1 := blk_frozen BK157.out 1; have hfz73_2 := blk_frozen BK157.out 2; have hfz73_3 := blk_frozen BK157.out 3))
                                refine bodyPost_ret (results_ct rfl _ _ gb157 25 #[.int .u16 0, .int .u8 0, .int .u8 0, .int .u32 0] (0, 0) _ rfl (by (with_reducible repeat (first | refine blk_drewN ?_ _ | refine blk_drew ?_ | refine blk_alloc ?_ _)); refine blk_put (cs := #[.int .u16 0, .int .u8 0, .int .u8 0, .int .u32 x158003_1]) ?_ 3 _ rfl; (with_reducible repeat (first | refine blk_drewN ?_ _ | refine blk_drew ?_ | refine blk_alloc ?_ _)); refine blk_put (cs := #[.int .u16 0, .int .u8 0, .int .u8 x158002_1, .int .u32 x158003_1]) ?_ 2 _ rfl; (with_reducible repeat (first | refine blk_drewN ?_ _ | refine blk_drew ?_ | refine blk_alloc ?_ _)); refine blk_put (cs := #[.int .u16 0, .int .u8 x158001_1, .int .u8 x158002_1, .int .u32 x158003_1]) ?_ 1 _ rfl; (with_reducible repeat (first | refine blk_drewN ?_ _ | refine blk_drew ?_ | refine blk_alloc ?_ _)); refine blk_put (cs := #[.int .u16 x158000_1, .int .u8 x158001_1, .int .u8 x158002_1, .int .u32 x158003_1]) ?_ 0 _ rfl; (with_reducible repeat (first | refine blk_drewN ?_ _ | refine blk_drew ?_ | refine blk_alloc ?_ _)); exact BK157.out) Tryd.underlying25 rfl (by kernel_rfl)) rfl ?_
                                exact ⟨by first | rfl | (simp [errW_none, errW_some] <;> rfl) | (simp [*, errW_none, errW_some] <;> rfl), by repeat (first | (with_reducible first | exact HB.out | apply below_alloc | apply pw_below_drewN | apply below_drew1 | refine below_set ?_ GE157.out | refine below_set ?_ GE168.out) | exact HB.out)⟩
                            · rw [if_neg c63] at H
                              have c63b0 : (t182 == 0) = false := beq_eq_false_iff_ne.mpr c63
                              have c63b1 : (t182 != 0) = true := bne_iff_ne.mpr c63
                              simp only [Option.some.injEq, Prod.mk.injEq] at H
                              obtain ⟨rfl, rfl, rfl, rfl, rfl⟩ := H
                              have hnb74 := NB168_157.out
                              have hnc74 := NB157_168.out
                              have hcz75_0 : wc.cell? ⟨gb168, 0, none⟩ = some (.int .u16 (rd t161 x6_1)) := (blk_cell BK168.out 0).trans rfl
                              have hcz75_1 : wc.cell? ⟨gb168, 1, none⟩ = some (.int .u8 0) := (blk_cell BK168.out 1).trans rfl
                              have hcz75_2 : wc.cell? ⟨gb168, 2, none⟩ = some (.int .u8 0) := (blk_cell BK168.out 2).trans rfl
                              have hcz75_3 : wc.cell? ⟨gb168, 3, none⟩ = some (.int .u32 x169003_23) := (blk_cell BK168.out 3).trans rfl
                              have hfz75_0 := blk_frozen BK168.out 0
                              have hfz75_1 := blk_frozen BK168.out 1
                              have hfz75_2 := blk_frozen BK168.out 2
                              have hfz75_3 := blk_frozen BK168.out 3
                              go_wp2_with (first | ((with_reducible refine gate_callee (f := 11) rfl ?_); refine goesL_ (some 83) rfl rfl Tryd.func11 (by kernel_rfl) rfl #[.agg #[.int .u16 (rd t161 x6_1), .int .u8 0, .int .u8 0, .int .u32 x169003_23]] rfl (by (try simp only [List.map_toArray, List.map_cons, List.map_nil]); first | done | rfl | (simp only [List.length_drop, List.length_take]; rfl)) ?_; (with_reducible refine (tamisref05_Line.calls kj30 (rd t161 x6_1) 0 0 x169003_23 t181 t182 _ A62.out).mono ?_); rintro e w76 ⟨rfl, hb⟩; refine ⟨_, rfl, ?_⟩; have n0_ := Aside0.mk (Kd.R_below (by (with_reducible repeat (first | apply Kd.R_alloc | apply Kd.R_drewN | apply Kd.R_drew)); exact HO_4.out) hb); have n1_ := Aside0.mk (blk_below (g := gb157) (o := .cells #[.int .u16 x158000_1, .int .u8 x158001_1, .int .u8 x158002_1, .int .u32 x158003_1] 25 (0, 0)) (by (with_reducible repeat (first | refine blk_drewN ?_ _ | refine blk_drew ?_ | refine blk_alloc ?_ _)); exact BK157.out) hb); have n2_ := Aside0.mk (blk_below (g := gb168) (o := .cells #[.int .u16 (rd t161 x6_1), .int .u8 0, .int .u8 0, .int .u32 x169003_23] 25 (0, 0)) (by (with_reducible repeat (first | refine blk_drewN ?_ _ | refine blk_drew ?_ | refine blk_alloc ?_ _)); exact BK168.out) hb); have n3_ := Aside0.mk (below_step (by repeat (first | (with_reducible first | exact HB.out | apply below_alloc | apply pw_below_drewN | apply below_drew1 | refine below_set ?_ GE157.out | refine below_set ?_ GE168.out) | exact HB.out)) hb); clear HO_4; clear BK157; clear BK168; clear HB; have HO_4 := n0_; have BK157 := n1_; have BK168 := n2_; have HB := n3_; clear n0_ n1_ n2_ n3_; (try clear hb); (try clear hb2); (try clear hk); (try clear hi); have hcz77_0 : w76.cell? ⟨gb157, 0, none⟩ = some (.int .u16 x158000_1) := (blk_cell BK157.out 0).trans rfl; have hcz77_1 : w76.cell? ⟨gb157, 1, none⟩ = some (.int .u8 x158001_1) := (blk_cell BK157.out 1).trans rfl; have hcz77_2 : w76.cell? ⟨gb157, 2, none⟩ = some (.int .u8 x158002_1) := (blk_cell BK157.out 2).trans rfl; have hcz77_3 : w76.cell? ⟨gb157, 3, none⟩ = some (.int .u32 x158003_1) := (blk_cell BK157.out 3).trans rfl; have hfz77_0 := blk_frozen BK157.out 0; have hfz77_1 := blk_frozen BK157.out 1; have hfz77_2 := blk_frozen BK157.out 2; have hfz77_3 := blk_frozen BK157.out 3))
                              refine bodyPost_ret (results_ct rfl _ _ gb157 25 #[.int .u16 0, .int .u8 0, .int .u8 0, .int .u32 0] (0, 0) _ rfl (by (with_reducible repeat (first | refine blk_drewN ?_ _ | refine blk_drew ?_ | refine blk_alloc ?_ _)); refine blk_put (cs := #[.int .u16 0, .int .u8 0, .int .u8 0, .int .u32 x158003_1]) ?_ 3 _ rfl; (with_reducible repeat (first | refine blk_drewN ?_ _ | refine blk_drew ?_ | refine blk_alloc ?_ _)); refine blk_put (cs := #[.int .u16 0, .int .u8 0, .int .u8 x158002_1, .int .u32 x158003_1]) ?_ 2 _ rfl; (with_reducible repeat (first | refine blk_drewN ?_ _ | refine blk_drew ?_ | refine blk_alloc ?_ _)); refine blk_put (cs := #[.int .u16 0, .int .u8 x158001_1, .int .u8 x158002_1, .int .u32 x158003_1]) ?_ 1 _ rfl; (with_reducible repeat (first | refine blk_drewN ?_ _ | refine blk_drew ?_ | refine blk_alloc ?_ _)); refine blk_put (cs := #[.int .u16 x158000_1, .int .u8 x158001_1, .int .u8 x158002_1, .int .u32 x158003_1]) ?_ 0 _ rfl; (with_reducible repeat (first | refine blk_drewN ?_ _ | refine blk_drew ?_ | refine blk_alloc ?_ _)); exact BK157.out) Tryd.underlying25 rfl (by kernel_rfl)) rfl ?_
                              exact ⟨by first | rfl | (simp [errW_none, errW_some] <;> rfl) | (simp [*, errW_none, errW_some] <;> rfl), by repeat (first | (with_reducible first | exact HB.out | apply below_alloc | apply pw_below_drewN | apply below_drew1 | refine below_set ?_ GE157.out | refine below_set ?_ GE168.out) | exact HB.out)⟩
            · rw [if_neg c11] at H
              have c11b0 : (t165.toList == (rdOf ByteArray.empty t158 0).toList) = false := beq_eq_false_iff_ne.mpr c11
              have c11b1 : (t165.toList != (rdOf ByteArray.empty t158 0).toList) = true := bne_iff_ne.mpr c11
              have H' := Aside0.mk H
              clear H
              obtain ⟨Ao78, co78, eo78⟩ := Kd.R_slice HO_5.out
              subst eo78
              try go_wp2
              have n0_ := Aside0.mk (Kd.R_drew HO_4.out)
              have n1_ := Aside0.mk (Kd.R_drew HO_5.out)
              have n2_ := Aside0.mk (blk_drew BK157.out)
              have n3_ := Aside0.mk (below_drew1 HB.out)
              clear HO_4
              clear HO_5
              clear BK157
              clear HB
              have HO_4 := n0_
              have HO_5 := n1_
              have BK157 := n2_
              have HB := n3_
              clear n0_ n1_ n2_ n3_
              have p164 : 0 ≤ (x6_1 : Int) := of_decide_eq_true (by first | (with_reducible assumption) | assumption)
              have q164 : x6_1 < (t161.length : Int) := of_decide_eq_true (by first | (with_reducible assumption) | assumption)
              obtain ⟨ad164, e164, hx164_0⟩ := Kd.at_int (Kd.R_reads' HO_5.out).2.2 x6_1 p164 q164
              cases e164
              replace p164 := eq_true p164
              replace q164 := eq_true q164
              obtain ⟨Ao80, co80, eo80⟩ := Kd.R_slice HO_4.out
              (first | subst eo80 | (injection eo80 with f1_ f2_ f3_; have f4_ := f1_.symm; have f5_ := f3_.symm; clear f1_ f2_ f3_; subst f4_; subst f5_))
              have p166 : 0 ≤ (0 : Int) := (by omega)
              have q166 : 0 < (t158.length : Int) := of_decide_eq_true (by first | (with_reducible assumption) | assumption)
              obtain ⟨ad166, e166, hx166_0⟩ := Kd.at_string (Kd.R_reads' HO_4.out).2.2 0 p166 q166
              cases e166
              have qi166 : (0 < t158.length) = True := eq_true (by omega)
              (try rw [show ((0 : Int)).toNat = 0 from rfl] at hx166_0)
              (try rw [Addr.add_zero'] at hx166_0)
              replace p166 := eq_true p166
              replace q166 := eq_true q166
              refine start_ (n := 9) (S := fun w' => w'.cell? (ad164.add (x6_1).toNat) = some (.int .u16 (rd t161 x6_1)) ∧ w'.cell? ad166 = some (.string (rdOf ByteArray.empty t158 0))) (ds := []) #[false, false, false, false, false, false, false, false, false] (by kernel_rfl) rfl rfl ⟨hx164_0, hx166_0⟩ (fun hHeld => ?_); refine with_tabW tamisref05_Parse.tab6 tamisref05_Parse.bits6 (fun HT_ HW_ => ?_)
              generalize wr.drew = w79 at HO_4 HO_5 BK157 HB hx164_0 hx166_0 hHeld ⊢
              refine pure_ (i := 0) (N := some 20) (v := ?_) (a' := ?_) #[true, false, false, false, false, false, false, false, false] rfl rfl (any_of HT_.out (by kernel_rfl)) (fun _ _ _ h => h) (Or.inl ⟨by rfl, ?_⟩) ?_ ?_
              rotate_left
              · intro w'
                go_simp
                with_reducible rfl
              rotate_left
              · simp only [Act.put, List.setIfInBounds_toArray, List.set_cons_zero, List.set_cons_succ, i64_w, i32_w]
                rfl
              refine pure_ (i := 1) (N := some 21) (v := ?_) (a' := ?_) #[true, true, false, false, false, false, false, false, false] rfl rfl (any_of HT_.out (by kernel_rfl)) (fun _ _ _ h => h) (Or.inl ⟨by rfl, ?_⟩) ?_ ?_
              rotate_left
              · intro w'
                go_simp
                with_reducible rfl
              rotate_left
              · simp only [Act.put, List.setIfInBounds_toArray, List.set_cons_zero, List.set_cons_succ, i64_w, i32_w]
                rfl
              refine pure_ (i := 2) (N := some 22) (v := ?_) (a' := ?_) #[true, true, true, false, false, false, false, false, false] rfl rfl (any_of HT_.out (by kernel_rfl)) (fun _ _ _ h => h) (Or.inl ⟨by rfl, ?_⟩) ?_ ?_
              rotate_left
              · intro w'
                go_simp
                with_reducible rfl
              rotate_left
              · simp only [Act.put, List.setIfInBounds_toArray, List.set_cons_zero, List.set_cons_succ, i64_w, i32_w]
                rfl
              refine pure_ (i := 5) (N := some 25) (v := ?_) (a' := ?_) #[true, true, true, false, false, true, false, false, false] rfl rfl (any_of HT_.out (by kernel_rfl)) (fun _ _ _ h => h) (Or.inl ⟨by rfl, ?_⟩) ?_ ?_
              rotate_left
              · intro w'
                go_simp
                with_reducible rfl
              rotate_left
              · simp only [Act.put, List.setIfInBounds_toArray, List.set_cons_zero, List.set_cons_succ, i64_w, i32_w]
                rfl
              refine pure_ (i := 6) (N := some 26) (v := ?_) (a' := ?_) #[true, true, true, false, false, true, true, false, false] rfl rfl (any_of HT_.out (by kernel_rfl)) (fun _ _ _ h => h) (Or.inl ⟨by rfl, ?_⟩) ?_ ?_
              rotate_left
              · intro w'
                go_simp
                with_reducible rfl
              rotate_left
              · simp only [Act.put, List.setIfInBounds_toArray, List.set_cons_zero, List.set_cons_succ, i64_w, i32_w]
                rfl
              refine take_ (i := 3) (N := some 23) (v := ?_) (a' := ?_) #[true, true, true, true, false, true, true, false, false] rfl rfl (take_ofW HT_.out HW_.out (by kernel_rfl)) (fun _ _ _ h => h) (Or.inl ⟨by rfl, ?_⟩) hHeld ?_ ?_
              rotate_left
              · rintro w' ⟨s0, s1⟩
                go_simp
                with_reducible rfl
              rotate_left
              · simp only [Act.put, List.setIfInBounds_toArray, List.set_cons_zero, List.set_cons_succ, i64_w, i32_w]
                rfl
              refine take_ (i := 7) (N := some 27) (v := ?_) (a' := ?_) #[true, true, true, true, false, true, true, true, false] rfl rfl (take_ofW HT_.out HW_.out (by kernel_rfl)) (fun _ _ _ h => h) (Or.inl ⟨by rfl, ?_⟩) hHeld ?_ ?_
              rotate_left
              · rintro w' ⟨s0, s1⟩
                go_simp
                with_reducible rfl
              rotate_left
              · simp only [Act.put, List.setIfInBounds_toArray, List.set_cons_zero, List.set_cons_succ, i64_w, i32_w]
                rfl
              refine one_ (i := 4) (N := some 24) #[true, true, true, true, true, true, true, true, false] rfl rfl (one_of HT_.out (by kernel_rfl)) (by decide) (fun K hK => ?_)
              refine goes_ Tryd.func24 (by kernel_rfl) rfl #[.int .u16 (rd t161 x6_1)] (by rfl) rfl rfl (by (try simp only [List.map_toArray, List.map_cons, List.map_nil]); first | done | rfl | (simp only [List.length_drop, List.length_take]; rfl)) ?_
              with_reducible refine (tamisref04_Name.calls k1 (rd t161 x6_1) t165 _ A9.out).mono ?_
              rintro e w81 ⟨rfl, hb⟩
              have HS0_ := (hb.cell (World.block_lt_of_cell? _ _ (hHeld.1))).trans (hHeld.1)
              have HS1_ := (hb.cell (World.block_lt_of_cell? _ _ (hHeld.2))).trans (hHeld.2)
              refine ⟨_, rfl, ?_⟩
              have n0_ := Aside0.mk (Kd.R_below (by (with_reducible repeat (first | apply Kd.R_alloc | apply Kd.R_drewN | apply Kd.R_drew)); exact HO_4.out) hb)
              have n1_ := Aside0.mk (Kd.R_below (by (with_reducible repeat (first | apply Kd.R_alloc | apply Kd.R_drewN | apply Kd.R_drew)); exact HO_5.out) hb)
              have n2_ := Aside0.mk (blk_below (g := gb157) (o := .cells #[.int .u16 x158000_1, .int .u8 x158001_1, .int .u8 x158002_1, .int .u32 x158003_1] 25 (0, 0)) (by (with_reducible repeat (first | refine blk_drewN ?_ _ | refine blk_drew ?_ | refine blk_alloc ?_ _)); exact BK157.out) hb)
              have n3_ := Aside0.mk (below_step (by repeat (first | (with_reducible first | exact HB.out | apply below_alloc | apply pw_below_drewN | apply below_drew1 | refine below_set ?_ GE157.out) | exact HB.out)) hb)
              clear HO_4
              clear HO_5
              clear BK157
              clear HB
              have HO_4 := n0_
              have HO_5 := n1_
              have BK157 := n2_
              have HB := n3_
              clear n0_ n1_ n2_ n3_
              (try clear hb)
              (try clear hb2)
              (try clear hk)
              (try clear hi)
              refine hK.out _ _ ⟨HS0_, HS1_⟩ (fun hHeld => ?_)
              clear hK K
              refine norm_ (a' := ?_) ?_ ?_
              rotate_left
              · show Act.put _ (some 24) _ = _
                simp only [Act.put, List.setIfInBounds_toArray, List.set_cons_zero, List.set_cons_succ, i64_w, i32_w]
                rfl
              refine pure_ (i := 8) (N := some 28) (v := ?_) (a' := ?_) #[true, true, true, true, true, true, true, true, true] rfl rfl (any_of HT_.out (by kernel_rfl)) (fun _ _ _ h => h) (Or.inl ⟨by rfl, ?_⟩) ?_ ?_
              rotate_left
              · intro w'
                go_simp
                with_reducible rfl
              rotate_left
              · simp only [Act.put, List.setIfInBounds_toArray, List.set_cons_zero, List.set_cons_succ, i64_w, i32_w]
                rfl
              refine done_ (done_of HT_.out (by kernel_rfl)) ?_
              try go_wp2
              go_roundg k1
              case measure => have := HK1.out; omega
              case rel => exact ⟨(wrap64 (x6_1 + 1)), (x158000_1), (x158001_1), (x158002_1), (x158003_1), (by first | rfl | (simp; done) | (simp [*]; done)), H', ⟨by have := HK1.out; omega⟩, ⟨by (with_reducible repeat (first | apply Kd.R_alloc | apply Kd.R_drewN | apply Kd.R_drew)); exact HO_4.out⟩, ⟨by (with_reducible repeat (first | apply Kd.R_alloc | apply Kd.R_drewN | apply Kd.R_drew)); exact HO_5.out⟩, ⟨by (with_reducible repeat (first | refine blk_drewN ?_ _ | refine blk_drew ?_ | refine blk_alloc ?_ _)); exact BK157.out⟩, ⟨by repeat (first | (with_reducible first | exact HB.out | apply below_alloc | apply pw_below_drewN | apply below_drew1 | refine below_set ?_ GE157.out) | exact HB.out)⟩⟩
          · rw [if_neg c10] at H
            exact absurd H (by simp)
        · rw [if_neg c8] at H
          exact absurd H (by simp)
      · rw [if_neg c7] at H
        have c7b0 : decide (x6_1 < (t161.length : Int)) = false := decide_eq_false c7
        clear c7
        simp only [Option.some.injEq, Prod.mk.injEq] at H
        obtain ⟨rfl, rfl, rfl, rfl, rfl⟩ := H
        obtain ⟨Ao82, co82, eo82⟩ := Kd.R_slice HO_5.out
        subst eo82
        have hcz83_0 : wr.cell? ⟨gb157, 0, none⟩ = some (.int .u16 x158000_1) := (blk_cell BK157.out 0).trans rfl
        have hcz83_1 : wr.cell? ⟨gb157, 1, none⟩ = some (.int .u8 x158001_1) := (blk_cell BK157.out 1).trans rfl
        have hcz83_2 : wr.cell? ⟨gb157, 2, none⟩ = some (.int .u8 x158002_1) := (blk_cell BK157.out 2).trans rfl
        have hcz83_3 : wr.cell? ⟨gb157, 3, none⟩ = some (.int .u32 x158003_1) := (blk_cell BK157.out 3).trans rfl
        have hfz83_0 := blk_frozen BK157.out 0
        have hfz83_1 := blk_frozen BK157.out 1
        have hfz83_2 := blk_frozen BK157.out 2
        have hfz83_3 := blk_frozen BK157.out 3
        go_wp2
        refine bodyPost_ret (results_ct rfl _ _ gb157 25 #[.int .u16 0, .int .u8 0, .int .u8 0, .int .u32 0] (0, 0) _ rfl (by (with_reducible repeat (first | refine blk_drewN ?_ _ | refine blk_drew ?_ | refine blk_alloc ?_ _)); refine blk_put (cs := #[.int .u16 0, .int .u8 0, .int .u8 0, .int .u32 x158003_1]) ?_ 3 _ rfl; (with_reducible repeat (first | refine blk_drewN ?_ _ | refine blk_drew ?_ | refine blk_alloc ?_ _)); refine blk_put (cs := #[.int .u16 0, .int .u8 0, .int .u8 x158002_1, .int .u32 x158003_1]) ?_ 2 _ rfl; (with_reducible repeat (first | refine blk_drewN ?_ _ | refine blk_drew ?_ | refine blk_alloc ?_ _)); refine blk_put (cs := #[.int .u16 0, .int .u8 x158001_1, .int .u8 x158002_1, .int .u32 x158003_1]) ?_ 1 _ rfl; (with_reducible repeat (first | refine blk_drewN ?_ _ | refine blk_drew ?_ | refine blk_alloc ?_ _)); refine blk_put (cs := #[.int .u16 x158000_1, .int .u8 x158001_1, .int .u8 x158002_1, .int .u32 x158003_1]) ?_ 0 _ rfl; (with_reducible repeat (first | refine blk_drewN ?_ _ | refine blk_drew ?_ | refine blk_alloc ?_ _)); exact BK157.out) Tryd.underlying25 rfl (by kernel_rfl)) rfl ?_
        exact ⟨by first | rfl | (simp [errW_none, errW_some] <;> rfl) | (simp [*, errW_none, errW_some] <;> rfl), by repeat (first | (with_reducible first | exact HB.out | apply below_alloc | apply pw_below_drewN | apply below_drew1 | refine below_set ?_ GE157.out) | exact HB.out)⟩

end Go.Proofs.YtnagbdcpmbjnpaaDoor.Pr
