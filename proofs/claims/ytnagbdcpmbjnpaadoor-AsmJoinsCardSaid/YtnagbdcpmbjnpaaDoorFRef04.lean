/- FTamisref04All | FTamisref04Name | FTamisref04Kind | FTamisref04ReadsX | FTamisref05HasK -/
import Derived.Test.YtnagbdcpmbjnpaaDoorPr0
namespace Go.Proofs.YtnagbdcpmbjnpaaDoor.Pr
open Go.RowKit Go.Proofs.YtnagbdcpmbjnpaaDoorW.PrintWords Go.Proofs.YtnagbdcpmbjnpaaDoorW.PrintLast Go.Proofs.YtnagbdcpmbjnpaaDoorW.PrintMore
attribute [local go_sem] max2_int min2_int max_two min_two max_three min_three max_four min_four   -- for this text's walks alone
set_option linter.unusedVariables false
set_option linter.unusedSimpArgs false

/-! ### tamisref04_All: function 31 -/
def tamisref04_All.f  : Option (List Int) := some (([0, 1, 2, 3, 4, 5, 6, 7, 12, 20, 21, 22, 28, 29, 32, 36, 37, 44, 45, 52, 53, 60, 61, 68, 69, 76, 77, 84, 92, 96, 97, 100, 108, 116, 124, 128, 129, 132, 135, 164, 172] : List Int))
set_option maxHeartbeats 8000000 in
set_option maxRecDepth 100000 in
theorem tamisref04_All.calls  (r : List Int) (w : World) (h : tamisref04_All.f  = some r) :
    Calls Tryd.prog 31 #[] w fun e w' => ∃ v0_ : Value, e = .returned (v0_) ∧ Kd.R (Kd.int .u16) 22 w' w.heap.size (fun _ => True) v0_ r ∧ Below w.heap.size w w' := by
  have HB := Aside0.mk (Below.refl w.heap.size w)
  have H : (some (([0, 1, 2, 3, 4, 5, 6, 7, 12, 20, 21, 22, 28, 29, 32, 36, 37, 44, 45, 52, 53, 60, 61, 68, 69, 76, 77, 84, 92, 96, 97, 100, 108, 116, 124, 128, 129, 132, 135, 164, 172] : List Int))) = some r := h
  clear h
  obtain ⟨y127, hy127⟩ : ∃ y_ : List Int, y_ = (([0, 1, 2, 3, 4, 5, 6, 7, 12, 20, 21, 22, 28, 29, 32, 36, 37, 44, 45, 52, 53, 60, 61, 68, 69, 76, 77, 84, 92, 96, 97, 100, 108, 116, 124, 128, 129, 132, 135, 164, 172] : List Int)) := ⟨_, rfl⟩
  replace H : (some y127) = some r := by first | (rw [hy127]; with_reducible exact H) | (have H2_ := (Option.bind_some _ _).symm.trans H; rw [hy127]; with_reducible exact H2_) | (have H2_ := (Option.bind_some _ _).symm.trans H; with_reducible exact H2_) | with_reducible exact H | (rw [hy127]; exact H) | exact H
  have Ny127 := Aside0.mk hy127
  clear hy127
  obtain rfl := Option.some.inj H
  go_enter Tryd.func31, Tryd.ntmps31
  go_wp2_with (first | ((with_reducible refine gate_dst (N := 1) rfl ?_); refine Kd.R_lit (Kd.int .u16) _ 22 ?hg (N := 1) ?hd (xs := ([0, 1, 2, 3, 4, 5, 6, 7, 12, 20, 21, 22, 28, 29, 32, 36, 37, 44, 45, 52, 53, 60, 61, 68, 69, 76, 77, 84, 92, 96, 97, 100, 108, 116, 124, 128, 129, 132, 135, 164, 172] : List Int)) (inner := [.int .u16 0, .int .u16 1, .int .u16 2, .int .u16 3, .int .u16 4, .int .u16 5, .int .u16 6, .int .u16 7, .int .u16 12, .int .u16 20, .int .u16 21, .int .u16 22, .int .u16 28, .int .u16 29, .int .u16 32, .int .u16 36, .int .u16 37, .int .u16 44, .int .u16 45, .int .u16 52, .int .u16 53, .int .u16 60, .int .u16 61, .int .u16 68, .int .u16 69, .int .u16 76, .int .u16 77, .int .u16 84, .int .u16 92, .int .u16 96, .int .u16 97, .int .u16 100, .int .u16 108, .int .u16 116, .int .u16 124, .int .u16 128, .int .u16 129, .int .u16 132, .int .u16 135, .int .u16 164, .int .u16 172]) (ok := fun _ => True) (okp := fun _ => True) ?hr ?hp (fun _ hk => hk) trivial (Below.refl _ _) (Nat.le_refl _) (by simp) ?_; (case hd => rfl); (case hg => rfl); (case hr => first | (go_simp; done) | (go_simp; rfl)); (case hp => exact (Reps.one (show Kd.M (Kd.int .u16) _ _ _ 0 [.int .u16 0] from rfl) (Reps.one (show Kd.M (Kd.int .u16) _ _ _ 1 [.int .u16 1] from rfl) (Reps.one (show Kd.M (Kd.int .u16) _ _ _ 2 [.int .u16 2] from rfl) (Reps.one (show Kd.M (Kd.int .u16) _ _ _ 3 [.int .u16 3] from rfl) (Reps.one (show Kd.M (Kd.int .u16) _ _ _ 4 [.int .u16 4] from rfl) (Reps.one (show Kd.M (Kd.int .u16) _ _ _ 5 [.int .u16 5] from rfl) (Reps.one (show Kd.M (Kd.int .u16) _ _ _ 6 [.int .u16 6] from rfl) (Reps.one (show Kd.M (Kd.int .u16) _ _ _ 7 [.int .u16 7] from rfl) (Reps.one (show Kd.M (Kd.int .u16) _ _ _ 12 [.int .u16 12] from rfl) (Reps.one (show Kd.M (Kd.int .u16) _ _ _ 20 [.int .u16 20] from rfl) (Reps.one (show Kd.M (Kd.int .u16) _ _ _ 21 [.int .u16 21] from rfl) (Reps.one (show Kd.M (Kd.int .u16) _ _ _ 22 [.int .u16 22] from rfl) (Reps.one (show Kd.M (Kd.int .u16) _ _ _ 28 [.int .u16 28] from rfl) (Reps.one (show Kd.M (Kd.int .u16) _ _ _ 29 [.int .u16 29] from rfl) (Reps.one (show Kd.M (Kd.int .u16) _ _ _ 32 [.int .u16 32] from rfl) (Reps.one (show Kd.M (Kd.int .u16) _ _ _ 36 [.int .u16 36] from rfl) (Reps.one (show Kd.M (Kd.int .u16) _ _ _ 37 [.int .u16 37] from rfl) (Reps.one (show Kd.M (Kd.int .u16) _ _ _ 44 [.int .u16 44] from rfl) (Reps.one (show Kd.M (Kd.int .u16) _ _ _ 45 [.int .u16 45] from rfl) (Reps.one (show Kd.M (Kd.int .u16) _ _ _ 52 [.int .u16 52] from rfl) (Reps.one (show Kd.M (Kd.int .u16) _ _ _ 53 [.int .u16 53] from rfl) (Reps.one (show Kd.M (Kd.int .u16) _ _ _ 60 [.int .u16 60] from rfl) (Reps.one (show Kd.M (Kd.int .u16) _ _ _ 61 [.int .u16 61] from rfl) (Reps.one (show Kd.M (Kd.int .u16) _ _ _ 68 [.int .u16 68] from rfl) (Reps.one (show Kd.M (Kd.int .u16) _ _ _ 69 [.int .u16 69] from rfl) (Reps.one (show Kd.M (Kd.int .u16) _ _ _ 76 [.int .u16 76] from rfl) (Reps.one (show Kd.M (Kd.int .u16) _ _ _ 77 [.int .u16 77] from rfl) (Reps.one (show Kd.M (Kd.int .u16) _ _ _ 84 [.int .u16 84] from rfl) (Reps.one (show Kd.M (Kd.int .u16) _ _ _ 92 [.int .u16 92] from rfl) (Reps.one (show Kd.M (Kd.int .u16) _ _ _ 96 [.int .u16 96] from rfl) (Reps.one (show Kd.M (Kd.int .u16) _ _ _ 97 [.int .u16 97] from rfl) (Reps.one (show Kd.M (Kd.int .u16) _ _ _ 100 [.int .u16 100] from rfl) (Reps.one (show Kd.M (Kd.int .u16) _ _ _ 108 [.int .u16 108] from rfl) (Reps.one (show Kd.M (Kd.int .u16) _ _ _ 116 [.int .u16 116] from rfl) (Reps.one (show Kd.M (Kd.int .u16) _ _ _ 124 [.int .u16 124] from rfl) (Reps.one (show Kd.M (Kd.int .u16) _ _ _ 128 [.int .u16 128] from rfl) (Reps.one (show Kd.M (Kd.int .u16) _ _ _ 129 [.int .u16 129] from rfl) (Reps.one (show Kd.M (Kd.int .u16) _ _ _ 132 [.int .u16 132] from rfl) (Reps.one (show Kd.M (Kd.int .u16) _ _ _ 135 [.int .u16 135] from rfl) (Reps.one (show Kd.M (Kd.int .u16) _ _ _ 164 [.int .u16 164] from rfl) (Reps.one (show Kd.M (Kd.int .u16) _ _ _ 172 [.int .u16 172] from rfl) (Reps.none _ _))))))))))))))))))))))))))))))))))))))))))); intro v128 w1 ho2 hb hg_ hnew_; clear hg_ hnew_; (first | rw [← Ny127.out] at ho2 | (simp only [Int.reduceToNat] at ho2; rw [← Ny127.out] at ho2)); have n0_ := Aside0.mk (Kd.R_lower ho2 (below_size (by repeat (first | (with_reducible first | exact HB.out | apply below_alloc | apply pw_below_drewN | apply below_drew1) | exact HB.out)))); have n1_ := Aside0.mk (below_step (by repeat (first | (with_reducible first | exact HB.out | apply below_alloc | apply pw_below_drewN | apply below_drew1) | exact HB.out)) hb); clear HB; have HO129 := n0_; have HB := n1_; clear n0_ n1_; clear hb ho2))
  go_ret
  exact ⟨_, by first | rfl | (simp [errW_none, errW_some] <;> rfl) | (simp [*, errW_none, errW_some] <;> rfl), by (with_reducible repeat (first | apply Kd.R_alloc | apply Kd.R_drewN | apply Kd.R_drew)); exact HO129.out, by repeat (first | (with_reducible first | exact HB.out | apply below_alloc | apply pw_below_drewN | apply below_drew1) | exact HB.out)⟩

end Go.Proofs.YtnagbdcpmbjnpaaDoor.Pr

namespace Go.Proofs.YtnagbdcpmbjnpaaDoor.Pr
open Go.RowKit Go.Proofs.YtnagbdcpmbjnpaaDoorW.PrintWords Go.Proofs.YtnagbdcpmbjnpaaDoorW.PrintLast Go.Proofs.YtnagbdcpmbjnpaaDoorW.PrintMore
attribute [local go_sem] max2_int min2_int max_two min_two max_three min_three max_four min_four   -- for this text's walks alone
set_option linter.unusedVariables false
set_option linter.unusedSimpArgs false

/-! ### tamisref04_Name: function 24 -/
def tamisref04_Name.l0 : Nat → Int → List ByteArray → List Int → Int → Option (ByteArray)
  | 0, _, _, _, _ => none
  | k + 1, x0, x3, x4, x5 => if x5 < (x4.length : Int) then (if 0 ≤ x5 then (if (rd x4 x5) = x0 then (if x5 < (x3.length : Int) then (some (rdOf ByteArray.empty x3 x5)) else (none)) else (tamisref04_Name.l0 k x0 x3 x4 (wrap64 (x5 + 1)))) else (none)) else (some (⟨#[]⟩ : ByteArray))
def tamisref04_Name.f (k : Nat) (a0 : Int) : Option (ByteArray) := (tamisref04_All.f).bind fun t133 => (tamisref04_Name.l0 k a0 (([(⟨#[108, 100, 105]⟩ : ByteArray), (⟨#[108, 100, 120, 105]⟩ : ByteArray), (⟨#[115, 116]⟩ : ByteArray), (⟨#[115, 116, 120]⟩ : ByteArray), (⟨#[97, 100, 100]⟩ : ByteArray), (⟨#[106, 97]⟩ : ByteArray), (⟨#[114, 101, 116]⟩ : ByteArray), (⟨#[116, 97, 120]⟩ : ByteArray), (⟨#[97, 100, 100, 120]⟩ : ByteArray), (⟨#[115, 117, 98]⟩ : ByteArray), (⟨#[106, 101, 113]⟩ : ByteArray), (⟨#[114, 101, 116, 97]⟩ : ByteArray), (⟨#[115, 117, 98, 120]⟩ : ByteArray), (⟨#[106, 101, 113, 120]⟩ : ByteArray), (⟨#[108, 100]⟩ : ByteArray), (⟨#[109, 117, 108]⟩ : ByteArray), (⟨#[106, 103, 116]⟩ : ByteArray), (⟨#[109, 117, 108, 120]⟩ : ByteArray), (⟨#[106, 103, 116, 120]⟩ : ByteArray), (⟨#[100, 105, 118]⟩ : ByteArray), (⟨#[106, 103, 101]⟩ : ByteArray), (⟨#[100, 105, 118, 120]⟩ : ByteArray), (⟨#[106, 103, 101, 120]⟩ : ByteArray), (⟨#[111, 114]⟩ : ByteArray), (⟨#[106, 115, 101, 116]⟩ : ByteArray), (⟨#[111, 114, 120]⟩ : ByteArray), (⟨#[106, 115, 101, 116, 120]⟩ : ByteArray), (⟨#[97, 110, 100]⟩ : ByteArray), (⟨#[97, 110, 100, 120]⟩ : ByteArray), (⟨#[108, 100, 109]⟩ : ByteArray), (⟨#[108, 100, 120, 109]⟩ : ByteArray), (⟨#[108, 115, 104]⟩ : ByteArray), (⟨#[108, 115, 104, 120]⟩ : ByteArray), (⟨#[114, 115, 104]⟩ : ByteArray), (⟨#[114, 115, 104, 120]⟩ : ByteArray), (⟨#[108, 100, 108, 101, 110]⟩ : ByteArray), (⟨#[108, 100, 120, 108, 101, 110]⟩ : ByteArray), (⟨#[110, 101, 103]⟩ : ByteArray), (⟨#[116, 120, 97]⟩ : ByteArray), (⟨#[120, 111, 114]⟩ : ByteArray), (⟨#[120, 111, 114, 120]⟩ : ByteArray)] : List ByteArray)) t133 0)
theorem tamisref04_Name.mono_l : ∀ k, (∀ y0 y1 y2 y3, LeO (tamisref04_Name.l0 k y0 y1 y2 y3) (tamisref04_Name.l0 (k + 1) y0 y1 y2 y3))
  | 0 => fun _ _ _ _ r h => by simp [tamisref04_Name.l0] at h
  | k + 1 => by
    have ih0 := tamisref04_Name.mono_l k
    · intro y0 y1 y2 y3
      unfold tamisref04_Name.l0
      repeat' first
      | (with_reducible exact ih0 _ _ _ _)
      | (with_reducible exact LeO.refl _)
      | (with_reducible exact LeO.none _)
      | (with_reducible refine LeO.ite ?_ ?_)
      | (with_reducible refine LeO.bind ?_ (fun _ => ?_))
      | exact ih0 _ _ _ _
      | exact LeO.none _
      | refine LeO.ite ?_ ?_
      | refine LeO.bind ?_ (fun _ => ?_)
theorem tamisref04_Name.mono : ∀ a0 k, LeO (tamisref04_Name.f k a0) (tamisref04_Name.f (k + 1) a0) := by
  intro a0 k
  have ih0 := tamisref04_Name.mono_l k
  unfold tamisref04_Name.f
  repeat' first
      | (with_reducible exact ih0 _ _ _ _)
      | (with_reducible exact LeO.refl _)
      | (with_reducible exact LeO.none _)
      | (with_reducible refine LeO.ite ?_ ?_)
      | (with_reducible refine LeO.bind ?_ (fun _ => ?_))
      | exact ih0 _ _ _ _
      | exact LeO.none _
      | refine LeO.ite ?_ ?_
      | refine LeO.bind ?_ (fun _ => ?_)
set_option maxHeartbeats 8000000 in
set_option maxRecDepth 100000 in
theorem tamisref04_Name.calls (k : Nat) (a0 : Int) (r : ByteArray) (w : World) (h : tamisref04_Name.f k a0 = some r) :
    Calls Tryd.prog 24 #[.int .u16 a0] w fun e w' => e = .returned (.string r) ∧ Below w.heap.size w w' := by
  have HB := Aside0.mk (Below.refl w.heap.size w)
  have H : ((tamisref04_All.f).bind fun t133 => (tamisref04_Name.l0 k a0 (([(⟨#[108, 100, 105]⟩ : ByteArray), (⟨#[108, 100, 120, 105]⟩ : ByteArray), (⟨#[115, 116]⟩ : ByteArray), (⟨#[115, 116, 120]⟩ : ByteArray), (⟨#[97, 100, 100]⟩ : ByteArray), (⟨#[106, 97]⟩ : ByteArray), (⟨#[114, 101, 116]⟩ : ByteArray), (⟨#[116, 97, 120]⟩ : ByteArray), (⟨#[97, 100, 100, 120]⟩ : ByteArray), (⟨#[115, 117, 98]⟩ : ByteArray), (⟨#[106, 101, 113]⟩ : ByteArray), (⟨#[114, 101, 116, 97]⟩ : ByteArray), (⟨#[115, 117, 98, 120]⟩ : ByteArray), (⟨#[106, 101, 113, 120]⟩ : ByteArray), (⟨#[108, 100]⟩ : ByteArray), (⟨#[109, 117, 108]⟩ : ByteArray), (⟨#[106, 103, 116]⟩ : ByteArray), (⟨#[109, 117, 108, 120]⟩ : ByteArray), (⟨#[106, 103, 116, 120]⟩ : ByteArray), (⟨#[100, 105, 118]⟩ : ByteArray), (⟨#[106, 103, 101]⟩ : ByteArray), (⟨#[100, 105, 118, 120]⟩ : ByteArray), (⟨#[106, 103, 101, 120]⟩ : ByteArray), (⟨#[111, 114]⟩ : ByteArray), (⟨#[106, 115, 101, 116]⟩ : ByteArray), (⟨#[111, 114, 120]⟩ : ByteArray), (⟨#[106, 115, 101, 116, 120]⟩ : ByteArray), (⟨#[97, 110, 100]⟩ : ByteArray), (⟨#[97, 110, 100, 120]⟩ : ByteArray), (⟨#[108, 100, 109]⟩ : ByteArray), (⟨#[108, 100, 120, 109]⟩ : ByteArray), (⟨#[108, 115, 104]⟩ : ByteArray), (⟨#[108, 115, 104, 120]⟩ : ByteArray), (⟨#[114, 115, 104]⟩ : ByteArray), (⟨#[114, 115, 104, 120]⟩ : ByteArray), (⟨#[108, 100, 108, 101, 110]⟩ : ByteArray), (⟨#[108, 100, 120, 108, 101, 110]⟩ : ByteArray), (⟨#[110, 101, 103]⟩ : ByteArray), (⟨#[116, 120, 97]⟩ : ByteArray), (⟨#[120, 111, 114]⟩ : ByteArray), (⟨#[120, 111, 114, 120]⟩ : ByteArray)] : List ByteArray)) t133 0)) = some r := h
  clear h
  obtain ⟨y130, hy130⟩ : ∃ y_ : List ByteArray, y_ = (([(⟨#[108, 100, 105]⟩ : ByteArray), (⟨#[108, 100, 120, 105]⟩ : ByteArray), (⟨#[115, 116]⟩ : ByteArray), (⟨#[115, 116, 120]⟩ : ByteArray), (⟨#[97, 100, 100]⟩ : ByteArray), (⟨#[106, 97]⟩ : ByteArray), (⟨#[114, 101, 116]⟩ : ByteArray), (⟨#[116, 97, 120]⟩ : ByteArray), (⟨#[97, 100, 100, 120]⟩ : ByteArray), (⟨#[115, 117, 98]⟩ : ByteArray), (⟨#[106, 101, 113]⟩ : ByteArray), (⟨#[114, 101, 116, 97]⟩ : ByteArray), (⟨#[115, 117, 98, 120]⟩ : ByteArray), (⟨#[106, 101, 113, 120]⟩ : ByteArray), (⟨#[108, 100]⟩ : ByteArray), (⟨#[109, 117, 108]⟩ : ByteArray), (⟨#[106, 103, 116]⟩ : ByteArray), (⟨#[109, 117, 108, 120]⟩ : ByteArray), (⟨#[106, 103, 116, 120]⟩ : ByteArray), (⟨#[100, 105, 118]⟩ : ByteArray), (⟨#[106, 103, 101]⟩ : ByteArray), (⟨#[100, 105, 118, 120]⟩ : ByteArray), (⟨#[106, 103, 101, 120]⟩ : ByteArray), (⟨#[111, 114]⟩ : ByteArray), (⟨#[106, 115, 101, 116]⟩ : ByteArray), (⟨#[111, 114, 120]⟩ : ByteArray), (⟨#[106, 115, 101, 116, 120]⟩ : ByteArray), (⟨#[97, 110, 100]⟩ : ByteArray), (⟨#[97, 110, 100, 120]⟩ : ByteArray), (⟨#[108, 100, 109]⟩ : ByteArray), (⟨#[108, 100, 120, 109]⟩ : ByteArray), (⟨#[108, 115, 104]⟩ : ByteArray), (⟨#[108, 115, 104, 120]⟩ : ByteArray), (⟨#[114, 115, 104]⟩ : ByteArray), (⟨#[114, 115, 104, 120]⟩ : ByteArray), (⟨#[108, 100, 108, 101, 110]⟩ : ByteArray), (⟨#[108, 100, 120, 108, 101, 110]⟩ : ByteArray), (⟨#[110, 101, 103]⟩ : ByteArray), (⟨#[116, 120, 97]⟩ : ByteArray), (⟨#[120, 111, 114]⟩ : ByteArray), (⟨#[120, 111, 114, 120]⟩ : ByteArray)] : List ByteArray)) := ⟨_, rfl⟩
  replace H : ((tamisref04_All.f).bind fun t133 => (tamisref04_Name.l0 k a0 y130 t133 0)) = some r := by first | (rw [hy130]; with_reducible exact H) | (have H2_ := (Option.bind_some _ _).symm.trans H; rw [hy130]; with_reducible exact H2_) | (have H2_ := (Option.bind_some _ _).symm.trans H; with_reducible exact H2_) | with_reducible exact H | (rw [hy130]; exact H) | exact H
  have Ny130 := Aside0.mk hy130
  clear hy130
  replace H := Option.bind_eq_some_iff.mp H
  obtain ⟨t133, A20, H⟩ := H
  replace H : (tamisref04_Name.l0 k a0 y130 t133 0) = some r := H
  have A2 := Aside0.mk A20
  clear A20
  have H' := Aside0.mk H
  clear H
  go_enter Tryd.func24, Tryd.ntmps24
  go_wp2_with (first | ((with_reducible refine gate_dst (N := 6) rfl ?_); refine Kd.R_lit Kd.string _ 9 ?hg (N := 6) ?hd (xs := ([(⟨#[108, 100, 105]⟩ : ByteArray), (⟨#[108, 100, 120, 105]⟩ : ByteArray), (⟨#[115, 116]⟩ : ByteArray), (⟨#[115, 116, 120]⟩ : ByteArray), (⟨#[97, 100, 100]⟩ : ByteArray), (⟨#[106, 97]⟩ : ByteArray), (⟨#[114, 101, 116]⟩ : ByteArray), (⟨#[116, 97, 120]⟩ : ByteArray), (⟨#[97, 100, 100, 120]⟩ : ByteArray), (⟨#[115, 117, 98]⟩ : ByteArray), (⟨#[106, 101, 113]⟩ : ByteArray), (⟨#[114, 101, 116, 97]⟩ : ByteArray), (⟨#[115, 117, 98, 120]⟩ : ByteArray), (⟨#[106, 101, 113, 120]⟩ : ByteArray), (⟨#[108, 100]⟩ : ByteArray), (⟨#[109, 117, 108]⟩ : ByteArray), (⟨#[106, 103, 116]⟩ : ByteArray), (⟨#[109, 117, 108, 120]⟩ : ByteArray), (⟨#[106, 103, 116, 120]⟩ : ByteArray), (⟨#[100, 105, 118]⟩ : ByteArray), (⟨#[106, 103, 101]⟩ : ByteArray), (⟨#[100, 105, 118, 120]⟩ : ByteArray), (⟨#[106, 103, 101, 120]⟩ : ByteArray), (⟨#[111, 114]⟩ : ByteArray), (⟨#[106, 115, 101, 116]⟩ : ByteArray), (⟨#[111, 114, 120]⟩ : ByteArray), (⟨#[106, 115, 101, 116, 120]⟩ : ByteArray), (⟨#[97, 110, 100]⟩ : ByteArray), (⟨#[97, 110, 100, 120]⟩ : ByteArray), (⟨#[108, 100, 109]⟩ : ByteArray), (⟨#[108, 100, 120, 109]⟩ : ByteArray), (⟨#[108, 115, 104]⟩ : ByteArray), (⟨#[108, 115, 104, 120]⟩ : ByteArray), (⟨#[114, 115, 104]⟩ : ByteArray), (⟨#[114, 115, 104, 120]⟩ : ByteArray), (⟨#[108, 100, 108, 101, 110]⟩ : ByteArray), (⟨#[108, 100, 120, 108, 101, 110]⟩ : ByteArray), (⟨#[110, 101, 103]⟩ : ByteArray), (⟨#[116, 120, 97]⟩ : ByteArray), (⟨#[120, 111, 114]⟩ : ByteArray), (⟨#[120, 111, 114, 120]⟩ : ByteArray)] : List ByteArray)) (inner := [.string (⟨#[108, 100, 105]⟩ : ByteArray), .string (⟨#[108, 100, 120, 105]⟩ : ByteArray), .string (⟨#[115, 116]⟩ : ByteArray), .string (⟨#[115, 116, 120]⟩ : ByteArray), .string (⟨#[97, 100, 100]⟩ : ByteArray), .string (⟨#[106, 97]⟩ : ByteArray), .string (⟨#[114, 101, 116]⟩ : ByteArray), .string (⟨#[116, 97, 120]⟩ : ByteArray), .string (⟨#[97, 100, 100, 120]⟩ : ByteArray), .string (⟨#[115, 117, 98]⟩ : ByteArray), .string (⟨#[106, 101, 113]⟩ : ByteArray), .string (⟨#[114, 101, 116, 97]⟩ : ByteArray), .string (⟨#[115, 117, 98, 120]⟩ : ByteArray), .string (⟨#[106, 101, 113, 120]⟩ : ByteArray), .string (⟨#[108, 100]⟩ : ByteArray), .string (⟨#[109, 117, 108]⟩ : ByteArray), .string (⟨#[106, 103, 116]⟩ : ByteArray), .string (⟨#[109, 117, 108, 120]⟩ : ByteArray), .string (⟨#[106, 103, 116, 120]⟩ : ByteArray), .string (⟨#[100, 105, 118]⟩ : ByteArray), .string (⟨#[106, 103, 101]⟩ : ByteArray), .string (⟨#[100, 105, 118, 120]⟩ : ByteArray), .string (⟨#[106, 103, 101, 120]⟩ : ByteArray), .string (⟨#[111, 114]⟩ : ByteArray), .string (⟨#[106, 115, 101, 116]⟩ : ByteArray), .string (⟨#[111, 114, 120]⟩ : ByteArray), .string (⟨#[106, 115, 101, 116, 120]⟩ : ByteArray), .string (⟨#[97, 110, 100]⟩ : ByteArray), .string (⟨#[97, 110, 100, 120]⟩ : ByteArray), .string (⟨#[108, 100, 109]⟩ : ByteArray), .string (⟨#[108, 100, 120, 109]⟩ : ByteArray), .string (⟨#[108, 115, 104]⟩ : ByteArray), .string (⟨#[108, 115, 104, 120]⟩ : ByteArray), .string (⟨#[114, 115, 104]⟩ : ByteArray), .string (⟨#[114, 115, 104, 120]⟩ : ByteArray), .string (⟨#[108, 100, 108, 101, 110]⟩ : ByteArray), .string (⟨#[108, 100, 120, 108, 101, 110]⟩ : ByteArray), .string (⟨#[110, 101, 103]⟩ : ByteArray), .string (⟨#[116, 120, 97]⟩ : ByteArray), .string (⟨#[120, 111, 114]⟩ : ByteArray), .string (⟨#[120, 111, 114, 120]⟩ : ByteArray)]) (ok := fun _ => True) (okp := fun _ => True) ?hr ?hp (fun _ hk => hk) trivial (Below.refl _ _) (Nat.le_refl _) (by simp) ?_; (case hd => rfl); (case hg => rfl); (case hr => first | (go_simp; done) | (go_simp; rfl)); (case hp => exact (Reps.one (show Kd.M Kd.string _ _ _ (⟨#[108, 100, 105]⟩ : ByteArray) [.string (⟨#[108, 100, 105]⟩ : ByteArray)] from rfl) (Reps.one (show Kd.M Kd.string _ _ _ (⟨#[108, 100, 120, 105]⟩ : ByteArray) [.string (⟨#[108, 100, 120, 105]⟩ : ByteArray)] from rfl) (Reps.one (show Kd.M Kd.string _ _ _ (⟨#[115, 116]⟩ : ByteArray) [.string (⟨#[115, 116]⟩ : ByteArray)] from rfl) (Reps.one (show Kd.M Kd.string _ _ _ (⟨#[115, 116, 120]⟩ : ByteArray) [.string (⟨#[115, 116, 120]⟩ : ByteArray)] from rfl) (Reps.one (show Kd.M Kd.string _ _ _ (⟨#[97, 100, 100]⟩ : ByteArray) [.string (⟨#[97, 100, 100]⟩ : ByteArray)] from rfl) (Reps.one (show Kd.M Kd.string _ _ _ (⟨#[106, 97]⟩ : ByteArray) [.string (⟨#[106, 97]⟩ : ByteArray)] from rfl) (Reps.one (show Kd.M Kd.string _ _ _ (⟨#[114, 101, 116]⟩ : ByteArray) [.string (⟨#[114, 101, 116]⟩ : ByteArray)] from rfl) (Reps.one (show Kd.M Kd.string _ _ _ (⟨#[116, 97, 120]⟩ : ByteArray) [.string (⟨#[116, 97, 120]⟩ : ByteArray)] from rfl) (Reps.one (show Kd.M Kd.string _ _ _ (⟨#[97, 100, 100, 120]⟩ : ByteArray) [.string (⟨#[97, 100, 100, 120]⟩ : ByteArray)] from rfl) (Reps.one (show Kd.M Kd.string _ _ _ (⟨#[115, 117, 98]⟩ : ByteArray) [.string (⟨#[115, 117, 98]⟩ : ByteArray)] from rfl) (Reps.one (show Kd.M Kd.string _ _ _ (⟨#[106, 101, 113]⟩ : ByteArray) [.string (⟨#[106, 101, 113]⟩ : ByteArray)] from rfl) (Reps.one (show Kd.M Kd.string _ _ _ (⟨#[114, 101, 116, 97]⟩ : ByteArray) [.string (⟨#[114, 101, 116, 97]⟩ : ByteArray)] from rfl) (Reps.one (show Kd.M Kd.string _ _ _ (⟨#[115, 117, 98, 120]⟩ : ByteArray) [.string (⟨#[115, 117, 98, 120]⟩ : ByteArray)] from rfl) (Reps.one (show Kd.M Kd.string _ _ _ (⟨#[106, 101, 113, 120]⟩ : ByteArray) [.string (⟨#[106, 101, 113, 120]⟩ : ByteArray)] from rfl) (Reps.one (show Kd.M Kd.string _ _ _ (⟨#[108, 100]⟩ : ByteArray) [.string (⟨#[108, 100]⟩ : ByteArray)] from rfl) (Reps.one (show Kd.M Kd.string _ _ _ (⟨#[109, 117, 108]⟩ : ByteArray) [.string (⟨#[109, 117, 108]⟩ : ByteArray)] from rfl) (Reps.one (show Kd.M Kd.string _ _ _ (⟨#[106, 103, 116]⟩ : ByteArray) [.string (⟨#[106, 103, 116]⟩ : ByteArray)] from rfl) (Reps.one (show Kd.M Kd.string _ _ _ (⟨#[109, 117, 108, 120]⟩ : ByteArray) [.string (⟨#[109, 117, 108, 120]⟩ : ByteArray)] from rfl) (Reps.one (show Kd.M Kd.string _ _ _ (⟨#[106, 103, 116, 120]⟩ : ByteArray) [.string (⟨#[106, 103, 116, 120]⟩ : ByteArray)] from rfl) (Reps.one (show Kd.M Kd.string _ _ _ (⟨#[100, 105, 118]⟩ : ByteArray) [.string (⟨#[100, 105, 118]⟩ : ByteArray)] from rfl) (Reps.one (show Kd.M Kd.string _ _ _ (⟨#[106, 103, 101]⟩ : ByteArray) [.string (⟨#[106, 103, 101]⟩ : ByteArray)] from rfl) (Reps.one (show Kd.M Kd.string _ _ _ (⟨#[100, 105, 118, 120]⟩ : ByteArray) [.string (⟨#[100, 105, 118, 120]⟩ : ByteArray)] from rfl) (Reps.one (show Kd.M Kd.string _ _ _ (⟨#[106, 103, 101, 120]⟩ : ByteArray) [.string (⟨#[106, 103, 101, 120]⟩ : ByteArray)] from rfl) (Reps.one (show Kd.M Kd.string _ _ _ (⟨#[111, 114]⟩ : ByteArray) [.string (⟨#[111, 114]⟩ : ByteArray)] from rfl) (Reps.one (show Kd.M Kd.string _ _ _ (⟨#[106, 115, 101, 116]⟩ : ByteArray) [.string (⟨#[106, 115, 101, 116]⟩ : ByteArray)] from rfl) (Reps.one (show Kd.M Kd.string _ _ _ (⟨#[111, 114, 120]⟩ : ByteArray) [.string (⟨#[111, 114, 120]⟩ : ByteArray)] from rfl) (Reps.one (show Kd.M Kd.string _ _ _ (⟨#[106, 115, 101, 116, 120]⟩ : ByteArray) [.string (⟨#[106, 115, 101, 116, 120]⟩ : ByteArray)] from rfl) (Reps.one (show Kd.M Kd.string _ _ _ (⟨#[97, 110, 100]⟩ : ByteArray) [.string (⟨#[97, 110, 100]⟩ : ByteArray)] from rfl) (Reps.one (show Kd.M Kd.string _ _ _ (⟨#[97, 110, 100, 120]⟩ : ByteArray) [.string (⟨#[97, 110, 100, 120]⟩ : ByteArray)] from rfl) (Reps.one (show Kd.M Kd.string _ _ _ (⟨#[108, 100, 109]⟩ : ByteArray) [.string (⟨#[108, 100, 109]⟩ : ByteArray)] from rfl) (Reps.one (show Kd.M Kd.string _ _ _ (⟨#[108, 100, 120, 109]⟩ : ByteArray) [.string (⟨#[108, 100, 120, 109]⟩ : ByteArray)] from rfl) (Reps.one (show Kd.M Kd.string _ _ _ (⟨#[108, 115, 104]⟩ : ByteArray) [.string (⟨#[108, 115, 104]⟩ : ByteArray)] from rfl) (Reps.one (show Kd.M Kd.string _ _ _ (⟨#[108, 115, 104, 120]⟩ : ByteArray) [.string (⟨#[108, 115, 104, 120]⟩ : ByteArray)] from rfl) (Reps.one (show Kd.M Kd.string _ _ _ (⟨#[114, 115, 104]⟩ : ByteArray) [.string (⟨#[114, 115, 104]⟩ : ByteArray)] from rfl) (Reps.one (show Kd.M Kd.string _ _ _ (⟨#[114, 115, 104, 120]⟩ : ByteArray) [.string (⟨#[114, 115, 104, 120]⟩ : ByteArray)] from rfl) (Reps.one (show Kd.M Kd.string _ _ _ (⟨#[108, 100, 108, 101, 110]⟩ : ByteArray) [.string (⟨#[108, 100, 108, 101, 110]⟩ : ByteArray)] from rfl) (Reps.one (show Kd.M Kd.string _ _ _ (⟨#[108, 100, 120, 108, 101, 110]⟩ : ByteArray) [.string (⟨#[108, 100, 120, 108, 101, 110]⟩ : ByteArray)] from rfl) (Reps.one (show Kd.M Kd.string _ _ _ (⟨#[110, 101, 103]⟩ : ByteArray) [.string (⟨#[110, 101, 103]⟩ : ByteArray)] from rfl) (Reps.one (show Kd.M Kd.string _ _ _ (⟨#[116, 120, 97]⟩ : ByteArray) [.string (⟨#[116, 120, 97]⟩ : ByteArray)] from rfl) (Reps.one (show Kd.M Kd.string _ _ _ (⟨#[120, 111, 114]⟩ : ByteArray) [.string (⟨#[120, 111, 114]⟩ : ByteArray)] from rfl) (Reps.one (show Kd.M Kd.string _ _ _ (⟨#[120, 111, 114, 120]⟩ : ByteArray) [.string (⟨#[120, 111, 114, 120]⟩ : ByteArray)] from rfl) (Reps.none _ _))))))))))))))))))))))))))))))))))))))))))); intro v131 w3 ho4 hb hg_ hnew_; clear hg_ hnew_; (first | rw [← Ny130.out] at ho4 | (simp only [Int.reduceToNat] at ho4; rw [← Ny130.out] at ho4)); have n0_ := Aside0.mk (Kd.R_lower ho4 (below_size (by repeat (first | (with_reducible first | exact HB.out | apply below_alloc | apply pw_below_drewN | apply below_drew1) | exact HB.out)))); have n1_ := Aside0.mk (below_step (by repeat (first | (with_reducible first | exact HB.out | apply below_alloc | apply pw_below_drewN | apply below_drew1) | exact HB.out)) hb); clear HB; have HO132 := n0_; have HB := n1_; clear n0_ n1_; clear hb ho4) | ((with_reducible refine gate_callee (f := 31) rfl ?_); refine goesL_ (some 7) rfl rfl Tryd.func31 (by kernel_rfl) rfl #[] rfl (by (try simp only [List.map_toArray, List.map_cons, List.map_nil]); first | done | rfl | (simp only [List.length_drop, List.length_take]; rfl)) ?_; (with_reducible refine (tamisref04_All.calls  t133 _ A2.out).mono ?_); rintro e w5 ⟨v134, rfl, ho0, hb⟩; refine ⟨_, rfl, ?_⟩; have n0_ := Aside0.mk (Kd.R_below (by (with_reducible repeat (first | apply Kd.R_alloc | apply Kd.R_drewN | apply Kd.R_drew)); exact HO132.out) hb); have n1_ := Aside0.mk (Kd.R_lower ho0 (below_size (by repeat (first | (with_reducible first | exact HB.out | apply below_alloc | apply pw_below_drewN | apply below_drew1) | exact HB.out)))); have n2_ := Aside0.mk (below_step (by repeat (first | (with_reducible first | exact HB.out | apply below_alloc | apply pw_below_drewN | apply below_drew1) | exact HB.out)) hb); clear HO132; clear HB; have HO132 := n0_; have HO135 := n1_; have HB := n2_; clear n0_ n1_ n2_; (try clear hb); (try clear hb2); (try clear hk); (try clear hi); (try clear ho0)))
  go_loopg [5] k (fun kq v5 w' => ∃ (x5_1 : Int), v5 = .int .i64 x5_1 ∧ Aside0 (tamisref04_Name.l0 kq a0 y130 t133 x5_1 = some r) ∧ Aside0 (kq ≤ k) ∧ Aside0 (Kd.R Kd.string 9 w' w.heap.size (fun _ => True) v131 y130) ∧ Aside0 (Kd.R (Kd.int .u16) 22 w' w.heap.size (fun _ => True) v134 t133) ∧ Aside0 (Below w.heap.size w w'))
  case atStart => exact ⟨(0), (by first | rfl | (simp; done) | (simp [*]; done)), H', ⟨Nat.le_refl _⟩, ⟨by (with_reducible repeat (first | apply Kd.R_alloc | apply Kd.R_drewN | apply Kd.R_drew)); exact HO132.out⟩, ⟨by (with_reducible repeat (first | apply Kd.R_alloc | apply Kd.R_drewN | apply Kd.R_drew)); exact HO135.out⟩, ⟨by repeat (first | (with_reducible first | exact HB.out | apply below_alloc | apply pw_below_drewN | apply below_drew1) | exact HB.out)⟩⟩
  case round =>
    clear H'
    try clear c2
    try clear p2
    try clear c3
    obtain ⟨x5_1, rfl, HA, HK1, HO_3, HO_4, HB⟩ := hrel
    cases gk with
    | zero => exact absurd HA.out (by simp [tamisref04_Name.l0])
    | succ k1 =>
      have H := HA.out
      clear HA
      simp only [tamisref04_Name.l0] at H
      by_cases c6 : x5_1 < (t133.length : Int)
      · rw [if_pos c6] at H
        have c6b0 : decide (x5_1 < (t133.length : Int)) = true := decide_eq_true c6
        clear c6
        by_cases c7 : 0 ≤ x5_1
        · rw [if_pos c7] at H
          have c7b0 : decide (0 ≤ x5_1) = true := decide_eq_true c7
          clear c7
          by_cases c8 : (rd t133 x5_1) = a0
          · rw [if_pos c8] at H
            have c8b0 : ((rd t133 x5_1) == a0) = true := beq_iff_eq.mpr c8
            have c8b1 : ((rd t133 x5_1) != a0) = false := bne_eq_false_iff_eq.mpr c8
            clear c8
            by_cases c9 : x5_1 < (y130.length : Int)
            · rw [if_pos c9] at H
              have c9b0 : decide (x5_1 < (y130.length : Int)) = true := decide_eq_true c9
              clear c9
              obtain rfl := Option.some.inj H
              obtain ⟨Ao10, co10, eo10⟩ := Kd.R_slice HO_4.out
              subst eo10
              have p136 : 0 ≤ (x5_1 : Int) := of_decide_eq_true (by first | (with_reducible assumption) | assumption)
              have q136 : x5_1 < (t133.length : Int) := of_decide_eq_true (by first | (with_reducible assumption) | assumption)
              obtain ⟨ad136, e136, hx136_0⟩ := Kd.at_int (Kd.R_reads' HO_4.out).2.2 x5_1 p136 q136
              cases e136
              replace p136 := eq_true p136
              replace q136 := eq_true q136
              obtain ⟨Ao11, co11, eo11⟩ := Kd.R_slice HO_3.out
              subst eo11
              have p137 : 0 ≤ (x5_1 : Int) := of_decide_eq_true (by first | (with_reducible assumption) | assumption)
              have q137 : x5_1 < (y130.length : Int) := of_decide_eq_true (by first | (with_reducible assumption) | assumption)
              obtain ⟨ad137, e137, hx137_0⟩ := Kd.at_string (Kd.R_reads' HO_3.out).2.2 x5_1 p137 q137
              cases e137
              replace p137 := eq_true p137
              replace q137 := eq_true q137
              go_wp2
              go_ret
              exact ⟨by first | rfl | (simp [errW_none, errW_some] <;> rfl) | (simp [*, errW_none, errW_some] <;> rfl), by repeat (first | (with_reducible first | exact HB.out | apply below_alloc | apply pw_below_drewN | apply below_drew1) | exact HB.out)⟩
            · rw [if_neg c9] at H
              exact absurd H (by simp)
          · rw [if_neg c8] at H
            have c8b0 : ((rd t133 x5_1) == a0) = false := beq_eq_false_iff_ne.mpr c8
            have c8b1 : ((rd t133 x5_1) != a0) = true := bne_iff_ne.mpr c8
            have H' := Aside0.mk H
            clear H
            obtain ⟨Ao12, co12, eo12⟩ := Kd.R_slice HO_4.out
            subst eo12
            have p136 : 0 ≤ (x5_1 : Int) := of_decide_eq_true (by first | (with_reducible assumption) | assumption)
            have q136 : x5_1 < (t133.length : Int) := of_decide_eq_true (by first | (with_reducible assumption) | assumption)
            obtain ⟨ad136, e136, hx136_0⟩ := Kd.at_int (Kd.R_reads' HO_4.out).2.2 x5_1 p136 q136
            cases e136
            replace p136 := eq_true p136
            replace q136 := eq_true q136
            go_wp2
            go_roundg k1
            case measure => have := HK1.out; omega
            case rel => exact ⟨(wrap64 (x5_1 + 1)), (by first | rfl | (simp; done) | (simp [*]; done)), H', ⟨by have := HK1.out; omega⟩, ⟨by (with_reducible repeat (first | apply Kd.R_alloc | apply Kd.R_drewN | apply Kd.R_drew)); exact HO_3.out⟩, ⟨by (with_reducible repeat (first | apply Kd.R_alloc | apply Kd.R_drewN | apply Kd.R_drew)); exact HO_4.out⟩, ⟨by repeat (first | (with_reducible first | exact HB.out | apply below_alloc | apply pw_below_drewN | apply below_drew1) | exact HB.out)⟩⟩
        · rw [if_neg c7] at H
          exact absurd H (by simp)
      · rw [if_neg c6] at H
        have c6b0 : decide (x5_1 < (t133.length : Int)) = false := decide_eq_false c6
        clear c6
        obtain rfl := Option.some.inj H
        obtain ⟨Ao13, co13, eo13⟩ := Kd.R_slice HO_4.out
        subst eo13
        go_wp2
        go_ret
        exact ⟨by first | rfl | (simp [errW_none, errW_some] <;> rfl) | (simp [*, errW_none, errW_some] <;> rfl), by repeat (first | (with_reducible first | exact HB.out | apply below_alloc | apply pw_below_drewN | apply below_drew1) | exact HB.out)⟩

end Go.Proofs.YtnagbdcpmbjnpaaDoor.Pr

namespace Go.Proofs.YtnagbdcpmbjnpaaDoor.Pr
open Go.RowKit Go.Proofs.YtnagbdcpmbjnpaaDoorW.PrintWords Go.Proofs.YtnagbdcpmbjnpaaDoorW.PrintLast Go.Proofs.YtnagbdcpmbjnpaaDoorW.PrintMore
attribute [local go_sem] max2_int min2_int max_two min_two max_three min_three max_four min_four   -- for this text's walks alone
set_option linter.unusedVariables false
set_option linter.unusedSimpArgs false

/-! ### tamisref04_Kind: function 25 -/
def tamisref04_Kind.f (k : Nat) (a0 : Int) : Option (Int) := (tamisref04_Name.f k a0).bind fun t138 => (if t138.toList = ([] : List UInt8) then (some 0) else (if a0 = 32 then (some 1) else (if a0 = 128 then (some 2) else (if a0 = 0 then (some 3) else (if a0 = 96 then (some 4) else (if a0 = 1 then (some 5) else (if a0 = 97 then (some 6) else (if a0 = 129 then (some 7) else (if a0 = 2 then (some 8) else (if a0 = 3 then (some 9) else (if a0 = 5 then (some 11) else (if a0 = 6 then (some 13) else (if a0 = 22 then (some 14) else (if a0 = 7 then (some 15) else (if a0 = 135 then (some 16) else (if (Int.tmod a0 8) = 4 then (some 10) else (some 12)))))))))))))))))
theorem tamisref04_Kind.mono : ∀ a0 k, LeO (tamisref04_Kind.f k a0) (tamisref04_Kind.f (k + 1) a0) := by
  intro a0 k
  unfold tamisref04_Kind.f
  repeat' first
      | (with_reducible exact tamisref04_Name.mono _ _)
      | (with_reducible exact LeO.refl _)
      | (with_reducible exact LeO.none _)
      | (with_reducible refine LeO.ite ?_ ?_)
      | (with_reducible refine LeO.bind ?_ (fun _ => ?_))
      | exact tamisref04_Name.mono _ _
      | exact LeO.none _
      | refine LeO.ite ?_ ?_
      | refine LeO.bind ?_ (fun _ => ?_)
set_option maxHeartbeats 8000000 in
set_option maxRecDepth 100000 in
theorem tamisref04_Kind.calls (k : Nat) (a0 : Int) (r : Int) (w : World) (h : tamisref04_Kind.f k a0 = some r) :
    Calls Tryd.prog 25 #[.int .u16 a0] w fun e w' => e = .returned (.int .i64 r) ∧ Below w.heap.size w w' := by
  have HB := Aside0.mk (Below.refl w.heap.size w)
  have H : ((tamisref04_Name.f k a0).bind fun t138 => (if t138.toList = ([] : List UInt8) then (some 0) else (if a0 = 32 then (some 1) else (if a0 = 128 then (some 2) else (if a0 = 0 then (some 3) else (if a0 = 96 then (some 4) else (if a0 = 1 then (some 5) else (if a0 = 97 then (some 6) else (if a0 = 129 then (some 7) else (if a0 = 2 then (some 8) else (if a0 = 3 then (some 9) else (if a0 = 5 then (some 11) else (if a0 = 6 then (some 13) else (if a0 = 22 then (some 14) else (if a0 = 7 then (some 15) else (if a0 = 135 then (some 16) else (if (Int.tmod a0 8) = 4 then (some 10) else (some 12)))))))))))))))))) = some r := h
  clear h
  replace H := Option.bind_eq_some_iff.mp H
  obtain ⟨t138, A20, H⟩ := H
  replace H : (if t138.toList = ([] : List UInt8) then (some 0) else (if a0 = 32 then (some 1) else (if a0 = 128 then (some 2) else (if a0 = 0 then (some 3) else (if a0 = 96 then (some 4) else (if a0 = 1 then (some 5) else (if a0 = 97 then (some 6) else (if a0 = 129 then (some 7) else (if a0 = 2 then (some 8) else (if a0 = 3 then (some 9) else (if a0 = 5 then (some 11) else (if a0 = 6 then (some 13) else (if a0 = 22 then (some 14) else (if a0 = 7 then (some 15) else (if a0 = 135 then (some 16) else (if (Int.tmod a0 8) = 4 then (some 10) else (some 12))))))))))))))))) = some r := H
  have A2 := Aside0.mk A20
  clear A20
  by_cases c3 : t138.toList = ([] : List UInt8)
  · rw [if_pos c3] at H
    have c3b0 : (t138.toList == ([] : List UInt8)) = true := beq_iff_eq.mpr c3
    have c3b1 : (t138.toList != ([] : List UInt8)) = false := bne_eq_false_iff_eq.mpr c3
    clear c3
    obtain rfl := Option.some.inj H
    go_enter Tryd.func25, Tryd.ntmps25
    go_wp2_with (first | ((with_reducible refine gate_callee (f := 24) rfl ?_); refine goesL_ (some 4) rfl rfl Tryd.func24 (by kernel_rfl) rfl #[.int .u16 a0] rfl (by (try simp only [List.map_toArray, List.map_cons, List.map_nil]); first | done | rfl | (simp only [List.length_drop, List.length_take]; rfl)) ?_; (with_reducible refine (tamisref04_Name.calls k a0 t138 _ A2.out).mono ?_); rintro e w4 ⟨rfl, hb⟩; refine ⟨_, rfl, ?_⟩; have n0_ := Aside0.mk (below_step (by repeat (first | (with_reducible first | exact HB.out | apply below_alloc | apply pw_below_drewN | apply below_drew1) | exact HB.out)) hb); clear HB; have HB := n0_; clear n0_; (try clear hb); (try clear hb2); (try clear hk); (try clear hi)))
    go_ret
    exact ⟨by first | rfl | (simp [errW_none, errW_some] <;> rfl) | (simp [*, errW_none, errW_some] <;> rfl), by repeat (first | (with_reducible first | exact HB.out | apply below_alloc | apply pw_below_drewN | apply below_drew1) | exact HB.out)⟩
  · rw [if_neg c3] at H
    have c3b0 : (t138.toList == ([] : List UInt8)) = false := beq_eq_false_iff_ne.mpr c3
    have c3b1 : (t138.toList != ([] : List UInt8)) = true := bne_iff_ne.mpr c3
    by_cases c5 : a0 = 32
    · rw [if_pos c5] at H
      have c5b0 : (a0 == 32) = true := beq_iff_eq.mpr c5
      have c5b1 : (a0 != 32) = false := bne_eq_false_iff_eq.mpr c5
      clear c5
      obtain rfl := Option.some.inj H
      go_enter Tryd.func25, Tryd.ntmps25
      go_wp2_with (first | ((with_reducible refine gate_callee (f := 24) rfl ?_); refine goesL_ (some 4) rfl rfl Tryd.func24 (by kernel_rfl) rfl #[.int .u16 a0] rfl (by (try simp only [List.map_toArray, List.map_cons, List.map_nil]); first | done | rfl | (simp only [List.length_drop, List.length_take]; rfl)) ?_; (with_reducible refine (tamisref04_Name.calls k a0 t138 _ A2.out).mono ?_); rintro e w6 ⟨rfl, hb⟩; refine ⟨_, rfl, ?_⟩; have n0_ := Aside0.mk (below_step (by repeat (first | (with_reducible first | exact HB.out | apply below_alloc | apply pw_below_drewN | apply below_drew1) | exact HB.out)) hb); clear HB; have HB := n0_; clear n0_; (try clear hb); (try clear hb2); (try clear hk); (try clear hi)))
      go_ret
      exact ⟨by first | rfl | (simp [errW_none, errW_some] <;> rfl) | (simp [*, errW_none, errW_some] <;> rfl), by repeat (first | (with_reducible first | exact HB.out | apply below_alloc | apply pw_below_drewN | apply below_drew1) | exact HB.out)⟩
    · rw [if_neg c5] at H
      have c5b0 : (a0 == 32) = false := beq_eq_false_iff_ne.mpr c5
      have c5b1 : (a0 != 32) = true := bne_iff_ne.mpr c5
      by_cases c7 : a0 = 128
      · rw [if_pos c7] at H
        have c7b0 : (a0 == 128) = true := beq_iff_eq.mpr c7
        have c7b1 : (a0 != 128) = false := bne_eq_false_iff_eq.mpr c7
        clear c7
        obtain rfl := Option.some.inj H
        go_enter Tryd.func25, Tryd.ntmps25
        go_wp2_with (first | ((with_reducible refine gate_callee (f := 24) rfl ?_); refine goesL_ (some 4) rfl rfl Tryd.func24 (by kernel_rfl) rfl #[.int .u16 a0] rfl (by (try simp only [List.map_toArray, List.map_cons, List.map_nil]); first | done | rfl | (simp only [List.length_drop, List.length_take]; rfl)) ?_; (with_reducible refine (tamisref04_Name.calls k a0 t138 _ A2.out).mono ?_); rintro e w8 ⟨rfl, hb⟩; refine ⟨_, rfl, ?_⟩; have n0_ := Aside0.mk (below_step (by repeat (first | (with_reducible first | exact HB.out | apply below_alloc | apply pw_below_drewN | apply below_drew1) | exact HB.out)) hb); clear HB; have HB := n0_; clear n0_; (try clear hb); (try clear hb2); (try clear hk); (try clear hi)))
        go_ret
        exact ⟨by first | rfl | (simp [errW_none, errW_some] <;> rfl) | (simp [*, errW_none, errW_some] <;> rfl), by repeat (first | (with_reducible first | exact HB.out | apply below_alloc | apply pw_below_drewN | apply below_drew1) | exact HB.out)⟩
      · rw [if_neg c7] at H
        have c7b0 : (a0 == 128) = false := beq_eq_false_iff_ne.mpr c7
        have c7b1 : (a0 != 128) = true := bne_iff_ne.mpr c7
        by_cases c9 : a0 = 0
        · rw [if_pos c9] at H
          have c9b0 : (a0 == 0) = true := beq_iff_eq.mpr c9
          have c9b1 : (a0 != 0) = false := bne_eq_false_iff_eq.mpr c9
          clear c9
          obtain rfl := Option.some.inj H
          go_enter Tryd.func25, Tryd.ntmps25
          go_wp2_with (first | ((with_reducible refine gate_callee (f := 24) rfl ?_); refine goesL_ (some 4) rfl rfl Tryd.func24 (by kernel_rfl) rfl #[.int .u16 a0] rfl (by (try simp only [List.map_toArray, List.map_cons, List.map_nil]); first | done | rfl | (simp only [List.length_drop, List.length_take]; rfl)) ?_; (with_reducible refine (tamisref04_Name.calls k a0 t138 _ A2.out).mono ?_); rintro e w10 ⟨rfl, hb⟩; refine ⟨_, rfl, ?_⟩; have n0_ := Aside0.mk (below_step (by repeat (first | (with_reducible first | exact HB.out | apply below_alloc | apply pw_below_drewN | apply below_drew1) | exact HB.out)) hb); clear HB; have HB := n0_; clear n0_; (try clear hb); (try clear hb2); (try clear hk); (try clear hi)))
          go_ret
          exact ⟨by first | rfl | (simp [errW_none, errW_some] <;> rfl) | (simp [*, errW_none, errW_some] <;> rfl), by repeat (first | (with_reducible first | exact HB.out | apply below_alloc | apply pw_below_drewN | apply below_drew1) | exact HB.out)⟩
        · rw [if_neg c9] at H
          have c9b0 : (a0 == 0) = false := beq_eq_false_iff_ne.mpr c9
          have c9b1 : (a0 != 0) = true := bne_iff_ne.mpr c9
          by_cases c11 : a0 = 96
          · rw [if_pos c11] at H
            have c11b0 : (a0 == 96) = true := beq_iff_eq.mpr c11
            have c11b1 : (a0 != 96) = false := bne_eq_false_iff_eq.mpr c11
            clear c11
            obtain rfl := Option.some.inj H
            go_enter Tryd.func25, Tryd.ntmps25
            go_wp2_with (first | ((with_reducible refine gate_callee (f := 24) rfl ?_); refine goesL_ (some 4) rfl rfl Tryd.func24 (by kernel_rfl) rfl #[.int .u16 a0] rfl (by (try simp only [List.map_toArray, List.map_cons, List.map_nil]); first | done | rfl | (simp only [List.length_drop, List.length_take]; rfl)) ?_; (with_reducible refine (tamisref04_Name.calls k a0 t138 _ A2.out).mono ?_); rintro e w12 ⟨rfl, hb⟩; refine ⟨_, rfl, ?_⟩; have n0_ := Aside0.mk (below_step (by repeat (first | (with_reducible first | exact HB.out | apply below_alloc | apply pw_below_drewN | apply below_drew1) | exact HB.out)) hb); clear HB; have HB := n0_; clear n0_; (try clear hb); (try clear hb2); (try clear hk); (try clear hi)))
            go_ret
            exact ⟨by first | rfl | (simp [errW_none, errW_some] <;> rfl) | (simp [*, errW_none, errW_some] <;> rfl), by repeat (first | (with_reducible first | exact HB.out | apply below_alloc | apply pw_below_drewN | apply below_drew1) | exact HB.out)⟩
          · rw [if_neg c11] at H
            have c11b0 : (a0 == 96) = false := beq_eq_false_iff_ne.mpr c11
            have c11b1 : (a0 != 96) = true := bne_iff_ne.mpr c11
            by_cases c13 : a0 = 1
            · rw [if_pos c13] at H
              have c13b0 : (a0 == 1) = true := beq_iff_eq.mpr c13
              have c13b1 : (a0 != 1) = false := bne_eq_false_iff_eq.mpr c13
              clear c13
              obtain rfl := Option.some.inj H
              go_enter Tryd.func25, Tryd.ntmps25
              go_wp2_with (first | ((with_reducible refine gate_callee (f := 24) rfl ?_); refine goesL_ (some 4) rfl rfl Tryd.func24 (by kernel_rfl) rfl #[.int .u16 a0] rfl (by (try simp only [List.map_toArray, List.map_cons, List.map_nil]); first | done | rfl | (simp only [List.length_drop, List.length_take]; rfl)) ?_; (with_reducible refine (tamisref04_Name.calls k a0 t138 _ A2.out).mono ?_); rintro e w14 ⟨rfl, hb⟩; refine ⟨_, rfl, ?_⟩; have n0_ := Aside0.mk (below_step (by repeat (first | (with_reducible first | exact HB.out | apply below_alloc | apply pw_below_drewN | apply below_drew1) | exact HB.out)) hb); clear HB; have HB := n0_; clear n0_; (try clear hb); (try clear hb2); (try clear hk); (try clear hi)))
              go_ret
              exact ⟨by first | rfl | (simp [errW_none, errW_some] <;> rfl) | (simp [*, errW_none, errW_some] <;> rfl), by repeat (first | (with_reducible first | exact HB.out | apply below_alloc | apply pw_below_drewN | apply below_drew1) | exact HB.out)⟩
            · rw [if_neg c13] at H
              have c13b0 : (a0 == 1) = false := beq_eq_false_iff_ne.mpr c13
              have c13b1 : (a0 != 1) = true := bne_iff_ne.mpr c13
              by_cases c15 : a0 = 97
              · rw [if_pos c15] at H
                have c15b0 : (a0 == 97) = true := beq_iff_eq.mpr c15
                have c15b1 : (a0 != 97) = false := bne_eq_false_iff_eq.mpr c15
                clear c15
                obtain rfl := Option.some.inj H
                go_enter Tryd.func25, Tryd.ntmps25
                go_wp2_with (first | ((with_reducible refine gate_callee (f := 24) rfl ?_); refine goesL_ (some 4) rfl rfl Tryd.func24 (by kernel_rfl) rfl #[.int .u16 a0] rfl (by (try simp only [List.map_toArray, List.map_cons, List.map_nil]); first | done | rfl | (simp only [List.length_drop, List.length_take]; rfl)) ?_; (with_reducible refine (tamisref04_Name.calls k a0 t138 _ A2.out).mono ?_); rintro e w16 ⟨rfl, hb⟩; refine ⟨_, rfl, ?_⟩; have n0_ := Aside0.mk (below_step (by repeat (first | (with_reducible first | exact HB.out | apply below_alloc | apply pw_below_drewN | apply below_drew1) | exact HB.out)) hb); clear HB; have HB := n0_; clear n0_; (try clear hb); (try clear hb2); (try clear hk); (try clear hi)))
                go_ret
                exact ⟨by first | rfl | (simp [errW_none, errW_some] <;> rfl) | (simp [*, errW_none, errW_some] <;> rfl), by repeat (first | (with_reducible first | exact HB.out | apply below_alloc | apply pw_below_drewN | apply below_drew1) | exact HB.out)⟩
              · rw [if_neg c15] at H
                have c15b0 : (a0 == 97) = false := beq_eq_false_iff_ne.mpr c15
                have c15b1 : (a0 != 97) = true := bne_iff_ne.mpr c15
                by_cases c17 : a0 = 129
                · rw [if_pos c17] at H
                  have c17b0 : (a0 == 129) = true := beq_iff_eq.mpr c17
                  have c17b1 : (a0 != 129) = false := bne_eq_false_iff_eq.mpr c17
                  clear c17
                  obtain rfl := Option.some.inj H
                  go_enter Tryd.func25, Tryd.ntmps25
                  go_wp2_with (first | ((with_reducible refine gate_callee (f := 24) rfl ?_); refine goesL_ (some 4) rfl rfl Tryd.func24 (by kernel_rfl) rfl #[.int .u16 a0] rfl (by (try simp only [List.map_toArray, List.map_cons, List.map_nil]); first | done | rfl | (simp only [List.length_drop, List.length_take]; rfl)) ?_; (with_reducible refine (tamisref04_Name.calls k a0 t138 _ A2.out).mono ?_); rintro e w18 ⟨rfl, hb⟩; refine ⟨_, rfl, ?_⟩; have n0_ := Aside0.mk (below_step (by repeat (first | (with_reducible first | exact HB.out | apply below_alloc | apply pw_below_drewN | apply below_drew1) | exact HB.out)) hb); clear HB; have HB := n0_; clear n0_; (try clear hb); (try clear hb2); (try clear hk); (try clear hi)))
                  go_ret
                  exact ⟨by first | rfl | (simp [errW_none, errW_some] <;> rfl) | (simp [*, errW_none, errW_some] <;> rfl), by repeat (first | (with_reducible first | exact HB.out | apply below_alloc | apply pw_below_drewN | apply below_drew1) | exact HB.out)⟩
                · rw [if_neg c17] at H
                  have c17b0 : (a0 == 129) = false := beq_eq_false_iff_ne.mpr c17
                  have c17b1 : (a0 != 129) = true := bne_iff_ne.mpr c17
                  by_cases c19 : a0 = 2
                  · rw [if_pos c19] at H
                    have c19b0 : (a0 == 2) = true := beq_iff_eq.mpr c19
                    have c19b1 : (a0 != 2) = false := bne_eq_false_iff_eq.mpr c19
                    clear c19
                    obtain rfl := Option.some.inj H
                    go_enter Tryd.func25, Tryd.ntmps25
                    go_wp2_with (first | ((with_reducible refine gate_callee (f := 24) rfl ?_); refine goesL_ (some 4) rfl rfl Tryd.func24 (by kernel_rfl) rfl #[.int .u16 a0] rfl (by (try simp only [List.map_toArray, List.map_cons, List.map_nil]); first | done | rfl | (simp only [List.length_drop, List.length_take]; rfl)) ?_; (with_reducible refine (tamisref04_Name.calls k a0 t138 _ A2.out).mono ?_); rintro e w20 ⟨rfl, hb⟩; refine ⟨_, rfl, ?_⟩; have n0_ := Aside0.mk (below_step (by repeat (first | (with_reducible first | exact HB.out | apply below_alloc | apply pw_below_drewN | apply below_drew1) | exact HB.out)) hb); clear HB; have HB := n0_; clear n0_; (try clear hb); (try clear hb2); (try clear hk); (try clear hi)))
                    go_ret
                    exact ⟨by first | rfl | (simp [errW_none, errW_some] <;> rfl) | (simp [*, errW_none, errW_some] <;> rfl), by repeat (first | (with_reducible first | exact HB.out | apply below_alloc | apply pw_below_drewN | apply below_drew1) | exact HB.out)⟩
                  · rw [if_neg c19] at H
                    have c19b0 : (a0 == 2) = false := beq_eq_false_iff_ne.mpr c19
                    have c19b1 : (a0 != 2) = true := bne_iff_ne.mpr c19
                    by_cases c21 : a0 = 3
                    · rw [if_pos c21] at H
                      have c21b0 : (a0 == 3) = true := beq_iff_eq.mpr c21
                      have c21b1 : (a0 != 3) = false := bne_eq_false_iff_eq.mpr c21
                      clear c21
                      obtain rfl := Option.some.inj H
                      go_enter Tryd.func25, Tryd.ntmps25
                      go_wp2_with (first | ((with_reducible refine gate_callee (f := 24) rfl ?_); refine goesL_ (some 4) rfl rfl Tryd.func24 (by kernel_rfl) rfl #[.int .u16 a0] rfl (by (try simp only [List.map_toArray, List.map_cons, List.map_nil]); first | done | rfl | (simp only [List.length_drop, List.length_take]; rfl)) ?_; (with_reducible refine (tamisref04_Name.calls k a0 t138 _ A2.out).mono ?_); rintro e w22 ⟨rfl, hb⟩; refine ⟨_, rfl, ?_⟩; have n0_ := Aside0.mk (below_step (by repeat (first | (with_reducible first | exact HB.out | apply below_alloc | apply pw_below_drewN | apply below_drew1) | exact HB.out)) hb); clear HB; have HB := n0_; clear n0_; (try clear hb); (try clear hb2); (try clear hk); (try clear hi)))
                      go_ret
                      exact ⟨by first | rfl | (simp [errW_none, errW_some] <;> rfl) | (simp [*, errW_none, errW_some] <;> rfl), by repeat (first | (with_reducible first | exact HB.out | apply below_alloc | apply pw_below_drewN | apply below_drew1) | exact HB.out)⟩
                    · rw [if_neg c21] at H
                      have c21b0 : (a0 == 3) = false := beq_eq_false_iff_ne.mpr c21
                      have c21b1 : (a0 != 3) = true := bne_iff_ne.mpr c21
                      by_cases c23 : a0 = 5
                      · rw [if_pos c23] at H
                        have c23b0 : (a0 == 5) = true := beq_iff_eq.mpr c23
                        have c23b1 : (a0 != 5) = false := bne_eq_false_iff_eq.mpr c23
                        clear c23
                        obtain rfl := Option.some.inj H
                        go_enter Tryd.func25, Tryd.ntmps25
                        go_wp2_with (first | ((with_reducible refine gate_callee (f := 24) rfl ?_); refine goesL_ (some 4) rfl rfl Tryd.func24 (by kernel_rfl) rfl #[.int .u16 a0] rfl (by (try simp only [List.map_toArray, List.map_cons, List.map_nil]); first | done | rfl | (simp only [List.length_drop, List.length_take]; rfl)) ?_; (with_reducible refine (tamisref04_Name.calls k a0 t138 _ A2.out).mono ?_); rintro e w24 ⟨rfl, hb⟩; refine ⟨_, rfl, ?_⟩; have n0_ := Aside0.mk (below_step (by repeat (first | (with_reducible first | exact HB.out | apply below_alloc | apply pw_below_drewN | apply below_drew1) | exact HB.out)) hb); clear HB; have HB := n0_; clear n0_; (try clear hb); (try clear hb2); (try clear hk); (try clear hi)))
                        go_ret
                        exact ⟨by first | rfl | (simp [errW_none, errW_some] <;> rfl) | (simp [*, errW_none, errW_some] <;> rfl), by repeat (first | (with_reducible first | exact HB.out | apply below_alloc | apply pw_below_drewN | apply below_drew1) | exact HB.out)⟩
                      · rw [if_neg c23] at H
                        have c23b0 : (a0 == 5) = false := beq_eq_false_iff_ne.mpr c23
                        have c23b1 : (a0 != 5) = true := bne_iff_ne.mpr c23
                        by_cases c25 : a0 = 6
                        · rw [if_pos c25] at H
                          have c25b0 : (a0 == 6) = true := beq_iff_eq.mpr c25
                          have c25b1 : (a0 != 6) = false := bne_eq_false_iff_eq.mpr c25
                          clear c25
                          obtain rfl := Option.some.inj H
                          go_enter Tryd.func25, Tryd.ntmps25
                          go_wp2_with (first | ((with_reducible refine gate_callee (f := 24) rfl ?_); refine goesL_ (some 4) rfl rfl Tryd.func24 (by kernel_rfl) rfl #[.int .u16 a0] rfl (by (try simp only [List.map_toArray, List.map_cons, List.map_nil]); first | done | rfl | (simp only [List.length_drop, List.length_take]; rfl)) ?_; (with_reducible refine (tamisref04_Name.calls k a0 t138 _ A2.out).mono ?_); rintro e w26 ⟨rfl, hb⟩; refine ⟨_, rfl, ?_⟩; have n0_ := Aside0.mk (below_step (by repeat (first | (with_reducible first | exact HB.out | apply below_alloc | apply pw_below_drewN | apply below_drew1) | exact HB.out)) hb); clear HB; have HB := n0_; clear n0_; (try clear hb); (try clear hb2); (try clear hk); (try clear hi)))
                          go_ret
                          exact ⟨by first | rfl | (simp [errW_none, errW_some] <;> rfl) | (simp [*, errW_none, errW_some] <;> rfl), by repeat (first | (with_reducible first | exact HB.out | apply below_alloc | apply pw_below_drewN | apply below_drew1) | exact HB.out)⟩
                        · rw [if_neg c25] at H
                          have c25b0 : (a0 == 6) = false := beq_eq_false_iff_ne.mpr c25
                          have c25b1 : (a0 != 6) = true := bne_iff_ne.mpr c25
                          by_cases c27 : a0 = 22
                          · rw [if_pos c27] at H
                            have c27b0 : (a0 == 22) = true := beq_iff_eq.mpr c27
                            have c27b1 : (a0 != 22) = false := bne_eq_false_iff_eq.mpr c27
                            clear c27
                            obtain rfl := Option.some.inj H
                            go_enter Tryd.func25, Tryd.ntmps25
                            go_wp2_with (first | ((with_reducible refine gate_callee (f := 24) rfl ?_); refine goesL_ (some 4) rfl rfl Tryd.func24 (by kernel_rfl) rfl #[.int .u16 a0] rfl (by (try simp only [List.map_toArray, List.map_cons, List.map_nil]); first | done | rfl | (simp only [List.length_drop, List.length_take]; rfl)) ?_; (with_reducible refine (tamisref04_Name.calls k a0 t138 _ A2.out).mono ?_); rintro e w28 ⟨rfl, hb⟩; refine ⟨_, rfl, ?_⟩; have n0_ := Aside0.mk (below_step (by repeat (first | (with_reducible first | exact HB.out | apply below_alloc | apply pw_below_drewN | apply below_drew1) | exact HB.out)) hb); clear HB; have HB := n0_; clear n0_; (try clear hb); (try clear hb2); (try clear hk); (try clear hi)))
                            go_ret
                            exact ⟨by first | rfl | (simp [errW_none, errW_some] <;> rfl) | (simp [*, errW_none, errW_some] <;> rfl), by repeat (first | (with_reducible first | exact HB.out | apply below_alloc | apply pw_below_drewN | apply below_drew1) | exact HB.out)⟩
                          · rw [if_neg c27] at H
                            have c27b0 : (a0 == 22) = false := beq_eq_false_iff_ne.mpr c27
                            have c27b1 : (a0 != 22) = true := bne_iff_ne.mpr c27
                            by_cases c29 : a0 = 7
                            · rw [if_pos c29] at H
                              have c29b0 : (a0 == 7) = true := beq_iff_eq.mpr c29
                              have c29b1 : (a0 != 7) = false := bne_eq_false_iff_eq.mpr c29
                              clear c29
                              obtain rfl := Option.some.inj H
                              go_enter Tryd.func25, Tryd.ntmps25
                              go_wp2_with (first | ((with_reducible refine gate_callee (f := 24) rfl ?_); refine goesL_ (some 4) rfl rfl Tryd.func24 (by kernel_rfl) rfl #[.int .u16 a0] rfl (by (try simp only [List.map_toArray, List.map_cons, List.map_nil]); first | done | rfl | (simp only [List.length_drop, List.length_take]; rfl)) ?_; (with_reducible refine (tamisref04_Name.calls k a0 t138 _ A2.out).mono ?_); rintro e w30 ⟨rfl, hb⟩; refine ⟨_, rfl, ?_⟩; have n0_ := Aside0.mk (below_step (by repeat (first | (with_reducible first | exact HB.out | apply below_alloc | apply pw_below_drewN | apply below_drew1) | exact HB.out)) hb); clear HB; have HB := n0_; clear n0_; (try clear hb); (try clear hb2); (try clear hk); (try clear hi)))
                              go_ret
                              exact ⟨by first | rfl | (simp [errW_none, errW_some] <;> rfl) | (simp [*, errW_none, errW_some] <;> rfl), by repeat (first | (with_reducible first | exact HB.out | apply below_alloc | apply pw_below_drewN | apply below_drew1) | exact HB.out)⟩
                            · rw [if_neg c29] at H
                              have c29b0 : (a0 == 7) = false := beq_eq_false_iff_ne.mpr c29
                              have c29b1 : (a0 != 7) = true := bne_iff_ne.mpr c29
                              by_cases c31 : a0 = 135
                              · rw [if_pos c31] at H
                                have c31b0 : (a0 == 135) = true := beq_iff_eq.mpr c31
                                have c31b1 : (a0 != 135) = false := bne_eq_false_iff_eq.mpr c31
                                clear c31
                                obtain rfl := Option.some.inj H
                                go_enter Tryd.func25, Tryd.ntmps25
                                go_wp2_with (first | ((with_reducible refine gate_callee (f := 24) rfl ?_); refine goesL_ (some 4) rfl rfl Tryd.func24 (by kernel_rfl) rfl #[.int .u16 a0] rfl (by (try simp only [List.map_toArray, List.map_cons, List.map_nil]); first | done | rfl | (simp only [List.length_drop, List.length_take]; rfl)) ?_; (with_reducible refine (tamisref04_Name.calls k a0 t138 _ A2.out).mono ?_); rintro e w32 ⟨rfl, hb⟩; refine ⟨_, rfl, ?_⟩; have n0_ := Aside0.mk (below_step (by repeat (first | (with_reducible first | exact HB.out | apply below_alloc | apply pw_below_drewN | apply below_drew1) | exact HB.out)) hb); clear HB; have HB := n0_; clear n0_; (try clear hb); (try clear hb2); (try clear hk); (try clear hi)))
                                go_ret
                                exact ⟨by first | rfl | (simp [errW_none, errW_some] <;> rfl) | (simp [*, errW_none, errW_some] <;> rfl), by repeat (first | (with_reducible first | exact HB.out | apply below_alloc | apply pw_below_drewN | apply below_drew1) | exact HB.out)⟩
                              · rw [if_neg c31] at H
                                have c31b0 : (a0 == 135) = false := beq_eq_false_iff_ne.mpr c31
                                have c31b1 : (a0 != 135) = true := bne_iff_ne.mpr c31
                                by_cases c33 : (Int.tmod a0 8) = 4
                                · rw [if_pos c33] at H
                                  have c33b0 : ((Int.tmod a0 8) == 4) = true := beq_iff_eq.mpr c33
                                  have c33b1 : ((Int.tmod a0 8) != 4) = false := bne_eq_false_iff_eq.mpr c33
                                  clear c33
                                  obtain rfl := Option.some.inj H
                                  go_enter Tryd.func25, Tryd.ntmps25
                                  go_wp2_with (first | ((with_reducible refine gate_callee (f := 24) rfl ?_); refine goesL_ (some 4) rfl rfl Tryd.func24 (by kernel_rfl) rfl #[.int .u16 a0] rfl (by (try simp only [List.map_toArray, List.map_cons, List.map_nil]); first | done | rfl | (simp only [List.length_drop, List.length_take]; rfl)) ?_; (with_reducible refine (tamisref04_Name.calls k a0 t138 _ A2.out).mono ?_); rintro e w34 ⟨rfl, hb⟩; refine ⟨_, rfl, ?_⟩; have n0_ := Aside0.mk (below_step (by repeat (first | (with_reducible first | exact HB.out | apply below_alloc | apply pw_below_drewN | apply below_drew1) | exact HB.out)) hb); clear HB; have HB := n0_; clear n0_; (try clear hb); (try clear hb2); (try clear hk); (try clear hi)))
                                  go_ret
                                  exact ⟨by first | rfl | (simp [errW_none, errW_some] <;> rfl) | (simp [*, errW_none, errW_some] <;> rfl), by repeat (first | (with_reducible first | exact HB.out | apply below_alloc | apply pw_below_drewN | apply below_drew1) | exact HB.out)⟩
                                · rw [if_neg c33] at H
                                  have c33b0 : ((Int.tmod a0 8) == 4) = false := beq_eq_false_iff_ne.mpr c33
                                  have c33b1 : ((Int.tmod a0 8) != 4) = true := bne_iff_ne.mpr c33
                                  obtain rfl := Option.some.inj H
                                  go_enter Tryd.func25, Tryd.ntmps25
                                  go_wp2_with (first | ((with_reducible refine gate_callee (f := 24) rfl ?_); refine goesL_ (some 4) rfl rfl Tryd.func24 (by kernel_rfl) rfl #[.int .u16 a0] rfl (by (try simp only [List.map_toArray, List.map_cons, List.map_nil]); first | done | rfl | (simp only [List.length_drop, List.length_take]; rfl)) ?_; (with_reducible refine (tamisref04_Name.calls k a0 t138 _ A2.out).mono ?_); rintro e w35 ⟨rfl, hb⟩; refine ⟨_, rfl, ?_⟩; have n0_ := Aside0.mk (below_step (by repeat (first | (with_reducible first | exact HB.out | apply below_alloc | apply pw_below_drewN | apply below_drew1) | exact HB.out)) hb); clear HB; have HB := n0_; clear n0_; (try clear hb); (try clear hb2); (try clear hk); (try clear hi)))
                                  go_ret
                                  exact ⟨by first | rfl | (simp [errW_none, errW_some] <;> rfl) | (simp [*, errW_none, errW_some] <;> rfl), by repeat (first | (with_reducible first | exact HB.out | apply below_alloc | apply pw_below_drewN | apply below_drew1) | exact HB.out)⟩

end Go.Proofs.YtnagbdcpmbjnpaaDoor.Pr

namespace Go.Proofs.YtnagbdcpmbjnpaaDoor.Pr
open Go.RowKit Go.Proofs.YtnagbdcpmbjnpaaDoorW.PrintWords Go.Proofs.YtnagbdcpmbjnpaaDoorW.PrintLast Go.Proofs.YtnagbdcpmbjnpaaDoorW.PrintMore
attribute [local go_sem] max2_int min2_int max_two min_two max_three min_three max_four min_four   -- for this text's walks alone
set_option linter.unusedVariables false
set_option linter.unusedSimpArgs false

/-! ### tamisref04_ReadsX: function 41 -/
def tamisref04_ReadsX.f (k : Nat) (a0 : Int) : Option (Bool) := (tamisref04_Kind.f k a0).bind fun t139 => (if t139 = 9 then (some true) else (if t139 = 16 then (some true) else (if t139 = 10 then (some ((Int.tmod (IntKind.u16.wrap (Int.tdiv a0 8)) 2) == 1)) else (if t139 = 12 then (some ((Int.tmod (IntKind.u16.wrap (Int.tdiv a0 8)) 2) == 1)) else (some false)))))
theorem tamisref04_ReadsX.mono : ∀ a0 k, LeO (tamisref04_ReadsX.f k a0) (tamisref04_ReadsX.f (k + 1) a0) := by
  intro a0 k
  unfold tamisref04_ReadsX.f
  repeat' first
      | (with_reducible exact tamisref04_Kind.mono _ _)
      | (with_reducible exact LeO.refl _)
      | (with_reducible exact LeO.none _)
      | (with_reducible refine LeO.ite ?_ ?_)
      | (with_reducible refine LeO.bind ?_ (fun _ => ?_))
      | exact tamisref04_Kind.mono _ _
      | exact LeO.none _
      | refine LeO.ite ?_ ?_
      | refine LeO.bind ?_ (fun _ => ?_)
set_option maxHeartbeats 8000000 in
set_option maxRecDepth 100000 in
theorem tamisref04_ReadsX.calls (k : Nat) (a0 : Int) (r : Bool) (w : World) (h : tamisref04_ReadsX.f k a0 = some r) :
    Calls Tryd.prog 41 #[.int .u16 a0] w fun e w' => e = .returned (.bool r) ∧ Below w.heap.size w w' := by
  have HB := Aside0.mk (Below.refl w.heap.size w)
  have H : ((tamisref04_Kind.f k a0).bind fun t139 => (if t139 = 9 then (some true) else (if t139 = 16 then (some true) else (if t139 = 10 then (some ((Int.tmod (IntKind.u16.wrap (Int.tdiv a0 8)) 2) == 1)) else (if t139 = 12 then (some ((Int.tmod (IntKind.u16.wrap (Int.tdiv a0 8)) 2) == 1)) else (some false)))))) = some r := h
  clear h
  replace H := Option.bind_eq_some_iff.mp H
  obtain ⟨t139, A20, H⟩ := H
  replace H : (if t139 = 9 then (some true) else (if t139 = 16 then (some true) else (if t139 = 10 then (some ((Int.tmod (IntKind.u16.wrap (Int.tdiv a0 8)) 2) == 1)) else (if t139 = 12 then (some ((Int.tmod (IntKind.u16.wrap (Int.tdiv a0 8)) 2) == 1)) else (some false))))) = some r := H
  have A2 := Aside0.mk A20
  clear A20
  by_cases c3 : t139 = 9
  · rw [if_pos c3] at H
    have c3b0 : (t139 == 9) = true := beq_iff_eq.mpr c3
    have c3b1 : (t139 != 9) = false := bne_eq_false_iff_eq.mpr c3
    clear c3
    obtain rfl := Option.some.inj H
    go_enter Tryd.func41, Tryd.ntmps41
    go_wp2_with (first | ((with_reducible refine gate_callee (f := 25) rfl ?_); refine goesL_ (some 5) rfl rfl Tryd.func25 (by kernel_rfl) rfl #[.int .u16 a0] rfl (by (try simp only [List.map_toArray, List.map_cons, List.map_nil]); first | done | rfl | (simp only [List.length_drop, List.length_take]; rfl)) ?_; (with_reducible refine (tamisref04_Kind.calls k a0 t139 _ A2.out).mono ?_); rintro e w4 ⟨rfl, hb⟩; refine ⟨_, rfl, ?_⟩; have n0_ := Aside0.mk (below_step (by repeat (first | (with_reducible first | exact HB.out | apply below_alloc | apply pw_below_drewN | apply below_drew1) | exact HB.out)) hb); clear HB; have HB := n0_; clear n0_; (try clear hb); (try clear hb2); (try clear hk); (try clear hi)))
    go_ret
    exact ⟨by first | rfl | (simp [errW_none, errW_some] <;> rfl) | (simp [*, errW_none, errW_some] <;> rfl), by repeat (first | (with_reducible first | exact HB.out | apply below_alloc | apply pw_below_drewN | apply below_drew1) | exact HB.out)⟩
  · rw [if_neg c3] at H
    have c3b0 : (t139 == 9) = false := beq_eq_false_iff_ne.mpr c3
    have c3b1 : (t139 != 9) = true := bne_iff_ne.mpr c3
    by_cases c5 : t139 = 16
    · rw [if_pos c5] at H
      have c5b0 : (t139 == 16) = true := beq_iff_eq.mpr c5
      have c5b1 : (t139 != 16) = false := bne_eq_false_iff_eq.mpr c5
      clear c5
      obtain rfl := Option.some.inj H
      go_enter Tryd.func41, Tryd.ntmps41
      go_wp2_with (first | ((with_reducible refine gate_callee (f := 25) rfl ?_); refine goesL_ (some 5) rfl rfl Tryd.func25 (by kernel_rfl) rfl #[.int .u16 a0] rfl (by (try simp only [List.map_toArray, List.map_cons, List.map_nil]); first | done | rfl | (simp only [List.length_drop, List.length_take]; rfl)) ?_; (with_reducible refine (tamisref04_Kind.calls k a0 t139 _ A2.out).mono ?_); rintro e w6 ⟨rfl, hb⟩; refine ⟨_, rfl, ?_⟩; have n0_ := Aside0.mk (below_step (by repeat (first | (with_reducible first | exact HB.out | apply below_alloc | apply pw_below_drewN | apply below_drew1) | exact HB.out)) hb); clear HB; have HB := n0_; clear n0_; (try clear hb); (try clear hb2); (try clear hk); (try clear hi)))
      go_ret
      exact ⟨by first | rfl | (simp [errW_none, errW_some] <;> rfl) | (simp [*, errW_none, errW_some] <;> rfl), by repeat (first | (with_reducible first | exact HB.out | apply below_alloc | apply pw_below_drewN | apply below_drew1) | exact HB.out)⟩
    · rw [if_neg c5] at H
      have c5b0 : (t139 == 16) = false := beq_eq_false_iff_ne.mpr c5
      have c5b1 : (t139 != 16) = true := bne_iff_ne.mpr c5
      by_cases c7 : t139 = 10
      · rw [if_pos c7] at H
        have c7b0 : (t139 == 10) = true := beq_iff_eq.mpr c7
        have c7b1 : (t139 != 10) = false := bne_eq_false_iff_eq.mpr c7
        clear c7
        obtain rfl := Option.some.inj H
        go_enter Tryd.func41, Tryd.ntmps41
        go_wp2_with (first | ((with_reducible refine gate_callee (f := 25) rfl ?_); refine goesL_ (some 5) rfl rfl Tryd.func25 (by kernel_rfl) rfl #[.int .u16 a0] rfl (by (try simp only [List.map_toArray, List.map_cons, List.map_nil]); first | done | rfl | (simp only [List.length_drop, List.length_take]; rfl)) ?_; (with_reducible refine (tamisref04_Kind.calls k a0 t139 _ A2.out).mono ?_); rintro e w8 ⟨rfl, hb⟩; refine ⟨_, rfl, ?_⟩; have n0_ := Aside0.mk (below_step (by repeat (first | (with_reducible first | exact HB.out | apply below_alloc | apply pw_below_drewN | apply below_drew1) | exact HB.out)) hb); clear HB; have HB := n0_; clear n0_; (try clear hb); (try clear hb2); (try clear hk); (try clear hi)))
        go_ret
        exact ⟨by first | rfl | (simp [errW_none, errW_some] <;> rfl) | (simp [*, errW_none, errW_some] <;> rfl), by repeat (first | (with_reducible first | exact HB.out | apply below_alloc | apply pw_below_drewN | apply below_drew1) | exact HB.out)⟩
      · rw [if_neg c7] at H
        have c7b0 : (t139 == 10) = false := beq_eq_false_iff_ne.mpr c7
        have c7b1 : (t139 != 10) = true := bne_iff_ne.mpr c7
        by_cases c9 : t139 = 12
        · rw [if_pos c9] at H
          have c9b0 : (t139 == 12) = true := beq_iff_eq.mpr c9
          have c9b1 : (t139 != 12) = false := bne_eq_false_iff_eq.mpr c9
          clear c9
          obtain rfl := Option.some.inj H
          go_enter Tryd.func41, Tryd.ntmps41
          go_wp2_with (first | ((with_reducible refine gate_callee (f := 25) rfl ?_); refine goesL_ (some 5) rfl rfl Tryd.func25 (by kernel_rfl) rfl #[.int .u16 a0] rfl (by (try simp only [List.map_toArray, List.map_cons, List.map_nil]); first | done | rfl | (simp only [List.length_drop, List.length_take]; rfl)) ?_; (with_reducible refine (tamisref04_Kind.calls k a0 t139 _ A2.out).mono ?_); rintro e w10 ⟨rfl, hb⟩; refine ⟨_, rfl, ?_⟩; have n0_ := Aside0.mk (below_step (by repeat (first | (with_reducible first | exact HB.out | apply below_alloc | apply pw_below_drewN | apply below_drew1) | exact HB.out)) hb); clear HB; have HB := n0_; clear n0_; (try clear hb); (try clear hb2); (try clear hk); (try clear hi)))
          go_ret
          exact ⟨by first | rfl | (simp [errW_none, errW_some] <;> rfl) | (simp [*, errW_none, errW_some] <;> rfl), by repeat (first | (with_reducible first | exact HB.out | apply below_alloc | apply pw_below_drewN | apply below_drew1) | exact HB.out)⟩
        · rw [if_neg c9] at H
          have c9b0 : (t139 == 12) = false := beq_eq_false_iff_ne.mpr c9
          have c9b1 : (t139 != 12) = true := bne_iff_ne.mpr c9
          obtain rfl := Option.some.inj H
          go_enter Tryd.func41, Tryd.ntmps41
          go_wp2_with (first | ((with_reducible refine gate_callee (f := 25) rfl ?_); refine goesL_ (some 5) rfl rfl Tryd.func25 (by kernel_rfl) rfl #[.int .u16 a0] rfl (by (try simp only [List.map_toArray, List.map_cons, List.map_nil]); first | done | rfl | (simp only [List.length_drop, List.length_take]; rfl)) ?_; (with_reducible refine (tamisref04_Kind.calls k a0 t139 _ A2.out).mono ?_); rintro e w11 ⟨rfl, hb⟩; refine ⟨_, rfl, ?_⟩; have n0_ := Aside0.mk (below_step (by repeat (first | (with_reducible first | exact HB.out | apply below_alloc | apply pw_below_drewN | apply below_drew1) | exact HB.out)) hb); clear HB; have HB := n0_; clear n0_; (try clear hb); (try clear hb2); (try clear hk); (try clear hi)))
          go_ret
          exact ⟨by first | rfl | (simp [errW_none, errW_some] <;> rfl) | (simp [*, errW_none, errW_some] <;> rfl), by repeat (first | (with_reducible first | exact HB.out | apply below_alloc | apply pw_below_drewN | apply below_drew1) | exact HB.out)⟩

end Go.Proofs.YtnagbdcpmbjnpaaDoor.Pr

namespace Go.Proofs.YtnagbdcpmbjnpaaDoor.Pr
open Go.RowKit Go.Proofs.YtnagbdcpmbjnpaaDoorW.PrintWords Go.Proofs.YtnagbdcpmbjnpaaDoorW.PrintLast Go.Proofs.YtnagbdcpmbjnpaaDoorW.PrintMore
attribute [local go_sem] max2_int min2_int max_two min_two max_three min_three max_four min_four   -- for this text's walks alone
set_option linter.unusedVariables false
set_option linter.unusedSimpArgs false

/-! ### tamisref05_hasK: function 26 -/
def tamisref05_hasK.j0 : Nat → Int → Int → Bool → Option (Bool)
  | 0, _, _, _ => none
  | k + 1, x0, x6, x7 => if x7 = true then (some true) else (if x6 = 10 then ((tamisref04_ReadsX.f k x0).bind fun t141 => (if t141 = true then (some false) else (some (x0 != 132)))) else (if x6 = 12 then ((tamisref04_ReadsX.f k x0).bind fun t142 => (if t142 = true then (some false) else (some (x0 != 132)))) else (some false)))
def tamisref05_hasK.f (k : Nat) (a0 : Int) : Option (Bool) := (tamisref04_Kind.f k a0).bind fun t140 => (if t140 = 1 then (tamisref05_hasK.j0 k a0 t140 (t140 == 1)) else (if t140 = 3 then (tamisref05_hasK.j0 k a0 t140 (t140 == 3)) else (if t140 = 4 then (tamisref05_hasK.j0 k a0 t140 (t140 == 4)) else (if t140 = 5 then (tamisref05_hasK.j0 k a0 t140 (t140 == 5)) else (if t140 = 6 then (tamisref05_hasK.j0 k a0 t140 (t140 == 6)) else (if t140 = 8 then (tamisref05_hasK.j0 k a0 t140 (t140 == 8)) else (if t140 = 9 then (tamisref05_hasK.j0 k a0 t140 (t140 == 9)) else (if t140 = 11 then (tamisref05_hasK.j0 k a0 t140 (t140 == 11)) else (tamisref05_hasK.j0 k a0 t140 (t140 == 13))))))))))
theorem tamisref05_hasK.mono_l : ∀ k, (∀ y0 y1 y2, LeO (tamisref05_hasK.j0 k y0 y1 y2) (tamisref05_hasK.j0 (k + 1) y0 y1 y2))
  | 0 => fun _ _ _ r h => by simp [tamisref05_hasK.j0] at h
  | k + 1 => by
    have ih0 := tamisref05_hasK.mono_l k
    · intro y0 y1 y2
      unfold tamisref05_hasK.j0
      repeat' first
      | (with_reducible exact ih0 _ _ _)
      | (with_reducible exact tamisref04_Kind.mono _ _)
      | (with_reducible exact tamisref04_ReadsX.mono _ _)
      | (with_reducible exact LeO.refl _)
      | (with_reducible exact LeO.none _)
      | (with_reducible refine LeO.ite ?_ ?_)
      | (with_reducible refine LeO.bind ?_ (fun _ => ?_))
      | exact ih0 _ _ _
      | exact tamisref04_Kind.mono _ _
      | exact tamisref04_ReadsX.mono _ _
      | exact LeO.none _
      | refine LeO.ite ?_ ?_
      | refine LeO.bind ?_ (fun _ => ?_)
theorem tamisref05_hasK.mono : ∀ a0 k, LeO (tamisref05_hasK.f k a0) (tamisref05_hasK.f (k + 1) a0) := by
  intro a0 k
  have ih0 := tamisref05_hasK.mono_l k
  unfold tamisref05_hasK.f
  repeat' first
      | (with_reducible exact ih0 _ _ _)
      | (with_reducible exact tamisref04_Kind.mono _ _)
      | (with_reducible exact tamisref04_ReadsX.mono _ _)
      | (with_reducible exact LeO.refl _)
      | (with_reducible exact LeO.none _)
      | (with_reducible refine LeO.ite ?_ ?_)
      | (with_reducible refine LeO.bind ?_ (fun _ => ?_))
      | exact ih0 _ _ _
      | exact tamisref04_Kind.mono _ _
      | exact tamisref04_ReadsX.mono _ _
      | exact LeO.none _
      | refine LeO.ite ?_ ?_
      | refine LeO.bind ?_ (fun _ => ?_)
set_option maxHeartbeats 8000000 in
set_option maxRecDepth 100000 in
theorem tamisref05_hasK.calls (k : Nat) (a0 : Int) (r : Bool) (w : World) (h : tamisref05_hasK.f k a0 = some r) :
    Calls Tryd.prog 26 #[.int .u16 a0] w fun e w' => e = .returned (.bool r) ∧ Below w.heap.size w w' := by
  have HB := Aside0.mk (Below.refl w.heap.size w)
  have H : ((tamisref04_Kind.f k a0).bind fun t140 => (if t140 = 1 then (tamisref05_hasK.j0 k a0 t140 (t140 == 1)) else (if t140 = 3 then (tamisref05_hasK.j0 k a0 t140 (t140 == 3)) else (if t140 = 4 then (tamisref05_hasK.j0 k a0 t140 (t140 == 4)) else (if t140 = 5 then (tamisref05_hasK.j0 k a0 t140 (t140 == 5)) else (if t140 = 6 then (tamisref05_hasK.j0 k a0 t140 (t140 == 6)) else (if t140 = 8 then (tamisref05_hasK.j0 k a0 t140 (t140 == 8)) else (if t140 = 9 then (tamisref05_hasK.j0 k a0 t140 (t140 == 9)) else (if t140 = 11 then (tamisref05_hasK.j0 k a0 t140 (t140 == 11)) else (tamisref05_hasK.j0 k a0 t140 (t140 == 13))))))))))) = some r := h
  clear h
  replace H := Option.bind_eq_some_iff.mp H
  obtain ⟨t140, A20, H⟩ := H
  replace H : (if t140 = 1 then (tamisref05_hasK.j0 k a0 t140 (t140 == 1)) else (if t140 = 3 then (tamisref05_hasK.j0 k a0 t140 (t140 == 3)) else (if t140 = 4 then (tamisref05_hasK.j0 k a0 t140 (t140 == 4)) else (if t140 = 5 then (tamisref05_hasK.j0 k a0 t140 (t140 == 5)) else (if t140 = 6 then (tamisref05_hasK.j0 k a0 t140 (t140 == 6)) else (if t140 = 8 then (tamisref05_hasK.j0 k a0 t140 (t140 == 8)) else (if t140 = 9 then (tamisref05_hasK.j0 k a0 t140 (t140 == 9)) else (if t140 = 11 then (tamisref05_hasK.j0 k a0 t140 (t140 == 11)) else (tamisref05_hasK.j0 k a0 t140 (t140 == 13)))))))))) = some r := H
  have A2 := Aside0.mk A20
  clear A20
  have HC3 := Aside0.mk H
  clear H
  go_enter Tryd.func26, Tryd.ntmps26
  go_upto_if 7 with (first | ((with_reducible refine gate_callee (f := 25) rfl ?_); refine goesL_ (some 5) rfl rfl Tryd.func25 (by kernel_rfl) rfl #[.int .u16 a0] rfl (by (try simp only [List.map_toArray, List.map_cons, List.map_nil]); first | done | rfl | (simp only [List.length_drop, List.length_take]; rfl)) ?_; (with_reducible refine (tamisref04_Kind.calls k a0 t140 _ A2.out).mono ?_); rintro e w4 ⟨rfl, hb⟩; refine ⟨_, rfl, ?_⟩; have n0_ := Aside0.mk (below_step (by repeat (first | (with_reducible first | exact HB.out | apply below_alloc | apply pw_below_drewN | apply below_drew1) | exact HB.out)) hb); clear HB; have HB := n0_; clear n0_; (try clear hb); (try clear hb2); (try clear hk); (try clear hi)))
  (try simp only [Act.put, List.setIfInBounds_toArray, List.set_cons_zero, List.set_cons_succ])
  go_cut [7] (fun v7 wc => ∃ (kq : Nat) (x7_2 : Bool), v7 = .bool x7_2 ∧ Aside0 (tamisref05_hasK.j0 kq a0 t140 x7_2 = some r) ∧ Aside0 (kq ≤ k) ∧ Aside0 (Below w.heap.size w wc))
  case first =>
    have H := HC3.out
    clear HC3
    by_cases c5 : t140 = 1
    · rw [if_pos c5] at H
      have c5b0 : (t140 == 1) = true := beq_iff_eq.mpr c5
      have c5b1 : (t140 != 1) = false := bne_eq_false_iff_eq.mpr c5
      clear c5
      (first | rw [c5b0] | (simp only [i64_w, i32_w]; rw [c5b0]) | skip)
      have H' := Aside0.mk H
      clear H
      go_wp2
      go_meet
      case rel => exact ⟨_, ((t140 == 1)), (by first | rfl | (simp; done) | (simp [*]; done)), H', ⟨by first | omega | exact Nat.le_refl _⟩, ⟨by repeat (first | (with_reducible first | exact HB.out | apply below_alloc | apply pw_below_drewN | apply below_drew1) | exact HB.out)⟩⟩
    · rw [if_neg c5] at H
      have c5b0 : (t140 == 1) = false := beq_eq_false_iff_ne.mpr c5
      have c5b1 : (t140 != 1) = true := bne_iff_ne.mpr c5
      (first | rw [c5b0] | (simp only [i64_w, i32_w]; rw [c5b0]) | skip)
      by_cases c6 : t140 = 3
      · rw [if_pos c6] at H
        have c6b0 : (t140 == 3) = true := beq_iff_eq.mpr c6
        have c6b1 : (t140 != 3) = false := bne_eq_false_iff_eq.mpr c6
        clear c6
        have H' := Aside0.mk H
        clear H
        go_wp2
        go_meet
        case rel => exact ⟨_, ((t140 == 3)), (by first | rfl | (simp; done) | (simp [*]; done)), H', ⟨by first | omega | exact Nat.le_refl _⟩, ⟨by repeat (first | (with_reducible first | exact HB.out | apply below_alloc | apply pw_below_drewN | apply below_drew1) | exact HB.out)⟩⟩
      · rw [if_neg c6] at H
        have c6b0 : (t140 == 3) = false := beq_eq_false_iff_ne.mpr c6
        have c6b1 : (t140 != 3) = true := bne_iff_ne.mpr c6
        by_cases c7 : t140 = 4
        · rw [if_pos c7] at H
          have c7b0 : (t140 == 4) = true := beq_iff_eq.mpr c7
          have c7b1 : (t140 != 4) = false := bne_eq_false_iff_eq.mpr c7
          clear c7
          have H' := Aside0.mk H
          clear H
          go_wp2
          go_meet
          case rel => exact ⟨_, ((t140 == 4)), (by first | rfl | (simp; done) | (simp [*]; done)), H', ⟨by first | omega | exact Nat.le_refl _⟩, ⟨by repeat (first | (with_reducible first | exact HB.out | apply below_alloc | apply pw_below_drewN | apply below_drew1) | exact HB.out)⟩⟩
        · rw [if_neg c7] at H
          have c7b0 : (t140 == 4) = false := beq_eq_false_iff_ne.mpr c7
          have c7b1 : (t140 != 4) = true := bne_iff_ne.mpr c7
          by_cases c8 : t140 = 5
          · rw [if_pos c8] at H
            have c8b0 : (t140 == 5) = true := beq_iff_eq.mpr c8
            have c8b1 : (t140 != 5) = false := bne_eq_false_iff_eq.mpr c8
            clear c8
            have H' := Aside0.mk H
            clear H
            go_wp2
            go_meet
            case rel => exact ⟨_, ((t140 == 5)), (by first | rfl | (simp; done) | (simp [*]; done)), H', ⟨by first | omega | exact Nat.le_refl _⟩, ⟨by repeat (first | (with_reducible first | exact HB.out | apply below_alloc | apply pw_below_drewN | apply below_drew1) | exact HB.out)⟩⟩
          · rw [if_neg c8] at H
            have c8b0 : (t140 == 5) = false := beq_eq_false_iff_ne.mpr c8
            have c8b1 : (t140 != 5) = true := bne_iff_ne.mpr c8
            by_cases c9 : t140 = 6
            · rw [if_pos c9] at H
              have c9b0 : (t140 == 6) = true := beq_iff_eq.mpr c9
              have c9b1 : (t140 != 6) = false := bne_eq_false_iff_eq.mpr c9
              clear c9
              have H' := Aside0.mk H
              clear H
              go_wp2
              go_meet
              case rel => exact ⟨_, ((t140 == 6)), (by first | rfl | (simp; done) | (simp [*]; done)), H', ⟨by first | omega | exact Nat.le_refl _⟩, ⟨by repeat (first | (with_reducible first | exact HB.out | apply below_alloc | apply pw_below_drewN | apply below_drew1) | exact HB.out)⟩⟩
            · rw [if_neg c9] at H
              have c9b0 : (t140 == 6) = false := beq_eq_false_iff_ne.mpr c9
              have c9b1 : (t140 != 6) = true := bne_iff_ne.mpr c9
              by_cases c10 : t140 = 8
              · rw [if_pos c10] at H
                have c10b0 : (t140 == 8) = true := beq_iff_eq.mpr c10
                have c10b1 : (t140 != 8) = false := bne_eq_false_iff_eq.mpr c10
                clear c10
                have H' := Aside0.mk H
                clear H
                go_wp2
                go_meet
                case rel => exact ⟨_, ((t140 == 8)), (by first | rfl | (simp; done) | (simp [*]; done)), H', ⟨by first | omega | exact Nat.le_refl _⟩, ⟨by repeat (first | (with_reducible first | exact HB.out | apply below_alloc | apply pw_below_drewN | apply below_drew1) | exact HB.out)⟩⟩
              · rw [if_neg c10] at H
                have c10b0 : (t140 == 8) = false := beq_eq_false_iff_ne.mpr c10
                have c10b1 : (t140 != 8) = true := bne_iff_ne.mpr c10
                by_cases c11 : t140 = 9
                · rw [if_pos c11] at H
                  have c11b0 : (t140 == 9) = true := beq_iff_eq.mpr c11
                  have c11b1 : (t140 != 9) = false := bne_eq_false_iff_eq.mpr c11
                  clear c11
                  have H' := Aside0.mk H
                  clear H
                  go_wp2
                  go_meet
                  case rel => exact ⟨_, ((t140 == 9)), (by first | rfl | (simp; done) | (simp [*]; done)), H', ⟨by first | omega | exact Nat.le_refl _⟩, ⟨by repeat (first | (with_reducible first | exact HB.out | apply below_alloc | apply pw_below_drewN | apply below_drew1) | exact HB.out)⟩⟩
                · rw [if_neg c11] at H
                  have c11b0 : (t140 == 9) = false := beq_eq_false_iff_ne.mpr c11
                  have c11b1 : (t140 != 9) = true := bne_iff_ne.mpr c11
                  by_cases c12 : t140 = 11
                  · rw [if_pos c12] at H
                    have c12b0 : (t140 == 11) = true := beq_iff_eq.mpr c12
                    have c12b1 : (t140 != 11) = false := bne_eq_false_iff_eq.mpr c12
                    clear c12
                    have H' := Aside0.mk H
                    clear H
                    go_wp2
                    go_meet
                    case rel => exact ⟨_, ((t140 == 11)), (by first | rfl | (simp; done) | (simp [*]; done)), H', ⟨by first | omega | exact Nat.le_refl _⟩, ⟨by repeat (first | (with_reducible first | exact HB.out | apply below_alloc | apply pw_below_drewN | apply below_drew1) | exact HB.out)⟩⟩
                  · rw [if_neg c12] at H
                    have c12b0 : (t140 == 11) = false := beq_eq_false_iff_ne.mpr c12
                    have c12b1 : (t140 != 11) = true := bne_iff_ne.mpr c12
                    have H' := Aside0.mk H
                    clear H
                    go_wp2
                    go_meet
                    case rel => exact ⟨_, ((t140 == 13)), (by first | rfl | (simp; done) | (simp [*]; done)), H', ⟨by first | omega | exact Nat.le_refl _⟩, ⟨by repeat (first | (with_reducible first | exact HB.out | apply below_alloc | apply pw_below_drewN | apply below_drew1) | exact HB.out)⟩⟩
  case rest =>
    clear HC3
    try clear c1
    try clear c2
    try clear p2
    try clear c5
    try clear c5b0
    try clear c5b1
    try clear c6
    try clear c6b0
    try clear c6b1
    try clear c7
    try clear c7b0
    try clear c7b1
    try clear c8
    try clear c8b0
    try clear c8b1
    try clear c9
    try clear c9b0
    try clear c9b1
    try clear c10
    try clear c10b0
    try clear c10b1
    try clear c11
    try clear c11b0
    try clear c11b1
    try clear c12
    try clear c12b0
    try clear c12b1
    obtain ⟨kq, x7_2, rfl, HA, HJ2, HB⟩ := hcut
    cases kq with
    | zero => exact absurd HA.out (by simp [tamisref05_hasK.j0])
    | succ kj2 =>
      have H := HA.out
      clear HA
      simp only [tamisref05_hasK.j0] at H
      by_cases c13 : x7_2 = true
      · subst c13
        have H1 : (some true) = some r := by rw [if_pos rfl] at H; exact H
        clear H
        have H := H1
        clear H1
        obtain rfl := Option.some.inj H
        go_wp2
        go_ret
        exact ⟨by first | rfl | (simp [errW_none, errW_some] <;> rfl) | (simp [*, errW_none, errW_some] <;> rfl), by repeat (first | (with_reducible first | exact HB.out | apply below_alloc | apply pw_below_drewN | apply below_drew1) | exact HB.out)⟩
      · replace c13 := Bool.eq_false_iff.mpr c13
        subst c13
        have H1 : (if t140 = 10 then ((tamisref04_ReadsX.f kj2 a0).bind fun t141 => (if t141 = true then (some false) else (some (a0 != 132)))) else (if t140 = 12 then ((tamisref04_ReadsX.f kj2 a0).bind fun t142 => (if t142 = true then (some false) else (some (a0 != 132)))) else (some false))) = some r := by rw [if_neg (show ¬ (false = true) by decide)] at H; exact H
        clear H
        have H := H1
        clear H1
        by_cases c14 : t140 = 10
        · rw [if_pos c14] at H
          have c14b0 : (t140 == 10) = true := beq_iff_eq.mpr c14
          have c14b1 : (t140 != 10) = false := bne_eq_false_iff_eq.mpr c14
          clear c14
          replace H := Option.bind_eq_some_iff.mp H
          obtain ⟨t141, A150, H⟩ := H
          replace H : (if t141 = true then (some false) else (some (a0 != 132))) = some r := H
          have A15 := Aside0.mk A150
          clear A150
          by_cases c16 : t141 = true
          · subst c16
            have H1 : (some false) = some r := by rw [if_pos rfl] at H; exact H
            clear H
            have H := H1
            clear H1
            obtain rfl := Option.some.inj H
            go_wp2_with (first | ((with_reducible refine gate_callee (f := 41) rfl ?_); refine goesL_ (some 21) rfl rfl Tryd.func41 (by kernel_rfl) rfl #[.int .u16 a0] rfl (by (try simp only [List.map_toArray, List.map_cons, List.map_nil]); first | done | rfl | (simp only [List.length_drop, List.length_take]; rfl)) ?_; (with_reducible refine (tamisref04_ReadsX.calls kj2 a0 true _ A15.out).mono ?_); rintro e w17 ⟨rfl, hb⟩; refine ⟨_, rfl, ?_⟩; have n0_ := Aside0.mk (below_step (by repeat (first | (with_reducible first | exact HB.out | apply below_alloc | apply pw_below_drewN | apply below_drew1) | exact HB.out)) hb); clear HB; have HB := n0_; clear n0_; (try clear hb); (try clear hb2); (try clear hk); (try clear hi)))
            go_ret
            exact ⟨by first | rfl | (simp [errW_none, errW_some] <;> rfl) | (simp [*, errW_none, errW_some] <;> rfl), by repeat (first | (with_reducible first | exact HB.out | apply below_alloc | apply pw_below_drewN | apply below_drew1) | exact HB.out)⟩
          · replace c16 := Bool.eq_false_iff.mpr c16
            subst c16
            have H1 : (some (a0 != 132)) = some r := by rw [if_neg (show ¬ (false = true) by decide)] at H; exact H
            clear H
            have H := H1
            clear H1
            obtain rfl := Option.some.inj H
            go_wp2_with (first | ((with_reducible refine gate_callee (f := 41) rfl ?_); refine goesL_ (some 21) rfl rfl Tryd.func41 (by kernel_rfl) rfl #[.int .u16 a0] rfl (by (try simp only [List.map_toArray, List.map_cons, List.map_nil]); first | done | rfl | (simp only [List.length_drop, List.length_take]; rfl)) ?_; (with_reducible refine (tamisref04_ReadsX.calls kj2 a0 false _ A15.out).mono ?_); rintro e w18 ⟨rfl, hb⟩; refine ⟨_, rfl, ?_⟩; have n0_ := Aside0.mk (below_step (by repeat (first | (with_reducible first | exact HB.out | apply below_alloc | apply pw_below_drewN | apply below_drew1) | exact HB.out)) hb); clear HB; have HB := n0_; clear n0_; (try clear hb); (try clear hb2); (try clear hk); (try clear hi)))
            go_ret
            exact ⟨by first | rfl | (simp [errW_none, errW_some] <;> rfl) | (simp [*, errW_none, errW_some] <;> rfl), by repeat (first | (with_reducible first | exact HB.out | apply below_alloc | apply pw_below_drewN | apply below_drew1) | exact HB.out)⟩
        · rw [if_neg c14] at H
          have c14b0 : (t140 == 10) = false := beq_eq_false_iff_ne.mpr c14
          have c14b1 : (t140 != 10) = true := bne_iff_ne.mpr c14
          by_cases c19 : t140 = 12
          · rw [if_pos c19] at H
            have c19b0 : (t140 == 12) = true := beq_iff_eq.mpr c19
            have c19b1 : (t140 != 12) = false := bne_eq_false_iff_eq.mpr c19
            clear c19
            replace H := Option.bind_eq_some_iff.mp H
            obtain ⟨t142, A200, H⟩ := H
            replace H : (if t142 = true then (some false) else (some (a0 != 132))) = some r := H
            have A20 := Aside0.mk A200
            clear A200
            by_cases c21 : t142 = true
            · subst c21
              have H1 : (some false) = some r := by rw [if_pos rfl] at H; exact H
              clear H
              have H := H1
              clear H1
              obtain rfl := Option.some.inj H
              go_wp2_with (first | ((with_reducible refine gate_callee (f := 41) rfl ?_); refine goesL_ (some 21) rfl rfl Tryd.func41 (by kernel_rfl) rfl #[.int .u16 a0] rfl (by (try simp only [List.map_toArray, List.map_cons, List.map_nil]); first | done | rfl | (simp only [List.length_drop, List.length_take]; rfl)) ?_; (with_reducible refine (tamisref04_ReadsX.calls kj2 a0 true _ A20.out).mono ?_); rintro e w22 ⟨rfl, hb⟩; refine ⟨_, rfl, ?_⟩; have n0_ := Aside0.mk (below_step (by repeat (first | (with_reducible first | exact HB.out | apply below_alloc | apply pw_below_drewN | apply below_drew1) | exact HB.out)) hb); clear HB; have HB := n0_; clear n0_; (try clear hb); (try clear hb2); (try clear hk); (try clear hi)))
              go_ret
              exact ⟨by first | rfl | (simp [errW_none, errW_some] <;> rfl) | (simp [*, errW_none, errW_some] <;> rfl), by repeat (first | (with_reducible first | exact HB.out | apply below_alloc | apply pw_below_drewN | apply below_drew1) | exact HB.out)⟩
            · replace c21 := Bool.eq_false_iff.mpr c21
              subst c21
              have H1 : (some (a0 != 132)) = some r := by rw [if_neg (show ¬ (false = true) by decide)] at H; exact H
              clear H
              have H := H1
              clear H1
              obtain rfl := Option.some.inj H
              go_wp2_with (first | ((with_reducible refine gate_callee (f := 41) rfl ?_); refine goesL_ (some 21) rfl rfl Tryd.func41 (by kernel_rfl) rfl #[.int .u16 a0] rfl (by (try simp only [List.map_toArray, List.map_cons, List.map_nil]); first | done | rfl | (simp only [List.length_drop, List.length_take]; rfl)) ?_; (with_reducible refine (tamisref04_ReadsX.calls kj2 a0 false _ A20.out).mono ?_); rintro e w23 ⟨rfl, hb⟩; refine ⟨_, rfl, ?_⟩; have n0_ := Aside0.mk (below_step (by repeat (first | (with_reducible first | exact HB.out | apply below_alloc | apply pw_below_drewN | apply below_drew1) | exact HB.out)) hb); clear HB; have HB := n0_; clear n0_; (try clear hb); (try clear hb2); (try clear hk); (try clear hi)))
              go_ret
              exact ⟨by first | rfl | (simp [errW_none, errW_some] <;> rfl) | (simp [*, errW_none, errW_some] <;> rfl), by repeat (first | (with_reducible first | exact HB.out | apply below_alloc | apply pw_below_drewN | apply below_drew1) | exact HB.out)⟩
          · rw [if_neg c19] at H
            have c19b0 : (t140 == 12) = false := beq_eq_false_iff_ne.mpr c19
            have c19b1 : (t140 != 12) = true := bne_iff_ne.mpr c19
            obtain rfl := Option.some.inj H
            go_wp2
            go_ret
            exact ⟨by first | rfl | (simp [errW_none, errW_some] <;> rfl) | (simp [*, errW_none, errW_some] <;> rfl), by repeat (first | (with_reducible first | exact HB.out | apply below_alloc | apply pw_below_drewN | apply below_drew1) | exact HB.out)⟩

end Go.Proofs.YtnagbdcpmbjnpaaDoor.Pr
