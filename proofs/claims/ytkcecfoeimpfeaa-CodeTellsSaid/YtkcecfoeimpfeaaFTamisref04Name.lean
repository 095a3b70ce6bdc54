-- Made by a program of this session (wip/tools/myprint.sh).
import Derived.Test.YtkcecfoeimpfeaaPr0
import Derived.Test.YtkcecfoeimpfeaaFTamisref04All
namespace Go.Proofs.Ytkcecfoeimpfeaa.Pr
open Go.RowKit Go.Proofs.YtkcecfoeimpfeaaW.PrintWords Go.Proofs.YtkcecfoeimpfeaaW.PrintLast Go.Proofs.YtkcecfoeimpfeaaW.PrintMore
attribute [local go_sem] max2_int min2_int max_two min_two max_three min_three max_four min_four   -- for this text's walks alone
set_option linter.unusedVariables false
set_option linter.unusedSimpArgs false

/-! ### tamisref04_Name: function 14 -/
def tamisref04_Name.l0 : Nat → Int → List ByteArray → List Int → Int → Option (ByteArray)
  | 0, _, _, _, _ => none
  | k + 1, x0, x3, x4, x5 => if x5 < (x4.length : Int) then (if 0 ≤ x5 then (if (rd x4 x5) = x0 then (if x5 < (x3.length : Int) then (some (rdOf ByteArray.empty x3 x5)) else (none)) else (tamisref04_Name.l0 k x0 x3 x4 (wrap64 (x5 + 1)))) else (none)) else (some (⟨#[]⟩ : ByteArray))
def tamisref04_Name.f (k : Nat) (a0 : Int) : Option (ByteArray) := (tamisref04_All.f).bind fun t109 => (tamisref04_Name.l0 k a0 (([(⟨#[108, 100, 105]⟩ : ByteArray), (⟨#[108, 100, 120, 105]⟩ : ByteArray), (⟨#[115, 116]⟩ : ByteArray), (⟨#[115, 116, 120]⟩ : ByteArray), (⟨#[97, 100, 100]⟩ : ByteArray), (⟨#[106, 97]⟩ : ByteArray), (⟨#[114, 101, 116]⟩ : ByteArray), (⟨#[116, 97, 120]⟩ : ByteArray), (⟨#[97, 100, 100, 120]⟩ : ByteArray), (⟨#[115, 117, 98]⟩ : ByteArray), (⟨#[106, 101, 113]⟩ : ByteArray), (⟨#[114, 101, 116, 97]⟩ : ByteArray), (⟨#[115, 117, 98, 120]⟩ : ByteArray), (⟨#[106, 101, 113, 120]⟩ : ByteArray), (⟨#[108, 100]⟩ : ByteArray), (⟨#[109, 117, 108]⟩ : ByteArray), (⟨#[106, 103, 116]⟩ : ByteArray), (⟨#[109, 117, 108, 120]⟩ : ByteArray), (⟨#[106, 103, 116, 120]⟩ : ByteArray), (⟨#[100, 105, 118]⟩ : ByteArray), (⟨#[106, 103, 101]⟩ : ByteArray), (⟨#[100, 105, 118, 120]⟩ : ByteArray), (⟨#[106, 103, 101, 120]⟩ : ByteArray), (⟨#[111, 114]⟩ : ByteArray), (⟨#[106, 115, 101, 116]⟩ : ByteArray), (⟨#[111, 114, 120]⟩ : ByteArray), (⟨#[106, 115, 101, 116, 120]⟩ : ByteArray), (⟨#[97, 110, 100]⟩ : ByteArray), (⟨#[97, 110, 100, 120]⟩ : ByteArray), (⟨#[108, 100, 109]⟩ : ByteArray), (⟨#[108, 100, 120, 109]⟩ : ByteArray), (⟨#[108, 115, 104]⟩ : ByteArray), (⟨#[108, 115, 104, 120]⟩ : ByteArray), (⟨#[114, 115, 104]⟩ : ByteArray), (⟨#[114, 115, 104, 120]⟩ : ByteArray), (⟨#[108, 100, 108, 101, 110]⟩ : ByteArray), (⟨#[108, 100, 120, 108, 101, 110]⟩ : ByteArray), (⟨#[110, 101, 103]⟩ : ByteArray), (⟨#[116, 120, 97]⟩ : ByteArray), (⟨#[120, 111, 114]⟩ : ByteArray), (⟨#[120, 111, 114, 120]⟩ : ByteArray)] : List ByteArray)) t109 0)
theorem tamisref04_Name.mono_l : ∀ k, (∀ y0 y1 y2 y3, LeO (tamisref04_Name.l0 k y0 y1 y2 y3) (tamisref04_Name.l0 (k + 1) y0 y1 y2 y3))
  | 0 => fun _ _ _ _ r h => by simp [tamisref04_Name.l0] at h
  | k + 1 => by
    have ih0 := tamisref04_Name.mono_l k
    · intro y0 y1 y2 y3
      unfold tamisref04_Name.l0
      repeat' first
      | (with_reducible exact ih0 _ _ _ _)
      | (with_reducible exact LeO.refl _)
      | (with_reducible exact LeO.none _)
      | (with_reducible refine LeO.ite ?_ ?_)
      | (with_reducible refine LeO.bind ?_ (fun _ => ?_))
      | exact ih0 _ _ _ _
      | exact LeO.none _
      | refine LeO.ite ?_ ?_
      | refine LeO.bind ?_ (fun _ => ?_)
theorem tamisref04_Name.mono : ∀ a0 k, LeO (tamisref04_Name.f k a0) (tamisref04_Name.f (k + 1) a0) := by
  intro a0 k
  have ih0 := tamisref04_Name.mono_l k
  unfold tamisref04_Name.f
  repeat' first
      | (with_reducible exact ih0 _ _ _ _)
      | (with_reducible exact LeO.refl _)
      | (with_reducible exact LeO.none _)
      | (with_reducible refine LeO.ite ?_ ?_)
      | (with_reducible refine LeO.bind ?_ (fun _ => ?_))
      | exact ih0 _ _ _ _
      | exact LeO.none _
      | refine LeO.ite ?_ ?_
      | refine LeO.bind ?_ (fun _ => ?_)
set_option maxHeartbeats 8000000 in
set_option maxRecDepth 100000 in
theorem tamisref04_Name.calls (k : Nat) (a0 : Int) (r : ByteArray) (w : World) (h : tamisref04_Name.f k a0 = some r) :
    Calls Try.prog 14 #[.int .u16 a0] w fun e w' => e = .returned (.string r) ∧ Below w.heap.size w w' := by
  have HB := Aside0.mk (Below.refl w.heap.size w)
  have H : ((tamisref04_All.f).bind fun t109 => (tamisref04_Name.l0 k a0 (([(⟨#[108, 100, 105]⟩ : ByteArray), (⟨#[108, 100, 120, 105]⟩ : ByteArray), (⟨#[115, 116]⟩ : ByteArray), (⟨#[115, 116, 120]⟩ : ByteArray), (⟨#[97, 100, 100]⟩ : ByteArray), (⟨#[106, 97]⟩ : ByteArray), (⟨#[114, 101, 116]⟩ : ByteArray), (⟨#[116, 97, 120]⟩ : ByteArray), (⟨#[97, 100, 100, 120]⟩ : ByteArray), (⟨#[115, 117, 98]⟩ : ByteArray), (⟨#[106, 101, 113]⟩ : ByteArray), (⟨#[114, 101, 116, 97]⟩ : ByteArray), (⟨#[115, 117, 98, 120]⟩ : ByteArray), (⟨#[106, 101, 113, 120]⟩ : ByteArray), (⟨#[108, 100]⟩ : ByteArray), (⟨#[109, 117, 108]⟩ : ByteArray), (⟨#[106, 103, 116]⟩ : ByteArray), (⟨#[109, 117, 108, 120]⟩ : ByteArray), (⟨#[106, 103, 116, 120]⟩ : ByteArray), (⟨#[100, 105, 118]⟩ : ByteArray), (⟨#[106, 103, 101]⟩ : ByteArray), (⟨#[100, 105, 118, 120]⟩ : ByteArray), (⟨#[106, 103, 101, 120]⟩ : ByteArray), (⟨#[111, 114]⟩ : ByteArray), (⟨#[106, 115, 101, 116]⟩ : ByteArray), (⟨#[111, 114, 120]⟩ : ByteArray), (⟨#[106, 115, 101, 116, 120]⟩ : ByteArray), (⟨#[97, 110, 100]⟩ : ByteArray), (⟨#[97, 110, 100, 120]⟩ : ByteArray), (⟨#[108, 100, 109]⟩ : ByteArray), (⟨#[108, 100, 120, 109]⟩ : ByteArray), (⟨#[108, 115, 104]⟩ : ByteArray), (⟨#[108, 115, 104, 120]⟩ : ByteArray), (⟨#[114, 115, 104]⟩ : ByteArray), (⟨#[114, 115, 104, 120]⟩ : ByteArray), (⟨#[108, 100, 108, 101, 110]⟩ : ByteArray), (⟨#[108, 100, 120, 108, 101, 110]⟩ : ByteArray), (⟨#[110, 101, 103]⟩ : ByteArray), (⟨#[116, 120, 97]⟩ : ByteArray), (⟨#[120, 111, 114]⟩ : ByteArray), (⟨#[120, 111, 114, 120]⟩ : ByteArray)] : List ByteArray)) t109 0)) = some r := h
  clear h
  obtain ⟨y106, hy106⟩ : ∃ y_ : List ByteArray, y_ = (([(⟨#[108, 100, 105]⟩ : ByteArray), (⟨#[108, 100, 120, 105]⟩ : ByteArray), (⟨#[115, 116]⟩ : ByteArray), (⟨#[115, 116, 120]⟩ : ByteArray), (⟨#[97, 100, 100]⟩ : ByteArray), (⟨#[106, 97]⟩ : ByteArray), (⟨#[114, 101, 116]⟩ : ByteArray), (⟨#[116, 97, 120]⟩ : ByteArray), (⟨#[97, 100, 100, 120]⟩ : ByteArray), (⟨#[115, 117, 98]⟩ : ByteArray), (⟨#[106, 101, 113]⟩ : ByteArray), (⟨#[114, 101, 116, 97]⟩ : ByteArray), (⟨#[115, 117, 98, 120]⟩ : ByteArray), (⟨#[106, 101, 113, 120]⟩ : ByteArray), (⟨#[108, 100]⟩ : ByteArray), (⟨#[109, 117, 108]⟩ : ByteArray), (⟨#[106, 103, 116]⟩ : ByteArray), (⟨#[109, 117, 108, 120]⟩ : ByteArray), (⟨#[106, 103, 116, 120]⟩ : ByteArray), (⟨#[100, 105, 118]⟩ : ByteArray), (⟨#[106, 103, 101]⟩ : ByteArray), (⟨#[100, 105, 118, 120]⟩ : ByteArray), (⟨#[106, 103, 101, 120]⟩ : ByteArray), (⟨#[111, 114]⟩ : ByteArray), (⟨#[106, 115, 101, 116]⟩ : ByteArray), (⟨#[111, 114, 120]⟩ : ByteArray), (⟨#[106, 115, 101, 116, 120]⟩ : ByteArray), (⟨#[97, 110, 100]⟩ : ByteArray), (⟨#[97, 110, 100, 120]⟩ : ByteArray), (⟨#[108, 100, 109]⟩ : ByteArray), (⟨#[108, 100, 120, 109]⟩ : ByteArray), (⟨#[108, 115, 104]⟩ : ByteArray), (⟨#[108, 115, 104, 120]⟩ : ByteArray), (⟨#[114, 115, 104]⟩ : ByteArray), (⟨#[114, 115, 104, 120]⟩ : ByteArray), (⟨#[108, 100, 108, 101, 110]⟩ : ByteArray), (⟨#[108, 100, 120, 108, 101, 110]⟩ : ByteArray), (⟨#[110, 101, 103]⟩ : ByteArray), (⟨#[116, 120, 97]⟩ : ByteArray), (⟨#[120, 111, 114]⟩ : ByteArray), (⟨#[120, 111, 114, 120]⟩ : ByteArray)] : List ByteArray)) := ⟨_, rfl⟩
  replace H : ((tamisref04_All.f).bind fun t109 => (tamisref04_Name.l0 k a0 y106 t109 0)) = some r := by first | (rw [hy106]; with_reducible exact H) | (have H2_ := (Option.bind_some _ _).symm.trans H; rw [hy106]; with_reducible exact H2_) | (have H2_ := (Option.bind_some _ _).symm.trans H; with_reducible exact H2_) | with_reducible exact H | (rw [hy106]; exact H) | exact H
  have Ny106 := Aside0.mk hy106
  clear hy106
  replace H := Option.bind_eq_some_iff.mp H
  obtain ⟨t109, A20, H⟩ := H
  replace H : (tamisref04_Name.l0 k a0 y106 t109 0) = some r := H
  have A2 := Aside0.mk A20
  clear A20
  have H' := Aside0.mk H
  clear H
  go_enter Try.func14, Try.ntmps14
  go_wp2_with (first | ((with_reducible refine gate_dst (N := 6) rfl ?_); refine Kd.R_lit Kd.string _ 9 ?hg (N := 6) ?hd (xs := ([(⟨#[108, 100, 105]⟩ : ByteArray), (⟨#[108, 100, 120, 105]⟩ : ByteArray), (⟨#[115, 116]⟩ : ByteArray), (⟨#[115, 116, 120]⟩ : ByteArray), (⟨#[97, 100, 100]⟩ : ByteArray), (⟨#[106, 97]⟩ : ByteArray), (⟨#[114, 101, 116]⟩ : ByteArray), (⟨#[116, 97, 120]⟩ : ByteArray), (⟨#[97, 100, 100, 120]⟩ : ByteArray), (⟨#[115, 117, 98]⟩ : ByteArray), (⟨#[106, 101, 113]⟩ : ByteArray), (⟨#[114, 101, 116, 97]⟩ : ByteArray), (⟨#[115, 117, 98, 120]⟩ : ByteArray), (⟨#[106, 101, 113, 120]⟩ : ByteArray), (⟨#[108, 100]⟩ : ByteArray), (⟨#[109, 117, 108]⟩ : ByteArray), (⟨#[106, 103, 116]⟩ : ByteArray), (⟨#[109, 117, 108, 120]⟩ : ByteArray), (⟨#[106, 103, 116, 120]⟩ : ByteArray), (⟨#[100, 105, 118]⟩ : ByteArray), (⟨#[106, 103, 101]⟩ : ByteArray), (⟨#[100, 105, 118, 120]⟩ : ByteArray), (⟨#[106, 103, 101, 120]⟩ : ByteArray), (⟨#[111, 114]⟩ : ByteArray), (⟨#[106, 115, 101, 116]⟩ : ByteArray), (⟨#[111, 114, 120]⟩ : ByteArray), (⟨#[106, 115, 101, 116, 120]⟩ : ByteArray), (⟨#[97, 110, 100]⟩ : ByteArray), (⟨#[97, 110, 100, 120]⟩ : ByteArray), (⟨#[108, 100, 109]⟩ : ByteArray), (⟨#[108, 100, 120, 109]⟩ : ByteArray), (⟨#[108, 115, 104]⟩ : ByteArray), (⟨#[108, 115, 104, 120]⟩ : ByteArray), (⟨#[114, 115, 104]⟩ : ByteArray), (⟨#[114, 115, 104, 120]⟩ : ByteArray), (⟨#[108, 100, 108, 101, 110]⟩ : ByteArray), (⟨#[108, 100, 120, 108, 101, 110]⟩ : ByteArray), (⟨#[110, 101, 103]⟩ : ByteArray), (⟨#[116, 120, 97]⟩ : ByteArray), (⟨#[120, 111, 114]⟩ : ByteArray), (⟨#[120, 111, 114, 120]⟩ : ByteArray)] : List ByteArray)) (inner := [.string (⟨#[108, 100, 105]⟩ : ByteArray), .string (⟨#[108, 100, 120, 105]⟩ : ByteArray), .string (⟨#[115, 116]⟩ : ByteArray), .string (⟨#[115, 116, 120]⟩ : ByteArray), .string (⟨#[97, 100, 100]⟩ : ByteArray), .string (⟨#[106, 97]⟩ : ByteArray), .string (⟨#[114, 101, 116]⟩ : ByteArray), .string (⟨#[116, 97, 120]⟩ : ByteArray), .string (⟨#[97, 100, 100, 120]⟩ : ByteArray), .string (⟨#[115, 117, 98]⟩ : ByteArray), .string (⟨#[106, 101, 113]⟩ : ByteArray), .string (⟨#[114, 101, 116, 97]⟩ : ByteArray), .string (⟨#[115, 117, 98, 120]⟩ : ByteArray), .string (⟨#[106, 101, 113, 120]⟩ : ByteArray), .string (⟨#[108, 100]⟩ : ByteArray), .string (⟨#[109, 117, 108]⟩ : ByteArray), .string (⟨#[106, 103, 116]⟩ : ByteArray), .string (⟨#[109, 117, 108, 120]⟩ : ByteArray), .string (⟨#[106, 103, 116, 120]⟩ : ByteArray), .string (⟨#[100, 105, 118]⟩ : ByteArray), .string (⟨#[106, 103, 101]⟩ : ByteArray), .string (⟨#[100, 105, 118, 120]⟩ : ByteArray), .string (⟨#[106, 103, 101, 120]⟩ : ByteArray), .string (⟨#[111, 114]⟩ : ByteArray), .string (⟨#[106, 115, 101, 116]⟩ : ByteArray), .string (⟨#[111, 114, 120]⟩ : ByteArray), .string (⟨#[106, 115, 101, 116, 120]⟩ : ByteArray), .string (⟨#[97, 110, 100]⟩ : ByteArray), .string (⟨#[97, 110, 100, 120]⟩ : ByteArray), .string (⟨#[108, 100, 109]⟩ : ByteArray), .string (⟨#[108, 100, 120, 109]⟩ : ByteArray), .string (⟨#[108, 115, 104]⟩ : ByteArray), .string (⟨#[108, 115, 104, 120]⟩ : ByteArray), .string (⟨#[114, 115, 104]⟩ : ByteArray), .string (⟨#[114, 115, 104, 120]⟩ : ByteArray), .string (⟨#[108, 100, 108, 101, 110]⟩ : ByteArray), .string (⟨#[108, 100, 120, 108, 101, 110]⟩ : ByteArray), .string (⟨#[110, 101, 103]⟩ : ByteArray), .string (⟨#[116, 120, 97]⟩ : ByteArray), .string (⟨#[120, 111, 114]⟩ : ByteArray), .string (⟨#[120, 111, 114, 120]⟩ : ByteArray)]) (ok := fun _ => True) (okp := fun _ => True) ?hr ?hp (fun _ hk => hk) trivial (Below.refl _ _) (Nat.le_refl _) (by simp) ?_; (case hd => rfl); (case hg => rfl); (case hr => first | (go_simp; done) | (go_simp; rfl)); (case hp => exact (Reps.one (show Kd.M Kd.string _ _ _ (⟨#[108, 100, 105]⟩ : ByteArray) [.string (⟨#[108, 100, 105]⟩ : ByteArray)] from rfl) (Reps.one (show Kd.M Kd.string _ _ _ (⟨#[108, 100, 120, 105]⟩ : ByteArray) [.string (⟨#[108, 100, 120, 105]⟩ : ByteArray)] from rfl) (Reps.one (show Kd.M Kd.string _ _ _ (⟨#[115, 116]⟩ : ByteArray) [.string (⟨#[115, 116]⟩ : ByteArray)] from rfl) (Reps.one (show Kd.M Kd.string _ _ _ (⟨#[115, 116, 120]⟩ : ByteArray) [.string (⟨#[115, 116, 120]⟩ : ByteArray)] from rfl) (Reps.one (show Kd.M Kd.string _ _ _ (⟨#[97, 100, 100]⟩ : ByteArray) [.string (⟨#[97, 100, 100]⟩ : ByteArray)] from rfl) (Reps.one (show Kd.M Kd.string _ _ _ (⟨#[106, 97]⟩ : ByteArray) [.string (⟨#[106, 97]⟩ : ByteArray)] from rfl) (Reps.one (show Kd.M Kd.string _ _ _ (⟨#[114, 101, 116]⟩ : ByteArray) [.string (⟨#[114, 101, 116]⟩ : ByteArray)] from rfl) (Reps.one (show Kd.M Kd.string _ _ _ (⟨#[116, 97, 120]⟩ : ByteArray) [.string (⟨#[116, 97, 120]⟩ : ByteArray)] from rfl) (Reps.one (show Kd.M Kd.string _ _ _ (⟨#[97, 100, 100, 120]⟩ : ByteArray) [.string (⟨#[97, 100, 100, 120]⟩ : ByteArray)] from rfl) (Reps.one (show Kd.M Kd.string _ _ _ (⟨#[115, 117, 98]⟩ : ByteArray) [.string (⟨#[115, 117, 98]⟩ : ByteArray)] from rfl) (Reps.one (show Kd.M Kd.string _ _ _ (⟨#[106, 101, 113]⟩ : ByteArray) [.string (⟨#[106, 101, 113]⟩ : ByteArray)] from rfl) (Reps.one (show Kd.M Kd.string _ _ _ (⟨#[114, 101, 116, 97]⟩ : ByteArray) [.string (⟨#[114, 101, 116, 97]⟩ : ByteArray)] from rfl) (Reps.one (show Kd.M Kd.string _ _ _ (⟨#[115, 117, 98, 120]⟩ : ByteArray) [.string (⟨#[115, 117, 98, 120]⟩ : ByteArray)] from rfl) (Reps.one (show Kd.M Kd.string _ _ _ (⟨#[106, 101, 113, 120]⟩ : ByteArray) [.string (⟨#[106, 101, 113, 120]⟩ : ByteArray)] from rfl) (Reps.one (show Kd.M Kd.string _ _ _ (⟨#[108, 100]⟩ : ByteArray) [.string (⟨#[108, 100]⟩ : ByteArray)] from rfl) (Reps.one (show Kd.M Kd.string _ _ _ (⟨#[109, 117, 108]⟩ : ByteArray) [.string (⟨#[109, 117, 108]⟩ : ByteArray)] from rfl) (Reps.one (show Kd.M Kd.string _ _ _ (⟨#[106, 103, 116]⟩ : ByteArray) [.string (⟨#[106, 103, 116]⟩ : ByteArray)] from rfl) (Reps.one (show Kd.M Kd.string _ _ _ (⟨#[109, 117, 108, 120]⟩ : ByteArray) [.string (⟨#[109, 117, 108, 120]⟩ : ByteArray)] from rfl) (Reps.one (show Kd.M Kd.string _ _ _ (⟨#[106, 103, 116, 120]⟩ : ByteArray) [.string (⟨#[106, 103, 116, 120]⟩ : ByteArray)] from rfl) (Reps.one (show Kd.M Kd.string _ _ _ (⟨#[100, 105, 118]⟩ : ByteArray) [.string (⟨#[100, 105, 118]⟩ : ByteArray)] from rfl) (Reps.one (show Kd.M Kd.string _ _ _ (⟨#[106, 103, 101]⟩ : ByteArray) [.string (⟨#[106, 103, 101]⟩ : ByteArray)] from rfl) (Reps.one (show Kd.M Kd.string _ _ _ (⟨#[100, 105, 118, 120]⟩ : ByteArray) [.string (⟨#[100, 105, 118, 120]⟩ : ByteArray)] from rfl) (Reps.one (show Kd.M Kd.string _ _ _ (⟨#[106, 103, 101, 120]⟩ : ByteArray) [.string (⟨#[106, 103, 101, 120]⟩ : ByteArray)] from rfl) (Reps.one (show Kd.M Kd.string _ _ _ (⟨#[111, 114]⟩ : ByteArray) [.string (⟨#[111, 114]⟩ : ByteArray)] from rfl) (Reps.one (show Kd.M Kd.string _ _ _ (⟨#[106, 115, 101, 116]⟩ : ByteArray) [.string (⟨#[106, 115, 101, 116]⟩ : ByteArray)] from rfl) (Reps.one (show Kd.M Kd.string _ _ _ (⟨#[111, 114, 120]⟩ : ByteArray) [.string (⟨#[111, 114, 120]⟩ : ByteArray)] from rfl) (Reps.one (show Kd.M Kd.string _ _ _ (⟨#[106, 115, 101, 116, 120]⟩ : ByteArray) [.string (⟨#[106, 115, 101, 116, 120]⟩ : ByteArray)] from rfl) (Reps.one (show Kd.M Kd.string _ _ _ (⟨#[97, 110, 100]⟩ : ByteArray) [.string (⟨#[97, 110, 100]⟩ : ByteArray)] from rfl) (Reps.one (show Kd.M Kd.string _ _ _ (⟨#[97, 110, 100, 120]⟩ : ByteArray) [.string (⟨#[97, 110, 100, 120]⟩ : ByteArray)] from rfl) (Reps.one (show Kd.M Kd.string _ _ _ (⟨#[108, 100, 109]⟩ : ByteArray) [.string (⟨#[108, 100, 109]⟩ : ByteArray)] from rfl) (Reps.one (show Kd.M Kd.string _ _ _ (⟨#[108, 100, 120, 109]⟩ : ByteArray) [.string (⟨#[108, 100, 120, 109]⟩ : ByteArray)] from rfl) (Reps.one (show Kd.M Kd.string _ _ _ (⟨#[108, 115, 104]⟩ : ByteArray) [.string (⟨#[108, 115, 104]⟩ : ByteArray)] from rfl) (Reps.one (show Kd.M Kd.string _ _ _ (⟨#[108, 115, 104, 120]⟩ : ByteArray) [.string (⟨#[108, 115, 104, 120]⟩ : ByteArray)] from rfl) (Reps.one (show Kd.M Kd.string _ _ _ (⟨#[114, 115, 104]⟩ : ByteArray) [.string (⟨#[114, 115, 104]⟩ : ByteArray)] from rfl) (Reps.one (show Kd.M Kd.string _ _ _ (⟨#[114, 115, 104, 120]⟩ : ByteArray) [.string (⟨#[114, 115, 104, 120]⟩ : ByteArray)] from rfl) (Reps.one (show Kd.M Kd.string _ _ _ (⟨#[108, 100, 108, 101, 110]⟩ : ByteArray) [.string (⟨#[108, 100, 108, 101, 110]⟩ : ByteArray)] from rfl) (Reps.one (show Kd.M Kd.string _ _ _ (⟨#[108, 100, 120, 108, 101, 110]⟩ : ByteArray) [.string (⟨#[108, 100, 120, 108, 101, 110]⟩ : ByteArray)] from rfl) (Reps.one (show Kd.M Kd.string _ _ _ (⟨#[110, 101, 103]⟩ : ByteArray) [.string (⟨#[110, 101, 103]⟩ : ByteArray)] from rfl) (Reps.one (show Kd.M Kd.string _ _ _ (⟨#[116, 120, 97]⟩ : ByteArray) [.string (⟨#[116, 120, 97]⟩ : ByteArray)] from rfl) (Reps.one (show Kd.M Kd.string _ _ _ (⟨#[120, 111, 114]⟩ : ByteArray) [.string (⟨#[120, 111, 114]⟩ : ByteArray)] from rfl) (Reps.one (show Kd.M Kd.string _ _ _ (⟨#[120, 111, 114, 120]⟩ : ByteArray) [.string (⟨#[120, 111, 114, 120]⟩ : ByteArray)] from rfl) (Reps.none _ _))))))))))))))))))))))))))))))))))))))))))); intro v107 w3 ho4 hb hg_ hnew_; clear hg_ hnew_; (first | rw [← Ny106.out] at ho4 | (simp only [Int.reduceToNat] at ho4; rw [← Ny106.out] at ho4)); have n0_ := Aside0.mk (Kd.R_lower ho4 (below_size (by repeat (first | (with_reducible first | exact HB.out | apply below_alloc | apply pw_below_drewN | apply below_drew1) | exact HB.out)))); have n1_ := Aside0.mk (below_step (by repeat (first | (with_reducible first | exact HB.out | apply below_alloc | apply pw_below_drewN | apply below_drew1) | exact HB.out)) hb); clear HB; have HO108 := n0_; have HB := n1_; clear n0_ n1_; clear hb ho4) | ((with_reducible refine gate_callee (f := 22) rfl ?_); refine goesL_ (some 7) rfl rfl Try.func22 (by kernel_rfl) rfl #[] rfl (by (try simp only [List.map_toArray, List.map_cons, List.map_nil]); first | done | rfl | (simp only [List.length_drop, List.length_take]; rfl)) ?_; (with_reducible refine (tamisref04_All.calls  t109 _ A2.out).mono ?_); rintro e w5 ⟨v110, rfl, ho0, hb⟩; refine ⟨_, rfl, ?_⟩; have n0_ := Aside0.mk (Kd.R_below (by (with_reducible repeat (first | apply Kd.R_alloc | apply Kd.R_drewN | apply Kd.R_drew)); exact HO108.out) hb); have n1_ := Aside0.mk (Kd.R_lower ho0 (below_size (by repeat (first | (with_reducible first | exact HB.out | apply below_alloc | apply pw_below_drewN | apply below_drew1) | exact HB.out)))); have n2_ := Aside0.mk (below_step (by repeat (first | (with_reducible first | exact HB.out | apply below_alloc | apply pw_below_drewN | apply below_drew1) | exact HB.out)) hb); clear HO108; clear HB; have HO108 := n0_; have HO111 := n1_; have HB := n2_; clear n0_ n1_ n2_; (try clear hb); (try clear hb2); (try clear hk); (try clear hi); (try clear ho0)))
  go_loopg [5] k (fun kq v5 w' => ∃ (x5_1 : Int), v5 = .int .i64 x5_1 ∧ Aside0 (tamisref04_Name.l0 kq a0 y106 t109 x5_1 = some r) ∧ Aside0 (kq ≤ k) ∧ Aside0 (Kd.R Kd.string 9 w' w.heap.size (fun _ => True) v107 y106) ∧ Aside0 (Kd.R (Kd.int .u16) 22 w' w.heap.size (fun _ => True) v110 t109) ∧ Aside0 (Below w.heap.size w w'))
  case atStart => exact ⟨(0), (by first | rfl | (simp; done) | (simp [*]; done)), H', ⟨Nat.le_refl _⟩, ⟨by (with_reducible repeat (first | apply Kd.R_alloc | apply Kd.R_drewN | apply Kd.R_drew)); exact HO108.out⟩, ⟨by (with_reducible repeat (first | apply Kd.R_alloc | apply Kd.R_drewN | apply Kd.R_drew)); exact HO111.out⟩, ⟨by repeat (first | (with_reducible first | exact HB.out | apply below_alloc | apply pw_below_drewN | apply below_drew1) | exact HB.out)⟩⟩
  case round =>
    clear H'
    try clear c1
    try clear c2
    try clear p2
    obtain ⟨x5_1, rfl, HA, HK1, HO_3, HO_4, HB⟩ := hrel
    cases gk with
    | zero => exact absurd HA.out (by simp [tamisref04_Name.l0])
    | succ k1 =>
      have H := HA.out
      clear HA
      simp only [tamisref04_Name.l0] at H
      by_cases c6 : x5_1 < (t109.length : Int)
      · rw [if_pos c6] at H
        have c6b0 : decide (x5_1 < (t109.length : Int)) = true := decide_eq_true c6
        clear c6
        by_cases c7 : 0 ≤ x5_1
        · rw [if_pos c7] at H
          have c7b0 : decide (0 ≤ x5_1) = true := decide_eq_true c7
          clear c7
          by_cases c8 : (rd t109 x5_1) = a0
          · rw [if_pos c8] at H
            have c8b0 : ((rd t109 x5_1) == a0) = true := beq_iff_eq.mpr c8
            have c8b1 : ((rd t109 x5_1) != a0) = false := bne_eq_false_iff_eq.mpr c8
            clear c8
            by_cases c9 : x5_1 < (y106.length : Int)
            · rw [if_pos c9] at H
              have c9b0 : decide (x5_1 < (y106.length : Int)) = true := decide_eq_true c9
              clear c9
              obtain rfl := Option.some.inj H
              obtain ⟨Ao10, co10, eo10⟩ := Kd.R_slice HO_4.out
              subst eo10
              have p112 : 0 ≤ (x5_1 : Int) := of_decide_eq_true (by first | (with_reducible assumption) | assumption)
              have q112 : x5_1 < (t109.length : Int) := of_decide_eq_true (by first | (with_reducible assumption) | assumption)
              obtain ⟨ad112, e112, hx112_0⟩ := Kd.at_int (Kd.R_reads' HO_4.out).2.2 x5_1 p112 q112
              cases e112
              replace p112 := eq_true p112
              replace q112 := eq_true q112
              obtain ⟨Ao11, co11, eo11⟩ := Kd.R_slice HO_3.out
              subst eo11
              have p113 : 0 ≤ (x5_1 : Int) := of_decide_eq_true (by first | (with_reducible assumption) | assumption)
              have q113 : x5_1 < (y106.length : Int) := of_decide_eq_true (by first | (with_reducible assumption) | assumption)
              obtain ⟨ad113, e113, hx113_0⟩ := Kd.at_string (Kd.R_reads' HO_3.out).2.2 x5_1 p113 q113
              cases e113
              replace p113 := eq_true p113
              replace q113 := eq_true q113
              go_wp2
              go_ret
              exact ⟨by first | rfl | (simp [errW_none, errW_some] <;> rfl) | (simp [*, errW_none, errW_some] <;> rfl), by repeat (first | (with_reducible first | exact HB.out | apply below_alloc | apply pw_below_drewN | apply below_drew1) | exact HB.out)⟩
            · rw [if_neg c9] at H
              exact absurd H (by simp)
          · rw [if_neg c8] at H
            have c8b0 : ((rd t109 x5_1) == a0) = false := beq_eq_false_iff_ne.mpr c8
            have c8b1 : ((rd t109 x5_1) != a0) = true := bne_iff_ne.mpr c8
            have H' := Aside0.mk H
            clear H
            obtain ⟨Ao12, co12, eo12⟩ := Kd.R_slice HO_4.out
            subst eo12
            have p112 : 0 ≤ (x5_1 : Int) := of_decide_eq_true (by first | (with_reducible assumption) | assumption)
            have q112 : x5_1 < (t109.length : Int) := of_decide_eq_true (by first | (with_reducible assumption) | assumption)
            obtain ⟨ad112, e112, hx112_0⟩ := Kd.at_int (Kd.R_reads' HO_4.out).2.2 x5_1 p112 q112
            cases e112
            replace p112 := eq_true p112
            replace q112 := eq_true q112
            go_wp2
            go_roundg k1
            case measure => have := HK1.out; omega
            case rel => exact ⟨(wrap64 (x5_1 + 1)), (by first | rfl | (simp; done) | (simp [*]; done)), H', ⟨by have := HK1.out; omega⟩, ⟨by (with_reducible repeat (first | apply Kd.R_alloc | apply Kd.R_drewN | apply Kd.R_drew)); exact HO_3.out⟩, ⟨by (with_reducible repeat (first | apply Kd.R_alloc | apply Kd.R_drewN | apply Kd.R_drew)); exact HO_4.out⟩, ⟨by repeat (first | (with_reducible first | exact HB.out | apply below_alloc | apply pw_below_drewN | apply below_drew1) | exact HB.out)⟩⟩
        · rw [if_neg c7] at H
          exact absurd H (by simp)
      · rw [if_neg c6] at H
        have c6b0 : decide (x5_1 < (t109.length : Int)) = false := decide_eq_false c6
        clear c6
        obtain rfl := Option.some.inj H
        obtain ⟨Ao13, co13, eo13⟩ := Kd.R_slice HO_4.out
        subst eo13
        go_wp2
        go_ret
        exact ⟨by first | rfl | (simp [errW_none, errW_some] <;> rfl) | (simp [*, errW_none, errW_some] <;> rfl), by repeat (first | (with_reducible first | exact HB.out | apply below_alloc | apply pw_below_drewN | apply below_drew1) | exact HB.out)⟩

end Go.Proofs.Ytkcecfoeimpfeaa.Pr
