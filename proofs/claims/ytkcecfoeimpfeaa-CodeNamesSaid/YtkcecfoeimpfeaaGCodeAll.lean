/- code.All: the codes of the table, each once, in rising order, whatever order the map gives them in. -/
import Derived.Test.YtkcecfoeimpfeaaGIter16
import Derived.Test.YtkcecfoeimpfeaaGCodeTab
namespace Go.Proofs.Ytkcecfoeimpfeaa.Pr
set_option linter.unusedSimpArgs false
set_option linter.unusedVariables false
open Go.RowKit Go.Maps Go.Sort Go.Shelf Go.Proofs.YtkcecfoeimpfeaaW.PrintWords Go.Proofs.YtkcecfoeimpfeaaW.PrintLast Go.Proofs.YtkcecfoeimpfeaaW.PrintMore

theorem kdR_of_row16 {w : World} {base n : Nat} {v : Value} {xs : List Int} (hn : n = xs.length) (h : w.ownsRow base 22 1 v n (xs.map encU)) : Kd.R (Kd.int .u16) 22 w base (fun _ => True) v xs := by
  subst hn
  exact ⟨fun _ _ => trivial, _, h, Kd.reps_scalar xs⟩

theorem U16.sorts_wide (m : Nat) : U16.SortsIn Fence.wide m :=
  ⟨fun blk off cap ss W hH hblk hsz => callsIn_wide.2 (U16.slices_Sort_int blk off cap ss W hH hblk hsz),
   fun p cap W => callsIn_wide.2 (U16.Sort_int_nil p cap W)⟩

theorem keys_cD : keysU cD = cSorted.map (·.1) := by
  unfold keysU cD
  simp [Go.intOf, List.map_map, Function.comp_def]
theorem sorted_cD {ss : List Int} (h : ss.Perm (keysU cD)) : ss.mergeSort (fun x y => decide (x ≤ y)) = cSorted.map (·.1) := by
  have h1 := mergeSort_of_perm_i h
  have h2 : (cSorted.map (·.1)).Pairwise (fun a b => leI a b = true) := by decide +kernel
  rw [keys_cD, List.mergeSort_of_pairwise h2] at h1
  exact h1

def code_All.f : Option (List Int) := some (cSorted.map (·.1))

set_option maxHeartbeats 2000000 in
theorem code_All.calls_ (w : World) : CallsIn Fence.wide 6 Try.prog 21 #[] w fun e w' => ∃ v0_ : Value, e = .returned v0_ ∧ Kd.R (Kd.int .u16) 22 w' w.heap.size (fun _ => True) v0_ (cSorted.map (·.1)) ∧ Below w.heap.size w w' := by
  have hseq : ∀ w1 : World, w1.ownsMap Try.prog 22 entR w.heap.size 41 cD → SeqGives Fence.wide (6 - 1 - 1 - 1 - 1) Try.prog 28 #[.pointer (some ⟨w1.heap.size, 0, none⟩)] encU (fun ss => ss.Perm (keysU cD)) (Maps.size cD) (w1.alloc (.cells #[.map (some w.heap.size)] 36)) := fun w1 hown =>
    U16.keys_gives Fence.wide _ trivial rfl (by omega) w1.heap.size w.heap.size 41 cD _ (by simp) (by simp) (by
      have hbl := hown.lt
      obtain ⟨es, clock, hb, Ft, hs, hD⟩ := hown
      exact ⟨es, clock, (Below.heap_alloc _ _ _ hbl).trans hb, Ft, hs, hD⟩)
  have hz : Maps.size cD = 41 := by decide +kernel
  have hf1 : Fence.wide.fn 23 := trivial
  have hf2 : Fence.wide.fn 25 := trivial
  have hf3 : Fence.wide.fn 24 := trivial
  refine callsIn_of_wp Try.func21 rfl trivial ?_ rfl
  simp only [Try.ntmps21, List.size_toArray, List.length_cons, List.length_nil, Nat.reduceAdd, Nat.reduceSub, Array.replicate_succ, Array.replicate_zero, List.push_toArray, List.append_toArray, List.nil_append, List.cons_append]
  gi_wp2_with (first
    | (gi_at_call 23; refine (callsIn_wide.2 (code_table.calls w)).mono ?_; rintro e w1 ⟨rfl, ho, hb1⟩)
    | (gi_at_call 25; refine (U16.keys_in Fence.wide (6 - 1) trivial rfl _ _).mono ?_; rintro e w' ⟨rfl, rfl⟩)
    | (gi_at_call 24; refine (U16.sorted_in Fence.wide (6 - 1) trivial trivial trivial trivial rfl (by omega) (U16.sorts_wide _) (enters_of Try.func27 (by kernel_rfl) rfl) 28 _ trivial (enters_of Try.func28 (by kernel_rfl) rfl) _ _ (by rw [hz]; decide) (by rw [hz]; decide) _ (hseq w1 ho)).mono ?_; rintro e w' ⟨v, ss, rfl, hS, hrow, hnil, hb⟩))
  go_ret
  have hs := sorted_cD hS
  rw [hs] at hrow
  have hl : ss.length = (cSorted.map (·.1)).length := by rw [← hs, List.length_mergeSort]
  have hle : w.heap.size ≤ (w1.alloc (.cells #[.map (some w.heap.size)] 36)).heap.size := by have := hb1.size; simp; omega
  exact ⟨v, rfl, Kd.R_lower (kdR_of_row16 hl hrow) hle, (hb1.alloc hb1.size _).trans (hb.mono hle)⟩

theorem code_All.calls (r : List Int) (w : World) (h : code_All.f = some r) : Calls Try.prog 21 #[] w fun e w' => ∃ v0_ : Value, e = .returned v0_ ∧ Kd.R (Kd.int .u16) 22 w' w.heap.size (fun _ => True) v0_ r ∧ Below w.heap.size w w' := by
  cases h
  exact callsIn_wide.1 (code_All.calls_ w)
end Go.Proofs.Ytkcecfoeimpfeaa.Pr
