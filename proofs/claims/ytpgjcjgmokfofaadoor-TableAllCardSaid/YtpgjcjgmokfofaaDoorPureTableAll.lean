/- The calls that have a name are told, rising, each once; the architectures too. No condition. -/
import Derived.Test.YtpgjcjgmokfofaaDoorFTamislaw19TableAll
import Derived.Test.YtpgjcjgmokfofaaDoorGPure19
namespace Go.Proofs.YtpgjcjgmokfofaaDoor.Pure
set_option linter.unusedSimpArgs false
set_option linter.unusedVariables false
open Go.RowKit Go.Proofs.YtpgjcjgmokfofaaDoor.Pr Go.Proofs.YtpgjcjgmokfofaaDoorW.PrintWords Go.Proofs.YtpgjcjgmokfofaaDoorW.PrintLast Go.Proofs.YtpgjcjgmokfofaaDoorW.PrintMore

theorem rd_mid {L pre r : List Int} {x : Int} (e : L = pre ++ x :: r) : rd L (pre.length : Int) = x := by rw [e]; simp [rd]
theorem rd_prev {L pre r : List Int} {x : Int} (hs : L.Pairwise (· < ·)) (e : L = pre ++ x :: r) (h : 0 < pre.length) : rd L ((pre.length : Int) - 1) < x := by
  subst e
  have h1 := (List.pairwise_append.1 hs).2.2
  have h2 : rd (pre ++ x :: r) ((pre.length : Int) - 1) ∈ pre := by
    unfold rd
    rw [show ((pre.length : Int) - 1).toNat = pre.length - 1 by omega, List.getD_eq_getElem?_getD, List.getElem?_append_left (by omega), List.getElem?_eq_getElem (by omega), Option.getD_some]
    exact List.getElem_mem _
  exact h1 _ h2 _ (List.mem_cons_self ..)
theorem w64m (n : Nat) (h0 : 0 < n) (h : n < 4611686018427387904) : wrap64 ((n : Int) - 1) = (n : Int) - 1 := by unfold wrap64; omega
theorem tab_rising (a : Int) : ((tabOf a).map (·.1)).Pairwise (· < ·) := by
  unfold tabOf
  split
  · decide +kernel
  split
  · decide +kernel
  split
  · decide +kernel
  · simp
def archL : List Int := [1073741827, 3221225534, 3221225655]
theorem arch_last (a0 a1 : Int) (w0 : (Lit.int .u32 a0).wf = true) (w1 : (Lit.int .u32 a1).wf = true) (L : List Int) (x8 : Bool) (h8 : x8 = (tAt (tabOf a0) a1).toList.isEmpty.not) (hL : L = (tabOf a0).map (·.1)) :
    ∀ (r pre : List Int) (acc : Bool), archL = pre ++ r → (acc || r.any (· == a0)) = archL.any (· == a0) → Ev (fun k => tamislaw19_TableAll.l1 k a0 a1 L L x8 archL acc archL (archL.length : Int) (pre.length : Int)) true
  | [], pre, acc, e, h => by
    refine Ev.step (f := fun _ => some true) (fun k => ?_) (Ev.now _)
    rw [tamislaw19_TableAll.l1]
    have hacc : acc = archL.any (· == a0) := by simpa using h
    have hx8 : (x8 == ((tAt (tabOf a0) a1).toList != ([] : List UInt8))) = true := by rw [h8]; cases (tAt (tabOf a0) a1).toList <;> rfl
    have hA : ∃ s, table_ArchName.f a0 = some s ∧ archL.any (· == a0) = (s.toList != ([] : List UInt8)) ∧ archL.any (· == a0) = decide ((L.length : Int) > 0) := by
      rw [hL]
      by_cases c1 : a0 = 3221225534
      · subst c1; exact ⟨_, rfl, by decide +kernel, by decide +kernel⟩
      by_cases c2 : a0 = 1073741827
      · subst c2; exact ⟨_, rfl, by decide +kernel, by decide +kernel⟩
      by_cases c3 : a0 = 3221225655
      · subst c3; exact ⟨_, rfl, by decide +kernel, by decide +kernel⟩
      have hf : archL.any (· == a0) = false := by
        unfold archL
        simp only [List.any_cons, List.any_nil, Bool.or_false, Bool.or_eq_false_iff, beq_eq_false_iff_ne]
        exact ⟨fun q => c2 q.symm, fun q => c1 q.symm, fun q => c3 q.symm⟩
      refine ⟨⟨#[]⟩, by unfold table_ArchName.f; rw [if_neg c1, if_neg c2, if_neg c3], ?_, ?_⟩
      · rw [hf]; decide +kernel
      · rw [hf]; unfold tabOf; rw [if_neg c1, if_neg c2, if_neg c3]; rfl
    obtain ⟨s, hs, hA1, hA2⟩ := hA
    have hl : ¬ ((pre.length : Int) < (archL.length : Int)) := by rw [e]; simp
    unfold awake19.f
    rw [if_neg hl, Option.bind_some, if_pos rfl, if_pos rfl, name_f w0 w1, Option.bind_some, if_pos hx8, hs, Option.bind_some, if_pos (by rw [hacc, hA1]; simp), hacc, hA2]
    simp
  | x :: r, pre, acc, e, h => by
    have hlt : pre.length < archL.length := by rw [e]; simp
    have hr : rd archL (pre.length : Int) = x := rd_mid e
    have h3 : archL.length = 3 := rfl
    have hx : ∃ s, table_ArchName.f x = some s ∧ ¬ s.toList = [] := by
      have hm : x ∈ archL := by rw [e]; simp
      unfold archL at hm
      simp only [List.mem_cons, List.not_mem_nil, or_false] at hm
      rcases hm with rfl | rfl | rfl
      · exact ⟨_, rfl, by decide +kernel⟩
      · exact ⟨_, rfl, by decide +kernel⟩
      · exact ⟨_, rfl, by decide +kernel⟩
    obtain ⟨s, hs, hne⟩ := hx
    have ih := arch_last a0 a1 w0 w1 L x8 h8 hL r (pre ++ [x]) (acc || (x == a0)) (by rw [e]; simp) (by rw [← h]; simp [Bool.or_assoc])
    rw [List.length_append] at ih
    refine Ev.step (fun k => ?_) ih
    rw [tamislaw19_TableAll.l1]
    rw [if_pos (by omega), if_pos (by omega), if_pos (by omega), hr, w64 _ (by omega), hs]
    by_cases hp : (pre.length : Int) > 0
    · have hp0 : 0 < pre.length := by omega
      have hlt2 := rd_prev (L := archL) (by decide +kernel) e hp0
      rw [if_pos hp, w64m _ hp0 (by omega), if_pos (by omega), if_pos (by omega), if_neg (by omega), Option.bind_some, if_neg hne]
      cases acc
      · rw [if_neg (by decide)]; simp
      · rw [if_pos rfl]; simp
    · rw [if_neg hp, Option.bind_some, if_neg hne]
      cases acc
      · rw [if_neg (by decide)]; simp
      · rw [if_pos rfl]; simp
theorem all_l0 (a0 a1 : Int) (w0 : (Lit.int .u32 a0).wf = true) (w1 : (Lit.int .u32 a1).wf = true) (L : List Int) (hL : L = (tabOf a0).map (·.1)) :
    ∀ (r pre : List Int) (acc : Bool), L = pre ++ r → (acc || r.any (· == a1)) = (tAt (tabOf a0) a1).toList.isEmpty.not → Ev (fun k => tamislaw19_TableAll.l0 k a0 a1 L L acc L (L.length : Int) (pre.length : Int)) true
  | [], pre, acc, e, h => by
    have hl := arch_last a0 a1 w0 w1 L acc (by simpa using h) hL archL [] false rfl (by simp)
    refine Ev.step (fun k => ?_) hl
    rw [tamislaw19_TableAll.l0]
    have hn : ¬ ((pre.length : Int) < (L.length : Int)) := by rw [e]; simp
    rw [if_neg hn]
    rfl
  | x :: r, pre, acc, e, h => by
    have hlt : pre.length < L.length := by rw [e]; simp
    have hr : rd L (pre.length : Int) = x := rd_mid e
    have hlen : L.length ≤ 1000 := by rw [hL, List.length_map]; exact tabOf_len a0
    have hm : x ∈ L := by rw [e]; simp
    have hne : ¬ (tAt (tabOf a0) x).toList = [] := by
      rw [hL] at hm
      obtain ⟨y, hy, rfl⟩ := List.mem_map.1 hm
      rw [tAt_mem (s := y.2) hy]
      exact fun q => lead_ne (tab_lead a0 _ hy) (tn.1 q)
    have ih := all_l0 a0 a1 w0 w1 L hL r (pre ++ [x]) (acc || (x == a1)) (by rw [e]; simp) (by rw [← h]; simp [Bool.or_assoc])
    rw [List.length_append] at ih
    obtain ⟨K1, h1⟩ := refName a0 x
    obtain ⟨K2, h2⟩ := ih
    refine ⟨K1 + K2 + 1, fun k hk => ?_⟩
    obtain ⟨m, rfl⟩ : ∃ m, k = m + 1 := ⟨k - 1, by omega⟩
    have e1 := h1 m (by omega)
    have e2 := h2 m (by omega)
    simp only at e1 e2 ⊢
    rw [tamislaw19_TableAll.l0]
    rw [if_pos (by omega), if_pos (by omega), if_pos (by omega), hr, w64 _ (by omega), e1]
    by_cases hp : (pre.length : Int) > 0
    · have hp0 : 0 < pre.length := by omega
      have hlt2 := rd_prev (L := L) (by rw [hL]; exact tab_rising a0) e hp0
      rw [if_pos hp, w64m _ hp0 (by omega), if_pos (by omega), if_pos (by omega), if_neg (by omega), Option.bind_some, if_neg hne]
      cases acc
      · rw [if_neg (by decide)]; simpa using e2
      · rw [if_pos rfl]; simpa using e2
    · rw [if_neg hp, Option.bind_some, if_neg hne]
      cases acc
      · rw [if_neg (by decide)]; simpa using e2
      · rw [if_pos rfl]; simpa using e2
theorem TableAll (a0 a1 : Int) (w0 : (Lit.int .u32 a0).wf = true) (w1 : (Lit.int .u32 a1).wf = true) : ∃ k, tamislaw19_TableAll.f k a0 a1 = some true := by
  have hany : ((tabOf a0).map (·.1)).any (· == a1) = (tAt (tabOf a0) a1).toList.isEmpty.not := by
    rcases tAt_cases (tabOf a0) a1 with ⟨h, hm⟩ | ⟨s, hs, h⟩
    · rw [h, show (⟨#[]⟩ : ByteArray).toList = [] from tn.2 rfl]
      rw [show (!([] : List UInt8).isEmpty) = false from rfl, List.any_eq_false]
      intro x hx
      obtain ⟨e, he, rfl⟩ := List.mem_map.1 hx
      simpa using hm e he
    · have hne : ¬ s.toList = [] := fun q => lead_ne (tab_lead a0 _ hs) (tn.1 q)
      have h2 : s.toList.isEmpty.not = true := by cases hc : s.toList with
        | nil => exact absurd hc hne
        | cons b r => rfl
      rw [h, h2, List.any_eq_true]
      exact ⟨a1, List.mem_map.2 ⟨_, hs, rfl⟩, by simp⟩
  obtain ⟨K, h⟩ := all_l0 a0 a1 w0 w1 _ rfl ((tabOf a0).map (·.1)) [] false rfl (by rw [Bool.false_or]; exact hany)
  refine ⟨K, ?_⟩
  have e := h K (Nat.le_refl _)
  unfold tamislaw19_TableAll.f
  rw [all_eq, if_pos w0, Option.bind_some, calls_eq, Option.bind_some]
  exact e
end Go.Proofs.YtpgjcjgmokfofaaDoor.Pure
