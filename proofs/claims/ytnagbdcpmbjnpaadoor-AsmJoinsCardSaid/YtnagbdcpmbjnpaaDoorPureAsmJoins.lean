/- Two programs' texts, one behind the other, are both programs', one behind the other; a text that is cut off within a line is refused where that line begins. No condition. -/
import Derived.Test.YtnagbdcpmbjnpaaDoorFTamislaw05AsmJoins
import Derived.Test.YtnagbdcpmbjnpaaDoorGPure05D
import Derived.Test.YtnagbdcpmbjnpaaDoorGRow
namespace Go.Proofs.YtnagbdcpmbjnpaaDoor.Pure
set_option linter.unusedSimpArgs false
set_option linter.unusedVariables false
open Go.RowKit Go.Proofs.YtnagbdcpmbjnpaaDoor.Pr Go.Proofs.YtnagbdcpmbjnpaaDoorW.PrintWords Go.Proofs.YtnagbdcpmbjnpaaDoorW.PrintLast

theorem joins_j2 (s : List UInt8) (hs : s.length ≤ 5000) (hc : s.count 10 ≤ 4096) (a2 : Int) : ∃ k, tamislaw05_AsmJoins.j2 k a2 (mk s) false = some true := by
  have hj : ∀ k, tamislaw05_AsmJoins.j3 (k + 1) a2 (mk s) true = some true := fun k => by rw [tamislaw05_AsmJoins.j3, if_pos rfl]
  by_cases c1 : a2 < 0
  · refine ⟨2, ?_⟩
    rw [tamislaw05_AsmJoins.j2, if_neg (by decide), if_pos c1]
    exact hj 0
  · by_cases c2 : a2 ≥ ((mk s).size : Int)
    · refine ⟨2, ?_⟩
      rw [tamislaw05_AsmJoins.j2, if_neg (by decide), if_neg c1, if_pos c2]
      exact hj 0
    · obtain ⟨n, rfl⟩ : ∃ n : Nat, a2 = n := ⟨a2.toNat, by omega⟩
      have hn : n < s.length := by rw [mk_size] at c2; omega
      by_cases c3 : (bt (mk s) (n : Int) == 10) = true
      · refine ⟨2, ?_⟩
        rw [tamislaw05_AsmJoins.j2, if_neg (by decide), if_neg c1, if_neg c2, if_pos (by omega), if_pos (by rw [mk_size]; omega), c3]
        exact hj 0
      · have hx : (mk s).extract 0 (((n + 1 : Nat) : Int)).toNat = mk (s.take (n + 1)) := by
          rw [mk_extract, Int.toNat_natCast, List.drop_zero]
        have htl : (s.take (n + 1)).length = n + 1 := by rw [List.length_take]; omega
        have hlast : (s.take (n + 1)).getLast? ≠ some 10 := by
          intro e
          apply c3
          rw [bt_mk]
          rw [List.getLast?_eq_getElem?, htl] at e
          simp only [Nat.add_sub_cancel] at e
          rw [List.getElem?_take] at e
          rw [if_pos (by omega)] at e
          rw [List.getD_eq_getElem?_getD, e]
          rfl
        have hne : s.take (n + 1) ≠ [] := fun e => by rw [e] at htl; simp at htl
        obtain ⟨p, hp, hlt⟩ := go_cut_off (n + 1) (s.take (n + 1)) (by omega) hne hlast 0 []
        have hr : readX (s.take (n + 1)) = ([], (p : Int), 3) := by
          unfold readX
          rw [if_neg hne, if_neg (by
            have h1 := (List.take_sublist (n + 1) s).count_le (10 : UInt8)
            omega), hp]
        obtain ⟨K1, h1⟩ := asmRead (s.take (n + 1)) (by omega)
        obtain ⟨K2, h2⟩ := refRead (s.take (n + 1)) (by omega)
        refine ⟨K1 + K2 + 2, ?_⟩
        have e1 := h1 (K1 + K2) (by omega)
        have e2 := h2 (K1 + K2) (by omega)
        simp only at e1 e2
        rw [hr] at e1 e2
        rw [tamislaw05_AsmJoins.j2, if_neg (by decide), if_neg c1, if_neg c2, if_pos (by omega), if_pos (by rw [mk_size]; omega), (by simpa using c3 : (bt (mk s) (n : Int) == 10) = false)]
        rw [tamislaw05_AsmJoins.j3, if_neg (by decide), w64 n (by omega), if_pos (by omega), if_pos (by rw [mk_size]; omega), hx, e1, Option.bind_some, e2, Option.bind_some]
        rw [htl] at hlt
        simp
        omega
theorem AsmJoins (l0 l1 : List (S25)) (a2 : Int) (w0 : ∀ x ∈ l0, okS25 x) (z0 : l0.length * 8 ≤ 140737488351232) (w1 : ∀ x ∈ l1, okS25 x) (z1 : l1.length * 8 ≤ 140737488351232) (w2 : (Lit.int .i64 a2).wf = true) : ∃ k, tamislaw05_AsmJoins.f k l0 l1 a2 = some true := by
  have hx0 : ∀ x ∈ l0, okX x := fun x h => okS_range x (w0 x h)
  have hx1 : ∀ x ∈ l1, okX x := fun x h => okS_range x (w1 x h)
  have hj : ∀ k, tamislaw05_AsmJoins.j0 (k + 1) l0 l1 a2 true = some true := fun k => by rw [tamislaw05_AsmJoins.j0, if_pos rfl]; rfl
  have hj1 : ∀ k s t, tamislaw05_AsmJoins.j1 (k + 1) l0 l1 a2 s t true = some true := fun k s t => by rw [tamislaw05_AsmJoins.j1, if_pos rfl]
  unfold tamislaw05_AsmJoins.f awake05.f
  by_cases c1 : ((l0.length : Int)) = 0
  · refine ⟨1, ?_⟩
    rw [Option.bind_some, if_pos rfl, if_pos c1]
    exact hj 0
  · by_cases c2 : ((l1.length : Int)) = 0
    · refine ⟨1, ?_⟩
      rw [Option.bind_some, if_pos rfl, if_neg c1, if_pos c2]
      exact hj 0
    · have hw : wrap64 ((l0.length : Int) + (l1.length : Int)) = (l0.length : Int) + (l1.length : Int) := by unfold wrap64; omega
      by_cases c3 : ((l0.length : Int) + (l1.length : Int)) > 80
      · refine ⟨1, ?_⟩
        rw [Option.bind_some, if_pos rfl, if_neg c1, if_neg c2, hw, decide_eq_true c3]
        exact hj 0
      · obtain ⟨K1, h1⟩ := refPrint l0 hx0 (by omega)
        obtain ⟨K2, h2⟩ := refPrint l1 hx1 (by omega)
        by_cases g0 : (printX l0).2 = 0
        · by_cases g1 : (printX l1).2 = 0
          · obtain ⟨hg0, hne0, hle0, ep0⟩ := printX_good hx0 g0
            obtain ⟨hg1, hne1, hle1, ep1⟩ := printX_good hx1 g1
            have t0 := textX_len l0 hx0
            have t1 := textX_len l1 hx1
            have hg : goodX (l0 ++ l1) := fun x hx => by
              rcases List.mem_append.1 hx with h | h
              · exact hg0 x h
              · exact hg1 x h
            have ht : textX l0 ++ textX l1 = textX (l0 ++ l1) := by unfold textX; rw [List.flatMap_append]
            have hrd := readX_text hg (by simp [hne0]) (by rw [List.length_append]; omega)
            obtain ⟨K3, h3⟩ := asmRead (textX (l0 ++ l1)) (by rw [← ht, List.length_append]; omega)
            obtain ⟨K4, h4⟩ := same (l0 ++ l1) (by rw [List.length_append]; omega)
            obtain ⟨K5, h5⟩ := joins_j2 (textX l0) (by omega) (by rw [textX_count]; omega) a2
            have h5' := fun k => at_rounds (g := fun k => tamislaw05_AsmJoins.j2 k a2 (mk (textX l0)) false) (fun k => (tamislaw05_AsmJoins.mono_l k).2.2.1 _ _ _) (k := K5) (k' := k) (r := true)
            refine ⟨K1 + K2 + K3 + K4 + K5 + 2, ?_⟩
            have e1 := h1 (K1 + K2 + K3 + K4 + K5 + 1) (by omega)
            have e2 := h2 (K1 + K2 + K3 + K4 + K5 + 1) (by omega)
            have e3 := h3 (K1 + K2 + K3 + K4 + K5) (by omega)
            have e4 := h4 (K1 + K2 + K3 + K4 + K5) (by omega)
            have e5 := h5' (K1 + K2 + K3 + K4 + K5) (by omega) h5
            simp only at e1 e2 e3 e4 e5
            rw [hrd] at e3
            rw [Option.bind_some, if_pos rfl, if_neg c1, if_neg c2, hw, decide_eq_false c3]
            rw [tamislaw05_AsmJoins.j0, if_neg (by decide), e1, Option.bind_some, e2, Option.bind_some, if_pos g0, g1]
            rw [tamislaw05_AsmJoins.j1, if_neg (by decide), ep0, ep1, if_pos (by rw [mk_size, mk_size]; omega), mk_append, ht, e3, Option.bind_some, if_pos rfl, if_pos rfl, Option.bind_some, if_pos (by simp only [List.length_nil]; omega), Option.bind_some, if_pos (by simp only [List.nil_append]; omega), List.nil_append, e4, Option.bind_some]
            exact e5
          · refine ⟨K1 + K2 + 2, ?_⟩
            have e1 := h1 (K1 + K2 + 1) (by omega)
            have e2 := h2 (K1 + K2 + 1) (by omega)
            simp only at e1 e2
            rw [Option.bind_some, if_pos rfl, if_neg c1, if_neg c2, hw, decide_eq_false c3]
            rw [tamislaw05_AsmJoins.j0, if_neg (by decide), e1, Option.bind_some, e2, Option.bind_some, if_pos g0, (by simpa using g1 : ((printX l1).2 != 0) = true)]
            exact hj1 _ _ _
        · refine ⟨K1 + K2 + 2, ?_⟩
          have e1 := h1 (K1 + K2 + 1) (by omega)
          have e2 := h2 (K1 + K2 + 1) (by omega)
          simp only at e1 e2
          rw [Option.bind_some, if_pos rfl, if_neg c1, if_neg c2, hw, decide_eq_false c3]
          rw [tamislaw05_AsmJoins.j0, if_neg (by decide), e1, Option.bind_some, e2, Option.bind_some, if_neg g0]
          exact hj1 _ _ _

end Go.Proofs.YtnagbdcpmbjnpaaDoor.Pure
