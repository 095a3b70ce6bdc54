/- What stands ahead of a line that is none's is read; the place is that line's, whatever follows. No condition. -/
import Derived.Test.YtnagbdcpmbjnpaaDoorFTamislaw05AsmPlace
import Derived.Test.YtnagbdcpmbjnpaaDoorGPure05D
import Derived.Test.YtnagbdcpmbjnpaaDoorGRow
namespace Go.Proofs.YtnagbdcpmbjnpaaDoor.Pure
set_option linter.unusedSimpArgs false
set_option linter.unusedVariables false
open Go.RowKit Go.Proofs.YtnagbdcpmbjnpaaDoor.Pr Go.Proofs.YtnagbdcpmbjnpaaDoorW.PrintWords Go.Proofs.YtnagbdcpmbjnpaaDoorW.PrintLast

theorem place_l0 (l0 : List (S25)) (s m : List UInt8) (hx : ∀ x ∈ l0, okX x) (hl : l0.length ≤ 50) (hs : s.length ≤ 50) (hm : m.length ≤ 100) : ∀ (r pre : List UInt8), s = pre ++ r → (10 : UInt8) ∉ pre →
    ∃ k, tamislaw05_AsmPlace.l0 k l0 (mk s) (mk m) (s.length : Int) (pre.length : Int) = some true
  | [], pre, e, hp => by
    have es : s = pre := by rw [e]; simp
    have h10 : (10 : UInt8) ∉ s := by rw [es]; exact hp
    obtain ⟨K1, h1⟩ := refPrint l0 hx (by omega)
    obtain ⟨K2, h2⟩ := refParse s (by omega)
    have e10 : (⟨#[10]⟩ : ByteArray) = mk [10] := rfl
    cases hpx : parseX s with
    | some x =>
      rw [hpx] at h2
      refine ⟨K1 + K2 + 1, ?_⟩
      have e1 := h1 (K1 + K2) (by omega)
      have e2 := h2 (K1 + K2) (by omega)
      simp only at e1 e2
      rw [tamislaw05_AsmPlace.l0, if_neg (by rw [es]; omega), e1, Option.bind_some, e2, Option.bind_some, if_pos (show (packB (some x)).2.2.2.2 = true from rfl)]
    | none =>
      rw [hpx] at h2
      have key : ∀ (t : List UInt8), t = textX l0 → goodX l0 → ∃ K3, ∀ k, K3 ≤ k → asm_Read.f k (((mk t ++ mk s) ++ (⟨#[10]⟩ : ByteArray)) ++ mk m) = some ([], (t.length : Int), 3) := by
        intro t ht hg
        have htl := textX_len l0 hx
        rw [e10, mk_append, mk_append, mk_append]
        obtain ⟨K3, h3⟩ := asmRead (t ++ s ++ [10] ++ m) (by rw [ht]; simp only [List.length_append, List.length_singleton]; omega)
        refine ⟨K3, fun k hk => ?_⟩
        have e3 := h3 k hk
        simp only at e3
        rw [e3]
        congr 1
        unfold readX
        rw [if_neg (by simp), if_neg (by
          rw [List.count_append, List.count_append, List.count_append, ht, textX_count]
          have c1 := List.count_le_length (a := (10 : UInt8)) (l := s)
          have c2 := List.count_le_length (a := (10 : UInt8)) (l := m)
          have c3 : ([10] : List UInt8).count 10 = 1 := by decide
          omega)]
        have ee : t ++ s ++ [10] ++ m = textX l0 ++ (s ++ 10 :: m) := by rw [ht]; simp
        rw [ee, go_text l0 _ _ _ hg, go_line m h10, hpx, ht]
        simp
      by_cases hz : (printX l0).2 = 0
      · obtain ⟨hg, hne, hle, ep⟩ := printX_good hx hz
        obtain ⟨K3, h3⟩ := key _ ep hg
        refine ⟨K1 + K2 + K3 + 1, ?_⟩
        have e1 := h1 (K1 + K2 + K3) (by omega)
        have e2 := h2 (K1 + K2 + K3) (by omega)
        have e3 := h3 (K1 + K2 + K3) (by omega)
        simp only at e1 e2
        have htl := textX_len l0 hx
        rw [tamislaw05_AsmPlace.l0, if_neg (by rw [es]; omega), e1, Option.bind_some, e2, Option.bind_some, if_neg (by decide), if_pos hz]
        rw [if_pos (by rw [mk_size, mk_size, ep]; omega), if_pos (by rw [mk_append, mk_size, ep, List.length_append]; omega), if_pos (by rw [e10, mk_append, mk_append, mk_size, mk_size, ep]; simp only [List.length_append, List.length_singleton]; omega), e3, Option.bind_some]
        simp [mk_size]
      · by_cases h0 : l0.length = 0
        · have hnil : l0 = [] := List.eq_nil_of_length_eq_zero h0
          have ep : (printX l0).1 = textX l0 := by rw [printX_bad hz, hnil]; rfl
          obtain ⟨K3, h3⟩ := key _ ep (by rw [hnil]; exact goodX_nil)
          refine ⟨K1 + K2 + K3 + 1, ?_⟩
          have e1 := h1 (K1 + K2 + K3) (by omega)
          have e2 := h2 (K1 + K2 + K3) (by omega)
          have e3 := h3 (K1 + K2 + K3) (by omega)
          simp only at e1 e2
          have htl := textX_len l0 hx
          rw [tamislaw05_AsmPlace.l0, if_neg (by rw [es]; omega), e1, Option.bind_some, e2, Option.bind_some, if_neg (by decide), if_neg hz, if_neg (by omega)]
          rw [if_pos (by rw [mk_size, mk_size, ep]; omega), if_pos (by rw [mk_append, mk_size, ep, List.length_append]; omega), if_pos (by rw [e10, mk_append, mk_append, mk_size, mk_size, ep]; simp only [List.length_append, List.length_singleton]; omega), e3, Option.bind_some]
          simp [mk_size]
        · refine ⟨K1 + K2 + 1, ?_⟩
          have e1 := h1 (K1 + K2) (by omega)
          have e2 := h2 (K1 + K2) (by omega)
          simp only at e1 e2
          rw [tamislaw05_AsmPlace.l0, if_neg (by rw [es]; omega), e1, Option.bind_some, e2, Option.bind_some, if_neg (by decide), if_neg hz, if_pos (by omega)]
  | b :: r, pre, e, hp => by
    have hsl : s.length = pre.length + r.length + 1 := by rw [e]; simp; omega
    have hb : bt (mk s) (pre.length : Int) = (b.toNat : Int) := by rw [bt_mk, e]; simp
    by_cases h : b = 10
    · refine ⟨1, ?_⟩
      rw [tamislaw05_AsmPlace.l0, if_pos (by omega), if_pos (by omega), if_pos (by rw [mk_size]; omega), hb, if_pos (by rw [h]; decide)]
    · have hb10 : ¬ ((b.toNat : Int) = 10) := by
        intro hh
        apply h
        apply UInt8.toNat.inj
        have : b.toNat = 10 := by omega
        rw [this]; rfl
      obtain ⟨k, hk⟩ := place_l0 l0 s m hx hl hs hm r (pre ++ [b]) (by rw [e]; simp) (by
        intro hc
        rcases List.mem_append.1 hc with hc | hc
        · exact hp hc
        · exact h (List.mem_singleton.1 hc).symm)
      rw [show (pre ++ [b]).length = pre.length + 1 by simp] at hk
      refine ⟨k + 1, ?_⟩
      rw [tamislaw05_AsmPlace.l0, if_pos (by omega), if_pos (by omega), if_pos (by rw [mk_size]; omega), hb, if_neg hb10, w64 _ (by omega)]
      exact hk
theorem AsmPlace (l0 : List (S25)) (a1 a2 : ByteArray) (w0 : ∀ x ∈ l0, okS25 x) (z0 : l0.length * 8 ≤ 140737488351232) (w1 : a1.size ≤ 140737488351232) (w2 : a2.size ≤ 140737488351232) : ∃ k, tamislaw05_AsmPlace.f k l0 a1 a2 = some true := by
  have hx : ∀ x ∈ l0, okX x := fun x h => okS_range x (w0 x h)
  have hj : ∀ k, tamislaw05_AsmPlace.j0 (k + 1) l0 a1 a2 true = some true := fun k => by rw [tamislaw05_AsmPlace.j0, if_pos rfl]; rfl
  rw [mk_list a1, mk_list a2] at *
  generalize a1.data.toList = s at *
  generalize a2.data.toList = m at *
  unfold tamislaw05_AsmPlace.f awake05.f
  by_cases c1 : ((l0.length : Int)) > 50
  · refine ⟨1, ?_⟩
    rw [Option.bind_some, if_pos rfl, if_pos c1]
    exact hj 0
  · by_cases c2 : ((mk s).size : Int) > 50
    · refine ⟨1, ?_⟩
      rw [Option.bind_some, if_pos rfl, if_neg c1, if_pos c2]
      exact hj 0
    · by_cases c3 : ((mk m).size : Int) > 100
      · refine ⟨1, ?_⟩
        rw [Option.bind_some, if_pos rfl, if_neg c1, if_neg c2, decide_eq_true c3]
        exact hj 0
      · rw [mk_size] at c2 c3
        obtain ⟨k, hk⟩ := place_l0 l0 s m hx (by omega) (by omega) (by omega) s [] rfl (by simp)
        refine ⟨k + 1, ?_⟩
        rw [Option.bind_some, if_pos rfl, if_neg c1, if_neg (by rw [mk_size]; exact c2), mk_size, decide_eq_false c3, tamislaw05_AsmPlace.j0, if_neg (by decide), mk_size]
        exact hk

end Go.Proofs.YtnagbdcpmbjnpaaDoor.Pure
