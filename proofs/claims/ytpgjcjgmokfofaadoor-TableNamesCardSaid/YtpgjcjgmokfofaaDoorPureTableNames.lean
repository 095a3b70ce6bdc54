/- A call's name is the document's, and is found again; any text is a name's just if it is found. No condition. -/
import Derived.Test.YtpgjcjgmokfofaaDoorFTamislaw19TableNames
import Derived.Test.YtpgjcjgmokfofaaDoorGPure19
namespace Go.Proofs.YtpgjcjgmokfofaaDoor.Pure
set_option linter.unusedSimpArgs false
set_option linter.unusedVariables false
open Go.RowKit Go.Proofs.YtpgjcjgmokfofaaDoor.Pr Go.Proofs.YtpgjcjgmokfofaaDoorW.PrintWords Go.Proofs.YtpgjcjgmokfofaaDoorW.PrintLast Go.Proofs.YtpgjcjgmokfofaaDoorW.PrintMore

theorem names_l0 (a0 a1 : Int) (a2 nm : ByteArray) (ok : Bool) (w0 : (Lit.int .u32 a0).wf = true) (T : List (Int × ByteArray)) (hT : T.length ≤ 1000) (hn : nm = ⟨#[]⟩ ∨ findT (tabOf a0) nm = (a1, true)) :
    ∀ (r pre : List (Int × ByteArray)) (acc : Bool), T = pre ++ r → (acc || r.any fun e => e.2.toList == a2.toList) = ok → Ev (fun k => tamislaw19_TableNames.l0 k a0 a1 a2 nm ok (T.map (·.2)) acc (T.length : Int) (pre.length : Int)) true
  | [], pre, acc, e, h => by
    refine Ev.step (f := fun _ => some true) (fun k => ?_) (Ev.now _)
    rw [tamislaw19_TableNames.l0]
    rw [if_neg (by rw [e]; simp), find_f w0, Option.bind_some, if_pos (by simpa using h)]
    rcases hn with hn | hn
    · rw [if_pos (tn.2 hn)]
    · by_cases hz : nm.toList = []
      · rw [if_pos hz]
      · rw [if_neg hz, hn, if_pos rfl]; simp
  | x :: r, pre, acc, e, h => by
    have hlt : pre.length < T.length := by rw [e]; simp
    cases acc with
    | true =>
      have ih := names_l0 a0 a1 a2 nm ok w0 T hT hn r (pre ++ [x]) true (by rw [e]; simp) (by simpa using h)
      rw [List.length_append] at ih
      refine Ev.step (fun k => ?_) ih
      rw [tamislaw19_TableNames.l0]
      rw [if_pos (by omega), if_pos rfl, w64 _ (by omega)]
      rfl
    | false =>
      have ih := names_l0 a0 a1 a2 nm ok w0 T hT hn r (pre ++ [x]) (x.2.toList == a2.toList) (by rw [e]; simp) (by simpa using h)
      rw [List.length_append] at ih
      refine Ev.step (fun k => ?_) ih
      rw [tamislaw19_TableNames.l0]
      rw [if_pos (by omega), if_neg (by decide), if_pos (by omega), if_pos (by rw [List.length_map]; omega), rdOf_at T pre r x e, w64 _ (by omega)]
      rfl
theorem TableNames (a0 a1 : Int) (a2 : ByteArray) (w0 : (Lit.int .u32 a0).wf = true) (w1 : (Lit.int .u32 a1).wf = true) (w2 : a2.size ≤ 140737488351232) : ∃ k, tamislaw19_TableNames.f k a0 a1 a2 = some true := by
  by_cases hb : (a2.size : Int) > 50
  · refine ⟨1, ?_⟩
    unfold tamislaw19_TableNames.f awake19.f
    rw [Option.bind_some, if_pos rfl, decide_eq_true hb]
    rfl
  have hn : tAt (tabOf a0) a1 = ⟨#[]⟩ ∨ findT (tabOf a0) (tAt (tabOf a0) a1) = (a1, true) := by
    by_cases hz : tAt (tabOf a0) a1 = ⟨#[]⟩
    · exact .inl hz
    · exact .inr (findT_mem (tAt_ne hz))
  have hany : (tabOf a0).any (fun e => e.2.toList == a2.toList) = (findT (tabOf a0) a2).2 := by
    rcases findT_cases (tabOf a0) a2 with ⟨h, hm⟩ | ⟨x, hx, h⟩
    · rw [h]
      rw [List.any_eq_false]
      intro e he q
      exact hm e he (te.1 (by simpa using q))
    · rw [h, List.any_eq_true]
      exact ⟨_, hx, by simp⟩
  obtain ⟨K1, h1⟩ := refName a0 a1
  obtain ⟨K2, h2⟩ := refName a0 (findT (tabOf a0) a2).1
  obtain ⟨K3, h3⟩ := names_l0 a0 a1 a2 (tAt (tabOf a0) a1) (findT (tabOf a0) a2).2 w0 (tabOf a0) (tabOf_len a0) hn (tabOf a0) [] false rfl (by rw [Bool.false_or]; exact hany)
  refine ⟨K1 + K2 + K3 + 2, ?_⟩
  have e1 := h1 (K1 + K2 + K3 + 1) (by omega)
  have e2 := h2 (K1 + K2 + K3 + 1) (by omega)
  have e3 := h3 (K1 + K2 + K3) (by omega)
  simp only at e1 e2 e3
  have hj : tamislaw19_TableNames.j1 (K1 + K2 + K3 + 1) a0 a1 a2 (tAt (tabOf a0) a1) (findT (tabOf a0) a2).2 false = some true := by
    rw [tamislaw19_TableNames.j1]
    rw [if_neg (by decide), calls_eq, Option.bind_some, List.length_map]
    exact e3
  unfold tamislaw19_TableNames.f awake19.f
  rw [Option.bind_some, if_pos rfl, decide_eq_false hb]
  rw [tamislaw19_TableNames.j0]
  rw [if_neg (by decide), name_f w0 w1, Option.bind_some, find_f w0, Option.bind_some, e1, Option.bind_some, if_pos rfl]
  rcases findT_cases (tabOf a0) a2 with ⟨h, hm⟩ | ⟨x, hx, h⟩
  · rw [h] at hj ⊢
    rw [if_neg (by decide), if_pos rfl]
    exact hj
  · rw [h] at hj e2 ⊢
    have hne : ¬ a2.toList = [] := fun q => lead_ne (tab_lead a0 _ hx) (tn.1 q)
    simp only at e2
    rw [if_pos rfl, if_neg hne, e2, Option.bind_some, tAt_mem hx]
    rw [show (a2.toList != a2.toList) = false by simp]
    exact hj
end Go.Proofs.YtpgjcjgmokfofaaDoor.Pure
