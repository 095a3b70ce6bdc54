/- Layer 2 in plain Lean, over instructions that are read: the references' One and Print, slices.Equal. -/
import Derived.Test.YtjgapcidhoecfaaGPure02
import Derived.Test.YtjgapcidhoecfaaGOpens
import Derived.OpenShut
namespace Go.Proofs.Ytjgapcidhoecfaa.Pr
set_option linter.unusedSimpArgs false
set_option linter.unusedVariables false
open Go.RowKit Go.Proofs.YtjgapcidhoecfaaW.PrintWords Go.Proofs.YtjgapcidhoecfaaW.PrintLast Go.Proofs.YtjgapcidhoecfaaW.PrintMore

theorem ok_of (x : S39) (h : okS39 x) : okI x := by
  obtain ⟨h0, h1, h2, h3⟩ := h
  have b0 := bounds_u16 h0
  have b1 := bounds_u8 h1
  have b2 := bounds_u8 h2
  have b3 := bounds_u32 h3
  exact ⟨⟨b0.1, by omega⟩, ⟨b1.1, by omega⟩, ⟨b2.1, by omega⟩, ⟨b3.1, by omega⟩⟩
theorem ref_one (x : S39) (hx : okI x) : tamisref02_One.f x.f0 x.f1 x.f2 x.f3 = some (strOfNums (oneNums x.f0 x.f1 x.f2 x.f3)) := by
  obtain ⟨h0, h1, h2, h3⟩ := hx
  unfold tamisref02_One.f oneNums
  have t1 : Int.tmod x.f0 256 = x.f0 % 256 := Int.tmod_eq_emod_of_nonneg h0.1
  have t2 : Int.tdiv x.f0 256 = x.f0 / 256 := Int.tdiv_eq_ediv_of_nonneg h0.1
  have t3 : Int.tmod x.f3 256 = x.f3 % 256 := Int.tmod_eq_emod_of_nonneg h3.1
  have t4 : Int.tdiv x.f3 256 = x.f3 / 256 := Int.tdiv_eq_ediv_of_nonneg h3.1
  have t5 : Int.tdiv x.f3 65536 = x.f3 / 65536 := Int.tdiv_eq_ediv_of_nonneg h3.1
  have t6 : Int.tdiv x.f3 16777216 = x.f3 / 16777216 := Int.tdiv_eq_ediv_of_nonneg h3.1
  rw [t1, t2, t3, t4, t5, t6, IntKind.wrap_u16]
  rw [show x.f0 % 256 % 256 = x.f0 % 256 by omega, show x.f0 / 256 % 65536 % 256 = x.f0 / 256 % 256 by omega, show x.f3 % 256 % 256 = x.f3 % 256 by omega, show x.f3 / 256 % 4294967296 % 256 = x.f3 / 256 % 256 by omega, show x.f3 / 65536 % 4294967296 % 256 = x.f3 / 65536 % 256 by omega, show x.f3 / 16777216 % 4294967296 % 256 = x.f3 / 16777216 % 256 by omega]
theorem ref_Print_l0 (l : List (S39)) (hl : ∀ x ∈ l, okI x) (hm : l.length ≤ 4096) (n : Nat) : ∀ (i k : Nat) (acc : List UInt8), i + n = l.length → n < k → acc.length = 8 * i → tamisref02_Print.l0 k l ⟨acc.toArray⟩ (i : Int) = some (⟨(acc ++ (l.drop i).flatMap oneB).toArray⟩, 0) := by
  induction n with
  | zero =>
    intro i k acc hi hk ha
    obtain ⟨k, rfl⟩ : ∃ m, k = m + 1 := ⟨k - 1, by omega⟩
    simp only [tamisref02_Print.l0]
    rw [if_neg (by omega), List.drop_of_length_le (by omega)]
    simp
  | succ n ih =>
    intro i k acc hi hk ha
    obtain ⟨k, rfl⟩ : ∃ m, k = m + 1 := ⟨k - 1, by omega⟩
    have hlt : i < l.length := by omega
    simp only [tamisref02_Print.l0]
    rw [if_pos (by omega), if_pos (by omega), rd_get l i hlt, ref_one _ (hl _ (List.getElem_mem hlt)), oneB_str, Option.bind_some]
    rw [if_pos (by rw [ba_size, ba_size, oneB_length]; omega), ba_append]
    rw [show wrap64 ((i : Int) + 1) = ((i + 1 : Nat) : Int) by unfold wrap64; omega]
    rw [ih (i + 1) k _ (by omega) (by omega) (by rw [List.length_append, oneB_length]; omega), List.drop_eq_getElem_cons hlt, List.flatMap_cons, List.append_assoc]
theorem ref_Print_eq (l : List (S39)) (hl : ∀ x ∈ l, okI x) (k : Nat) (hk : min l.length 4096 < k) : tamisref02_Print.f k l = instr_Print.f l := by
  unfold tamisref02_Print.f instr_Print.f
  by_cases h0 : l.length = 0
  · rw [if_pos (by omega), if_pos h0]
  · rw [if_neg (by omega), if_neg h0]
    by_cases h1 : 4096 < l.length
    · rw [if_pos (by omega), if_pos h1]
    · rw [if_neg (by omega), if_neg h1]
      have := ref_Print_l0 l hl (by omega) l.length 0 k [] (by omega) (by omega) rfl
      simpa using this
theorem eq_l0 (a b : List (S39)) (h : a.length = b.length) (hm : a.length < 9223372036854775807) (n : Nat) : ∀ (i k : Nat), i + n = a.length → n < k → ∃ r, api_Instr.l0 k a b (a.length : Int) (i : Int) = some r ∧ (r = true ↔ a.drop i = b.drop i) := by
  induction n with
  | zero =>
    intro i k hi hk
    obtain ⟨k, rfl⟩ : ∃ m, k = m + 1 := ⟨k - 1, by omega⟩
    refine ⟨true, ?_, ?_⟩
    · simp only [api_Instr.l0]; rw [if_neg (by omega)]
    · rw [List.drop_of_length_le (by omega), List.drop_of_length_le (by omega)]; simp
  | succ n ih =>
    intro i k hi hk
    obtain ⟨k, rfl⟩ : ∃ m, k = m + 1 := ⟨k - 1, by omega⟩
    have ha : i < a.length := by omega
    have hb : i < b.length := by omega
    have da := List.drop_eq_getElem_cons ha
    have db := List.drop_eq_getElem_cons hb
    simp only [api_Instr.l0]
    rw [if_pos (by omega), if_pos (by omega), if_pos (by omega), if_pos (by omega), rd_get a i ha, rd_get b i hb]
    by_cases e : a[i] = b[i]
    · rw [if_neg (by rw [ne_I]; simpa using e)]
      rw [show wrap64 ((i : Int) + 1) = ((i + 1 : Nat) : Int) by unfold wrap64; omega]
      obtain ⟨r, hr, hr2⟩ := ih (i + 1) k (by omega) (by omega)
      exact ⟨r, hr, by rw [hr2, da, db, e]; exact ⟨fun h => by rw [h], fun h => (List.cons.inj h).2⟩⟩
    · rw [if_pos ((ne_I _ _).2 e)]
      exact ⟨false, rfl, by rw [da, db]; exact ⟨(fun h => by cases h), (fun h => absurd (List.cons.inj h).1 e)⟩⟩
theorem instr_Same_eq (a b : List (S39)) (k : Nat) (hm : a.length < 9223372036854775807) (hk : a.length < k) : ∃ r, instr_Same.f k a b = some r ∧ (r = true ↔ a = b) := by
  unfold instr_Same.f api_Instr.f
  by_cases h : a.length = b.length
  · rw [if_pos (by omega)]
    obtain ⟨r, hr, hr2⟩ := eq_l0 a b h hm a.length 0 k (by omega) hk
    have hr' : api_Instr.l0 k a b (a.length : Int) 0 = some r := hr
    rw [hr']
    exact ⟨r, rfl, by simpa using hr2⟩
  · rw [if_neg (by omega)]
    exact ⟨false, rfl, by simp; intro e; exact h (by rw [e])⟩
theorem instr_Same_self (a : List (S39)) (k : Nat) (hm : a.length < 9223372036854775807) (hk : a.length < k) : instr_Same.f k a a = some true := by
  obtain ⟨r, hr, h⟩ := instr_Same_eq a a k hm hk
  rw [hr, h.2 rfl]
theorem read_flat (l : List (S39)) (hl : ∀ x ∈ l, okI x) (h0 : l.length ≠ 0) (h1 : l.length ≤ 4096) (k : Nat) (hk : 8 * l.length < k) : instr_Read.f k ⟨(l.flatMap oneB).toArray⟩ = some (l, 0) := by
  have hf := flat_length l
  rw [instr_Read_eq _ k (by omega) (by omega)]
  unfold readL
  rw [if_neg (by omega), if_neg (by omega)]
  have := dec_enc l hl []
  rw [List.append_nil] at this
  rw [this]
  simp [decL]
theorem print_ok (l : List (S39)) (h0 : l.length ≠ 0) (h1 : l.length ≤ 4096) : instr_Print.f l = some (⟨(l.flatMap oneB).toArray⟩, 0) := by
  unfold instr_Print.f
  rw [if_neg h0, if_neg (by omega)]
end Go.Proofs.Ytjgapcidhoecfaa.Pr
