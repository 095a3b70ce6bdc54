/- Layer 2 in plain Lean: what reading, printing and comparing come to. -/
import Derived.Test.YtjgapcidhoecfaaFInstrRead
import Derived.Test.YtjgapcidhoecfaaFInstrSame
import Derived.Test.YtjgapcidhoecfaaGInstrPrint
import Derived.Test.YtjgapcidhoecfaaFTamisref02Read
import Derived.Test.YtjgapcidhoecfaaFTamisref02Print
import Derived.Test.YtjgapcidhoecfaaFTamisref02Same
namespace Go.Proofs.Ytjgapcidhoecfaa.Pr
set_option linter.unusedSimpArgs false
set_option linter.unusedVariables false
open Go.RowKit Go.Proofs.YtjgapcidhoecfaaW.PrintWords Go.Proofs.YtjgapcidhoecfaaW.PrintLast Go.Proofs.YtjgapcidhoecfaaW.PrintMore

/-! ### bytes -/
theorem bt_list (l : List UInt8) (n : Nat) : bt ⟨l.toArray⟩ (n : Int) = ((l.getD n 0).toNat : Int) := by
  by_cases h : n < l.length
  · have h' : ((n : Int)).toNat < (⟨l.toArray⟩ : ByteArray).size := by
      show (n : Int).toNat < l.toArray.size
      rw [List.size_toArray]; omega
    rw [← bt_at ⟨l.toArray⟩ (n : Int) h']
    rw [List.getD_eq_getElem?_getD, List.getElem?_eq_getElem h, Option.getD_some]
    show (((l.toArray)[(n : Int).toNat]'_).toNat : Int) = _
    simp
  · unfold bt
    rw [dif_neg (by show ¬ ((n : Int).toNat < l.toArray.size); rw [List.size_toArray]; omega)]
    rw [List.getD_eq_getElem?_getD, List.getElem?_eq_none (by omega)]
    rfl
theorem ba_list (s : ByteArray) : s = ⟨s.data.toList.toArray⟩ := by cases s; simp
theorem ba_size (l : List UInt8) : (⟨l.toArray⟩ : ByteArray).size = l.length := by show l.toArray.size = _; simp
theorem ba_extract (l : List UInt8) (a b : Nat) : (⟨l.toArray⟩ : ByteArray).extract a b = ⟨((l.take b).drop a).toArray⟩ := by
  cases h : (⟨l.toArray⟩ : ByteArray).extract a b with
  | mk d =>
    have : d = ((⟨l.toArray⟩ : ByteArray).extract a b).data := by rw [h]
    rw [this, ByteArray.data_extract]
    congr 1
    apply Array.ext'
    simp [List.extract_eq_take_drop, List.drop_take]
theorem ba_append (a b : List UInt8) : (⟨a.toArray⟩ : ByteArray) ++ ⟨b.toArray⟩ = ⟨(a ++ b).toArray⟩ := by
  cases h : (⟨a.toArray⟩ : ByteArray) ++ ⟨b.toArray⟩ with
  | mk d =>
    have : d = ((⟨a.toArray⟩ : ByteArray) ++ ⟨b.toArray⟩).data := by rw [h]
    rw [this, ByteArray.data_append]
    simp
theorem ba_toList (l : List UInt8) : (⟨l.toArray⟩ : ByteArray).toList = l := by
  rw [ByteArray.toList_eq]
theorem u8_lt (a : UInt8) : (a.toNat : Int) < 256 := by have := a.toNat_lt; omega
theorem u8_of (a : UInt8) : UInt8.ofNat ((a.toNat : Int)).toNat = a := by simp

/-! ### instructions -/
def okI (x : S39) : Prop := (0 ≤ x.f0 ∧ x.f0 < 65536) ∧ (0 ≤ x.f1 ∧ x.f1 < 256) ∧ (0 ≤ x.f2 ∧ x.f2 < 256) ∧ (0 ≤ x.f3 ∧ x.f3 < 4294967296)
def mkI (a b c d e f g h : UInt8) : S39 := ⟨a.toNat + 256 * b.toNat, c.toNat, d.toNat, e.toNat + 256 * f.toNat + 65536 * g.toNat + 16777216 * h.toNat⟩
/-- The instructions that bytes are, eight each. -/
def decL : List UInt8 → List (S39)
  | a :: b :: c :: d :: e :: f :: g :: h :: r => mkI a b c d e f g h :: decL r
  | _ => []
theorem eight (l : List UInt8) (n : Nat) (h : l.length = 8 * (n + 1)) : ∃ a b c d e f g h r, l = a :: b :: c :: d :: e :: f :: g :: h :: r ∧ r.length = 8 * n := by
  match l, h with
  | a :: b :: c :: d :: e :: f :: g :: i :: r, h => exact ⟨a, b, c, d, e, f, g, i, r, rfl, by simp at h; omega⟩
theorem decL_ok (l : List UInt8) (n : Nat) (h : l.length = 8 * n) : (decL l).length = n ∧ ∀ x ∈ decL l, okI x := by
  induction n generalizing l with
  | zero => obtain rfl : l = [] := List.eq_nil_of_length_eq_zero (by omega); exact ⟨rfl, by simp [decL]⟩
  | succ n ih =>
    obtain ⟨a, b, c, d, e, f, g, i, r, rfl, hr⟩ := eight l n h
    obtain ⟨h1, h2⟩ := ih r hr
    refine ⟨by simp [decL, h1], ?_⟩
    intro x hx
    simp only [decL, List.mem_cons] at hx
    rcases hx with rfl | hx
    · have := u8_lt a; have := u8_lt b; have := u8_lt c; have := u8_lt d; have := u8_lt e; have := u8_lt f; have := u8_lt g; have := u8_lt i
      simp only [okI, mkI]
      omega
    · exact h2 x hx
theorem oneB_mk (a b c d e f g h : UInt8) : oneB (mkI a b c d e f g h) = [a, b, c, d, e, f, g, h] := by
  have ha := u8_lt a; have hb := u8_lt b; have hc := u8_lt c; have hd := u8_lt d; have he := u8_lt e; have hf := u8_lt f; have hg := u8_lt g; have hh := u8_lt h
  simp only [oneB, mkI, oneNums, List.map_cons, List.map_nil]
  rw [show ((a.toNat : Int) + 256 * b.toNat) % 256 = a.toNat by omega, show ((a.toNat : Int) + 256 * b.toNat) / 256 % 256 = b.toNat by omega,
    show ((e.toNat : Int) + 256 * f.toNat + 65536 * g.toNat + 16777216 * h.toNat) % 256 = e.toNat by omega,
    show ((e.toNat : Int) + 256 * f.toNat + 65536 * g.toNat + 16777216 * h.toNat) / 256 % 256 = f.toNat by omega,
    show ((e.toNat : Int) + 256 * f.toNat + 65536 * g.toNat + 16777216 * h.toNat) / 65536 % 256 = g.toNat by omega,
    show ((e.toNat : Int) + 256 * f.toNat + 65536 * g.toNat + 16777216 * h.toNat) / 16777216 % 256 = h.toNat by omega]
  simp only [u8_of]
theorem enc_dec (l : List UInt8) (n : Nat) (h : l.length = 8 * n) : (decL l).flatMap oneB = l := by
  induction n generalizing l with
  | zero => obtain rfl : l = [] := List.eq_nil_of_length_eq_zero (by omega); rfl
  | succ n ih =>
    obtain ⟨a, b, c, d, e, f, g, i, r, rfl, hr⟩ := eight l n h
    simp only [decL, List.flatMap_cons, oneB_mk, ih r hr]
    rfl
theorem byteNat (n : Int) (h0 : 0 ≤ n) (h1 : n < 256) : ((UInt8.ofNat n.toNat).toNat : Int) = n := by
  rw [UInt8.toNat_ofNat']; omega
theorem dec_one (x : S39) (hx : okI x) (r : List UInt8) : decL (oneB x ++ r) = x :: decL r := by
  obtain ⟨h0, h1, h2, h3⟩ := hx
  have e : oneB x ++ r = UInt8.ofNat (x.f0 % 256).toNat :: UInt8.ofNat (x.f0 / 256 % 256).toNat :: UInt8.ofNat x.f1.toNat :: UInt8.ofNat x.f2.toNat :: UInt8.ofNat (x.f3 % 256).toNat :: UInt8.ofNat (x.f3 / 256 % 256).toNat :: UInt8.ofNat (x.f3 / 65536 % 256).toNat :: UInt8.ofNat (x.f3 / 16777216 % 256).toNat :: r := rfl
  rw [e]
  simp only [decL, mkI]
  rw [byteNat _ (by omega) (by omega), byteNat _ (by omega) (by omega), byteNat _ (by omega) (by omega), byteNat _ (by omega) (by omega), byteNat _ (by omega) (by omega), byteNat _ (by omega) (by omega), byteNat _ (by omega) (by omega), byteNat _ (by omega) (by omega)]
  congr 1
  cases x
  simp only [S39.mk.injEq]
  simp only at h0 h1 h2 h3
  refine ⟨?_, trivial, trivial, ?_⟩ <;> omega
theorem dec_enc (l : List (S39)) (h : ∀ x ∈ l, okI x) (r : List UInt8) : decL (l.flatMap oneB ++ r) = l ++ decL r := by
  induction l with
  | nil => rfl
  | cons x t ih =>
    rw [List.flatMap_cons, List.append_assoc, dec_one x (h x (by simp)), ih (fun y hy => h y (by simp [hy]))]
    rfl

/-! ### reading -/
theorem instr_read_eq (a b c d e f g h : UInt8) (r : List UInt8) : instr_read.f ⟨(a :: b :: c :: d :: e :: f :: g :: h :: r).toArray⟩ = some ((mkI a b c d e f g h).f0, (mkI a b c d e f g h).f1, (mkI a b c d e f g h).f2, (mkI a b c d e f g h).f3) := by
  unfold instr_read.f
  rw [if_pos (by rw [ba_size]; simp only [List.length_cons]; omega)]
  have t := bt_list (a :: b :: c :: d :: e :: f :: g :: h :: r)
  rw [show bt _ 0 = _ from t 0, show bt _ 1 = _ from t 1, show bt _ 2 = _ from t 2, show bt _ 3 = _ from t 3, show bt _ 4 = _ from t 4, show bt _ 5 = _ from t 5, show bt _ 6 = _ from t 6, show bt _ 7 = _ from t 7]
  rfl
theorem instr_Read_l0 (n : Nat) : ∀ (l : List UInt8) (acc : List (S39)) (k : Nat), l.length = 8 * n → n < k → acc.length + n < 17592186044416 → instr_Read.l0 k ⟨l.toArray⟩ acc = some (acc ++ decL l, 0) := by
  induction n with
  | zero =>
    intro l acc k h hk ha
    obtain ⟨k, rfl⟩ : ∃ m, k = m + 1 := ⟨k - 1, by omega⟩
    obtain rfl : l = [] := List.eq_nil_of_length_eq_zero (by omega)
    simp only [instr_Read.l0]
    rw [if_pos (ba_toList _)]
    simp [decL]
  | succ n ih =>
    intro l acc k h hk ha
    obtain ⟨k, rfl⟩ : ∃ m, k = m + 1 := ⟨k - 1, by omega⟩
    obtain ⟨a, b, c, d, e, f, g, i, r, rfl, hr⟩ := eight l n h
    simp only [instr_Read.l0]
    rw [if_neg (by rw [ba_toList]; simp), instr_read_eq, Option.bind_some, if_pos (by omega), if_pos (by rw [ba_size]; simp only [List.length_cons]; omega)]
    rw [ba_extract, ba_size, List.take_of_length_le (Nat.le_refl _)]
    rw [show List.drop 8 (a :: b :: c :: d :: e :: f :: g :: i :: r) = r from rfl]
    rw [ih r _ k hr (by omega) (by simp; omega)]
    simp only [decL, List.append_assoc]
    rfl
/-- What Read answers. -/
def readL (l : List UInt8) : List (S39) × Int := if l.length % 8 ≠ 0 ∨ l.length = 0 then ([], 4) else if 32768 < l.length then ([], 5) else (decL l, 0)
theorem instr_Read_eq (l : List UInt8) (k : Nat) (hl : l.length ≤ 140737488351232) (hk : l.length < k) : instr_Read.f k ⟨l.toArray⟩ = some (readL l) := by
  unfold instr_Read.f readL
  rw [ba_size]
  by_cases h8 : l.length % 8 = 0
  · rw [if_pos (by omega)]
    have hw : wrap64 ((l.length : Int) / 8) = ((l.length / 8 : Nat) : Int) := by unfold wrap64; omega
    rw [hw]
    unfold instr_length.f
    by_cases h0 : l.length = 0
    · rw [if_pos (by omega)]
      simp only [Option.bind_some]
      rw [if_neg (by omega), if_pos (.inr h0)]
    · rw [if_neg (by omega), if_neg (by omega : ¬(l.length % 8 ≠ 0 ∨ l.length = 0))]
      by_cases h1 : 32768 < l.length
      · rw [if_pos (by omega), if_pos h1]
        simp only [Option.bind_some]
        rw [if_neg (by omega)]
      · rw [if_neg (by omega), if_neg h1]
        simp only [Option.bind_some]
        rw [if_pos trivial, instr_Read_l0 (l.length / 8) l [] k (by omega) (by omega) (by simp; omega)]
        rfl
  · rw [if_neg (by omega), if_pos (.inl h8)]

theorem drop8 (l : List UInt8) (i : Nat) (h : i + 8 ≤ l.length) : l.drop i = l.getD i 0 :: l.getD (i + 1) 0 :: l.getD (i + 2) 0 :: l.getD (i + 3) 0 :: l.getD (i + 4) 0 :: l.getD (i + 5) 0 :: l.getD (i + 6) 0 :: l.getD (i + 7) 0 :: l.drop (i + 8) := by
  have s : ∀ j, j < l.length → l.drop j = l.getD j 0 :: l.drop (j + 1) := by
    intro j hj
    rw [List.drop_eq_getElem_cons hj, List.getD_eq_getElem?_getD, List.getElem?_eq_getElem hj, Option.getD_some]
  rw [s i (by omega), s (i + 1) (by omega), s (i + 2) (by omega), s (i + 3) (by omega), s (i + 4) (by omega), s (i + 5) (by omega), s (i + 6) (by omega), s (i + 7) (by omega)]
theorem ref_Read_l0 (l : List UInt8) (hl : l.length ≤ 140737488351232) (n : Nat) : ∀ (i : Nat) (acc : List (S39)) (k : Nat), i + 8 * n = l.length → n < k → acc.length + n < 17592186044416 → tamisref02_Read.l0 k ⟨l.toArray⟩ acc (i : Int) = some (acc ++ decL (l.drop i), 0) := by
  induction n with
  | zero =>
    intro i acc k h hk ha
    obtain ⟨k, rfl⟩ : ∃ m, k = m + 1 := ⟨k - 1, by omega⟩
    simp only [tamisref02_Read.l0]
    rw [ba_size, if_neg (by omega), List.drop_of_length_le (by omega)]
    simp [decL]
  | succ n ih =>
    intro i acc k h hk ha
    obtain ⟨k, rfl⟩ : ∃ m, k = m + 1 := ⟨k - 1, by omega⟩
    simp only [tamisref02_Read.l0]
    have w : ∀ m : Nat, m ≤ 8 → wrap64 ((i : Int) + (m : Int)) = ((i + m : Nat) : Int) := fun m hm => by unfold wrap64; omega
    rw [show wrap64 ((i : Int) + 1) = _ from w 1 (by omega), show wrap64 ((i : Int) + 2) = _ from w 2 (by omega), show wrap64 ((i : Int) + 3) = _ from w 3 (by omega), show wrap64 ((i : Int) + 4) = _ from w 4 (by omega), show wrap64 ((i : Int) + 5) = _ from w 5 (by omega), show wrap64 ((i : Int) + 6) = _ from w 6 (by omega), show wrap64 ((i : Int) + 7) = _ from w 7 (by omega), show wrap64 ((i : Int) + 8) = _ from w 8 (by omega)]
    rw [ba_size, if_pos (by omega), if_pos (by omega), if_pos (by omega), if_pos (by omega), if_pos (by omega), if_pos (by omega), if_pos (by omega), if_pos (by omega), if_pos (by omega), if_pos (by omega), if_pos (by omega), if_pos (by omega), if_pos (by omega), if_pos (by omega), if_pos (by omega), if_pos (by omega), if_pos (by omega)]
    rw [ih (i + 8) _ k (by omega) (by omega) (by simp; omega), drop8 l i (by omega)]
    simp only [decL, List.append_assoc, List.singleton_append, bt_list]
    have a0 := u8_lt (l.getD i 0); have a1 := u8_lt (l.getD (i + 1) 0); have a4 := u8_lt (l.getD (i + 4) 0); have a5 := u8_lt (l.getD (i + 5) 0); have a6 := u8_lt (l.getD (i + 6) 0); have a7 := u8_lt (l.getD (i + 7) 0)
    congr 4
    simp only [mkI, S39.mk.injEq]
    refine ⟨?_, trivial, trivial, ?_⟩
    · simp only [IntKind.wrap_u16]; omega
    · omega
theorem ref_Read_eq (l : List UInt8) (k : Nat) (hl : l.length ≤ 140737488351232) (hk : l.length + 1 < k) : tamisref02_Read.f k ⟨l.toArray⟩ = some (readL l) := by
  obtain ⟨k, rfl⟩ : ∃ m, k = m + 1 := ⟨k - 1, by omega⟩
  unfold tamisref02_Read.f readL
  rw [ba_toList, ba_size]
  by_cases h0 : l = []
  · subst h0
    rw [if_pos rfl]
    simp [tamisref02_Read.j0]
  · rw [if_neg h0]
    have hp : l.length ≠ 0 := by simpa using h0
    simp only [tamisref02_Read.j0]
    by_cases h8 : l.length % 8 = 0
    · rw [if_neg (by simp; omega), if_neg (by omega : ¬(l.length % 8 ≠ 0 ∨ l.length = 0)), ba_size]
      by_cases h1 : 32768 < l.length
      · rw [if_pos (by omega), if_pos h1]
      · rw [if_neg (by omega), if_neg h1]
        rw [show (0 : Int) = ((0 : Nat) : Int) from rfl, ref_Read_l0 l hl (l.length / 8) 0 [] k (by omega) (by omega) (by simp; omega)]
        rfl
    · rw [if_pos (by simp; omega), if_pos (.inl h8)]

/-! ### comparing -/
theorem eq_I (x y : S39) : (x.f0 == y.f0 && (x.f1 == y.f1 && (x.f2 == y.f2 && (x.f3 == y.f3)))) = true ↔ x = y := by
  cases x; cases y; simp
theorem ne_I (x y : S39) : (!(x.f0 == y.f0) || (!(x.f1 == y.f1) || (!(x.f2 == y.f2) || (!(x.f3 == y.f3))))) = true ↔ x ≠ y := by
  have := eq_I x y
  rw [Ne, ← this]
  cases x.f0 == y.f0 <;> cases x.f1 == y.f1 <;> cases x.f2 == y.f2 <;> cases x.f3 == y.f3 <;> simp
theorem ref_Same_l0 (a b : List (S39)) (h : a.length = b.length) (hm : a.length < 9223372036854775807) (n : Nat) : ∀ (i k : Nat), i + n = a.length → n < k → ∃ r, tamisref02_Same.l0 k a b (i : Int) = some r ∧ (r = true ↔ a.drop i = b.drop i) := by
  induction n with
  | zero =>
    intro i k hi hk
    obtain ⟨k, rfl⟩ : ∃ m, k = m + 1 := ⟨k - 1, by omega⟩
    refine ⟨true, ?_, ?_⟩
    · simp only [tamisref02_Same.l0]; rw [if_neg (by omega)]
    · rw [List.drop_of_length_le (by omega), List.drop_of_length_le (by omega)]; simp
  | succ n ih =>
    intro i k hi hk
    obtain ⟨k, rfl⟩ : ∃ m, k = m + 1 := ⟨k - 1, by omega⟩
    have ha : i < a.length := by omega
    have hb : i < b.length := by omega
    simp only [tamisref02_Same.l0]
    rw [if_pos (by omega), if_pos (by omega), if_pos (by omega), rd_get a i ha, rd_get b i hb]
    have da := List.drop_eq_getElem_cons ha
    have db := List.drop_eq_getElem_cons hb
    by_cases e : a[i] = b[i]
    · rw [if_neg (by rw [ne_I]; simpa using e)]
      rw [show wrap64 ((i : Int) + 1) = ((i + 1 : Nat) : Int) by unfold wrap64; omega]
      obtain ⟨r, hr, hr2⟩ := ih (i + 1) k (by omega) (by omega)
      exact ⟨r, hr, by rw [hr2, da, db, e]; exact ⟨fun h => by rw [h], fun h => (List.cons.inj h).2⟩⟩
    · rw [if_pos ((ne_I _ _).2 e)]
      exact ⟨false, rfl, by rw [da, db]; exact ⟨(fun h => by cases h), (fun h => absurd (List.cons.inj h).1 e)⟩⟩
theorem ref_Same_eq (a b : List (S39)) (k : Nat) (hm : a.length < 9223372036854775807) (hk : a.length < k) : ∃ r, tamisref02_Same.f k a b = some r ∧ (r = true ↔ a = b) := by
  unfold tamisref02_Same.f
  by_cases h : a.length = b.length
  · rw [if_pos (by omega)]
    obtain ⟨r, hr, hr2⟩ := ref_Same_l0 a b h hm a.length 0 k (by omega) hk
    exact ⟨r, hr, by simpa using hr2⟩
  · rw [if_neg (by omega)]
    exact ⟨false, rfl, by simp; intro e; exact h (by rw [e])⟩
theorem ref_Same_self (a : List (S39)) (k : Nat) (hm : a.length < 9223372036854775807) (hk : a.length < k) : tamisref02_Same.f k a a = some true := by
  obtain ⟨r, hr, h⟩ := ref_Same_eq a a k hm hk
  rw [hr, h.2 rfl]
end Go.Proofs.Ytjgapcidhoecfaa.Pr
