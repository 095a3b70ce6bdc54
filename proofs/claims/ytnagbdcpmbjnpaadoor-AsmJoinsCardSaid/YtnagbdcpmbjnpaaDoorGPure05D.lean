/- Layer 5 in plain Lean: what Read and Print come to, of the program and of the document; a text's lines and back. -/
import Derived.Test.YtnagbdcpmbjnpaaDoorGPure05
import Derived.Test.YtnagbdcpmbjnpaaDoorFAsmRead
import Derived.Test.YtnagbdcpmbjnpaaDoorGPrint
import Derived.Test.YtnagbdcpmbjnpaaDoorFTamisref05Read
import Derived.Test.YtnagbdcpmbjnpaaDoorFTamisref05Print
import Derived.Test.YtnagbdcpmbjnpaaDoorFTamisref02Same
namespace Go.Proofs.YtnagbdcpmbjnpaaDoor.Pure
set_option linter.unusedSimpArgs false
set_option linter.unusedVariables false
open Go.RowKit Go.Proofs.YtnagbdcpmbjnpaaDoor.Pr Go.Proofs.YtnagbdcpmbjnpaaDoorW.PrintWords Go.Proofs.YtnagbdcpmbjnpaaDoorW.PrintLast Go.Proofs.YtnagbdcpmbjnpaaDoorW.PrintMore

/-! ### reading -/
/-- The lines, the last of which is not ended. -/
def goX : List (List UInt8) → Nat → List I → List I × Int × Int
  | [], at_, acc => (acc, 0, 0)
  | [l], at_, acc => if l = [] then (acc, 0, 0) else ([], (at_ : Int), 3)
  | l :: m :: r, at_, acc => match parseX l with
    | none => ([], (at_ : Int), 3)
    | some x => goX (m :: r) (at_ + l.length + 1) (acc ++ [x])
def readX (s : List UInt8) : List I × Int × Int := if s = [] then ([], 0, 4) else if 4096 < s.count 10 then ([], 0, 5) else goX (spl 10 s) 0 []
theorem go_end (at_ : Nat) (acc : List I) : goX (spl 10 []) at_ acc = (acc, 0, 0) := rfl
theorem go_rest {s : List UInt8} (h : (10 : UInt8) ∉ s) (hs : s ≠ []) (at_ : Nat) (acc : List I) : goX (spl 10 s) at_ acc = ([], (at_ : Int), 3) := by
  rw [spl_none h]
  simp only [goX]
  rw [if_neg hs]
theorem go_line {l : List UInt8} (r : List UInt8) (h : (10 : UInt8) ∉ l) (at_ : Nat) (acc : List I) :
    goX (spl 10 (l ++ 10 :: r)) at_ acc = (match parseX l with
      | none => ([], (at_ : Int), 3)
      | some x => goX (spl 10 r) (at_ + l.length + 1) (acc ++ [x])) := by
  obtain ⟨q, qs, e⟩ := spl_cons 10 r
  rw [spl_hit r h, e]
  rfl
theorem lt_mk (s : List UInt8) : ((mk s).size : Int) = (s.length : Int) := by rw [mk_size]
theorem bcut_hit {l : List UInt8} (r : List UInt8) (h : (10 : UInt8) ∉ l) : bcut (mk (l ++ 10 :: r)) (⟨#[10]⟩ : ByteArray) = (mk l, mk r, true) := by
  unfold bcut
  rw [mk_data]
  have e : (⟨#[10]⟩ : ByteArray).data.toList = [10] := rfl
  rw [e, cut_hit r h]
theorem bcut_miss {s : List UInt8} (h : (10 : UInt8) ∉ s) : bcut (mk s) (⟨#[10]⟩ : ByteArray) = (mk s, mk [], false) := by
  unfold bcut
  rw [mk_data]
  have e : (⟨#[10]⟩ : ByteArray).data.toList = [10] := rfl
  rw [e, cut_miss h]
theorem cut_f {s : List UInt8} (hs : s.length < 4294967281) : strings_Cut.f (mk s) (⟨#[10]⟩ : ByteArray) = some (bcut (mk s) (⟨#[10]⟩ : ByteArray)) := by
  unfold strings_Cut.f
  rw [if_pos (by rw [mk_size]; exact hs)]
theorem asmRead_l0 (s : List UInt8) (hs : s.length < 4294967281) : ∀ (d : Nat) (r pre : List UInt8) (acc : List I), r.length ≤ d → s = pre ++ r → acc.length ≤ pre.length →
    asm_Read.l0 (d + 1) (mk s) acc (pre.length : Int) = some (goX (spl 10 r) pre.length acc)
  | d, r, pre, acc, hd, e, ha => by
    have hl : s.length = pre.length + r.length := by rw [e]; simp
    have hx : (mk s).extract ((pre.length : Int)).toNat (mk s).size = mk r := by
      rw [mk_extract, Int.toNat_natCast, mk_size, List.take_length, e, List.drop_left]
    unfold asm_Read.l0
    by_cases h0 : r = []
    · subst h0
      rw [if_neg (by rw [lt_mk]; simp at hl; omega), go_end]
    · have hpos : 0 < r.length := List.length_pos_iff.2 h0
      rw [if_pos (by rw [lt_mk]; omega), if_pos (by omega), if_pos (by rw [lt_mk]; omega), hx, cut_f (by omega)]
      by_cases h10 : (10 : UInt8) ∈ r
      · obtain ⟨l, r2, rfl, hl10⟩ := mem_cut h10
        rw [bcut_hit r2 hl10, Option.bind_some, go_line r2 hl10]
        simp only
        have hll : l.length < 4294967281 := by simp at hl; omega
        rw [asmParse l hll, Option.bind_some, if_pos trivial]
        cases hp : parseX l with
        | none => rfl
        | some x =>
          have hd2 : l.length + (r2.length + 1) ≤ d := by simpa using hd
          have hl2 : s.length = pre.length + (l.length + (r2.length + 1)) := by simpa using hl
          obtain ⟨d', rfl⟩ : ∃ d', d = d' + 1 := ⟨d - 1, by omega⟩
          simp only [packP]
          rw [if_pos trivial, if_pos (by omega), mk_size]
          rw [w64 l.length (by omega)]
          have hw : wrap64 ((pre.length : Int) + ((l.length + 1 : Nat) : Int)) = ((pre.length + l.length + 1 : Nat) : Int) := by unfold wrap64; omega
          rw [hw]
          have ih := asmRead_l0 s hs d' r2 (pre ++ l ++ [10]) (acc ++ [x]) (by omega) (by rw [e]; simp) (by simp; omega)
          have hlen : (pre ++ l ++ [(10 : UInt8)]).length = pre.length + l.length + 1 := by simp; omega
          rw [hlen] at ih
          exact ih
      · rw [bcut_miss h10, Option.bind_some, go_rest h10 h0]
        simp only
        rw [asmParse r (by omega), Option.bind_some, if_neg (by decide)]
theorem count_f (s : List UInt8) : strings_Count.f (mk s) (⟨#[10]⟩ : ByteArray) = some ((s.count 10 : Nat) : Int) := by
  unfold strings_Count.f
  rw [if_pos (show (⟨#[10]⟩ : ByteArray).size = 1 from rfl), mk_data]
  rfl
theorem asmRead (s : List UInt8) (hs : s.length < 4294967281) : Ev (fun k => asm_Read.f k (mk s)) (readX s) := by
  refine Ev.of (asm_Read.mono _) (k := s.length + 1) ?_
  unfold asm_Read.f readX
  rw [mk_toList]
  by_cases h0 : s = []
  · rw [if_pos h0, if_pos h0]
  · rw [if_neg h0, if_neg h0, count_f, Option.bind_some]
    by_cases hc : 4096 < s.count 10
    · rw [if_pos (by omega), if_pos hc]
    · rw [if_neg (by omega), if_neg hc]
      exact asmRead_l0 s hs s.length s [] [] (Nat.le_refl _) rfl (Nat.le_refl _)
/-! the document's Read -/
theorem refRead_l1 (s : List UInt8) (hs : s.length < 4294967281) : ∀ (r p pre : List UInt8) (acc : List I), s = pre ++ p ++ r → (10 : UInt8) ∉ p → acc.length ≤ pre.length →
    Ev (fun k => tamisref05_Read.l1 k (mk s) acc (pre.length : Int) ((pre.length + p.length : Nat) : Int)) (goX (spl 10 (p ++ r)) pre.length acc)
  | [], p, pre, acc, e, hp, ha => by
    have hl : s.length = pre.length + p.length := by rw [e]; simp
    refine ⟨1, fun k hkk => ?_⟩
    obtain ⟨m, rfl⟩ : ∃ m, k = m + 1 := ⟨k - 1, by omega⟩
    simp only
    rw [tamisref05_Read.l1, if_neg (by rw [lt_mk]; omega), List.append_nil]
    by_cases h0 : p = []
    · subst h0
      rw [if_neg (by rw [lt_mk]; simp at hl; omega), go_end]
    · have : 0 < p.length := List.length_pos_iff.2 h0
      rw [if_pos (by rw [lt_mk]; omega), go_rest hp h0]
  | b :: r, p, pre, acc, e, hp, ha => by
    have hl : s.length = pre.length + p.length + r.length + 1 := by rw [e]; simp; omega
    have hx : (mk s).extract ((pre.length : Int)).toNat (((pre.length + p.length : Nat) : Int)).toNat = mk p := by
      rw [mk_extract, Int.toNat_natCast, Int.toNat_natCast, e, show pre.length + p.length = (pre ++ p).length by simp, List.take_left, List.drop_left]
    have hb : bt (mk s) ((pre.length + p.length : Nat) : Int) = (b.toNat : Int) := by
      rw [bt_mk, e, show pre.length + p.length = (pre ++ p).length by simp]
      simp
    by_cases h : b = 10
    · subst h
      obtain ⟨K1, h1⟩ := refParse p (by omega)
      cases hpx : parseX p with
      | none =>
        rw [hpx] at h1
        refine ⟨K1 + 1, fun k hkk => ?_⟩
        obtain ⟨m, rfl⟩ : ∃ m, k = m + 1 := ⟨k - 1, by omega⟩
        have e1 := h1 m (by omega)
        simp only at e1 ⊢
        rw [tamisref05_Read.l1, if_pos (by rw [lt_mk]; omega), if_pos (by omega), hb, if_pos (by decide), if_pos (by omega), if_pos (by omega), if_pos (by rw [lt_mk]; omega), hx, e1, Option.bind_some]
        rw [go_line r hp, hpx]
        rfl
      | some x =>
        rw [hpx] at h1
        have ih := refRead_l1 s hs r [] (pre ++ p ++ [10]) (acc ++ [x]) (by rw [e]; simp) (by simp) (by simp; omega)
        have hlen : (pre ++ p ++ [(10 : UInt8)]).length = pre.length + p.length + 1 := by simp; omega
        rw [hlen, List.length_nil, Nat.add_zero] at ih
        obtain ⟨K, hE⟩ := ih
        refine ⟨K + K1 + 1, fun k hkk => ?_⟩
        obtain ⟨m, rfl⟩ : ∃ m, k = m + 1 := ⟨k - 1, by omega⟩
        have e0 := hE m (by omega)
        have e1 := h1 m (by omega)
        simp only at e0 e1 ⊢
        rw [tamisref05_Read.l1, if_pos (by rw [lt_mk]; omega), if_pos (by omega), hb, if_pos (by decide), if_pos (by omega), if_pos (by omega), if_pos (by rw [lt_mk]; omega), hx, e1, Option.bind_some]
        rw [if_pos (show (packB (some x)).2.2.2.2 = true from rfl), if_pos (by omega), w64 _ (by omega), go_line r hp, hpx]
        exact e0
    · have hb10 : ¬ ((b.toNat : Int) = 10) := by
        intro hh
        apply h
        apply UInt8.toNat.inj
        have : b.toNat = 10 := by omega
        rw [this]; rfl
      have ih := refRead_l1 s hs r (p ++ [b]) pre acc (by rw [e]; simp) (by
        intro hc
        rcases List.mem_append.1 hc with hc | hc
        · exact hp hc
        · exact h (List.mem_singleton.1 hc).symm) ha
      rw [show (p ++ [b]).length = p.length + 1 by simp] at ih
      obtain ⟨K, hE⟩ := ih
      refine ⟨K + 1, fun k hkk => ?_⟩
      obtain ⟨m, rfl⟩ : ∃ m, k = m + 1 := ⟨k - 1, by omega⟩
      have e0 := hE m (by omega)
      simp only at e0 ⊢
      rw [tamisref05_Read.l1, if_pos (by rw [lt_mk]; omega), if_pos (by omega), hb, if_neg hb10, w64 _ (by omega)]
      rw [show p ++ [b] ++ r = p ++ b :: r by simp] at e0
      exact e0
theorem refRead_l0 (s : List UInt8) (hs : s.length < 4294967281) : ∀ (r pre : List UInt8), s = pre ++ r →
    Ev (fun k => tamisref05_Read.l0 k (mk s) ((pre.count 10 : Nat) : Int) (pre.length : Int)) (if 4096 < s.count 10 then ([], 0, 5) else goX (spl 10 s) 0 [])
  | [], pre, e => by
    have hl : s = pre := by rw [e]; simp
    obtain ⟨K, hE⟩ := refRead_l1 s hs s [] [] [] rfl (by simp) (Nat.le_refl _)
    refine ⟨K + 1, fun k hkk => ?_⟩
    obtain ⟨m, rfl⟩ : ∃ m, k = m + 1 := ⟨k - 1, by omega⟩
    have e0 := hE m (by omega)
    simp only at e0 ⊢
    rw [tamisref05_Read.l0, if_neg (by rw [lt_mk, hl]; omega), ← hl]
    by_cases hc : 4096 < s.count 10
    · rw [if_pos (by omega), if_pos hc]
    · rw [if_neg (by omega), if_neg hc]
      exact e0
  | b :: r, pre, e => by
    have hl : s.length = pre.length + r.length + 1 := by rw [e]; simp; omega
    have hb : bt (mk s) (pre.length : Int) = (b.toNat : Int) := by rw [bt_mk, e]; simp
    have hcl : pre.count 10 ≤ pre.length := List.count_le_length
    obtain ⟨K, hE⟩ := refRead_l0 s hs r (pre ++ [b]) (by rw [e]; simp)
    rw [show (pre ++ [b]).length = pre.length + 1 by simp] at hE
    refine ⟨K + 1, fun k hkk => ?_⟩
    obtain ⟨m, rfl⟩ : ∃ m, k = m + 1 := ⟨k - 1, by omega⟩
    have e0 := hE m (by omega)
    simp only at e0 ⊢
    rw [tamisref05_Read.l0, if_pos (by rw [lt_mk]; omega), if_pos (by omega), hb]
    by_cases h : b = 10
    · subst h
      rw [show (pre ++ [(10 : UInt8)]).count 10 = pre.count 10 + 1 by simp] at e0
      rw [if_pos (by decide), w64 _ (by omega), w64 _ (by omega)]
      exact e0
    · have hb10 : ¬ ((b.toNat : Int) = 10) := by
        intro hh
        apply h
        apply UInt8.toNat.inj
        have : b.toNat = 10 := by omega
        rw [this]; rfl
      rw [show (pre ++ [b]).count 10 = pre.count 10 by simp [List.count_cons, h]] at e0
      rw [if_neg hb10, w64 _ (by omega)]
      exact e0
theorem refRead (s : List UInt8) (hs : s.length < 4294967281) : Ev (fun k => tamisref05_Read.f k (mk s)) (readX s) := by
  obtain ⟨K, hE⟩ := refRead_l0 s hs s [] rfl
  refine ⟨K, fun k hkk => ?_⟩
  have e0 := hE k (by omega)
  simp only at e0 ⊢
  unfold tamisref05_Read.f readX
  rw [mk_toList]
  by_cases h0 : s = []
  · rw [if_pos h0, if_pos h0]
  · rw [if_neg h0, if_neg h0]
    exact e0

/-! ### printing -/
def pgo : List I → List UInt8 → List UInt8 × Int
  | [], acc => (acc, 0)
  | x :: r, acc => if (lineX x).2 = 0 then pgo r (acc ++ ((lineX x).1 ++ [10])) else ([], (lineX x).2)
def printX (l : List I) : List UInt8 × Int := if l.length = 0 then ([], 4) else if 4096 < l.length then ([], 5) else pgo l []
theorem asmPrint_go : ∀ (l : List I) (acc : List UInt8), (∀ x ∈ l, okX x) → acc.length + 51 * l.length ≤ 1000000 → asm_Print.go l acc = some (mk (pgo l acc).1, (pgo l acc).2)
  | [], acc, _, _ => rfl
  | x :: r, acc, hx, ha => by
    have hok := hx x (List.mem_cons_self ..)
    have hl := line_len x hok
    simp only [List.length_cons] at ha
    unfold asm_Print.go lineOf
    rw [asmLine20 x hok, Option.bind_some]
    simp only
    unfold pgo
    by_cases h : (lineX x).2 = 0
    · rw [if_pos h, if_pos h, if_pos (by rw [mk_size]; omega)]
      exact asmPrint_go r _ (fun y hy => hx y (List.mem_cons_of_mem _ hy)) (by simp only [List.length_append, List.length_singleton]; omega)
    · rw [if_neg h, if_neg h]
theorem asmPrint (l : List I) (hx : ∀ x ∈ l, okX x) : asm_Print.f l = some (mk (printX l).1, (printX l).2) := by
  unfold asm_Print.f printX
  by_cases h0 : l.length = 0
  · rw [if_pos h0, if_pos h0]
  · rw [if_neg h0, if_neg h0]
    by_cases h1 : 4096 < l.length
    · rw [if_pos h1, if_pos h1]
    · rw [if_neg h1, if_neg h1]
      exact asmPrint_go l [] hx (by simp only [List.length_nil]; omega)
theorem rd_at (l : List I) (n : Nat) (h : n < l.length) : rd_T25 l (n : Int) = l[n] := rd_get l n h
theorem refPrint_l0 (l : List I) (hl : l.length ≤ 4096) (hx : ∀ x ∈ l, okX x) : ∀ (r pre : List I) (acc : List UInt8), l = pre ++ r → acc.length ≤ 51 * pre.length →
    Ev (fun k => tamisref05_Print.l0 k l (mk acc) (pre.length : Int)) (mk (pgo r acc).1, (pgo r acc).2)
  | [], pre, acc, e, ha => by
    refine ⟨1, fun k hkk => ?_⟩
    obtain ⟨m, rfl⟩ : ∃ m, k = m + 1 := ⟨k - 1, by omega⟩
    simp only
    rw [tamisref05_Print.l0, if_neg (by rw [e]; simp)]
    rfl
  | x :: r, pre, acc, e, ha => by
    have hlen : l.length = pre.length + r.length + 1 := by rw [e]; simp; omega
    have hok := hx x (by rw [e]; simp)
    have hll := line_len x hok
    have hr : rd_T25 l (pre.length : Int) = x := by
      rw [rd_at l _ (by omega)]
      subst e
      simp
    obtain ⟨K1, h1⟩ := refLine x hok
    have e10 : (⟨#[10]⟩ : ByteArray) = mk [10] := rfl
    by_cases h : (lineX x).2 = 0
    · have ih := refPrint_l0 l hl hx r (pre ++ [x]) (acc ++ ((lineX x).1 ++ [10])) (by rw [e]; simp) (by simp only [List.length_append, List.length_singleton]; omega)
      rw [show (pre ++ [x]).length = pre.length + 1 by simp] at ih
      obtain ⟨K, hE⟩ := ih
      refine ⟨K + K1 + 1, fun k hkk => ?_⟩
      obtain ⟨m, rfl⟩ : ∃ m, k = m + 1 := ⟨k - 1, by omega⟩
      have e0 := hE m (by omega)
      have e1 := h1 m (by omega)
      simp only at e0 e1 ⊢
      rw [tamisref05_Print.l0, if_pos (by omega), if_pos (by omega), hr, e1, Option.bind_some, if_pos h, if_pos (by rw [mk_size]; omega)]
      rw [e10, mk_append, if_pos (by rw [mk_size, mk_size]; simp only [List.length_append, List.length_singleton]; omega), mk_append, w64 _ (by omega)]
      unfold pgo
      rw [if_pos h]
      exact e0
    · refine ⟨K1 + 1, fun k hkk => ?_⟩
      obtain ⟨m, rfl⟩ : ∃ m, k = m + 1 := ⟨k - 1, by omega⟩
      have e1 := h1 m (by omega)
      simp only at e1 ⊢
      rw [tamisref05_Print.l0, if_pos (by omega), if_pos (by omega), hr, e1, Option.bind_some, if_neg h]
      unfold pgo
      rw [if_neg h]
theorem refPrint (l : List I) (hx : ∀ x ∈ l, okX x) (hb : l.length < 4611686018427387904) : Ev (fun k => tamisref05_Print.f k l) (mk (printX l).1, (printX l).2) := by
  unfold printX
  by_cases h0 : l.length = 0
  · rw [if_pos h0]
    refine ⟨0, fun k _ => ?_⟩
    simp only
    unfold tamisref05_Print.f
    rw [if_pos (by omega)]
  · rw [if_neg h0]
    by_cases h1 : 4096 < l.length
    · rw [if_pos h1]
      refine ⟨0, fun k _ => ?_⟩
      simp only
      unfold tamisref05_Print.f
      rw [if_neg (by omega), if_pos (by omega)]
    · rw [if_neg h1]
      obtain ⟨K, hE⟩ := refPrint_l0 l (by omega) hx l [] [] rfl (by simp)
      refine ⟨K, fun k hkk => ?_⟩
      have e0 := hE k hkk
      simp only at e0 ⊢
      unfold tamisref05_Print.f
      rw [if_neg (by omega), if_neg (by omega)]
      exact e0
/-! ### comparing -/
theorem same_l0 (l : List I) (hb : l.length < 4611686018427387904) : ∀ (r pre : List I), l = pre ++ r → Ev (fun k => tamisref02_Same.l0 k l l (pre.length : Int)) true
  | [], pre, e => by
    refine ⟨1, fun k hkk => ?_⟩
    obtain ⟨m, rfl⟩ : ∃ m, k = m + 1 := ⟨k - 1, by omega⟩
    simp only
    rw [tamisref02_Same.l0, if_neg (by rw [e]; simp)]
  | x :: r, pre, e => by
    have hlen : l.length = pre.length + r.length + 1 := by rw [e]; simp; omega
    obtain ⟨K, hE⟩ := same_l0 l hb r (pre ++ [x]) (by rw [e]; simp)
    rw [show (pre ++ [x]).length = pre.length + 1 by simp] at hE
    refine ⟨K + 1, fun k hkk => ?_⟩
    obtain ⟨m, rfl⟩ : ∃ m, k = m + 1 := ⟨k - 1, by omega⟩
    have e0 := hE m (by omega)
    simp only at e0 ⊢
    rw [tamisref02_Same.l0, if_pos (by omega), if_pos (by omega), if_pos (by omega), if_neg (by simp), w64 _ (by omega)]
    exact e0
theorem same (l : List I) (hb : l.length < 4611686018427387904) : Ev (fun k => tamisref02_Same.f k l l) true := by
  obtain ⟨K, hE⟩ := same_l0 l hb l [] rfl
  refine ⟨K, fun k hkk => ?_⟩
  have e0 := hE k hkk
  simp only at e0 ⊢
  unfold tamisref02_Same.f
  rw [if_pos rfl]
  exact e0

/-! ### a text's lines and back -/
def textX (l : List I) : List UInt8 := l.flatMap fun x => (lineX x).1 ++ [10]
def goodX (l : List I) : Prop := ∀ x ∈ l, okX x ∧ (lineX x).2 = 0
theorem goodX_nil : goodX [] := fun _ h => by cases h
theorem pgo_good : ∀ (l : List I) (acc : List UInt8), goodX l → pgo l acc = (acc ++ textX l, 0)
  | [], acc, _ => by simp [pgo, textX]
  | x :: r, acc, h => by
    unfold pgo
    rw [if_pos (h x (List.mem_cons_self ..)).2, pgo_good r _ (fun y hy => h y (List.mem_cons_of_mem _ hy))]
    simp [textX]
theorem pgo_zero : ∀ (l : List I) (acc : List UInt8), (pgo l acc).2 = 0 → ∀ x ∈ l, (lineX x).2 = 0
  | [], _, _ => fun _ h => by cases h
  | x :: r, acc, h => by
    unfold pgo at h
    split at h
    · rename_i h1
      intro y hy
      rcases List.mem_cons.1 hy with rfl | hy
      · exact h1
      · exact pgo_zero r _ h y hy
    · rename_i h1
      exact absurd h h1
theorem printX_good {l : List I} (hx : ∀ x ∈ l, okX x) (h : (printX l).2 = 0) : goodX l ∧ l ≠ [] ∧ l.length ≤ 4096 ∧ (printX l).1 = textX l := by
  have h' := h
  unfold printX at h'
  split at h'
  · simp at h'
  · rename_i h0
    split at h'
    · simp at h'
    · rename_i h1
      have hg : goodX l := fun x hxl => ⟨hx x hxl, pgo_zero l [] h' x hxl⟩
      refine ⟨hg, fun e => h0 (by rw [e]; rfl), by omega, ?_⟩
      unfold printX
      rw [if_neg h0, if_neg h1, pgo_good l [] hg]
      rfl
theorem printX_of {l : List I} (hg : goodX l) (h0 : l ≠ []) (h1 : l.length ≤ 4096) : printX l = (textX l, 0) := by
  unfold printX
  rw [if_neg (fun e => h0 (List.eq_nil_of_length_eq_zero e)), if_neg (by omega), pgo_good l [] hg]
  rfl
theorem printX_bad {l : List I} (h : (printX l).2 ≠ 0) : (printX l).1 = [] := by
  unfold printX at h ⊢
  split
  · rfl
  · split
    · rfl
    · rename_i h0 h1
      rw [if_neg h0, if_neg h1] at h
      have : ∀ (l : List I) (acc : List UInt8), (pgo l acc).2 ≠ 0 → (pgo l acc).1 = [] := by
        intro l
        induction l with
        | nil => intro acc h; exact absurd rfl h
        | cons x r ih =>
          intro acc h
          unfold pgo at h ⊢
          split
          · rename_i hq
            rw [if_pos hq] at h
            exact ih _ h
          · rfl
      exact this l [] h
theorem textX_len : ∀ (l : List I), (∀ x ∈ l, okX x) → (textX l).length ≤ 51 * l.length
  | [], _ => by simp [textX]
  | x :: r, h => by
    have h1 := line_len x (h x (List.mem_cons_self ..))
    have h2 := textX_len r (fun y hy => h y (List.mem_cons_of_mem _ hy))
    unfold textX at *
    rw [List.flatMap_cons]
    simp only [List.length_append, List.length_cons, List.length_nil]
    omega
theorem textX_ne {l : List I} (h : l ≠ []) : textX l ≠ [] := by
  cases l with
  | nil => exact absurd rfl h
  | cons x r => unfold textX; simp
theorem textX_count : ∀ (l : List I), (textX l).count 10 = l.length
  | [] => rfl
  | x :: r => by
    have h1 := List.count_eq_zero.2 (line_no10 x)
    have h2 := textX_count r
    unfold textX at *
    rw [List.flatMap_cons]
    simp only [List.count_append, List.length_cons, h1, h2]
    simp; omega
theorem go_text : ∀ (l : List I) (tail : List UInt8) (at_ : Nat) (acc : List I), goodX l → goX (spl 10 (textX l ++ tail)) at_ acc = goX (spl 10 tail) (at_ + (textX l).length) (acc ++ l)
  | [], tail, at_, acc, _ => by simp [textX]
  | x :: r, tail, at_, acc, h => by
    obtain ⟨h1, h2⟩ := h x (List.mem_cons_self ..)
    have hp : parseX (lineX x).1 = some x := (parseX_iff _ x).2 ⟨h1, Prod.ext rfl h2⟩
    have e : textX (x :: r) ++ tail = (lineX x).1 ++ 10 :: (textX r ++ tail) := by unfold textX; simp
    rw [e, go_line _ (line_no10 x), hp]
    simp only
    rw [go_text r tail _ _ (fun y hy => h y (List.mem_cons_of_mem _ hy))]
    congr 1
    · unfold textX; simp; omega
    · simp
theorem readX_text {l : List I} (hg : goodX l) (h0 : l ≠ []) (h1 : l.length ≤ 4096) : readX (textX l) = (l, 0, 0) := by
  unfold readX
  rw [if_neg (textX_ne h0), if_neg (by rw [textX_count]; omega)]
  have := go_text l [] 0 [] hg
  rw [List.append_nil] at this
  rw [this, go_end, List.nil_append]
theorem go_back : ∀ (n : Nat) (s : List UInt8), s.length ≤ n → ∀ (at_ : Nat) (acc l : List I) (p : Int), goX (spl 10 s) at_ acc = (l, p, 0) → ∃ xs, l = acc ++ xs ∧ p = 0 ∧ s = textX xs ∧ goodX xs
  | n, s, hn, at_, acc, l, p, h => by
    by_cases h0 : s = []
    · subst h0
      rw [go_end] at h
      simp only [Prod.mk.injEq] at h
      exact ⟨[], by simp [h.1], h.2.1.symm, rfl, goodX_nil⟩
    · by_cases h10 : (10 : UInt8) ∈ s
      · obtain ⟨q, r, rfl, hq⟩ := mem_cut h10
        rw [go_line r hq] at h
        cases hp : parseX q with
        | none => rw [hp] at h; simp at h
        | some x =>
          rw [hp] at h
          simp only [List.length_append, List.length_cons] at hn
          obtain ⟨n', rfl⟩ : ∃ n', n = n' + 1 := ⟨n - 1, by omega⟩
          obtain ⟨xs, e1, e2, e3, e4⟩ := go_back n' r (by omega) _ _ l p h
          obtain ⟨hx, hl⟩ := (parseX_iff q x).1 hp
          refine ⟨x :: xs, by rw [e1]; simp, e2, ?_, ?_⟩
          · unfold textX at e3 ⊢
            rw [List.flatMap_cons, hl, e3]
            simp
          · intro y hy
            rcases List.mem_cons.1 hy with rfl | hy
            · exact ⟨hx, by rw [hl]⟩
            · exact e4 y hy
      · rw [go_rest h10 h0] at h
        simp at h
theorem readX_back {s : List UInt8} {l : List I} {p : Int} (h : readX s = (l, p, 0)) : p = 0 ∧ s = textX l ∧ goodX l ∧ l ≠ [] ∧ l.length ≤ 4096 := by
  unfold readX at h
  split at h
  · simp at h
  · rename_i h0
    split at h
    · simp at h
    · rename_i h1
      obtain ⟨xs, e1, e2, e3, e4⟩ := go_back s.length s (Nat.le_refl _) 0 [] l p h
      rw [List.nil_append] at e1
      subst e1
      refine ⟨e2, e3, e4, ?_, ?_⟩
      · intro e
        apply h0
        rw [e3, e]
        rfl
      · rw [e3, textX_count] at h1
        omega
/-- What does not end with a line's end is refused, within it. -/
theorem go_cut_off : ∀ (n : Nat) (s : List UInt8), s.length ≤ n → s ≠ [] → s.getLast? ≠ some 10 → ∀ (at_ : Nat) (acc : List I), ∃ p : Nat, goX (spl 10 s) at_ acc = ([], (p : Int), 3) ∧ p < at_ + s.length
  | n, s, hn, h0, hl, at_, acc => by
    have hpos : 0 < s.length := List.length_pos_iff.2 h0
    by_cases h10 : (10 : UInt8) ∈ s
    · obtain ⟨q, r, rfl, hq⟩ := mem_cut h10
      rw [go_line r hq]
      cases hp : parseX q with
      | none => exact ⟨at_, rfl, by omega⟩
      | some x =>
        simp only [List.length_append, List.length_cons] at hn ⊢
        obtain ⟨n', rfl⟩ : ∃ n', n = n' + 1 := ⟨n - 1, by omega⟩
        have hr : r ≠ [] := by
          intro e
          subst e
          simp at hl
        have hl2 : r.getLast? ≠ some 10 := by
          intro e
          apply hl
          rw [List.getLast?_append, List.getLast?_cons, e]
          rfl
        obtain ⟨p, e1, e2⟩ := go_cut_off n' r (by omega) hr hl2 (at_ + q.length + 1) (acc ++ [x])
        exact ⟨p, e1, by omega⟩
    · exact ⟨at_, go_rest h10 h0 at_ acc, by omega⟩
theorem go_len : ∀ (n : Nat) (s : List UInt8), s.length ≤ n → ∀ (at_ : Nat) (acc : List I), (goX (spl 10 s) at_ acc).1.length ≤ acc.length + s.length
  | n, s, hn, at_, acc => by
    by_cases h0 : s = []
    · subst h0; rw [go_end]; simp
    · by_cases h10 : (10 : UInt8) ∈ s
      · obtain ⟨q, r, rfl, hq⟩ := mem_cut h10
        rw [go_line r hq]
        cases hp : parseX q with
        | none => simp
        | some x =>
          simp only [List.length_append, List.length_cons] at hn ⊢
          obtain ⟨n', rfl⟩ : ∃ n', n = n' + 1 := ⟨n - 1, by omega⟩
          have := go_len n' r (by omega) (at_ + q.length + 1) (acc ++ [x])
          simp only [List.length_append, List.length_singleton] at this
          omega
      · rw [go_rest h10 h0]; simp
theorem go_short (s : List UInt8) : (readX s).1.length ≤ s.length := by
  unfold readX
  split
  · simp
  · split
    · simp
    · have := go_len s.length s (Nat.le_refl _) 0 []
      simpa using this
theorem go_none : ∀ (n : Nat) (s : List UInt8), s.length ≤ n → ∀ (at_ : Nat) (acc : List I), (goX (spl 10 s) at_ acc).2.2 ≠ 0 → (goX (spl 10 s) at_ acc).1 = []
  | n, s, hn, at_, acc, h => by
    by_cases h0 : s = []
    · subst h0; rw [go_end] at h; exact absurd rfl h
    · by_cases h10 : (10 : UInt8) ∈ s
      · obtain ⟨q, r, rfl, hq⟩ := mem_cut h10
        rw [go_line r hq] at h ⊢
        cases hp : parseX q with
        | none => rfl
        | some x =>
          rw [hp] at h
          simp only [List.length_append, List.length_cons] at hn
          obtain ⟨n', rfl⟩ : ∃ n', n = n' + 1 := ⟨n - 1, by omega⟩
          exact go_none n' r (by omega) _ _ h
      · rw [go_rest h10 h0]
theorem read_none (s : List UInt8) (h : (readX s).2.2 ≠ 0) : (readX s).1 = [] := by
  unfold readX at h ⊢
  split
  · rfl
  · rename_i h0
    split
    · rfl
    · rename_i h1
      rw [if_neg h0, if_neg h1] at h
      exact go_none s.length s (Nat.le_refl _) 0 [] h
end Go.Proofs.YtnagbdcpmbjnpaaDoor.Pure
