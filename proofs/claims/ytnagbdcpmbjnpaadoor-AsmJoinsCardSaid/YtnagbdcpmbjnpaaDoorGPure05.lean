/- Plain facts on texts: a text cut at a byte and joined again; decimal digits written and read. No program. | Layer 5 in plain Lean: the table, what a line says, what asm.Line and asm.Parse come to. | Layer 5 in plain Lean: what the document's Line and Parse come to. | Layer 5 in plain Lean: what the document's Parse comes to; a text's lines. -/
import Derived.Lib.Split
import Derived.Lib.Join
import Derived.Lib.ParseIntBCases
import Derived.Lib.ItoaNum
import Derived.Test.YtnagbdcpmbjnpaaDoorGAsmParse
import Derived.Test.YtnagbdcpmbjnpaaDoorFAsmLine
import Derived.Test.YtnagbdcpmbjnpaaDoorFRef04
import Derived.Test.YtnagbdcpmbjnpaaDoorFTamisref05Parse
namespace Go.Proofs.YtnagbdcpmbjnpaaDoor.Pure
open Go

/-! ### a text cut at a byte -/
def spl (c : UInt8) : List UInt8 → List (List UInt8)
  | [] => [[]]
  | x :: r => if x = c then [] :: spl c r else ((spl c r).headD []).cons x :: (spl c r).tail
theorem spl_ne (c : UInt8) (s : List UInt8) : spl c s ≠ [] := by
  cases s with
  | nil => simp [spl]
  | cons x r => unfold spl; split <;> simp
theorem spl_cons (c : UInt8) (s : List UInt8) : ∃ p ps, spl c s = p :: ps := by
  cases h : spl c s with
  | nil => exact absurd h (spl_ne c s)
  | cons p ps => exact ⟨p, ps, rfl⟩
theorem spl_no (c : UInt8) : ∀ (s : List UInt8), ∀ p ∈ spl c s, c ∉ p
  | [], p, h => by
    simp only [spl, List.mem_singleton] at h
    subst h; simp
  | x :: r, p, h => by
    have ih := spl_no c r
    obtain ⟨q, qs, e⟩ := spl_cons c r
    unfold spl at h
    split at h
    · rcases List.mem_cons.1 h with rfl | h
      · simp
      · exact ih p h
    · rename_i hx
      rw [e] at h ih
      simp only [List.headD_cons, List.tail_cons] at h
      rcases List.mem_cons.1 h with rfl | h
      · intro hc
        rcases List.mem_cons.1 hc with rfl | hc
        · exact hx rfl
        · exact ih q (List.mem_cons_self ..) hc
      · exact ih p (List.mem_cons_of_mem _ h)
theorem spl_none {c : UInt8} : ∀ {p : List UInt8}, c ∉ p → spl c p = [p]
  | [], _ => rfl
  | x :: r, h => by
    have hx : ¬ x = c := fun e => h (by rw [e]; exact List.mem_cons_self ..)
    unfold spl
    rw [if_neg hx, spl_none (fun e => h (List.mem_cons_of_mem _ e))]
    rfl
theorem spl_hit {c : UInt8} : ∀ {p : List UInt8} (r : List UInt8), c ∉ p → spl c (p ++ c :: r) = p :: spl c r
  | [], r, _ => by
    rw [List.nil_append, spl, if_pos rfl]
  | x :: q, r, h => by
    have hx : ¬ x = c := fun e => h (by rw [e]; exact List.mem_cons_self ..)
    rw [List.cons_append, spl, if_neg hx, spl_hit r (fun e => h (List.mem_cons_of_mem _ e))]
    rfl
theorem join_one (c : UInt8) (p : List UInt8) : Lib.join [p] [c] = p := by
  simp [Lib.join, List.intercalate]
theorem join_more (c : UInt8) (p q : List UInt8) (ps : List (List UInt8)) : Lib.join (p :: q :: ps) [c] = p ++ c :: Lib.join (q :: ps) [c] := by
  simp [Lib.join, List.intercalate]
theorem spl_join {c : UInt8} : ∀ (ps : List (List UInt8)), ps ≠ [] → (∀ p ∈ ps, c ∉ p) → spl c (Lib.join ps [c]) = ps
  | [], h, _ => absurd rfl h
  | [p], _, h => by rw [join_one, spl_none (h p (List.mem_cons_self ..))]
  | p :: q :: ps, _, h => by
    rw [join_more, spl_hit _ (h p (List.mem_cons_self ..)), spl_join (q :: ps) (by simp) (fun x hx => h x (List.mem_cons_of_mem _ hx))]
theorem mem_cut {c : UInt8} : ∀ {s : List UInt8}, c ∈ s → ∃ p r, s = p ++ c :: r ∧ c ∉ p
  | [], h => by cases h
  | x :: s, h => by
    by_cases hx : x = c
    · exact ⟨[], s, by rw [hx]; rfl, by simp⟩
    · have h2 : c ∈ s := by
        rcases List.mem_cons.1 h with e | e
        · exact absurd e.symm hx
        · exact e
      obtain ⟨p, r, e, hp⟩ := mem_cut h2
      refine ⟨x :: p, r, by rw [e]; rfl, ?_⟩
      intro hc
      rcases List.mem_cons.1 hc with e | e
      · exact hx e.symm
      · exact hp e
theorem join_spl (c : UInt8) (s : List UInt8) : Lib.join (spl c s) [c] = s := by
  induction hn : s.length using Nat.strongRecOn generalizing s with
  | _ n ih =>
    by_cases h : c ∈ s
    · obtain ⟨p, r, rfl, hp⟩ := mem_cut h
      obtain ⟨q, qs, e⟩ := spl_cons c r
      rw [spl_hit r hp, e, join_more, ← e, ih r.length (by simp at hn; omega) r rfl]
    · rw [spl_none h, join_one]

/-! ### the library's cuts at one byte -/
theorem index_miss {c : UInt8} : ∀ {s : List UInt8}, c ∉ s → Lib.index s [c] = -1
  | [], _ => rfl
  | x :: s, h => by
    have hx : ¬ x = c := fun e => h (by rw [e]; exact List.mem_cons_self ..)
    have ih := index_miss (c := c) (s := s) (fun e => h (List.mem_cons_of_mem _ e))
    unfold Lib.index
    rw [ih]
    simp [List.isPrefixOf, Ne.symm hx]
theorem index_hit {c : UInt8} : ∀ {p : List UInt8} (r : List UInt8), c ∉ p → Lib.index (p ++ c :: r) [c] = (p.length : Int)
  | [], r, _ => by
    rw [List.nil_append]
    unfold Lib.index
    simp [List.isPrefixOf]
  | x :: q, r, h => by
    have hx : ¬ x = c := fun e => h (by rw [e]; exact List.mem_cons_self ..)
    have ih := index_hit (c := c) r (fun e => h (List.mem_cons_of_mem _ e) : c ∉ q)
    rw [List.cons_append]
    unfold Lib.index
    rw [ih]
    have : ¬ (((q.length : Int) == -1) = true) := by
      intro e; have := beq_iff_eq.1 e; omega
    simp only [List.isPrefixOf, Bool.and_true, List.length_cons]
    rw [if_neg (by simpa using Ne.symm hx), if_neg this]
    omega
theorem cut_miss {c : UInt8} {s : List UInt8} (h : c ∉ s) : Lib.cut s [c] = (s, [], false) := by
  unfold Lib.cut
  rw [index_miss h]
  rfl
theorem cut_hit {c : UInt8} {p : List UInt8} (r : List UInt8) (h : c ∉ p) : Lib.cut (p ++ c :: r) [c] = (p, r, true) := by
  unfold Lib.cut
  rw [index_hit r h, if_pos (by omega), Int.toNat_natCast]
  simp
theorem splitK_spl {c : UInt8} (s : List UInt8) : Lib.splitK [c] 0 (Lib.count s [c]) s = spl c s := by
  induction hn : s.length using Nat.strongRecOn generalizing s with
  | _ n ih =>
    by_cases h : c ∈ s
    · obtain ⟨p, r, rfl, hp⟩ := mem_cut h
      have hi := index_hit r hp
      have hd : (p ++ c :: r).drop (p.length + 1) = r := by
        rw [show p.length + 1 = (p ++ [c]).length by simp, show p ++ c :: r = (p ++ [c]) ++ r by simp, List.drop_left]
      have hc := Lib.count_hit (s := p ++ c :: r) (sub := [c]) (i := p.length) (by simp) hi
      rw [show [c].length = 1 from rfl, hd] at hc
      rw [hc, spl_hit r hp, Nat.add_comm 1, Lib.splitK, hi]
      rw [if_neg (by intro e; have := beq_iff_eq.1 e; omega), Int.toNat_natCast, show [c].length = 1 from rfl, hd, ih r.length (by simp at hn; omega) r rfl]
      simp
    · have hi := index_miss h
      rw [Lib.count_miss hi, spl_none h]
      rfl

/-! ### decimal digits -/
theorem dec_small {u : Nat} (h : u < 10) : Lib.decDigits u = [UInt8.ofNat (48 + u)] := by rw [Lib.decDigits, dif_pos h]
theorem dec_big {u : Nat} (h : ¬ u < 10) : Lib.decDigits u = Lib.decDigits (u / 10) ++ [UInt8.ofNat (48 + u % 10)] := by rw [Lib.decDigits, dif_neg h]
theorem dig_val {u : Nat} (h : u < 10) : (UInt8.ofNat (48 + u)).toNat = 48 + u := by rw [UInt8.toNat_ofNat']; omega
theorem dec_ne (u : Nat) : Lib.decDigits u ≠ [] := by
  by_cases h : u < 10
  · rw [dec_small h]; simp
  · rw [dec_big h]; simp
theorem dec_digit (u : Nat) : ∀ b ∈ Lib.decDigits u, 48 ≤ b.toNat ∧ b.toNat ≤ 57 := by
  induction u using Nat.strongRecOn with
  | _ u ih =>
    intro b hb
    by_cases h : u < 10
    · rw [dec_small h, List.mem_singleton] at hb
      rw [hb, dig_val h]; omega
    · rw [dec_big h] at hb
      rcases List.mem_append.1 hb with hb | hb
      · exact ih (u / 10) (by omega) b hb
      · rw [List.mem_singleton] at hb
        rw [hb, dig_val (by omega)]; omega
theorem dec_not (u : Nat) {c : UInt8} (hc : c.toNat < 48) : c ∉ Lib.decDigits u := fun h => by have := dec_digit u c h; omega
def valFrom (a : Nat) (l : List UInt8) : Nat := l.foldl (fun a b => 10 * a + (b.toNat - 48)) a
theorem valFrom_dec (u : Nat) : valFrom 0 (Lib.decDigits u) = u := by
  induction u using Nat.strongRecOn with
  | _ u ih =>
    by_cases h : u < 10
    · rw [dec_small h]
      simp only [valFrom, List.foldl_cons, List.foldl_nil]
      rw [dig_val h]; omega
    · have := ih (u / 10) (by omega)
      rw [dec_big h]
      unfold valFrom at *
      rw [List.foldl_append, this]
      simp only [List.foldl_cons, List.foldl_nil]
      rw [dig_val (by omega)]; omega
theorem dec_inj {u v : Nat} (h : Lib.decDigits u = Lib.decDigits v) : u = v := by rw [← valFrom_dec u, ← valFrom_dec v, h]
theorem valFrom_ge : ∀ (l : List UInt8) (a : Nat), a ≤ valFrom a l
  | [], a => Nat.le_refl _
  | b :: l, a => by
    have := valFrom_ge l (10 * a + (b.toNat - 48))
    unfold valFrom at *
    simp only [List.foldl_cons]
    omega
theorem parseM (M : Nat) (hM : M < 1844674407370955162) : ∀ (l : List UInt8) (a : Nat), (∀ b ∈ l, 48 ≤ b.toNat ∧ b.toNat ≤ 57) → valFrom a l ≤ M → Lib.parseUintM M a l = .ok (valFrom a l)
  | [], a, _, _ => rfl
  | b :: l, a, hd, hv => by
    have hb := hd b (List.mem_cons_self ..)
    have h1 : valFrom (10 * a + (b.toNat - 48)) l = valFrom a (b :: l) := rfl
    have h2 := valFrom_ge l (10 * a + (b.toNat - 48))
    have e : a * 10 + (b.toNat - 48) = 10 * a + (b.toNat - 48) := by omega
    rw [Lib.parseUintM, if_pos hb, if_neg (by omega), e, if_neg (by omega), parseM M hM l _ (fun x hx => hd x (List.mem_cons_of_mem _ hx)) (by rw [h1]; exact hv), h1]
theorem parse_dec (B u : Nat) (hB : 2 ^ B - 1 < 1844674407370955162) (h : u ≤ 2 ^ B - 1) : Lib.parseUintB B (Lib.decDigits u) = .ok u := by
  unfold Lib.parseUintB
  rw [if_neg (dec_ne u), parseM _ hB _ 0 (dec_digit u) (by rw [valFrom_dec]; exact h), valFrom_dec]
/-- What begins with a 0 and goes on is no number's text. -/
theorem dec_head_nonzero (u : Nat) : u ≠ 0 → ∃ b r, Lib.decDigits u = b :: r ∧ 49 ≤ b.toNat := by
  induction u using Nat.strongRecOn with
  | _ u ih =>
    intro h0
    by_cases h : u < 10
    · exact ⟨_, _, dec_small h, by rw [dig_val h]; omega⟩
    · obtain ⟨b, r, e, hb⟩ := ih (u / 10) (by omega) (by omega)
      exact ⟨b, r ++ [UInt8.ofNat (48 + u % 10)], by rw [dec_big h, e]; rfl, hb⟩
theorem dec_lead (u v : Nat) : Lib.decDigits u ≠ (48 : UInt8) :: Lib.decDigits v := by
  intro h
  by_cases h0 : u = 0
  · subst h0
    rw [dec_small (by decide)] at h
    have := (List.cons.inj h).2
    exact dec_ne v this.symm
  · obtain ⟨b, r, e, hb⟩ := dec_head_nonzero u h0
    rw [e] at h
    have := (List.cons.inj h).1
    subst this
    have : (48 : UInt8).toNat = 48 := by decide
    omega
end Go.Proofs.YtnagbdcpmbjnpaaDoor.Pure

namespace Go.Proofs.YtnagbdcpmbjnpaaDoor.Pure
set_option linter.unusedSimpArgs false
set_option linter.unusedVariables false
open Go.RowKit Go.Proofs.YtnagbdcpmbjnpaaDoor.Pr Go.Proofs.YtnagbdcpmbjnpaaDoorW.PrintWords Go.Proofs.YtnagbdcpmbjnpaaDoorW.PrintLast Go.Proofs.YtnagbdcpmbjnpaaDoorW.PrintMore

/-! ### bytes -/
abbrev mk (l : List UInt8) : ByteArray := ⟨l.toArray⟩
theorem mk_list (s : ByteArray) : s = mk s.data.toList := by cases s; simp [mk]
theorem mk_data (l : List UInt8) : (mk l).data.toList = l := by simp [mk]
theorem mk_size (l : List UInt8) : (mk l).size = l.length := by show l.toArray.size = _; simp
theorem mk_toList (l : List UInt8) : (mk l).toList = l := by rw [ByteArray.toList_eq]
theorem mk_inj {a b : List UInt8} (h : mk a = mk b) : a = b := by rw [← mk_data a, ← mk_data b, h]
theorem mk_append (a b : List UInt8) : mk a ++ mk b = mk (a ++ b) := by
  cases h : mk a ++ mk b with
  | mk d =>
    have : d = (mk a ++ mk b).data := by rw [h]
    rw [this, ByteArray.data_append]
    simp [mk]
theorem mk_extract (l : List UInt8) (a b : Nat) : (mk l).extract a b = mk ((l.take b).drop a) := by
  cases h : (mk l).extract a b with
  | mk d =>
    have : d = ((mk l).extract a b).data := by rw [h]
    rw [this, ByteArray.data_extract]
    simp only [mk]
    congr 1
    apply Array.ext'
    simp [List.extract_eq_take_drop, List.drop_take]
theorem bt_mk (l : List UInt8) (n : Nat) : bt (mk l) (n : Int) = ((l.getD n 0).toNat : Int) := by
  by_cases h : n < l.length
  · have h' : ((n : Int)).toNat < (mk l).size := by
      show (n : Int).toNat < l.toArray.size
      rw [List.size_toArray]; omega
    rw [← bt_at (mk l) (n : Int) h']
    rw [List.getD_eq_getElem?_getD, List.getElem?_eq_getElem h, Option.getD_some]
    show (((l.toArray)[(n : Int).toNat]'_).toNat : Int) = _
    simp
  · unfold bt
    rw [dif_neg (by show ¬ ((n : Int).toNat < l.toArray.size); rw [List.size_toArray]; omega)]
    rw [List.getD_eq_getElem?_getD, List.getElem?_eq_none (by omega)]
    rfl

/-! ### the table -/
def codesL : List Int := cSorted.map (·.1)
def nm (c : Int) : List UInt8 := (cAt c).2.data.toList
def hk (c : Int) : Bool := match asm_shape.f 20 c with
  | some q => q.1
  | none => false
def hj (c : Int) : Bool := match asm_shape.f 20 c with
  | some q => q.2
  | none => false
theorem cAt_miss {c : Int} (h : c ∉ codesL) : cAt c = (0, ⟨#[]⟩) := by
  unfold cAt
  rw [List.find?_eq_none.2 (fun e he => by
    intro hc
    exact h (List.mem_map.2 ⟨e, he, by simpa using hc⟩))]
theorem tab_shape : ∀ c ∈ codesL, (asm_shape.f 20 c).isSome = true := by decide +kernel
theorem tab_nm : ∀ c ∈ codesL, nm c ≠ [] ∧ (32 : UInt8) ∉ nm c ∧ (10 : UInt8) ∉ nm c ∧ (nm c).length ≤ 6 := by decide +kernel
theorem tab_find : ∀ c ∈ codesL, findOf (mk (nm c)) = (c, true) := by decide +kernel
theorem tab_wf : ∀ c ∈ codesL, 0 ≤ c ∧ c < 65536 := by decide +kernel
theorem tab_len : codesL.length = 41 := by decide +kernel
theorem shape_hit {c : Int} (h : c ∈ codesL) : asm_shape.f 20 c = some (hk c, hj c) := by
  have := tab_shape c h
  obtain ⟨q, hq⟩ := Option.isSome_iff_exists.1 this
  unfold hk hj
  rw [hq]
theorem wf16 {c : Int} (h0 : 0 ≤ c) (h1 : c < 65536) : (Lit.int .u16 c).wf = true := by
  simp [Lit.wf, IntKind.min, IntKind.max, IntKind.signed, IntKind.bits]
  omega
theorem name_eq {c : Int} (h0 : 0 ≤ c) (h1 : c < 65536) : code_Name.f c = some (mk (nm c)) := by
  unfold code_Name.f nm
  rw [if_pos (wf16 h0 h1), ← mk_list]
theorem shape_miss {c : Int} (h0 : 0 ≤ c) (h1 : c < 65536) (h : c ∉ codesL) : asm_shape.f 20 c = some (false, false) := by
  unfold asm_shape.f code_Kind.f
  rw [if_pos (wf16 h0 h1), cAt_miss h]
  simp [asm_shape.j0]
theorem nm_miss {c : Int} (h : c ∉ codesL) : nm c = [] := by unfold nm; rw [cAt_miss h]
theorem find_hit {p : ByteArray} {c : Int} (h : findOf p = (c, true)) : c ∈ codesL ∧ p = mk (nm c) := by
  unfold findOf at h
  split at h
  · rename_i e he
    have h1 := List.mem_of_find?_eq_some he
    have h2 := List.find?_some he
    simp only [Prod.mk.injEq, and_true] at h
    have hc : c ∈ codesL := by rw [← h]; exact List.mem_map.2 ⟨e, h1, rfl⟩
    refine ⟨hc, ?_⟩
    have h3 : e.2.2.data.toList = p.data.toList := by simpa using h2
    have hf := tab_find c hc
    have : (cAt c) = e.2 := by
      unfold cAt
      have h4 : cSorted.find? (fun z => z.1 == c) = some e := by
        have hp := codes_one
        rw [← h]
        cases hq : cSorted.find? (fun z => z.1 == e.1) with
        | none =>
          have := List.find?_eq_none.1 hq e h1
          simp at this
        | some z =>
          have hz := List.mem_of_find?_eq_some hq
          have hz2 := List.find?_some hq
          rw [pair_one hp hz h1 (by simpa using hz2)]
      rw [h4]
    rw [mk_list p, ← h3]
    unfold nm
    rw [this]
  · simp at h

/-! ### lines -/
abbrev I := S25
def okX (x : I) : Prop := (0 ≤ x.f0 ∧ x.f0 < 65536) ∧ (0 ≤ x.f1 ∧ x.f1 < 256) ∧ (0 ≤ x.f2 ∧ x.f2 < 256) ∧ (0 ≤ x.f3 ∧ x.f3 < 4294967296)
def numsX (x : I) : List (List UInt8) := (if hk x.f0 then [Lib.decDigits x.f3.toNat] else []) ++ (if hj x.f0 then [Lib.decDigits x.f1.toNat, Lib.decDigits x.f2.toNat] else [])
def partsX (x : I) : List (List UInt8) := nm x.f0 :: numsX x
/-- What may not be: a number that is not written. -/
def badX (x : I) : Bool := (!hk x.f0 && x.f3 != 0) || (!hj x.f0 && (x.f1 != 0 || x.f2 != 0))
def lineX (x : I) : List UInt8 × Int := if x.f0 ∈ codesL then (if badX x = true then ([], 1) else (Lib.join (partsX x) [32], 0)) else ([], 6)
theorem num_eq {n : Int} (h0 : 0 ≤ n) (h1 : n < 4294967296) : asm_Number.f n = some (mk (Lib.decDigits n.toNat)) := by
  unfold asm_Number.f decB
  rw [if_pos ⟨h0, h1⟩]
theorem dec_len : ∀ (k u : Nat), u < 10 ^ (k + 1) → (Lib.decDigits u).length ≤ k + 1
  | 0, u, h => by rw [dec_small (by simpa using h)]; simp
  | k + 1, u, h => by
    by_cases hu : u < 10
    · rw [dec_small hu]; simp
    · rw [dec_big hu, List.length_append]
      have := dec_len k (u / 10) (by rw [Nat.pow_succ] at h; omega)
      simp only [List.length_singleton]
      omega
theorem dec_len10 {n : Int} (h1 : n < 4294967296) : (Lib.decDigits n.toNat).length ≤ 10 := dec_len 9 n.toNat (by omega)
theorem line_len (x : I) (hx : okX x) : (lineX x).1.length ≤ 50 := by
  obtain ⟨_, h1, h2, h3⟩ := hx
  unfold lineX
  split
  · rename_i hc
    split
    · simp
    · have hn := (tab_nm _ hc).2.2.2
      have a1 := dec_len10 (n := x.f1) (by omega)
      have a2 := dec_len10 (n := x.f2) (by omega)
      have a3 := dec_len10 (n := x.f3) (by omega)
      unfold partsX numsX
      cases hk x.f0 <;> cases hj x.f0 <;> simp [join_one, join_more] <;> omega
  · simp
theorem line_no10 (x : I) : (10 : UInt8) ∉ (lineX x).1 := by
  unfold lineX
  split
  · rename_i hc
    split
    · simp
    · have hn := (tab_nm _ hc).2.2.1
      have a1 := dec_not x.f1.toNat (c := 10) (by decide)
      have a2 := dec_not x.f2.toNat (c := 10) (by decide)
      have a3 := dec_not x.f3.toNat (c := 10) (by decide)
      unfold partsX numsX
      cases hk x.f0 <;> cases hj x.f0 <;> simp [join_one, join_more] <;> simp [hn, a1, a2, a3]
  · simp
theorem parts_no32 (x : I) (hc : x.f0 ∈ codesL) : ∀ p ∈ partsX x, (32 : UInt8) ∉ p := by
  have hn := (tab_nm _ hc).2.1
  have a1 := dec_not x.f1.toNat (c := 32) (by decide)
  have a2 := dec_not x.f2.toNat (c := 32) (by decide)
  have a3 := dec_not x.f3.toNat (c := 32) (by decide)
  unfold partsX numsX
  intro p hp
  cases h1 : hk x.f0 <;> cases h2 : hj x.f0 <;> simp [h1, h2] at hp
  · rw [hp]; exact hn
  · rcases hp with rfl | rfl | rfl <;> assumption
  · rcases hp with rfl | rfl <;> assumption
  · rcases hp with rfl | rfl | rfl | rfl <;> assumption
theorem joinB_mk (l : List (List UInt8)) (sep : List UInt8) : joinB (l.map mk) (mk sep) = mk (Lib.join l sep) := by
  unfold joinB
  rw [List.map_map, mk_data]
  congr 2
  have : ((fun x : ByteArray => x.data.toList) ∘ mk) = id := by funext x; exact mk_data x
  rw [this, List.map_id]
theorem join_f (l : List (List UInt8)) (h1 : l.length ≤ 10) (h2 : (Lib.join l [32]).length ≤ 1000) : strings_Join.f (l.map mk) (⟨#[32]⟩ : ByteArray) = some (mk (Lib.join l [32])) := by
  have e : (⟨#[32]⟩ : ByteArray) = mk [32] := rfl
  unfold strings_Join.f
  rw [e]
  have e2 : ((l.map mk).map (·.data.toList)) = l := by
    rw [List.map_map]
    have : ((fun x : ByteArray => x.data.toList) ∘ mk) = id := by funext x; exact mk_data x
    rw [this, List.map_id]
  rw [if_pos ⟨by rw [List.length_map]; omega, by rw [e2, mk_data]; omega⟩, joinB_mk]

theorem asmLine20 (x : I) (hx : okX x) : asm_Line.f 20 x.f0 x.f1 x.f2 x.f3 = some (mk (lineX x).1, (lineX x).2) := by
  have hL := line_len x hx
  obtain ⟨h0, h1, h2, h3⟩ := hx
  unfold asm_Line.f
  rw [name_eq h0.1 h0.2]
  simp only [Option.bind_some, mk_toList]
  by_cases hc : x.f0 ∈ codesL
  · rw [shape_hit hc]
    have hn := (tab_nm _ hc).1
    have e1 : x.f1 % 4294967296 = x.f1 := by omega
    have e2 : x.f2 % 4294967296 = x.f2 := by omega
    simp only [Option.bind_some]
    rw [if_neg hn]
    unfold lineX at hL ⊢
    rw [if_pos hc] at hL ⊢
    have J := join_f (partsX x) (by unfold partsX numsX; cases hk x.f0 <;> cases hj x.f0 <;> simp)
    unfold badX partsX numsX at *
    generalize hk x.f0 = a at *
    generalize hj x.f0 = b at *
    have n1 := num_eq h1.1 (by omega : x.f1 < 4294967296)
    have n2 := num_eq h2.1 (by omega : x.f2 < 4294967296)
    have n3 := num_eq h3.1 h3.2
    cases a <;> cases b <;> simp only [Bool.false_eq_true, if_false, if_true, asm_Line.j0, asm_Line.j1, asm_Line.j2, Option.bind_some, n3, e1, e2, n1, n2, Bool.not_true, Bool.not_false, Bool.true_and, Bool.false_and, Bool.or_false, Bool.false_or, List.append_nil, List.nil_append, List.cons_append] at hL J ⊢
    · by_cases c3 : x.f3 = 0
      · by_cases c1 : x.f1 = 0
        · by_cases c2 : x.f2 = 0
          · have J2 := J (by simp [c1, c2, c3] at hL; omega)
            simp only [List.map_cons, List.map_nil] at J2
            simp [c1, c2, c3, J2]
          · simp [c1, c2, c3]
        · simp [c1, c3]
      · simp [c3]
    · by_cases c3 : x.f3 = 0
      · have J2 := J (by simp [c3] at hL; omega)
        simp only [List.map_cons, List.map_nil] at J2
        simp [c3, J2]
      · simp [c3]
    · by_cases c1 : x.f1 = 0
      · by_cases c2 : x.f2 = 0
        · have J2 := J (by simp [c1, c2] at hL; omega)
          simp only [List.map_cons, List.map_nil] at J2
          simp [c1, c2, J2]
        · simp [c1, c2]
      · simp [c1]
    · have J2 := J (by first | omega | (simp at hL; omega))
      simp only [List.map_cons, List.map_nil] at J2
      simp [J2]
  · rw [shape_miss h0.1 h0.2 hc]
    simp only [Option.bind_some]
    rw [if_pos (nm_miss hc)]
    unfold lineX
    rw [if_neg hc]
theorem asmLine (x : I) (hx : okX x) : Ev (fun k => asm_Line.f k x.f0 x.f1 x.f2 x.f3) (mk (lineX x).1, (lineX x).2) := Ev.of (asm_Line.mono _ _ _ _) (asmLine20 x hx)

/-! ### asm.Parse -/
theorem partsOf_mk (s : List UInt8) : partsOf (mk s) = (spl 32 s).map mk := by
  have h : (partsOf (mk s)).map (·.data.toList) = spl 32 s := by
    unfold partsOf splitL
    rw [Lib.splitB_data]
    have e1 : Lib.countB (mk s) ⟨#[32]⟩ = Lib.count s [32] := by unfold Lib.countB; rw [mk_data]
    rw [e1, mk_data]
    exact splitK_spl s
  rw [← h, List.map_map]
  have : (mk ∘ fun x : ByteArray => x.data.toList) = id := by funext x; exact (mk_list x).symm
  rw [this, List.map_id]
theorem numAt_of {B : Nat} {p : ByteArray} (h : (numAt B p).2 = true) : ∃ u : Nat, u ≤ 2 ^ B - 1 ∧ p = mk (Lib.decDigits u) ∧ (numAt B p).1 = u := by
  unfold numAt at h ⊢
  split at h
  · rename_i u hu
    refine ⟨u, Lib.parseUintB_le hu, ?_, rfl⟩
    have : Lib.decDigits u = p.toList := by simpa using h
    rw [this, ByteArray.toList_eq, ← mk_list p]
  · cases h
  · cases h
theorem numAt_dec {B u : Nat} (hB : 2 ^ B - 1 < 1844674407370955162) (h : u ≤ 2 ^ B - 1) : numAt B (mk (Lib.decDigits u)) = ((u : Int), true) := by
  unfold numAt
  rw [mk_data, parse_dec B u hB h]
  simp [mk_toList]
theorem tup5 {c a b d e c' a' b' d' e' : Int} (h : (c, a, b, d, e) = (c', a', b', d', e')) : c = c' ∧ a = a' ∧ b = b' ∧ d = d' ∧ e = e' := by
  simpa [Prod.mk.injEq] using h
/-- The instruction that a line is. -/
def parseX (s : List UInt8) : Option I := match parseParts (partsOf (mk s)) with
  | some (c, a, b, d, e) => if e = 0 then some ⟨c, a, b, d⟩ else none
  | none => none
def packP : Option I → Int × Int × Int × Int × Int
  | some x => (x.f0, x.f1, x.f2, x.f3, 0)
  | none => (0, 0, 0, 0, 3)
theorem part_le {c : UInt8} : ∀ (s : List UInt8), ∀ p ∈ spl c s, p.length ≤ s.length
  | [], p, h => by simp [spl] at h; simp [h]
  | x :: r, p, h => by
    have ih := part_le (c := c) r
    obtain ⟨q, qs, e⟩ := spl_cons c r
    unfold spl at h
    split at h
    · rcases List.mem_cons.1 h with rfl | h
      · simp
      · have := ih p h; simp; omega
    · rw [e] at h ih
      simp only [List.headD_cons, List.tail_cons] at h
      rcases List.mem_cons.1 h with rfl | h
      · have := ih q (List.mem_cons_self ..); simp; omega
      · have := ih p (List.mem_cons_of_mem _ h); simp; omega
/-- What the parts come to: the line's own instruction, or none. -/
theorem parts_cases (p : ByteArray) (ps : List ByteArray) :
    (∃ x : I, okX x ∧ x.f0 ∈ codesL ∧ badX x = false ∧ p :: ps = (partsX x).map mk ∧ parseParts (p :: ps) = some (packP (some x))) ∨ parseParts (p :: ps) = some (packP none) := by
  obtain ⟨c, ok, hf⟩ : ∃ c ok, findOf p = (c, ok) := ⟨_, _, rfl⟩
  cases ok with
  | false => right; simp only [parseParts, hf]; rfl
  | true =>
    obtain ⟨hc, rfl⟩ := find_hit hf
    have hw := tab_wf c hc
    simp only [parseParts, hf, shape_hit hc, Option.bind_some]
    by_cases hl : ps.length = (widthsOf (hk c) (hj c)).length
    · rw [if_pos hl]
      cases hn : numsOf ps (widthsOf (hk c) (hj c)) with
      | none => right; rfl
      | some ns =>
        left
        cases h1 : hk c <;> cases h2 : hj c <;> rw [h1, h2] at hl hn <;> simp [widthsOf] at hl hn
        · subst hl
          simp only [numsOf, Option.some.injEq] at hn
          subst hn
          refine ⟨⟨c, 0, 0, 0⟩, ⟨hw, by simp, by simp, by simp⟩, hc, by simp [badX], ?_, rfl⟩
          simp [partsX, numsX, h1, h2]
        · match ps, hl with
          | [p1, p2], _ =>
            simp only [numsOf] at hn
            split at hn
            · rename_i g1
              split at hn
              · rename_i g2
                simp only [Option.map_some, Option.some.injEq] at hn
                subst hn
                obtain ⟨u1, b1, rfl, q1⟩ := numAt_of g1
                obtain ⟨u2, b2, rfl, q2⟩ := numAt_of g2
                rw [q1, q2]
                have b1' : u1 ≤ 255 := b1
                have b2' : u2 ≤ 255 := b2
                refine ⟨⟨c, u1, u2, 0⟩, ⟨hw, by simp; omega, by simp; omega, by simp⟩, hc, by simp [badX, h2], ?_, ?_⟩
                · simp [partsX, numsX, h1, h2]
                · simp only [instrOf, packP]
                  rw [show (u1 : Int) % 256 = u1 by omega, show (u2 : Int) % 256 = u2 by omega]
              · simp at hn
            · simp at hn
        · match ps, hl with
          | [p1], _ =>
            simp only [numsOf] at hn
            split at hn
            · rename_i g1
              simp only [Option.map_some, Option.some.injEq] at hn
              subst hn
              obtain ⟨u1, b1, rfl, q1⟩ := numAt_of g1
              rw [q1]
              have b1' : u1 ≤ 4294967295 := b1
              refine ⟨⟨c, 0, 0, u1⟩, ⟨hw, by simp, by simp, by simp; omega⟩, hc, by simp [badX, h1], ?_, ?_⟩
              · simp [partsX, numsX, h1, h2]
              · simp only [instrOf, packP]
                rw [show (u1 : Int) % 4294967296 = u1 by omega]
            · simp at hn
        · match ps, hl with
          | [p1, p2, p3], _ =>
            simp only [numsOf] at hn
            split at hn
            · rename_i g1
              split at hn
              · rename_i g2
                split at hn
                · rename_i g3
                  simp only [Option.map_some, Option.some.injEq] at hn
                  subst hn
                  obtain ⟨u1, b1, rfl, q1⟩ := numAt_of g1
                  obtain ⟨u2, b2, rfl, q2⟩ := numAt_of g2
                  obtain ⟨u3, b3, rfl, q3⟩ := numAt_of g3
                  rw [q1, q2, q3]
                  have b1' : u1 ≤ 4294967295 := b1
                  have b2' : u2 ≤ 255 := b2
                  have b3' : u3 ≤ 255 := b3
                  refine ⟨⟨c, u2, u3, u1⟩, ⟨hw, by simp; omega, by simp; omega, by simp; omega⟩, hc, by simp [badX, h1, h2], ?_, ?_⟩
                  · simp [partsX, numsX, h1, h2]
                  · simp only [instrOf, packP]
                    rw [show (u1 : Int) % 4294967296 = u1 by omega, show (u2 : Int) % 256 = u2 by omega, show (u3 : Int) % 256 = u3 by omega]
                · simp at hn
              · simp at hn
            · simp at hn
    · rw [if_neg hl]
      right; rfl
/-- The parts of a line are read as its instruction. -/
theorem parts_back (x : I) (hx : okX x) (hc : x.f0 ∈ codesL) (hb : badX x = false) : parseParts ((partsX x).map mk) = some (packP (some x)) := by
  obtain ⟨h0, h1, h2, h3⟩ := hx
  have hf := tab_find _ hc
  have u1 := numAt_dec (B := 8) (u := x.f1.toNat) (by decide) (by omega)
  have u2 := numAt_dec (B := 8) (u := x.f2.toNat) (by decide) (by omega)
  have u3 := numAt_dec (B := 32) (u := x.f3.toNat) (by decide) (by omega)
  simp only [partsX, List.map_cons, parseParts, hf, shape_hit hc, Option.bind_some]
  unfold badX at hb
  unfold numsX
  cases e1 : hk x.f0 <;> cases e2 : hj x.f0 <;> rw [e1, e2] at hb <;> simp at hb <;> simp [widthsOf, numsOf, u1, u2, u3, instrOf, packP]
  · omega
  · omega
  · omega
  · omega
theorem packP_inj {x y : I} (h : packP (some x) = packP (some y)) : x = y := by
  obtain ⟨h1, h2, h3, h4, _⟩ := tup5 h
  cases x; cases y
  simp only at h1 h2 h3 h4
  rw [h1, h2, h3, h4]
theorem parseX_pack {s : List UInt8} {o : Option I} (h : parseParts (partsOf (mk s)) = some (packP o)) : parseX s = o := by
  unfold parseX
  rw [h]
  cases o with
  | none => rfl
  | some x => simp [packP]
theorem parts_mk (s : List UInt8) : ∃ p ps, partsOf (mk s) = p :: ps := by
  rw [partsOf_mk]
  obtain ⟨q, qs, e⟩ := spl_cons 32 s
  exact ⟨_, _, by rw [e]; rfl⟩
theorem asmParse (s : List UInt8) (hs : s.length < 4294967281) : asm_Parse.f (mk s) = some (packP (parseX s)) := by
  have hall : (partsOf (mk s)).all (fun p => decide (p.size ≤ 281474976710656)) = true := by
    rw [partsOf_mk, List.all_eq_true]
    intro p hp
    obtain ⟨q, hq, rfl⟩ := List.mem_map.1 hp
    have := part_le s q hq
    rw [decide_eq_true_eq, mk_size]
    omega
  unfold asm_Parse.f
  rw [if_pos ⟨by rw [mk_size]; exact hs, hall⟩]
  obtain ⟨p, ps, e⟩ := parts_mk s
  rcases parts_cases p ps with ⟨x, _, _, _, _, h⟩ | h
  · rw [← e] at h
    rw [h, parseX_pack h]
  · rw [← e] at h
    rw [h, parseX_pack h]
theorem map_mk_inj {a b : List (List UInt8)} (h : a.map mk = b.map mk) : a = b := by
  have := congrArg (List.map (·.data.toList)) h
  rw [List.map_map, List.map_map] at this
  have e : ((fun x : ByteArray => x.data.toList) ∘ mk) = id := by funext x; exact mk_data x
  rwa [e, List.map_id, List.map_id] at this
/-- THE LINE'S LAW: a text is read as the instruction whose line it is. -/
theorem parseX_iff (s : List UInt8) (x : I) : parseX s = some x ↔ okX x ∧ lineX x = (s, 0) := by
  obtain ⟨p, ps, e⟩ := parts_mk s
  constructor
  · intro h
    rcases parts_cases p ps with ⟨y, hy, hc, hb, hp, hq⟩ | hq
    · rw [← e] at hq hp
      rw [parseX_pack hq] at h
      cases h
      refine ⟨hy, ?_⟩
      rw [partsOf_mk] at hp
      unfold lineX
      rw [if_pos hc, if_neg (by rw [hb]; decide), ← map_mk_inj hp, join_spl]
    · rw [← e] at hq
      rw [parseX_pack hq] at h
      cases h
  · rintro ⟨hx, hl⟩
    unfold lineX at hl
    split at hl
    · rename_i hc
      split at hl
      · simp at hl
      · rename_i hb
        have hs : Lib.join (partsX x) [32] = s := (Prod.mk.inj hl).1
        have : partsOf (mk s) = (partsX x).map mk := by
          rw [partsOf_mk, ← hs, spl_join _ (by simp [partsX]) (parts_no32 x hc)]
        exact parseX_pack (by rw [this]; exact parts_back x hx hc (by simpa using hb))
    · simp at hl
end Go.Proofs.YtnagbdcpmbjnpaaDoor.Pure

namespace Go.Proofs.YtnagbdcpmbjnpaaDoor.Pure
set_option linter.unusedSimpArgs false
set_option linter.unusedVariables false
open Go.RowKit Go.Proofs.YtnagbdcpmbjnpaaDoor.Pr Go.Proofs.YtnagbdcpmbjnpaaDoorW.PrintWords Go.Proofs.YtnagbdcpmbjnpaaDoorW.PrintLast Go.Proofs.YtnagbdcpmbjnpaaDoorW.PrintMore

theorem w64 (n : Nat) (h : n < 4611686018427387904) : wrap64 ((n : Int) + 1) = ((n + 1 : Nat) : Int) := by unfold wrap64; omega

/-! ### the table -/
theorem codesL_lit : codesL = [0, 1, 2, 3, 4, 5, 6, 7, 12, 20, 21, 22, 28, 29, 32, 36, 37, 44, 45, 52, 53, 60, 61, 68, 69, 76, 77, 84, 92, 96, 97, 100, 108, 116, 124, 128, 129, 132, 135, 164, 172] := by decide +kernel
theorem all_eq : tamisref04_All.f = some codesL := by rw [codesL_lit]; rfl
theorem tab_ref : ∀ c ∈ codesL, tamisref04_Name.f 60 c = some (mk (nm c)) ∧ tamisref05_hasK.f 60 c = some (hk c) ∧ (tamisref04_Kind.f 60 c).map (· == 12) = some (hj c) := by decide +kernel
theorem refName_l0 (a0 : Int) (ns : List ByteArray) (l : List Int) (hl : l.length ≤ 1000) (h : a0 ∉ l) : ∀ (n i : Nat), i + n = l.length → tamisref04_Name.l0 (n + 1) a0 ns l i = some ⟨#[]⟩
  | 0, i, e => by
    unfold tamisref04_Name.l0
    rw [if_neg (by omega)]
  | n + 1, i, e => by
    unfold tamisref04_Name.l0
    have hi : i < l.length := by omega
    have hr : rd l (i : Int) ≠ a0 := by
      intro e
      apply h
      rw [← e]
      unfold rd
      simp [hi]
    rw [if_pos (by omega), if_pos (by omega), if_neg hr, w64 i (by omega)]
    exact refName_l0 a0 ns l hl h n (i + 1) (by omega)
theorem refName_miss {c : Int} (h : c ∉ codesL) : tamisref04_Name.f 42 c = some ⟨#[]⟩ := by
  rw [codesL_lit] at h
  exact refName_l0 c _ _ (by decide) h 41 0 rfl
theorem refName (c : Int) : Ev (fun k => tamisref04_Name.f k c) (mk (nm c)) := by
  by_cases h : c ∈ codesL
  · exact Ev.of (tamisref04_Name.mono c) (tab_ref c h).1
  · rw [nm_miss h]
    exact Ev.of (tamisref04_Name.mono c) (refName_miss h)
theorem refHas {c : Int} (h : c ∈ codesL) : Ev (fun k => tamisref05_hasK.f k c) (hk c) := Ev.of (tamisref05_hasK.mono c) (tab_ref c h).2.1
theorem refKind {c : Int} (h : c ∈ codesL) : ∃ d, Ev (fun k => tamisref04_Kind.f k c) d ∧ (d == 12) = hj c := by
  have := (tab_ref c h).2.2
  obtain ⟨d, h1, h2⟩ := Option.map_eq_some_iff.1 this
  exact ⟨d, Ev.of (tamisref04_Kind.mono c) h1, h2⟩

/-! ### numbers -/
theorem strOf_one (x : Int) : strOfNums [x] = mk [UInt8.ofNat x.toNat] := rfl
theorem refNumber_k : ∀ (d n : Nat), n < 10 ^ (d + 1) → n < 4294967296 → tamisref05_Number.f (d + 1) (n : Int) = some (mk (Lib.decDigits n))
  | d, n, h, h2 => by
    have hm : Int.tmod (n : Int) 10 = ((n % 10 : Nat) : Int) := by rw [Int.tmod_eq_emod_of_nonneg (by omega)]; omega
    have hd : Int.tdiv (n : Int) 10 = ((n / 10 : Nat) : Int) := by rw [Int.tdiv_eq_ediv_of_nonneg (by omega)]; omega
    have hc : ((48 + ((n % 10 : Nat) : Int)) % 4294967296) % 256 = ((48 + n % 10 : Nat) : Int) := by omega
    have hso : strOfNums [((48 + n % 10 : Nat) : Int)] = mk [UInt8.ofNat (48 + n % 10)] := by rw [strOf_one, Int.toNat_natCast]
    simp only [tamisref05_Number.f, Option.bind_some, hm, hd, hc]
    by_cases hn : n < 10
    · rw [if_pos (by omega), hso, dec_small hn, Nat.mod_eq_of_lt hn]
    · rw [if_neg (by omega)]
      cases d with
      | zero => exact absurd h (by omega)
      | succ d =>
        have e : (((n / 10 : Nat) : Int)) % 4294967296 = ((n / 10 : Nat) : Int) := by omega
        have hl := dec_len 9 (n / 10) (by omega)
        rw [e, refNumber_k d (n / 10) (by rw [Nat.pow_succ] at h; omega) (by omega)]
        simp only [Option.bind_some]
        rw [if_pos (by rw [hso, mk_size, mk_size]; simp; omega), hso, mk_append, dec_big hn]
theorem refNumber {n : Int} (h0 : 0 ≤ n) (h1 : n < 4294967296) : Ev (fun k => tamisref05_Number.f k n) (mk (Lib.decDigits n.toNat)) := by
  obtain ⟨u, rfl⟩ : ∃ u : Nat, n = u := ⟨n.toNat, by omega⟩
  exact Ev.of (tamisref05_Number.mono _) (refNumber_k 9 u (by omega) (by omega))
def vF (a : Int) (l : List UInt8) : Int := l.foldl (fun a b => (((10 * a) % 4294967296) + (((b.toNat : Int) - 48) % 256)) % 4294967296) a
theorem vF_range (l : List UInt8) : ∀ a : Int, 0 ≤ a → a < 4294967296 → 0 ≤ vF a l ∧ vF a l < 4294967296 := by
  induction l with
  | nil => intro a h0 h1; exact ⟨h0, h1⟩
  | cons b l ih => intro a h0 h1; exact ih ((((10 * a) % 4294967296) + (((b.toNat : Int) - 48) % 256)) % 4294967296) (by omega) (by omega)
theorem vF_dec : ∀ (l : List UInt8) (a : Nat), (∀ b ∈ l, 48 ≤ b.toNat ∧ b.toNat ≤ 57) → valFrom a l < 4294967296 → vF (a : Int) l = (valFrom a l : Nat)
  | [], a, _, _ => rfl
  | b :: l, a, hd, hv => by
    have hb := hd b (List.mem_cons_self ..)
    have h1 : valFrom (10 * a + (b.toNat - 48)) l = valFrom a (b :: l) := rfl
    have h2 := valFrom_ge l (10 * a + (b.toNat - 48))
    have e : (((10 * (a : Int)) % 4294967296) + (((b.toNat : Int) - 48) % 256)) % 4294967296 = ((10 * a + (b.toNat - 48) : Nat) : Int) := by omega
    show vF ((((10 * (a : Int)) % 4294967296) + (((b.toNat : Int) - 48) % 256)) % 4294967296) l = _
    rw [e, vF_dec l _ (fun x hx => hd x (List.mem_cons_of_mem _ hx)) (by rw [h1]; exact hv), h1]
theorem vF_num {n : Int} (h0 : 0 ≤ n) (h1 : n < 4294967296) : vF 0 (Lib.decDigits n.toNat) = n := by
  have := vF_dec (Lib.decDigits n.toNat) 0 (dec_digit _) (by rw [valFrom_dec]; omega)
  rw [valFrom_dec] at this
  rw [show (0 : Int) = ((0 : Nat) : Int) from rfl, this]
  omega
theorem value_l0 (s : List UInt8) (hs : s.length < 4611686018427387904) : ∀ (r pre : List UInt8) (a : Int), s = pre ++ r → tamisref05_value.l0 (r.length + 1) (mk s) a (pre.length : Int) = some (vF a r)
  | [], pre, a, e => by
    unfold tamisref05_value.l0
    rw [if_neg (by rw [mk_size, e]; simp)]
    rfl
  | b :: r, pre, a, e => by
    have hlt : pre.length < s.length := by rw [e]; simp
    have hb : bt (mk s) (pre.length : Int) = (b.toNat : Int) := by rw [bt_mk, e]; simp
    unfold tamisref05_value.l0
    rw [if_pos (by rw [mk_size]; omega), if_pos (by omega), hb, w64 _ (by omega)]
    have := value_l0 s hs r (pre ++ [b]) ((((10 * a) % 4294967296) + (((b.toNat : Int) - 48) % 256)) % 4294967296) (by rw [e]; simp)
    rw [List.length_append] at this
    exact this
theorem refValue (s : List UInt8) (hs : s.length < 4611686018427387904) : Ev (fun k => tamisref05_value.f k (mk s)) (vF 0 s) := Ev.of (tamisref05_value.mono _) (value_l0 s hs s [] 0 rfl)

/-! ### words -/
theorem words_l0 (s : List UInt8) (hs : s.length < 8796093022000) : ∀ (r p pre : List UInt8) (acc : List ByteArray), s = pre ++ p ++ r → (32 : UInt8) ∉ p → acc.length + r.length + 1 < 8796093022208 →
    tamisref05_words.l0 (r.length + 2) (mk s) acc (pre.length : Int) ((pre.length + p.length : Nat) : Int) = some (acc ++ (spl 32 (p ++ r)).map mk)
  | [], p, pre, acc, e, hp, ha => by
    have hl : s.length = pre.length + p.length := by rw [e]; simp
    have hx : (mk s).extract ((pre.length : Int)).toNat (((pre.length + p.length : Nat) : Int)).toNat = mk p := by
      rw [mk_extract, Int.toNat_natCast, Int.toNat_natCast, e, List.append_nil, show pre.length + p.length = (pre ++ p).length by simp, List.take_length, List.drop_left]
    unfold tamisref05_words.l0
    rw [if_pos (by rw [mk_size]; omega), if_pos (by rw [mk_size]; omega), if_pos (by omega), if_pos (by omega), if_pos (by simp at ha; omega), hx, w64 _ (by omega)]
    show tamisref05_words.l0 1 _ _ _ _ = _
    unfold tamisref05_words.l0
    rw [if_neg (by rw [mk_size]; omega), List.append_nil, spl_none hp]
    rfl
  | b :: r, p, pre, acc, e, hp, ha => by
    have hl : s.length = pre.length + p.length + r.length + 1 := by rw [e]; simp; omega
    have hx : (mk s).extract ((pre.length : Int)).toNat (((pre.length + p.length : Nat) : Int)).toNat = mk p := by
      rw [mk_extract, Int.toNat_natCast, Int.toNat_natCast, e, show pre.length + p.length = (pre ++ p).length by simp, List.take_left, List.drop_left]
    have hb : bt (mk s) ((pre.length + p.length : Nat) : Int) = (b.toNat : Int) := by
      rw [bt_mk, e, show pre.length + p.length = (pre ++ p).length by simp]
      simp
    unfold tamisref05_words.l0
    rw [if_pos (by rw [mk_size]; omega), if_neg (by rw [mk_size]; omega), if_pos (by omega), if_pos (by rw [mk_size]; omega), hb, w64 _ (by omega)]
    by_cases h : b = 32
    · subst h
      rw [if_pos (by decide), if_pos (by omega), if_pos (by omega), if_pos (by simp at ha; omega), hx]
      have := words_l0 s hs r [] (pre ++ p ++ [32]) (acc ++ [mk p]) (by rw [e]; simp) (by simp) (by simp at ha ⊢; omega)
      rw [show (pre ++ p ++ [(32 : UInt8)]).length = pre.length + p.length + 1 by simp; omega, List.length_nil, Nat.add_zero] at this
      rw [show (32 :: r).length + 1 = r.length + 2 by simp] 
      rw [this, spl_hit r hp]
      simp
    · have hb32 : ¬ ((b.toNat : Int) = 32) := by
        intro hh
        apply h
        apply UInt8.toNat.inj
        have : b.toNat = 32 := by omega
        rw [this]; rfl
      rw [if_neg hb32]
      have := words_l0 s hs r (p ++ [b]) pre acc (by rw [e]; simp) (by
        intro hc
        rcases List.mem_append.1 hc with hc | hc
        · exact hp hc
        · exact h (List.mem_singleton.1 hc).symm) (by simp at ha; omega)
      rw [show (p ++ [b]).length = p.length + 1 by simp] at this
      rw [show (b :: r).length + 1 = r.length + 2 by simp, show pre.length + p.length + 1 = pre.length + (p.length + 1) by omega, this]
      simp
theorem refWords (s : List UInt8) (hs : s.length < 8796093022000) : Ev (fun k => tamisref05_words.f k (mk s)) ((spl 32 s).map mk) :=
  Ev.of (tamisref05_words.mono _) (words_l0 s hs s [] [] [] rfl (by simp) (by simp; omega))

/-! ### Line -/
theorem refLine (x : I) (hx : okX x) : Ev (fun k => tamisref05_Line.f k x.f0 x.f1 x.f2 x.f3) (mk (lineX x).1, (lineX x).2) := by
  have hx' := hx
  obtain ⟨h0, h1, h2, h3⟩ := hx
  by_cases hc : x.f0 ∈ codesL
  · obtain ⟨d, hd, hd2⟩ := refKind hc
    obtain ⟨K1, e1⟩ := refName x.f0
    obtain ⟨K2, e2⟩ := hd
    obtain ⟨K3, e3⟩ := refHas hc
    obtain ⟨K4, e4⟩ := refNumber h1.1 (by omega : x.f1 < 4294967296)
    obtain ⟨K5, e5⟩ := refNumber h2.1 (by omega : x.f2 < 4294967296)
    obtain ⟨K6, e6⟩ := refNumber h3.1 h3.2
    refine Ev.of (tamisref05_Line.mono _ _ _ _) (k := K1 + K2 + K3 + K4 + K5 + K6 + 2) ?_
    have m1 : x.f1 % 4294967296 = x.f1 := by omega
    have m2 : x.f2 % 4294967296 = x.f2 := by omega
    have hn := (tab_nm _ hc).1
    have l0 := (tab_nm _ hc).2.2.2
    have a1 := dec_len10 (n := x.f1) (by omega)
    have a2 := dec_len10 (n := x.f2) (by omega)
    have a3 := dec_len10 (n := x.f3) (by omega)
    have q1 := e1 (K1 + K2 + K3 + K4 + K5 + K6 + 2) (by omega)
    have q2 := e2 (K1 + K2 + K3 + K4 + K5 + K6 + 2) (by omega)
    have q3 := e3 (K1 + K2 + K3 + K4 + K5 + K6 + 2) (by omega)
    have q3b := e3 (K1 + K2 + K3 + K4 + K5 + K6 + 1) (by omega)
    have q4 := e4 (K1 + K2 + K3 + K4 + K5 + K6) (by omega)
    have q5 := e5 (K1 + K2 + K3 + K4 + K5 + K6) (by omega)
    have q6 := e6 (K1 + K2 + K3 + K4 + K5 + K6 + 1) (by omega)
    generalize K1 + K2 + K3 + K4 + K5 + K6 = K at *
    simp only at q1 q2 q3 q3b q4 q5 q6
    unfold tamisref05_Line.f
    rw [q1]
    simp only [Option.bind_some, mk_toList]
    rw [if_neg hn, q2]
    simp only [Option.bind_some]
    rw [q3]
    simp only [Option.bind_some]
    have hd3 : (d = 12) ↔ hj x.f0 = true := by rw [← hd2]; simp
    simp only [hd2, hd3]
    unfold lineX
    rw [if_pos hc]
    unfold badX partsX numsX
    clear hd2 hd3 q1 q2 q3 e1 e2 e3 e4 e5 e6
    generalize hk x.f0 = a at *
    generalize hj x.f0 = b at *
    have e32 : (⟨#[32]⟩ : ByteArray) = mk [32] := rfl
    simp only [tamisref05_Line.j0, tamisref05_Line.j1, q3b, q4, q5, q6, m1, m2, Option.bind_some, e32, mk_append, mk_size]
    cases a <;> cases b
    · by_cases c3 : x.f3 = 0
      · by_cases c1 : x.f1 = 0
        · by_cases c2 : x.f2 = 0
          · simp [c1, c2, c3, join_one]
          · simp [c1, c2, c3]
        · simp [c1, c3]
      · simp [c3]
    · by_cases c3 : x.f3 = 0
      · simp [c3, join_one, join_more]
        omega
      · simp [c3]
    · by_cases c1 : x.f1 = 0
      · by_cases c2 : x.f2 = 0
        · simp [c1, c2, join_one, join_more]
          omega
        · simp [c1, c2]
      · simp [c1]
    · simp [join_one, join_more]
      omega
  · obtain ⟨K1, e1⟩ := refName x.f0
    refine Ev.of (tamisref05_Line.mono _ _ _ _) (k := K1) ?_
    unfold tamisref05_Line.f
    have q1 := e1 K1 (Nat.le_refl _)
    simp only at q1
    rw [q1]
    simp only [Option.bind_some, mk_toList]
    unfold lineX
    rw [if_pos (nm_miss hc), if_neg hc]
end Go.Proofs.YtnagbdcpmbjnpaaDoor.Pure

namespace Go.Proofs.YtnagbdcpmbjnpaaDoor.Pure
set_option linter.unusedSimpArgs false
set_option linter.unusedVariables false
open Go.RowKit Go.Proofs.YtnagbdcpmbjnpaaDoor.Pr Go.Proofs.YtnagbdcpmbjnpaaDoorW.PrintWords Go.Proofs.YtnagbdcpmbjnpaaDoorW.PrintLast Go.Proofs.YtnagbdcpmbjnpaaDoorW.PrintMore

/-! ### the document's Parse -/
def packB : Option I → Int × Int × Int × Int × Bool
  | some x => (x.f0, x.f1, x.f2, x.f3, true)
  | none => (0, 0, 0, 0, false)
def kW (c : Int) (w : List (List UInt8)) : Bool := hk c && decide (1 < w.length)
def atW (c : Int) (w : List (List UInt8)) : Nat := if kW c w then 2 else 1
def jW (c : Int) (w : List (List UInt8)) : Bool := hj c && decide (atW c w + 1 < w.length)
def consX (c : Int) (w : List (List UInt8)) : I :=
  ⟨c, if jW c w then vF 0 (w.getD (atW c w) []) % 256 else 0, if jW c w then vF 0 (w.getD (atW c w + 1) []) % 256 else 0, if kW c w then vF 0 (w.getD 1 []) else 0⟩
theorem cons_ok {c : Int} (h : c ∈ codesL) (w : List (List UInt8)) : okX (consX c w) := by
  have r := vF_range (w.getD 1 []) 0 (by omega) (by omega)
  refine ⟨tab_wf c h, ?_, ?_, ?_⟩ <;> simp only [consX]
  · split <;> omega
  · split <;> omega
  · split
    · exact r
    · omega
theorem cons_back (x : I) (hx : okX x) (hb : badX x = false) : consX x.f0 (partsX x) = x := by
  obtain ⟨c, a, b, k⟩ := x
  obtain ⟨h0, h1, h2, h3⟩ := hx
  simp only at h0 h1 h2 h3
  have v1 := vF_num h1.1 (by omega)
  have v2 := vF_num h2.1 (by omega)
  have v3 := vF_num h3.1 h3.2
  unfold badX at hb
  simp only at hb
  unfold consX jW atW kW partsX numsX
  simp only
  cases e1 : hk c <;> cases e2 : hj c <;> rw [e1, e2] at hb <;> simp at hb <;> simp [v1, v2, v3] <;> omega
/-- At the code that the line's name is: the line is this instruction's, or none's. -/
theorem parse_at (s : List UInt8) {c : Int} (hc : c ∈ codesL) (hn : nm c = (spl 32 s).headD []) : parseX s = if lineX (consX c (spl 32 s)) = (s, 0) then some (consX c (spl 32 s)) else none := by
  by_cases h : lineX (consX c (spl 32 s)) = (s, 0)
  · rw [if_pos h]
    exact (parseX_iff s _).2 ⟨cons_ok hc _, h⟩
  · rw [if_neg h]
    cases hp : parseX s with
    | none => rfl
    | some x =>
      exfalso
      obtain ⟨hx, hl⟩ := (parseX_iff s x).1 hp
      apply h
      have hl' := hl
      unfold lineX at hl'
      split at hl'
      · rename_i hxc
        split at hl'
        · simp at hl'
        · rename_i hb
          have hs : Lib.join (partsX x) [32] = s := (Prod.mk.inj hl').1
          have hw : spl 32 s = partsX x := by rw [← hs, spl_join _ (by simp [partsX]) (parts_no32 x hxc)]
          have hnx : nm c = nm x.f0 := by rw [hn, hw]; rfl
          have f1 := tab_find c hc
          have f2 := tab_find x.f0 hxc
          rw [hnx, f2] at f1
          have e : x.f0 = c := by simpa using f1
          rw [hw, ← e, cons_back x hx (by simpa using hb)]
          exact hl
      · simp at hl'
theorem parse_no (s : List UInt8) (h : ∀ c ∈ codesL, nm c ≠ (spl 32 s).headD []) : parseX s = none := by
  cases hp : parseX s with
  | none => rfl
  | some x =>
    exfalso
    obtain ⟨hx, hl⟩ := (parseX_iff s x).1 hp
    unfold lineX at hl
    split at hl
    · rename_i hxc
      split at hl
      · simp at hl
      · have hs : Lib.join (partsX x) [32] = s := (Prod.mk.inj hl).1
        have hw : spl 32 s = partsX x := by rw [← hs, spl_join _ (by simp [partsX]) (parts_no32 x hxc)]
        exact h x.f0 hxc (by rw [hw]; rfl)
    · simp at hl
theorem rdOf_mk (w : List (List UInt8)) (n : Nat) : rdOf ByteArray.empty (w.map mk) (n : Int) = mk (w.getD n []) := by
  unfold rdOf
  rw [Int.toNat_natCast, List.getD_eq_getElem?_getD, List.getD_eq_getElem?_getD, List.getElem?_map]
  cases w[n]? <;> rfl
theorem line_end (s : List UInt8) (x : I) (hx : okX x) (g : Nat → Int → Int → Int → Int → Option (Int × Int × Int × Int × Bool))
    (hg : ∀ k c a b d, g k c a b d = (tamisref05_Line.f k c a b d).bind fun bt => if bt.2 = 0 then (if bt.1.toList = (mk s).toList then some (c, a, b, d, true) else some (0, 0, 0, 0, false)) else some (0, 0, 0, 0, false)) :
    Ev (fun k => g k x.f0 x.f1 x.f2 x.f3) (packB (if lineX x = (s, 0) then some x else none)) := by
  obtain ⟨K, h⟩ := refLine x hx
  refine ⟨K, fun k hkk => ?_⟩
  have h2 := h k hkk
  simp only at h2 ⊢
  rw [hg, h2]
  simp only [Option.bind_some, mk_toList]
  by_cases e2 : (lineX x).2 = 0
  · by_cases e1 : (lineX x).1 = s
    · rw [if_pos e2, if_pos e1, if_pos (Prod.ext e1 e2)]
      rfl
    · rw [if_pos e2, if_neg e1, if_neg (fun e => e1 (by rw [e]))]
      rfl
  · rw [if_neg e2, if_neg (fun e => e2 (by rw [e]))]
    rfl
theorem evCongr {α : Type} {g f : Nat → Option α} {r : α} (h : ∃ K, ∀ k, K ≤ k → g k = f k) (k : Ev f r) : Ev g r := by
  obtain ⟨K1, h1⟩ := h
  obtain ⟨K2, h2⟩ := k
  exact ⟨K1 + K2, fun n hn => (h1 n (by omega)).trans (h2 n (by omega))⟩
theorem evShift {α : Type} {g : Nat → Option α} {r : α} (k : Ev g r) : Ev (fun n => g (n + 1)) r := by
  obtain ⟨K, h⟩ := k
  exact ⟨K, fun n hn => h (n + 1) (by omega)⟩
theorem decl {c : Prop} [Decidable c] {α : Type} {a b : α} (h : c) : (if c then a else b) = a := if_pos h
theorem getD_le (s : List UInt8) (w : List (List UInt8)) (hw : w = spl 32 s) (n : Nat) : (w.getD n []).length ≤ s.length := by
  by_cases h : n < w.length
  · rw [List.getD_eq_getElem?_getD, List.getElem?_eq_getElem h, Option.getD_some]
    exact part_le s w[n] (by rw [← hw]; exact List.getElem_mem h)
  · rw [List.getD_eq_getElem?_getD, List.getElem?_eq_none (by omega)]
    exact Nat.zero_le _
theorem j3_ev (s : List UInt8) (hs : s.length < 8796093022000) (w : List (List UInt8)) (hw : w = spl 32 s) {c : Int} (hc : c ∈ codesL) :
    Ev (fun k => tamisref05_Parse.j3 k (mk s) (w.map mk) (atW c w : Int) (jW c w) c 0 0 (if kW c w then vF 0 (w.getD 1 []) else 0)) (packB (if lineX (consX c w) = (s, 0) then some (consX c w) else none)) := by
  have hlen : ∀ n, (w.getD n []).length < 4611686018427387904 := fun n => Nat.lt_of_le_of_lt (getD_le s w hw n) (by omega)
  cases hjw : jW c w with
  | true =>
    have hj2 : atW c w + 1 < w.length := by
      unfold jW at hjw
      simp at hjw
      exact hjw.2
    have hx := cons_ok hc w
    have hE := line_end s (consX c w) hx (fun k c a b d => (tamisref05_Line.f k c a b d).bind fun bt => if bt.2 = 0 then (if bt.1.toList = (mk s).toList then some (c, a, b, d, true) else some (0, 0, 0, 0, false)) else some (0, 0, 0, 0, false)) (fun _ _ _ _ _ => rfl)
    obtain ⟨K, hE⟩ := hE
    generalize packB (if lineX (consX c w) = (s, 0) then some (consX c w) else none) = R at hE ⊢
    obtain ⟨K1, h1⟩ := refValue (w.getD (atW c w) []) (hlen _)
    obtain ⟨K2, h2⟩ := refValue (w.getD (atW c w + 1) []) (hlen _)
    refine ⟨K + K1 + K2 + 1, fun k hkk => ?_⟩
    obtain ⟨m, rfl⟩ : ∃ m, k = m + 1 := ⟨k - 1, by omega⟩
    have e0 := hE m (by omega)
    have e1 := h1 m (by omega)
    have e2 := h2 m (by omega)
    simp only at e0 e1 e2 ⊢
    have hat : atW c w ≤ 2 := by unfold atW; split <;> omega
    simp only [consX, hjw, if_true] at e0
    clear hE h1 h2 hx hjw
    generalize atW c w = A at *
    generalize kW c w = B at *
    rw [tamisref05_Parse.j3]
    rw [if_pos rfl, if_pos (by omega), if_pos (by rw [List.length_map]; omega), rdOf_mk, e1]
    rw [Option.bind_some]
    rw [w64 _ (by omega), if_pos (by omega), if_pos (by rw [List.length_map]; omega), rdOf_mk, e2]
    rw [Option.bind_some]
    exact e0
  | false =>
    have hx := cons_ok hc w
    have hE := line_end s (consX c w) hx (fun k c a b d => (tamisref05_Line.f k c a b d).bind fun bt => if bt.2 = 0 then (if bt.1.toList = (mk s).toList then some (c, a, b, d, true) else some (0, 0, 0, 0, false)) else some (0, 0, 0, 0, false)) (fun _ _ _ _ _ => rfl)
    obtain ⟨K, hE⟩ := hE
    generalize packB (if lineX (consX c w) = (s, 0) then some (consX c w) else none) = R at hE ⊢
    refine ⟨K + 1, fun k hkk => ?_⟩
    obtain ⟨m, rfl⟩ : ∃ m, k = m + 1 := ⟨k - 1, by omega⟩
    have e0 := hE m (by omega)
    simp only at e0 ⊢
    rw [tamisref05_Parse.j3]
    rw [if_neg (by decide)]
    simp only [consX, hjw, Bool.false_eq_true, if_false] at e0 ⊢
    exact e0
theorem j2_ev (s : List UInt8) (hs : s.length < 8796093022000) (w : List (List UInt8)) (hw : w = spl 32 s) {c : Int} (hc : c ∈ codesL) (n : Nat) (hn : n < codesL.length) (hr : rd codesL (n : Int) = c) :
    Ev (fun k => tamisref05_Parse.j2 k (mk s) (w.map mk) codesL (n : Int) (atW c w : Int) c 0 0 (if kW c w then vF 0 (w.getD 1 []) else 0)) (packB (if lineX (consX c w) = (s, 0) then some (consX c w) else none)) := by
  obtain ⟨d, ⟨K1, h1⟩, hd⟩ := refKind hc
  obtain ⟨K, hE⟩ := j3_ev s hs w hw hc
  generalize packB (if lineX (consX c w) = (s, 0) then some (consX c w) else none) = R at hE ⊢
  refine ⟨K + K1 + 1, fun k hkk => ?_⟩
  obtain ⟨m, rfl⟩ : ∃ m, k = m + 1 := ⟨k - 1, by omega⟩
  have e0 := hE m (by omega)
  have e1 := h1 m (by omega)
  simp only at e0 e1 ⊢
  have hat : atW c w ≤ 2 := by unfold atW; split <;> omega
  rw [tamisref05_Parse.j2]
  rw [if_pos (by omega), if_pos (by omega), hr, e1]
  rw [Option.bind_some]
  rw [w64 _ (by omega)]
  by_cases h12 : d = 12
  · rw [if_pos h12]
    have hjc : hj c = true := by rw [← hd, h12]; rfl
    have : jW c w = decide (((w.map mk).length : Int) > ((atW c w + 1 : Nat) : Int)) := by
      unfold jW
      rw [hjc, Bool.true_and, List.length_map]
      apply decide_eq_decide.2
      omega
    rw [← this]
    exact e0
  · rw [if_neg h12]
    have hjc : hj c = false := by rw [← hd]; simpa using h12
    have : jW c w = false := by unfold jW; rw [hjc, Bool.false_and]
    rw [this] at e0
    exact e0
theorem j1_ev (s : List UInt8) (hs : s.length < 8796093022000) (w : List (List UInt8)) (hw : w = spl 32 s) {c : Int} (hc : c ∈ codesL) (n : Nat) (hn : n < codesL.length) (hr : rd codesL (n : Int) = c) :
    Ev (fun k => tamisref05_Parse.j1 k (mk s) (w.map mk) codesL (n : Int) 1 (kW c w) c 0 0 0) (packB (if lineX (consX c w) = (s, 0) then some (consX c w) else none)) := by
  obtain ⟨K, hE⟩ := j2_ev s hs w hw hc n hn hr
  generalize packB (if lineX (consX c w) = (s, 0) then some (consX c w) else none) = R at hE ⊢
  cases hkw : kW c w with
  | true =>
    have hk2 : 1 < w.length := by
      unfold kW at hkw
      simp at hkw
      exact hkw.2
    have hl : (w.getD 1 []).length < 4611686018427387904 := by
      rw [List.getD_eq_getElem?_getD, List.getElem?_eq_getElem hk2, Option.getD_some]
      have := part_le s w[1] (by rw [← hw]; exact List.getElem_mem hk2)
      omega
    obtain ⟨K1, h1⟩ := refValue (w.getD 1 []) hl
    refine ⟨K + K1 + 1, fun k hkk => ?_⟩
    obtain ⟨m, rfl⟩ : ∃ m, k = m + 1 := ⟨k - 1, by omega⟩
    have e0 := hE m (by omega)
    have e1 := h1 m (by omega)
    simp only at e0 e1 ⊢
    have ha : atW c w = 2 := by unfold atW; rw [hkw]; rfl
    rw [tamisref05_Parse.j1]
    have hrd : rdOf ByteArray.empty (w.map mk) 1 = mk (w.getD 1 []) := rdOf_mk w 1
    have hw2 : wrap64 (1 + 1) = 2 := by unfold wrap64; rfl
    rw [if_pos rfl, if_pos (by omega), if_pos (by rw [List.length_map]; omega)]
    rw [hrd, e1, hw2]
    rw [Option.bind_some]
    rw [ha, hkw] at e0
    exact e0
  | false =>
    refine ⟨K + 1, fun k hkk => ?_⟩
    obtain ⟨m, rfl⟩ : ∃ m, k = m + 1 := ⟨k - 1, by omega⟩
    have e0 := hE m (by omega)
    simp only at e0 ⊢
    have ha : atW c w = 1 := by unfold atW; rw [hkw]; rfl
    rw [tamisref05_Parse.j1]
    rw [if_neg (by decide)]
    rw [ha, hkw] at e0
    exact e0
theorem parse_l0 (s : List UInt8) (hs : s.length < 8796093022000) (w : List (List UInt8)) (hw : w = spl 32 s) : ∀ (r pre : List Int), codesL = pre ++ r → (∀ c ∈ pre, nm c ≠ w.headD []) →
    Ev (fun k => tamisref05_Parse.l0 k (mk s) (w.map mk) codesL (pre.length : Int)) (packB (parseX s))
  | [], pre, e, hp => by
    have : parseX s = none := parse_no s (fun c hc => by rw [← hw]; exact hp c (by rw [e] at hc; simpa using hc))
    rw [this]
    refine ⟨1, fun k hkk => ?_⟩
    obtain ⟨m, rfl⟩ : ∃ m, k = m + 1 := ⟨k - 1, by omega⟩
    simp only
    rw [tamisref05_Parse.l0]
    rw [if_neg (by rw [e]; simp)]
    rfl
  | c :: r, pre, e, hp => by
    have hc : c ∈ codesL := by rw [e]; simp
    have hlt : pre.length < codesL.length := by rw [e]; simp
    have hrd : rd codesL (pre.length : Int) = c := by unfold rd; rw [e]; simp
    have hw1 : 0 < w.length := by
      obtain ⟨q, qs, e2⟩ := spl_cons 32 s
      rw [hw, e2]; simp
    have hw0 : w.headD [] = w.getD 0 [] := by cases w <;> rfl
    obtain ⟨K1, h1⟩ := refName c
    by_cases h : nm c = w.headD []
    · obtain ⟨K2, h2⟩ := refHas hc
      obtain ⟨K, hE⟩ := j1_ev s hs w hw hc pre.length hlt hrd
      rw [parse_at s hc (by rw [← hw]; exact h), ← hw]
      generalize packB (if lineX (consX c w) = (s, 0) then some (consX c w) else none) = R at hE ⊢
      refine ⟨K + K1 + K2 + 1, fun k hkk => ?_⟩
      obtain ⟨m, rfl⟩ : ∃ m, k = m + 1 := ⟨k - 1, by omega⟩
      have e0 := hE m (by omega)
      have e1 := h1 m (by omega)
      have e2 := h2 m (by omega)
      simp only at e0 e1 e2 ⊢
      rw [tamisref05_Parse.l0]
      rw [if_pos (by omega), if_pos (by omega), hrd, e1]
      rw [Option.bind_some]
      have hrd0 : rdOf ByteArray.empty (w.map mk) 0 = mk (w.getD 0 []) := rdOf_mk w 0
      rw [if_pos (by rw [List.length_map]; omega), hrd0, mk_toList, mk_toList, if_pos (by rw [h, hw0]), e2]
      rw [Option.bind_some]
      cases hk1 : hk c with
      | true =>
        rw [if_pos rfl]
        have : kW c w = decide (((w.map mk).length : Int) > 1) := by
          unfold kW
          rw [hk1, Bool.true_and, List.length_map]
          apply decide_eq_decide.2
          omega
        rw [this] at e0
        exact e0
      | false =>
        rw [if_neg (by decide)]
        have : kW c w = false := by unfold kW; rw [hk1, Bool.false_and]
        rw [this] at e0
        exact e0
    · obtain ⟨K, hE⟩ := parse_l0 s hs w hw r (pre ++ [c]) (by rw [e]; simp) (fun d hd => by
        rcases List.mem_append.1 hd with hd | hd
        · exact hp d hd
        · rw [List.mem_singleton.1 hd]; exact h)
      refine ⟨K + K1 + 1, fun k hkk => ?_⟩
      obtain ⟨m, rfl⟩ : ∃ m, k = m + 1 := ⟨k - 1, by omega⟩
      have e0 := hE m (by omega)
      have e1 := h1 m (by omega)
      simp only at e0 e1 ⊢
      have hlen := tab_len
      rw [tamisref05_Parse.l0]
      rw [if_pos (by omega), if_pos (by omega), hrd, e1]
      rw [Option.bind_some]
      have hrd0 : rdOf ByteArray.empty (w.map mk) 0 = mk (w.getD 0 []) := rdOf_mk w 0
      rw [if_pos (by rw [List.length_map]; omega), hrd0, mk_toList, mk_toList, if_neg (by rw [← hw0]; exact h), w64 _ (by omega)]
      rw [List.length_append] at e0
      exact e0
theorem refParse (s : List UInt8) (hs : s.length < 8796093022000) : Ev (fun k => tamisref05_Parse.f k (mk s)) (packB (parseX s)) := by
  obtain ⟨K1, h1⟩ := refWords s hs
  obtain ⟨K, hE⟩ := parse_l0 s hs (spl 32 s) rfl codesL [] rfl (by simp)
  refine ⟨K + K1, fun k hkk => ?_⟩
  have e0 := hE k (by omega)
  have e1 := h1 k (by omega)
  simp only at e0 e1 ⊢
  unfold tamisref05_Parse.f
  rw [e1, all_eq, Option.bind_some, Option.bind_some]
  exact e0
end Go.Proofs.YtnagbdcpmbjnpaaDoor.Pure
