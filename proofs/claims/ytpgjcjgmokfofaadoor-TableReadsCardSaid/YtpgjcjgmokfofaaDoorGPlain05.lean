/- Plain facts on texts: a text cut at a byte and joined again; decimal digits written and read. No program. -/
import Derived.Lib.Split
import Derived.Lib.Join
import Derived.Lib.ParseIntBCases
import Derived.Lib.ItoaNum
namespace Go.Proofs.YtpgjcjgmokfofaaDoor.Pure
open Go

/-! ### a text cut at a byte -/
def spl (c : UInt8) : List UInt8 → List (List UInt8)
  | [] => [[]]
  | x :: r => if x = c then [] :: spl c r else ((spl c r).headD []).cons x :: (spl c r).tail
theorem spl_ne (c : UInt8) (s : List UInt8) : spl c s ≠ [] := by
  cases s with
  | nil => simp [spl]
  | cons x r => unfold spl; split <;> simp
theorem spl_cons (c : UInt8) (s : List UInt8) : ∃ p ps, spl c s = p :: ps := by
  cases h : spl c s with
  | nil => exact absurd h (spl_ne c s)
  | cons p ps => exact ⟨p, ps, rfl⟩
theorem spl_no (c : UInt8) : ∀ (s : List UInt8), ∀ p ∈ spl c s, c ∉ p
  | [], p, h => by
    simp only [spl, List.mem_singleton] at h
    subst h; simp
  | x :: r, p, h => by
    have ih := spl_no c r
    obtain ⟨q, qs, e⟩ := spl_cons c r
    unfold spl at h
    split at h
    · rcases List.mem_cons.1 h with rfl | h
      · simp
      · exact ih p h
    · rename_i hx
      rw [e] at h ih
      simp only [List.headD_cons, List.tail_cons] at h
      rcases List.mem_cons.1 h with rfl | h
      · intro hc
        rcases List.mem_cons.1 hc with rfl | hc
        · exact hx rfl
        · exact ih q (List.mem_cons_self ..) hc
      · exact ih p (List.mem_cons_of_mem _ h)
theorem spl_none {c : UInt8} : ∀ {p : List UInt8}, c ∉ p → spl c p = [p]
  | [], _ => rfl
  | x :: r, h => by
    have hx : ¬ x = c := fun e => h (by rw [e]; exact List.mem_cons_self ..)
    unfold spl
    rw [if_neg hx, spl_none (fun e => h (List.mem_cons_of_mem _ e))]
    rfl
theorem spl_hit {c : UInt8} : ∀ {p : List UInt8} (r : List UInt8), c ∉ p → spl c (p ++ c :: r) = p :: spl c r
  | [], r, _ => by
    rw [List.nil_append, spl, if_pos rfl]
  | x :: q, r, h => by
    have hx : ¬ x = c := fun e => h (by rw [e]; exact List.mem_cons_self ..)
    rw [List.cons_append, spl, if_neg hx, spl_hit r (fun e => h (List.mem_cons_of_mem _ e))]
    rfl
theorem join_one (c : UInt8) (p : List UInt8) : Lib.join [p] [c] = p := by
  simp [Lib.join, List.intercalate]
theorem join_more (c : UInt8) (p q : List UInt8) (ps : List (List UInt8)) : Lib.join (p :: q :: ps) [c] = p ++ c :: Lib.join (q :: ps) [c] := by
  simp [Lib.join, List.intercalate]
theorem spl_join {c : UInt8} : ∀ (ps : List (List UInt8)), ps ≠ [] → (∀ p ∈ ps, c ∉ p) → spl c (Lib.join ps [c]) = ps
  | [], h, _ => absurd rfl h
  | [p], _, h => by rw [join_one, spl_none (h p (List.mem_cons_self ..))]
  | p :: q :: ps, _, h => by
    rw [join_more, spl_hit _ (h p (List.mem_cons_self ..)), spl_join (q :: ps) (by simp) (fun x hx => h x (List.mem_cons_of_mem _ hx))]
theorem mem_cut {c : UInt8} : ∀ {s : List UInt8}, c ∈ s → ∃ p r, s = p ++ c :: r ∧ c ∉ p
  | [], h => by cases h
  | x :: s, h => by
    by_cases hx : x = c
    · exact ⟨[], s, by rw [hx]; rfl, by simp⟩
    · have h2 : c ∈ s := by
        rcases List.mem_cons.1 h with e | e
        · exact absurd e.symm hx
        · exact e
      obtain ⟨p, r, e, hp⟩ := mem_cut h2
      refine ⟨x :: p, r, by rw [e]; rfl, ?_⟩
      intro hc
      rcases List.mem_cons.1 hc with e | e
      · exact hx e.symm
      · exact hp e
theorem join_spl (c : UInt8) (s : List UInt8) : Lib.join (spl c s) [c] = s := by
  induction hn : s.length using Nat.strongRecOn generalizing s with
  | _ n ih =>
    by_cases h : c ∈ s
    · obtain ⟨p, r, rfl, hp⟩ := mem_cut h
      obtain ⟨q, qs, e⟩ := spl_cons c r
      rw [spl_hit r hp, e, join_more, ← e, ih r.length (by simp at hn; omega) r rfl]
    · rw [spl_none h, join_one]

/-! ### the library's cuts at one byte -/
theorem index_miss {c : UInt8} : ∀ {s : List UInt8}, c ∉ s → Lib.index s [c] = -1
  | [], _ => rfl
  | x :: s, h => by
    have hx : ¬ x = c := fun e => h (by rw [e]; exact List.mem_cons_self ..)
    have ih := index_miss (c := c) (s := s) (fun e => h (List.mem_cons_of_mem _ e))
    unfold Lib.index
    rw [ih]
    simp [List.isPrefixOf, Ne.symm hx]
theorem index_hit {c : UInt8} : ∀ {p : List UInt8} (r : List UInt8), c ∉ p → Lib.index (p ++ c :: r) [c] = (p.length : Int)
  | [], r, _ => by
    rw [List.nil_append]
    unfold Lib.index
    simp [List.isPrefixOf]
  | x :: q, r, h => by
    have hx : ¬ x = c := fun e => h (by rw [e]; exact List.mem_cons_self ..)
    have ih := index_hit (c := c) r (fun e => h (List.mem_cons_of_mem _ e) : c ∉ q)
    rw [List.cons_append]
    unfold Lib.index
    rw [ih]
    have : ¬ (((q.length : Int) == -1) = true) := by
      intro e; have := beq_iff_eq.1 e; omega
    simp only [List.isPrefixOf, Bool.and_true, List.length_cons]
    rw [if_neg (by simpa using Ne.symm hx), if_neg this]
    omega
theorem cut_miss {c : UInt8} {s : List UInt8} (h : c ∉ s) : Lib.cut s [c] = (s, [], false) := by
  unfold Lib.cut
  rw [index_miss h]
  rfl
theorem cut_hit {c : UInt8} {p : List UInt8} (r : List UInt8) (h : c ∉ p) : Lib.cut (p ++ c :: r) [c] = (p, r, true) := by
  unfold Lib.cut
  rw [index_hit r h, if_pos (by omega), Int.toNat_natCast]
  simp
theorem splitK_spl {c : UInt8} (s : List UInt8) : Lib.splitK [c] 0 (Lib.count s [c]) s = spl c s := by
  induction hn : s.length using Nat.strongRecOn generalizing s with
  | _ n ih =>
    by_cases h : c ∈ s
    · obtain ⟨p, r, rfl, hp⟩ := mem_cut h
      have hi := index_hit r hp
      have hd : (p ++ c :: r).drop (p.length + 1) = r := by
        rw [show p.length + 1 = (p ++ [c]).length by simp, show p ++ c :: r = (p ++ [c]) ++ r by simp, List.drop_left]
      have hc := Lib.count_hit (s := p ++ c :: r) (sub := [c]) (i := p.length) (by simp) hi
      rw [show [c].length = 1 from rfl, hd] at hc
      rw [hc, spl_hit r hp, Nat.add_comm 1, Lib.splitK, hi]
      rw [if_neg (by intro e; have := beq_iff_eq.1 e; omega), Int.toNat_natCast, show [c].length = 1 from rfl, hd, ih r.length (by simp at hn; omega) r rfl]
      simp
    · have hi := index_miss h
      rw [Lib.count_miss hi, spl_none h]
      rfl

/-! ### decimal digits -/
theorem dec_small {u : Nat} (h : u < 10) : Lib.decDigits u = [UInt8.ofNat (48 + u)] := by rw [Lib.decDigits, dif_pos h]
theorem dec_big {u : Nat} (h : ¬ u < 10) : Lib.decDigits u = Lib.decDigits (u / 10) ++ [UInt8.ofNat (48 + u % 10)] := by rw [Lib.decDigits, dif_neg h]
theorem dig_val {u : Nat} (h : u < 10) : (UInt8.ofNat (48 + u)).toNat = 48 + u := by rw [UInt8.toNat_ofNat']; omega
theorem dec_ne (u : Nat) : Lib.decDigits u ≠ [] := by
  by_cases h : u < 10
  · rw [dec_small h]; simp
  · rw [dec_big h]; simp
theorem dec_digit (u : Nat) : ∀ b ∈ Lib.decDigits u, 48 ≤ b.toNat ∧ b.toNat ≤ 57 := by
  induction u using Nat.strongRecOn with
  | _ u ih =>
    intro b hb
    by_cases h : u < 10
    · rw [dec_small h, List.mem_singleton] at hb
      rw [hb, dig_val h]; omega
    · rw [dec_big h] at hb
      rcases List.mem_append.1 hb with hb | hb
      · exact ih (u / 10) (by omega) b hb
      · rw [List.mem_singleton] at hb
        rw [hb, dig_val (by omega)]; omega
theorem dec_not (u : Nat) {c : UInt8} (hc : c.toNat < 48) : c ∉ Lib.decDigits u := fun h => by have := dec_digit u c h; omega
def valFrom (a : Nat) (l : List UInt8) : Nat := l.foldl (fun a b => 10 * a + (b.toNat - 48)) a
theorem valFrom_dec (u : Nat) : valFrom 0 (Lib.decDigits u) = u := by
  induction u using Nat.strongRecOn with
  | _ u ih =>
    by_cases h : u < 10
    · rw [dec_small h]
      simp only [valFrom, List.foldl_cons, List.foldl_nil]
      rw [dig_val h]; omega
    · have := ih (u / 10) (by omega)
      rw [dec_big h]
      unfold valFrom at *
      rw [List.foldl_append, this]
      simp only [List.foldl_cons, List.foldl_nil]
      rw [dig_val (by omega)]; omega
theorem dec_inj {u v : Nat} (h : Lib.decDigits u = Lib.decDigits v) : u = v := by rw [← valFrom_dec u, ← valFrom_dec v, h]
theorem valFrom_ge : ∀ (l : List UInt8) (a : Nat), a ≤ valFrom a l
  | [], a => Nat.le_refl _
  | b :: l, a => by
    have := valFrom_ge l (10 * a + (b.toNat - 48))
    unfold valFrom at *
    simp only [List.foldl_cons]
    omega
theorem parseM (M : Nat) (hM : M < 1844674407370955162) : ∀ (l : List UInt8) (a : Nat), (∀ b ∈ l, 48 ≤ b.toNat ∧ b.toNat ≤ 57) → valFrom a l ≤ M → Lib.parseUintM M a l = .ok (valFrom a l)
  | [], a, _, _ => rfl
  | b :: l, a, hd, hv => by
    have hb := hd b (List.mem_cons_self ..)
    have h1 : valFrom (10 * a + (b.toNat - 48)) l = valFrom a (b :: l) := rfl
    have h2 := valFrom_ge l (10 * a + (b.toNat - 48))
    have e : a * 10 + (b.toNat - 48) = 10 * a + (b.toNat - 48) := by omega
    rw [Lib.parseUintM, if_pos hb, if_neg (by omega), e, if_neg (by omega), parseM M hM l _ (fun x hx => hd x (List.mem_cons_of_mem _ hx)) (by rw [h1]; exact hv), h1]
theorem parse_dec (B u : Nat) (hB : 2 ^ B - 1 < 1844674407370955162) (h : u ≤ 2 ^ B - 1) : Lib.parseUintB B (Lib.decDigits u) = .ok u := by
  unfold Lib.parseUintB
  rw [if_neg (dec_ne u), parseM _ hB _ 0 (dec_digit u) (by rw [valFrom_dec]; exact h), valFrom_dec]
/-- What begins with a 0 and goes on is no number's text. -/
theorem dec_head_nonzero (u : Nat) : u ≠ 0 → ∃ b r, Lib.decDigits u = b :: r ∧ 49 ≤ b.toNat := by
  induction u using Nat.strongRecOn with
  | _ u ih =>
    intro h0
    by_cases h : u < 10
    · exact ⟨_, _, dec_small h, by rw [dig_val h]; omega⟩
    · obtain ⟨b, r, e, hb⟩ := ih (u / 10) (by omega) (by omega)
      exact ⟨b, r ++ [UInt8.ofNat (48 + u % 10)], by rw [dec_big h, e]; rfl, hb⟩
theorem dec_lead (u v : Nat) : Lib.decDigits u ≠ (48 : UInt8) :: Lib.decDigits v := by
  intro h
  by_cases h0 : u = 0
  · subst h0
    rw [dec_small (by decide)] at h
    have := (List.cons.inj h).2
    exact dec_ne v this.symm
  · obtain ⟨b, r, e, hb⟩ := dec_head_nonzero u h0
    rw [e] at h
    have := (List.cons.inj h).1
    subst this
    have : (48 : UInt8).toNat = 48 := by decide
    omega
end Go.Proofs.YtpgjcjgmokfofaaDoor.Pure
