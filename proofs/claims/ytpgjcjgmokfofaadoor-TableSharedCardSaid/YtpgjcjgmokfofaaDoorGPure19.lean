/- Layer 19 in plain Lean: the tables, and what the document's functions come to. -/
import Derived.Test.YtpgjcjgmokfofaaDoorGPlain05
import Derived.Test.YtpgjcjgmokfofaaDoorGAwake19
import Derived.Test.YtpgjcjgmokfofaaDoorGTabRead
import Derived.Test.YtpgjcjgmokfofaaDoorFTamisref19Read
namespace Go.Proofs.YtpgjcjgmokfofaaDoor.Pure
set_option linter.unusedSimpArgs false
set_option linter.unusedVariables false
open Go.RowKit Go.Proofs.YtpgjcjgmokfofaaDoor.Pr Go.Proofs.YtpgjcjgmokfofaaDoorW.PrintWords Go.Proofs.YtpgjcjgmokfofaaDoorW.PrintLast Go.Proofs.YtpgjcjgmokfofaaDoorW.PrintMore

abbrev mk (l : List UInt8) : ByteArray := ⟨l.toArray⟩
theorem mk_list (s : ByteArray) : s = mk s.data.toList := by cases s; simp [mk]
theorem mk_data (l : List UInt8) : (mk l).data.toList = l := by simp [mk]
theorem mk_size (l : List UInt8) : (mk l).size = l.length := by show l.toArray.size = _; simp
theorem mk_toList (l : List UInt8) : (mk l).toList = l := by rw [ByteArray.toList_eq]
theorem mk_inj {a b : List UInt8} (h : mk a = mk b) : a = b := by rw [← mk_data a, ← mk_data b, h]
theorem mk_append (a b : List UInt8) : mk a ++ mk b = mk (a ++ b) := by
  cases h : mk a ++ mk b with
  | mk d =>
    have : d = (mk a ++ mk b).data := by rw [h]
    rw [this, ByteArray.data_append]
    simp [mk]
theorem bt_mk (l : List UInt8) (n : Nat) : bt (mk l) (n : Int) = ((l.getD n 0).toNat : Int) := by
  by_cases h : n < l.length
  · have h' : ((n : Int)).toNat < (mk l).size := by
      show (n : Int).toNat < l.toArray.size
      rw [List.size_toArray]; omega
    rw [← bt_at (mk l) (n : Int) h']
    rw [List.getD_eq_getElem?_getD, List.getElem?_eq_getElem h, Option.getD_some]
    show (((l.toArray)[(n : Int).toNat]'_).toNat : Int) = _
    simp
  · unfold bt
    rw [dif_neg (by show ¬ ((n : Int).toNat < l.toArray.size); rw [List.size_toArray]; omega)]
    rw [List.getD_eq_getElem?_getD, List.getElem?_eq_none (by omega)]
    rfl

theorem dec_len : ∀ (k u : Nat), u < 10 ^ (k + 1) → (Lib.decDigits u).length ≤ k + 1
  | 0, u, h => by rw [dec_small (by simpa using h)]; simp
  | k + 1, u, h => by
    by_cases hu : u < 10
    · rw [dec_small hu]; simp
    · rw [dec_big hu, List.length_append]
      have := dec_len k (u / 10) (by rw [Nat.pow_succ] at h; omega)
      simp only [List.length_singleton]
      omega
theorem dec_len10 {n : Int} (h1 : n < 4294967296) : (Lib.decDigits n.toNat).length ≤ 10 := dec_len 9 n.toNat (by omega)
theorem w64 (n : Nat) (h : n < 4611686018427387904) : wrap64 ((n : Int) + 1) = ((n + 1 : Nat) : Int) := by unfold wrap64; omega

theorem strOf_one (x : Int) : strOfNums [x] = mk [UInt8.ofNat x.toNat] := rfl
theorem refNumber_k : ∀ (d n : Nat), n < 10 ^ (d + 1) → n < 4294967296 → tamisref05_Number.f (d + 1) (n : Int) = some (mk (Lib.decDigits n))
  | d, n, h, h2 => by
    have hm : Int.tmod (n : Int) 10 = ((n % 10 : Nat) : Int) := by rw [Int.tmod_eq_emod_of_nonneg (by omega)]; omega
    have hd : Int.tdiv (n : Int) 10 = ((n / 10 : Nat) : Int) := by rw [Int.tdiv_eq_ediv_of_nonneg (by omega)]; omega
    have hc : ((48 + ((n % 10 : Nat) : Int)) % 4294967296) % 256 = ((48 + n % 10 : Nat) : Int) := by omega
    have hso : strOfNums [((48 + n % 10 : Nat) : Int)] = mk [UInt8.ofNat (48 + n % 10)] := by rw [strOf_one, Int.toNat_natCast]
    simp only [tamisref05_Number.f, Option.bind_some, hm, hd, hc]
    by_cases hn : n < 10
    · rw [if_pos (by omega), hso, dec_small hn, Nat.mod_eq_of_lt hn]
    · rw [if_neg (by omega)]
      cases d with
      | zero => exact absurd h (by omega)
      | succ d =>
        have e : (((n / 10 : Nat) : Int)) % 4294967296 = ((n / 10 : Nat) : Int) := by omega
        have hl := dec_len 9 (n / 10) (by omega)
        rw [e, refNumber_k d (n / 10) (by rw [Nat.pow_succ] at h; omega) (by omega)]
        simp only [Option.bind_some]
        rw [if_pos (by rw [hso, mk_size, mk_size]; simp; omega), hso, mk_append, dec_big hn]
theorem refNumber {n : Int} (h0 : 0 ≤ n) (h1 : n < 4294967296) : Ev (fun k => tamisref05_Number.f k n) (mk (Lib.decDigits n.toNat)) := by
  obtain ⟨u, rfl⟩ : ∃ u : Nat, n = u := ⟨n.toNat, by omega⟩
  exact Ev.of (tamisref05_Number.mono _) (refNumber_k 9 u (by omega) (by omega))
def vF (a : Int) (l : List UInt8) : Int := l.foldl (fun a b => (((10 * a) % 4294967296) + (((b.toNat : Int) - 48) % 256)) % 4294967296) a
theorem vF_range (l : List UInt8) : ∀ a : Int, 0 ≤ a → a < 4294967296 → 0 ≤ vF a l ∧ vF a l < 4294967296 := by
  induction l with
  | nil => intro a h0 h1; exact ⟨h0, h1⟩
  | cons b l ih => intro a h0 h1; exact ih ((((10 * a) % 4294967296) + (((b.toNat : Int) - 48) % 256)) % 4294967296) (by omega) (by omega)
theorem vF_dec : ∀ (l : List UInt8) (a : Nat), (∀ b ∈ l, 48 ≤ b.toNat ∧ b.toNat ≤ 57) → valFrom a l < 4294967296 → vF (a : Int) l = (valFrom a l : Nat)
  | [], a, _, _ => rfl
  | b :: l, a, hd, hv => by
    have hb := hd b (List.mem_cons_self ..)
    have h1 : valFrom (10 * a + (b.toNat - 48)) l = valFrom a (b :: l) := rfl
    have h2 := valFrom_ge l (10 * a + (b.toNat - 48))
    have e : (((10 * (a : Int)) % 4294967296) + (((b.toNat : Int) - 48) % 256)) % 4294967296 = ((10 * a + (b.toNat - 48) : Nat) : Int) := by omega
    show vF ((((10 * (a : Int)) % 4294967296) + (((b.toNat : Int) - 48) % 256)) % 4294967296) l = _
    rw [e, vF_dec l _ (fun x hx => hd x (List.mem_cons_of_mem _ hx)) (by rw [h1]; exact hv), h1]
theorem vF_num {n : Int} (h0 : 0 ≤ n) (h1 : n < 4294967296) : vF 0 (Lib.decDigits n.toNat) = n := by
  have := vF_dec (Lib.decDigits n.toNat) 0 (dec_digit _) (by rw [valFrom_dec]; omega)
  rw [valFrom_dec] at this
  rw [show (0 : Int) = ((0 : Nat) : Int) from rfl, this]
  omega

/-! ### texts -/
theorem be {a b : ByteArray} : a.data.toList = b.data.toList ↔ a = b := ⟨fun h => by rw [mk_list a, mk_list b, h], fun h => by rw [h]⟩
theorem te {a b : ByteArray} : a.toList = b.toList ↔ a = b := by rw [ByteArray.toList_eq, ByteArray.toList_eq]; exact be
theorem tn {a : ByteArray} : a.toList = ([] : List UInt8) ↔ a = ⟨#[]⟩ := ⟨fun h => te.1 (h.trans (by rw [ByteArray.toList_eq])), fun h => by rw [h, ByteArray.toList_eq]⟩

/-! ### the tables -/
theorem calls_eq (a : Int) : tamisref19_Calls.f a = some ((tabOf a).map (·.1), (tabOf a).map (·.2)) := by
  unfold tamisref19_Calls.f tabOf
  by_cases h1 : a = 3221225534
  · rw [if_pos h1, if_pos h1]; decide +kernel
  · rw [if_neg h1, if_neg h1]
    by_cases h2 : a = 1073741827
    · rw [if_pos h2, if_pos h2]; decide +kernel
    · rw [if_neg h2, if_neg h2]
      by_cases h3 : a = 3221225655
      · rw [if_pos h3, if_pos h3]; decide +kernel
      · rw [if_neg h3, if_neg h3]; rfl
def lead (s : ByteArray) : Bool := match s.data.toList with
  | [] => false
  | b :: _ => decide (58 ≤ b.toNat)
theorem tab_lead (a : Int) : ∀ e ∈ tabOf a, lead e.2 = true := by
  unfold tabOf
  split
  · decide +kernel
  split
  · decide +kernel
  split
  · decide +kernel
  · simp
theorem lead_ne {s : ByteArray} (h : lead s = true) : s ≠ ⟨#[]⟩ := fun e => by rw [e] at h; exact absurd h (by decide)
theorem lead_dec (u : Nat) : lead (mk (Lib.decDigits u)) = false := by
  unfold lead
  rw [mk_data]
  cases h : Lib.decDigits u with
  | nil => rfl
  | cons b r =>
    have := dec_digit u b (by rw [h]; exact List.mem_cons_self ..)
    simp only [decide_eq_false_iff_not]
    omega
theorem wf32 {n : Int} (h : (Lit.int .u32 n).wf = true) : 0 ≤ n ∧ n < 4294967296 := by
  have h1 : IntKind.u32.min = 0 := by decide
  have h2 : IntKind.u32.max = 4294967295 := by decide
  simp only [Lit.wf, h1, h2, Bool.and_eq_true, decide_eq_true_eq] at h
  omega
theorem findT_cases (l : List (Int × ByteArray)) (s : ByteArray) : (findT l s = (0, false) ∧ ∀ e ∈ l, e.2 ≠ s) ∨ ∃ x, (x, s) ∈ l ∧ findT l s = (x, true) := by
  unfold findT
  cases h : l.find? (fun e => e.2.data.toList == s.data.toList) with
  | none => exact .inl ⟨rfl, fun e he hs => by have := List.find?_eq_none.1 h e he; rw [hs] at this; simp at this⟩
  | some e =>
    have hm := List.mem_of_find?_eq_some h
    have hs := List.find?_some h
    simp only [beq_iff_eq] at hs
    refine .inr ⟨e.1, ?_, rfl⟩
    rw [← be.1 hs]
    exact hm
theorem tAt_cases (l : List (Int × ByteArray)) (n : Int) : (tAt l n = ⟨#[]⟩ ∧ ∀ e ∈ l, e.1 ≠ n) ∨ ∃ s, (n, s) ∈ l ∧ tAt l n = s := by
  unfold tAt
  cases h : l.find? (fun e => e.1 == n) with
  | none => exact .inl ⟨rfl, fun e he hs => by have := List.find?_eq_none.1 h e he; rw [hs] at this; simp at this⟩
  | some e =>
    have hm := List.mem_of_find?_eq_some h
    have hs := List.find?_some h
    simp only [beq_iff_eq] at hs
    refine .inr ⟨e.2, ?_, rfl⟩
    rw [← hs]
    exact hm
theorem tAt_mem {a n : Int} {s : ByteArray} (h : (n, s) ∈ tabOf a) : tAt (tabOf a) n = s := by
  rcases tAt_cases (tabOf a) n with ⟨_, h1⟩ | ⟨t, h1, h2⟩
  · exact absurd rfl (h1 _ h)
  · rw [h2]
    exact (Prod.mk.inj (pair_at (tabOf_one a) h1 h rfl)).2
theorem findT_mem {a n : Int} {s : ByteArray} (h : (n, s) ∈ tabOf a) : findT (tabOf a) s = (n, true) := findT_hit (tabOf_one a) h rfl
/-- A name is not empty just if it is a table's. -/
theorem tAt_ne {a n : Int} (h : tAt (tabOf a) n ≠ ⟨#[]⟩) : (n, tAt (tabOf a) n) ∈ tabOf a := by
  rcases tAt_cases (tabOf a) n with ⟨h1, _⟩ | ⟨s, h1, h2⟩
  · exact absurd h1 h
  · rw [h2]; exact h1
theorem name_f {a n : Int} (ha : (Lit.int .u32 a).wf = true) (hn : (Lit.int .u32 n).wf = true) : table_Name.f a n = some (tAt (tabOf a) n) := by unfold table_Name.f; rw [if_pos ⟨ha, hn⟩]
theorem find_f {a : Int} (ha : (Lit.int .u32 a).wf = true) (s : ByteArray) : table_Find.f a s = some (findT (tabOf a) s) := by unfold table_Find.f; rw [if_pos ha]
theorem read_f {a : Int} (ha : (Lit.int .u32 a).wf = true) {s : ByteArray} (hs : s.size ≤ 281474976710656) : table_Read.f a s = some (readT a s) := by unfold table_Read.f; rw [if_pos ⟨ha, hs⟩]
theorem print_f {a n : Int} (ha : (Lit.int .u32 a).wf = true) (hn : (Lit.int .u32 n).wf = true) : table_Print.f a n = some (printT a n) := by
  have h := wf32 hn
  obtain ⟨u, rfl⟩ : ∃ u : Nat, n = u := ⟨n.toNat, by omega⟩
  exact print_gives ha (by omega)

/-! ### the document's functions -/
theorem rd_at (T : List (Int × ByteArray)) (pre r : List (Int × ByteArray)) (x : Int × ByteArray) (e : T = pre ++ x :: r) : rd (T.map (·.1)) (pre.length : Int) = x.1 := by
  rw [e]; simp [rd]
theorem rdOf_at (T : List (Int × ByteArray)) (pre r : List (Int × ByteArray)) (x : Int × ByteArray) (e : T = pre ++ x :: r) : rdOf ByteArray.empty (T.map (·.2)) (pre.length : Int) = x.2 := by
  rw [e]; simp [rdOf]
theorem name_l0 (n : Int) (T : List (Int × ByteArray)) (hT : T.length ≤ 1000) : ∀ (r pre : List (Int × ByteArray)), T = pre ++ r → tamisref19_Name.l0 (r.length + 1) n (T.map (·.1)) (T.map (·.2)) (pre.length : Int) = some (tAt r n)
  | [], pre, e => by
    unfold tamisref19_Name.l0
    rw [if_neg (by rw [e]; simp)]
    rfl
  | x :: r, pre, e => by
    have hlt : pre.length < T.length := by rw [e]; simp
    unfold tamisref19_Name.l0
    rw [if_pos (by rw [List.length_map]; omega), if_pos (by omega), rd_at T pre r x e, w64 _ (by omega)]
    by_cases h : x.1 = n
    · rw [if_pos h, if_pos (by rw [List.length_map]; omega), rdOf_at T pre r x e]
      unfold tAt
      rw [List.find?_cons_of_pos (by simpa using h)]
    · rw [if_neg h]
      have := name_l0 n T hT r (pre ++ [x]) (by rw [e]; simp)
      rw [List.length_append] at this
      rw [show tAt (x :: r) n = tAt r n by unfold tAt; rw [List.find?_cons_of_neg (by simpa using h)]]
      exact this
theorem refName (a n : Int) : Ev (fun k => tamisref19_Name.f k a n) (tAt (tabOf a) n) := by
  refine Ev.of (tamisref19_Name.mono _ _) (k := (tabOf a).length + 1) ?_
  unfold tamisref19_Name.f
  rw [calls_eq]
  exact name_l0 n (tabOf a) (tabOf_len a) (tabOf a) [] rfl
theorem refPrint (a : Int) {n : Int} (h0 : 0 ≤ n) (h1 : n < 4294967296) : Ev (fun k => tamisref19_Print.f k a n) (printT a n) := by
  refine Ev.congr (f := fun k => (tamisref19_Name.f k a n).bind fun t193 => (if t193.toList = ([] : List UInt8) then ((tamisref05_Number.f k n).bind fun t194 => (some t194)) else (some t193))) (fun k => rfl) ?_
  refine Ev.bind (f := fun k t193 => (if t193.toList = ([] : List UInt8) then ((tamisref05_Number.f k n).bind fun t194 => (some t194)) else (some t193))) (refName a n) ?_
  unfold printT
  split
  · exact Ev.bind (refNumber h0 h1) (Ev.now _)
  · exact Ev.now _
theorem read_l1 (a : Int) (s : List UInt8) (hs : s.length < 4611686018427387904) : ∀ (r pre : List UInt8) (v : Int), s = pre ++ r → 0 ≤ v → v < 4294967296 →
    Ev (fun k => tamisref19_Read.l1 k a (mk s) v (pre.length : Int)) (if (printT a (vF v r)).toList = (mk s).toList then (vF v r, true) else (0, false))
  | [], pre, v, e, h0, h1 => by
    refine Ev.step (f := fun k => (tamisref19_Print.f k a v).bind fun t203 => (if t203.toList = (mk s).toList then (some (v, true)) else (some (0, false)))) (fun k => ?_) ?_
    · rw [tamisref19_Read.l1]
      rw [if_neg (by rw [mk_size, e]; simp)]
    · refine Ev.bind (f := fun k t203 => (if t203.toList = (mk s).toList then (some (v, true)) else (some (0, false)))) (refPrint a h0 h1) ?_
      show Ev (fun k => if (printT a v).toList = (mk s).toList then some (v, true) else some (0, false)) (if (printT a v).toList = (mk s).toList then (v, true) else (0, false))
      split <;> exact Ev.now _
  | b :: r, pre, v, e, h0, h1 => by
    have hlt : pre.length < s.length := by rw [e]; simp
    have hb : bt (mk s) (pre.length : Int) = (b.toNat : Int) := by rw [bt_mk, e]; simp
    have ih := read_l1 a s hs r (pre ++ [b]) ((((10 * v) % 4294967296) + (((b.toNat : Int) - 48) % 256)) % 4294967296) (by rw [e]; simp) (by omega) (by omega)
    rw [List.length_append] at ih
    refine Ev.step (fun k => ?_) ih
    rw [tamisref19_Read.l1]
    rw [if_pos (by rw [mk_size]; omega), if_pos (by omega), hb, w64 _ (by omega)]
    rfl
def refReadV (a : Int) (s : ByteArray) : Int × Bool := if (findT (tabOf a) s).2 = true then ((findT (tabOf a) s).1, true) else if (printT a (vF 0 s.data.toList)).toList = s.toList then (vF 0 s.data.toList, true) else (0, false)
theorem read_l0 (a : Int) (s : ByteArray) (T : List (Int × ByteArray)) (hT : T.length ≤ 1000) (res : Int × Bool) (hm : Ev (fun k => tamisref19_Read.l1 k a s 0 0) res) : ∀ (r pre : List (Int × ByteArray)), T = pre ++ r →
    Ev (fun k => tamisref19_Read.l0 k a s (T.map (·.1)) (T.map (·.2)) (pre.length : Int)) (if (findT r s).2 = true then ((findT r s).1, true) else res)
  | [], pre, e => by
    refine Ev.step (fun k => ?_) (by simpa [findT] using hm)
    rw [tamisref19_Read.l0]
    rw [if_neg (by rw [e]; simp)]
  | x :: r, pre, e => by
    have hlt : pre.length < T.length := by rw [e]; simp
    by_cases h : x.2 = s
    · have hf : findT (x :: r) s = (x.1, true) := by unfold findT; rw [List.find?_cons_of_pos (by simp [h])]
      rw [hf, if_pos rfl]
      refine Ev.step (f := fun k => some (x.1, true)) (fun k => ?_) (Ev.now _)
      rw [tamisref19_Read.l0]
      rw [if_pos (by rw [List.length_map]; omega), if_pos (by omega), if_pos (by rw [List.length_map]; omega), rdOf_at T pre r x e, rd_at T pre r x e, if_pos (by rw [h])]
    · have hf : findT (x :: r) s = findT r s := by unfold findT; rw [List.find?_cons_of_neg (by simpa using fun q => h (be.1 q))]
      rw [hf]
      have ih := read_l0 a s T hT res hm r (pre ++ [x]) (by rw [e]; simp)
      rw [List.length_append] at ih
      refine Ev.step (fun k => ?_) ih
      rw [tamisref19_Read.l0]
      rw [if_pos (by rw [List.length_map]; omega), if_pos (by omega), if_pos (by rw [List.length_map]; omega), rdOf_at T pre r x e, if_neg (fun q => h (te.1 q)), w64 _ (by omega)]
      rfl
theorem refRead (a : Int) (s : ByteArray) (hs : s.size < 4611686018427387904) : Ev (fun k => tamisref19_Read.f k a s) (refReadV a s) := by
  have hl : s.data.toList.length < 4611686018427387904 := by simpa using hs
  have h1 := read_l1 a s.data.toList hl s.data.toList [] 0 rfl (by omega) (by omega)
  rw [← mk_list s] at h1
  have h0 := read_l0 a s (tabOf a) (tabOf_len a) _ h1 (tabOf a) [] rfl
  refine Ev.congr (fun k => ?_) h0
  unfold tamisref19_Read.f
  rw [calls_eq]
  rfl

/-! ### what is printed is read -/
theorem print_num {a n : Int} (h : tAt (tabOf a) n = ⟨#[]⟩) : printT a n = mk (Lib.decDigits n.toNat) := by
  unfold printT decB
  rw [if_pos (tn.2 h)]
theorem print_name {a n : Int} (h : tAt (tabOf a) n ≠ ⟨#[]⟩) : printT a n = tAt (tabOf a) n := by
  unfold printT
  rw [if_neg (fun q => h (tn.1 q))]
/-- A text that is no name of the table, and is printed of n: n's digits. -/
theorem print_hit {a n : Int} {s : ByteArray} (hm : ∀ e ∈ tabOf a, e.2 ≠ s) (h : printT a n = s) : s = mk (Lib.decDigits n.toNat) := by
  by_cases hn : tAt (tabOf a) n = ⟨#[]⟩
  · rw [← h, print_num hn]
  · rw [print_name hn] at h
    exact absurd h (hm _ (tAt_ne hn))
theorem dec_no_name (a : Int) (u : Nat) : ∀ e ∈ tabOf a, e.2 ≠ mk (Lib.decDigits u) := fun e he hs => by
  have h1 := tab_lead a e he
  rw [hs, lead_dec] at h1
  cases h1
theorem read_same (a : Int) (s : ByteArray) : readT a s = refReadV a s := by
  unfold readT refReadV
  rcases findT_cases (tabOf a) s with ⟨h, hm⟩ | ⟨x, hx, h⟩
  · rw [h]
    rw [if_neg (by simp), if_neg (by simp)]
    unfold numT
    by_cases hv : printT a (vF 0 s.data.toList) = s
    · rw [if_pos (te.2 hv)]
      have hr := vF_range s.data.toList 0 (by omega) (by omega)
      have hs := print_hit hm hv
      have hp : Lib.parseUintB 32 s.data.toList = .ok (vF 0 s.data.toList).toNat := by
        rw [hs, mk_data, parse_dec 32 _ (by decide)]
        · rw [← mk_data (Lib.decDigits _), ← hs]
        · omega
      rw [hp]
      simp only
      rw [show (((vF 0 s.data.toList).toNat : Nat) : Int) = vF 0 s.data.toList by omega, if_pos (te.2 hv)]
    · rw [if_neg (fun q => hv (te.1 q))]
      cases hp : Lib.parseUintB 32 s.data.toList with
      | ok u =>
        simp only
        have hu : u ≤ 2 ^ 32 - 1 := Lib.parseUintB_le hp
        by_cases hw : printT a (u : Int) = s
        · exfalso
          have hs := print_hit hm hw
          rw [Int.toNat_natCast] at hs
          apply hv
          have e : vF 0 s.data.toList = (u : Int) := by
            rw [hs, mk_data]
            have := vF_num (n := (u : Int)) (by omega) (by omega)
            rwa [Int.toNat_natCast] at this
          rw [e, hw]
        · rw [if_neg (fun q => hw (te.1 q))]
      | «syntax» => rfl
      | range => rfl
  · rw [h, if_pos rfl, if_pos rfl]
theorem read_print {a n : Int} (hn : (Lit.int .u32 n).wf = true) : readT a (printT a n) = (n, true) := by
  have h := wf32 hn
  by_cases hz : tAt (tabOf a) n = ⟨#[]⟩
  · rw [read_same, print_num hz]
    unfold refReadV
    rcases findT_cases (tabOf a) (mk (Lib.decDigits n.toNat)) with ⟨h1, hm⟩ | ⟨x, hx, h1⟩
    · rw [h1, if_neg (by simp), mk_data, vF_num h.1 h.2, print_num hz, if_pos rfl]
    · exact absurd rfl (dec_no_name a _ _ hx)
  · rw [print_name hz]
    unfold readT
    rw [findT_mem (tAt_ne hz), if_pos rfl]
theorem print_inj {a n m : Int} (hn : (Lit.int .u32 n).wf = true) (hm : (Lit.int .u32 m).wf = true) (h : printT a n = printT a m) : n = m := by
  have h1 := read_print (a := a) hn
  rw [h, read_print hm] at h1
  exact (Prod.mk.inj h1).1.symm
theorem print_size (a : Int) {n : Int} (hn : (Lit.int .u32 n).wf = true) : (printT a n).size ≤ 281474976710656 := by
  by_cases hz : tAt (tabOf a) n = ⟨#[]⟩
  · rw [print_num hz, mk_size]
    have := dec_len10 (wf32 hn).2
    omega
  · rw [print_name hz]
    have h1 : ∀ e ∈ tabOf a, e.2.size ≤ 100 := by
      unfold tabOf
      split
      · decide +kernel
      split
      · decide +kernel
      split
      · decide +kernel
      · simp
    have := h1 _ (tAt_ne hz)
    simp only at this
    omega
/-- What is read is printed the same, and is a number of the kind. -/
theorem read_wf (a : Int) (s : ByteArray) : (Lit.int .u32 (readT a s).1).wf = true ∧ ((readT a s).2 = true → printT a (readT a s).1 = s) := by
  rw [read_same]
  unfold refReadV
  rcases findT_cases (tabOf a) s with ⟨h, hm⟩ | ⟨x, hx, h⟩
  · rw [h, if_neg (by simp)]
    have hr := vF_range s.data.toList 0 (by omega) (by omega)
    split
    · rename_i hv
      refine ⟨?_, fun _ => te.1 hv⟩
      obtain ⟨u, hu⟩ : ∃ u : Nat, vF 0 s.data.toList = u := ⟨(vF 0 s.data.toList).toNat, by omega⟩
      simp only [hu]
      exact u32_wf (by omega)
    · exact ⟨by decide, fun q => by cases q⟩
  · rw [h, if_pos rfl]
    refine ⟨tabOf_wf a _ hx, fun _ => ?_⟩
    simp only
    rw [print_name (by rw [tAt_mem hx]; exact lead_ne (tab_lead a _ hx)), tAt_mem hx]
end Go.Proofs.YtpgjcjgmokfofaaDoor.Pure
