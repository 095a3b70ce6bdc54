/- code.Find: what it answers, whatever order the map is gone through. -/
import Derived.Test.YtkcecfoeimpfeaaGCodeLook
import Derived.Maps.RangeWalk
namespace Go.Proofs.Ytkcecfoeimpfeaa.Pr
set_option linter.unusedSimpArgs false
set_option linter.unusedVariables false
open Go.RowKit Go.Maps Go.Proofs.YtkcecfoeimpfeaaW.PrintWords Go.Proofs.YtkcecfoeimpfeaaW.PrintLast Go.Proofs.YtkcecfoeimpfeaaW.PrintMore

/-- The step of a range over the codes' map. -/
theorem wpList_next_code {w : World} {ops : Array Oper} {rest : List Oper} {o : Oper} {a : Act} {Q : Exit → Act → World → Prop} (hg : o.guard = none) (it : Operand) (hop : o.op = Op.next it false) (b r n : Nat) (left : Lit → Bool) (cnt : Nat)
    (hit : a.eval it = .pointer (some ⟨r, 0, none⟩)) (h : w.ranges Try.prog 22 entR b r n cD left cnt)
    (hDone : cnt = 0 → (∀ kl, left kl = false) → wpList Try.prog ops Q rest (a.put o.dst (.tuple #[.bool false])) w)
    (hMore : ∀ (x k : Int) (s : ByteArray) (w' : World) (cnt' : Nat), (x, k, s) ∈ cSorted → left (.int .u16 x) = true → w'.ranges Try.prog 22 entR b r n cD (fun z => left z && !z.sameKey (.int .u16 x)) cnt' → cnt' < cnt →
      w.grownBy w' (some r) → w'.heap.size = w.heap.size → (Instr.entry (.pointer (some ⟨r, 0, none⟩))).run Try.prog w' = .ok (.tuple #[.int .u16 x, .agg #[.int .i64 k, .string s]]) w' →
      wpList Try.prog ops Q rest (a.put o.dst (.tuple #[.bool true, .int .u16 x, .agg #[.int .i64 k, .string s]])) w') :
    wpList Try.prog ops Q (o :: rest) a w :=
  wpList_next_ranges w hg it hop 22 law_u16 entR (Value.int .u16) (fun p : Int × ByteArray => entV p.1 p.2) (fun key kl hkey => by obtain ⟨x, rfl, _⟩ := Maps.keyOf_int_inv Try.underlying22 hkey; exact ⟨x, rfl⟩) (fun v y hv => by obtain ⟨k, s, rfl, _⟩ := entR_inv hv; exact ⟨(k, s), rfl⟩)
    b r n cD left cnt hit h hDone (fun x c kl y w' cnt' hkey hlk hv hat hrg hlt hgr hsz hen => by
      obtain ⟨x', ex, rfl, hwx⟩ := Maps.keyOf_int_inv Try.underlying22 hkey
      cases ex
      obtain ⟨k, s⟩ := c
      refine hMore x k s w' cnt' ?_ hlk hrg hlt hgr hsz hen
      have hy : y = (entD k s, []) := by rw [entR_mk] at hv; exact (Option.some.inj hv).symm
      subst hy
      have h1 := hat .nil
      unfold cD DataW.atKey at h1
      simp only [List.find?_map] at h1
      have e : ((fun p : Lit × DataW Unit => p.1.sameKey (.int .u16 x)) ∘ fun e : Int × Int × ByteArray => (Lit.int .u16 e.1, entD e.2.1 e.2.2)) = fun e => e.1 == x := by
        funext e
        rw [Bool.eq_iff_iff]
        simp [Lit.sameKey]
      rw [e] at h1
      cases hf : cSorted.find? (fun e => e.1 == x) with
      | none => rw [hf] at h1; simp [entD] at h1
      | some z =>
        rw [hf] at h1
        have hz := List.mem_of_find?_eq_some hf
        have hzx := List.find?_some hf
        simp only [Option.map_some] at h1
        obtain ⟨e1, e2⟩ := entD_inj h1
        obtain ⟨z1, z2, z3⟩ := z
        simp only at e1 e2
        have : z1 = x := by simpa using hzx
        subst this; subst e1; subst e2
        exact hz)

theorem codes_one : cSorted.Pairwise (fun a b => a.1 ≠ b.1) := by
  have h : (cSorted.map fun e => e.1).Nodup := by decide +kernel
  exact (List.pairwise_map.1 h)
theorem pair_one {l : List (Int × Int × ByteArray)} (hl : l.Pairwise (fun a b => a.1 ≠ b.1)) {a b : Int × Int × ByteArray} (ha : a ∈ l) (hb : b ∈ l) (h : a.1 = b.1) : a = b := by
  induction l with
  | nil => cases ha
  | cons x r ih =>
    obtain ⟨h1, h2⟩ := List.pairwise_cons.1 hl
    rcases List.mem_cons.1 ha with ea | ha1
    · rcases List.mem_cons.1 hb with eb | hb1
      · rw [ea, eb]
      · rw [ea] at h
        exact absurd h (h1 b hb1)
    · rcases List.mem_cons.1 hb with eb | hb1
      · rw [eb] at h
        exact absurd h.symm (h1 a ha1)
      · exact ih h2 ha1 hb1
theorem code_one {x k : Int} {s : ByteArray} {e : Int × Int × ByteArray} (h : (x, k, s) ∈ cSorted) (he : e ∈ cSorted) (hx : x = e.1) : s = e.2.2 := by
  have := pair_one codes_one h he hx
  rw [← this]
def findOf (name : ByteArray) : Int × Bool := match cSorted.find? (fun e => e.2.2.data.toList == name.data.toList) with
  | some e => (e.1, true)
  | none => (0, false)
def code_Find.f (a0 : ByteArray) : Option (Int × Bool) := some (findOf a0)
theorem names_one : cSorted.Pairwise (fun a b => a.2.2.data.toList ≠ b.2.2.data.toList) := by
  have h : (cSorted.map fun e => e.2.2.data.toList).Nodup := by decide +kernel
  exact (List.pairwise_map.1 h)
theorem find_hit {l : List (Int × Int × ByteArray)} (hl : l.Pairwise (fun a b => a.2.2.data.toList ≠ b.2.2.data.toList)) {e : Int × Int × ByteArray} (he : e ∈ l) : l.find? (fun x => x.2.2.data.toList == e.2.2.data.toList) = some e := by
  induction l with
  | nil => cases he
  | cons x r ih =>
    obtain ⟨h1, h2⟩ := List.pairwise_cons.1 hl
    rcases List.mem_cons.1 he with rfl | he
    · simp
    · rw [List.find?_cons_of_neg]
      · exact ih h2 he
      · simpa using h1 e he
theorem findOf_hit {x k : Int} {s name : ByteArray} (h : (x, k, s) ∈ cSorted) (hs : s.data.toList = name.data.toList) : findOf name = (x, true) := by
  unfold findOf
  rw [← hs]
  have := find_hit names_one h
  simp only at this
  rw [this]
theorem findOf_miss {name : ByteArray} (h : ∀ e ∈ cSorted, e.2.2.data.toList ≠ name.data.toList) : findOf name = (0, false) := by
  unfold findOf
  rw [List.find?_eq_none.2 (fun e he => by simpa using h e he)]

set_option maxHeartbeats 2000000 in
theorem code_Find.calls (a0 : ByteArray) (r1 : Int) (r2 : Bool) (w : World) (h : code_Find.f a0 = some (r1, r2)) : Calls Try.prog 20 #[.string a0] w fun e w' => e = .returned (.tuple #[.int .u16 r1, .bool r2]) ∧ Below w.heap.size w w' := by
  have h' : findOf a0 = (r1, r2) := Option.some.inj h
  have HF := Aside0.mk h'
  clear h h'
  go_enter Try.func20, Try.ntmps20
  go_wp2_with (first | (go_at_call 23; refine (code_table.calls w).mono ?_; rintro e w1 ⟨rfl, ho, hb⟩) | (refine wpList_range_own _ rfl _ _ rfl 22 35 law_u16 Try.underlying36 entR w.heap.size 41 cD rfl ho ?_; intro w2 hrg hg hs))
  go_frame
  have HB := Aside0.mk ((hb.grown hg hb.size (fun j hj => by cases hj)))
  have hr : w1.heap.size ≥ w.heap.size := hb.size
  have hlt : w.heap.size < w1.heap.size := ho.lt
  clear hb hg ho
  go_loopw [2] (fun _ wr => ∃ (left : Lit → Bool) (cnt : Nat), Aside0 (wr.ranges Try.prog 22 entR w.heap.size w1.heap.size 41 cD left cnt) ∧ Aside0 (∀ e ∈ cSorted, left (.int .u16 e.1) = false → e.2.2.data.toList ≠ a0.data.toList) ∧ Aside0 (Below w.heap.size w wr)) (fun _ wr => wr.rangeLeft w.heap.size w1.heap.size)
  case atStart =>
    refine ⟨_, _, ⟨hrg⟩, ⟨fun e he hl => ?_⟩, HB⟩
    exfalso
    have hh : Maps.has cD (.int .u16 e.1) = true := by
      unfold cD
      rw [Maps.has_eq, List.any_map, List.any_eq_true]
      exact ⟨e, he, by simp [Lit.sameKey]⟩
    rw [hh] at hl
    cases hl
  case round =>
    obtain ⟨left, cnt, HR, HL, HW⟩ := hrel
    clear HB hrg
    go_wp2_with (refine wpList_next_code rfl _ rfl w.heap.size w1.heap.size 41 left cnt rfl HR.out ?_ ?_)
    · intro hc0 hl0
      have hm := findOf_miss (fun e he => HL.out e he (hl0 _))
      rw [HF.out] at hm
      obtain ⟨rfl, rfl⟩ := Prod.mk.inj hm
      clear hl0 hm hc0
      go_wp2
      go_ret2
      exact ⟨rfl, HW.out⟩
    · intro x k s w2 cnt2 hmem hleft hrg2 hlt2 hgr hsz hen
      have HMEM := Aside0.mk hmem
      have HLEFT := Aside0.mk hleft
      have HR2 := Aside0.mk (hrg2.alloc (.cells #[.int .i64 k, .string s] 35 (0, 0)))
      have HLT := Aside0.mk hlt2
      have HW2 := Aside0.mk (HW.out.grown hgr HW.out.size (fun j hj => by cases hj; exact hr))
      have HEN := Aside0.mk hen
      clear hmem hleft hrg2 hlt2 hgr hsz hen
      by_cases hs : s.data.toList = a0.data.toList
      · have hf := findOf_hit HMEM.out hs
        rw [HF.out] at hf
        obtain ⟨rfl, rfl⟩ := Prod.mk.inj hf
        have hsb : (s.toList == a0.toList) = true := by rw [ByteArray.toList_eq, ByteArray.toList_eq]; simpa using hs
        have hen := HEN.out
        clear hf hs
        go_wp2
        go_ret2
        exact ⟨rfl, HW2.out.alloc HW2.out.size _⟩
      · have hsb : (s.toList == a0.toList) = false := by rw [ByteArray.toList_eq, ByteArray.toList_eq]; simpa using hs
        have HS := Aside0.mk hs
        have hen := HEN.out
        clear hs
        go_wp2
        refine ⟨⟨_, cnt2, HR2, ⟨fun e he hl => ?_⟩, ⟨HW2.out.alloc HW2.out.size _⟩⟩, ?_⟩
        · by_cases hx : e.1 = x
          · have e2 := code_one HMEM.out he hx.symm
            rw [← e2]
            exact HS.out
          · refine HL.out e he ?_
            simp only [Lit.sameKey] at hl
            simpa [hx] using hl
        · rw [HR2.out.left_eq, HR.out.left_eq]
          exact HLT.out
end Go.Proofs.Ytkcecfoeimpfeaa.Pr
