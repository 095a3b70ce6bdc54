/- code.table: the map that it makes, as read; code.Kind, code.Name out of it. | code.Kind, code.Name: what they answer. | code.Find: what it answers, whatever order the map is gone through. -/
import Derived.Test.YtnagbdcpmbjnpaaDoorPr0
import Derived.Maps.OwnSet
import Derived.Maps.RangeWalk
namespace Go.Proofs.YtnagbdcpmbjnpaaDoor.Pr
set_option linter.unusedSimpArgs false
set_option linter.unusedVariables false
open Go.RowKit Go.Maps Go.Proofs.YtnagbdcpmbjnpaaDoorW.PrintWords Go.Proofs.YtnagbdcpmbjnpaaDoorW.PrintLast Go.Proofs.YtnagbdcpmbjnpaaDoorW.PrintMore

/-- The codes: number, kind, name; as the text has them, and rising. -/
def cTab : List (Int × Int × ByteArray) := [(32, 1, ⟨#[108, 100]⟩), (128, 2, ⟨#[108, 100, 108, 101, 110]⟩), (0, 3, ⟨#[108, 100, 105]⟩), (96, 4, ⟨#[108, 100, 109]⟩), (1, 5, ⟨#[108, 100, 120, 105]⟩), (97, 6, ⟨#[108, 100, 120, 109]⟩), (129, 7, ⟨#[108, 100, 120, 108, 101, 110]⟩), (2, 8, ⟨#[115, 116]⟩), (3, 9, ⟨#[115, 116, 120]⟩), (4, 10, ⟨#[97, 100, 100]⟩), (20, 10, ⟨#[115, 117, 98]⟩), (36, 10, ⟨#[109, 117, 108]⟩), (52, 10, ⟨#[100, 105, 118]⟩), (68, 10, ⟨#[111, 114]⟩), (84, 10, ⟨#[97, 110, 100]⟩), (100, 10, ⟨#[108, 115, 104]⟩), (116, 10, ⟨#[114, 115, 104]⟩), (164, 10, ⟨#[120, 111, 114]⟩), (12, 10, ⟨#[97, 100, 100, 120]⟩), (28, 10, ⟨#[115, 117, 98, 120]⟩), (44, 10, ⟨#[109, 117, 108, 120]⟩), (60, 10, ⟨#[100, 105, 118, 120]⟩), (76, 10, ⟨#[111, 114, 120]⟩), (92, 10, ⟨#[97, 110, 100, 120]⟩), (108, 10, ⟨#[108, 115, 104, 120]⟩), (124, 10, ⟨#[114, 115, 104, 120]⟩), (172, 10, ⟨#[120, 111, 114, 120]⟩), (132, 10, ⟨#[110, 101, 103]⟩), (5, 11, ⟨#[106, 97]⟩), (21, 12, ⟨#[106, 101, 113]⟩), (37, 12, ⟨#[106, 103, 116]⟩), (53, 12, ⟨#[106, 103, 101]⟩), (69, 12, ⟨#[106, 115, 101, 116]⟩), (29, 12, ⟨#[106, 101, 113, 120]⟩), (45, 12, ⟨#[106, 103, 116, 120]⟩), (61, 12, ⟨#[106, 103, 101, 120]⟩), (77, 12, ⟨#[106, 115, 101, 116, 120]⟩), (6, 13, ⟨#[114, 101, 116]⟩), (22, 14, ⟨#[114, 101, 116, 97]⟩), (7, 15, ⟨#[116, 97, 120]⟩), (135, 16, ⟨#[116, 120, 97]⟩)]
def cSorted : List (Int × Int × ByteArray) := [(0, 3, ⟨#[108, 100, 105]⟩), (1, 5, ⟨#[108, 100, 120, 105]⟩), (2, 8, ⟨#[115, 116]⟩), (3, 9, ⟨#[115, 116, 120]⟩), (4, 10, ⟨#[97, 100, 100]⟩), (5, 11, ⟨#[106, 97]⟩), (6, 13, ⟨#[114, 101, 116]⟩), (7, 15, ⟨#[116, 97, 120]⟩), (12, 10, ⟨#[97, 100, 100, 120]⟩), (20, 10, ⟨#[115, 117, 98]⟩), (21, 12, ⟨#[106, 101, 113]⟩), (22, 14, ⟨#[114, 101, 116, 97]⟩), (28, 10, ⟨#[115, 117, 98, 120]⟩), (29, 12, ⟨#[106, 101, 113, 120]⟩), (32, 1, ⟨#[108, 100]⟩), (36, 10, ⟨#[109, 117, 108]⟩), (37, 12, ⟨#[106, 103, 116]⟩), (44, 10, ⟨#[109, 117, 108, 120]⟩), (45, 12, ⟨#[106, 103, 116, 120]⟩), (52, 10, ⟨#[100, 105, 118]⟩), (53, 12, ⟨#[106, 103, 101]⟩), (60, 10, ⟨#[100, 105, 118, 120]⟩), (61, 12, ⟨#[106, 103, 101, 120]⟩), (68, 10, ⟨#[111, 114]⟩), (69, 12, ⟨#[106, 115, 101, 116]⟩), (76, 10, ⟨#[111, 114, 120]⟩), (77, 12, ⟨#[106, 115, 101, 116, 120]⟩), (84, 10, ⟨#[97, 110, 100]⟩), (92, 10, ⟨#[97, 110, 100, 120]⟩), (96, 4, ⟨#[108, 100, 109]⟩), (97, 6, ⟨#[108, 100, 120, 109]⟩), (100, 10, ⟨#[108, 115, 104]⟩), (108, 10, ⟨#[108, 115, 104, 120]⟩), (116, 10, ⟨#[114, 115, 104]⟩), (124, 10, ⟨#[114, 115, 104, 120]⟩), (128, 2, ⟨#[108, 100, 108, 101, 110]⟩), (129, 7, ⟨#[108, 100, 120, 108, 101, 110]⟩), (132, 10, ⟨#[110, 101, 103]⟩), (135, 16, ⟨#[116, 120, 97]⟩), (164, 10, ⟨#[120, 111, 114]⟩), (172, 10, ⟨#[120, 111, 114, 120]⟩)]

def entV (k : Int) (s : ByteArray) : Value := .agg #[.int .i64 k, .string s]
def entD (k : Int) (s : ByteArray) : DataW Unit := .agg [.lit (.int .i64 k), .lit (.string s.data.toList)]
def entR : Value → Option (DataW Unit × List MemPlace)
  | .agg ⟨[.int .i64 k, .string s]⟩ => some (entD k s, [])
  | _ => none
theorem entR_mk (k : Int) (s : ByteArray) : entR (entV k s) = some (entD k s, []) := rfl
theorem entR_inv {v : Value} {y : DataW Unit × List MemPlace} (h : entR v = some y) : ∃ k s, v = entV k s ∧ y = (entD k s, []) := by
  unfold entR at h
  split at h
  · cases h; exact ⟨_, _, rfl, rfl⟩
  · cases h
theorem entD_inj {k k' : Int} {s s' : ByteArray} (h : entD k s = entD k' s') : k = k' ∧ s = s' := by
  unfold entD at h
  injection h with h
  injection h with h1 h2
  injection h2 with h2 _
  injection h1 with h1
  injection h1 with _ h1
  injection h2 with h2
  injection h2 with h2
  refine ⟨h1, ?_⟩
  cases s; cases s'
  simp at h2
  rw [h2]
def cPut (D : DataW Unit) (e : Int × Int × ByteArray) : DataW Unit := D.put (.int .u16 e.1) (entD e.2.1 e.2.2)
def cD : DataW Unit := .map (cSorted.map fun e => (Lit.int .u16 e.1, entD e.2.1 e.2.2))
theorem cD_eq : cTab.foldl cPut (.map []) = cD := by kernel_rfl
theorem law_u16 : Keyed Tryd.prog 22 := int_keyed Tryd.underlying22

/-- A literal's next entry. -/
theorem wpList_ins {H : Type} {P : Program} (w : World) {ops : Array Oper} {rest : List Oper} {o : Oper} {a : Act} {Q : Exit → Act → World → Prop}
    (hg : o.guard = none) (m x v : Operand) (t : TypeId) (hop : o.op = Op.insert t m x v)
    (k e : TypeId) (K : Keyed P k) (ht : P.underlying t = some (.map k e)) (R : Value → Option (DataW H × List MemPlace)) (b n : Nat) (D : DataW H)
    (hm : a.eval m = .map (some b)) (hown : w.ownsMap P k R b n D) (hn : n < maxLen) (key val : Value) (kl : Lit) (hx : a.eval x = key) (hv : a.eval v = val) (hkey : keyOf P k key = some kl)
    (d : DataW H) (ps : List MemPlace) (hval : R val = some (d, ps))
    (hK : ∀ w', w'.ownsMap P k R b (n + 1) (D.put kl d) → w.grownBy w' (some b) → wpList P ops Q rest (a.put o.dst undef) w') :
    wpList P ops Q (o :: rest) a w := by
  refine wpList_plain hg fun K' hK' => ?_
  obtain ⟨w', hrun, r1, r2⟩ := hown.update K ht hn hkey hval
  unfold Oper.wp
  simp [execOp, hop, hm, hx, hv, hrun, Result.andThen]
  exact hK' _ _ (hK w' r1 r2)
theorem u16_key (c : Int) (h : (Lit.int .u16 c).wf = true) : keyOf Tryd.prog 22 (.int .u16 c) = some (.int .u16 c) := keyOf_int_mk Tryd.underlying22 h
theorem wpList_cins {w : World} {ops : Array Oper} {rest : List Oper} {o : Oper} {a : Act} {Q : Exit → Act → World → Prop} (hg : o.guard = none) (m v : Operand) (c : Int) (hop : o.op = Op.insert 86 m (.const (.int .u16 c)) v)
    (b n : Nat) (D : DataW Unit) (hm : a.eval m = .map (some b)) (hown : w.ownsMap Tryd.prog 22 entR b n D) (hn : n < 1000) (k : Int) (s : ByteArray) (hv : a.eval v = .agg #[.int .i64 k, .string s]) (hc : (Lit.int .u16 c).wf = true)
    (hK : ∀ w', w'.ownsMap Tryd.prog 22 entR b (n + 1) (cPut D (c, k, s)) → w.grownBy w' (some b) → wpList Tryd.prog ops Q rest (a.put o.dst undef) w') : wpList Tryd.prog ops Q (o :: rest) a w :=
  wpList_ins w hg m (.const (.int .u16 c)) v 86 hop 22 85 law_u16 Tryd.underlying86 entR b n D hm hown (by unfold maxLen; omega) _ _ _ rfl hv (u16_key c hc) _ _ (entR_mk k s) hK

set_option maxHeartbeats 4000000 in
set_option maxRecDepth 100000 in
theorem code_table.calls (w : World) : Calls Tryd.prog 38 #[] w fun e w' => e = .returned (.map (some w.heap.size)) ∧ w'.ownsMap Tryd.prog 22 entR w.heap.size 41 cD ∧ Below w.heap.size w w' := by
  have hmm := @run_makeMap Tryd.prog
  have key : ∀ w' : World, w'.ownsMap Tryd.prog 22 entR w.heap.size (cTab.length) (cTab.foldl cPut (.map [])) → w'.ownsMap Tryd.prog 22 entR w.heap.size 41 cD := by
    intro w' h
    rw [cD_eq] at h
    exact h
  have KEY := Aside0.mk key
  clear key
  have HO := Aside0.mk (World.ownsMap_made w Tryd.prog 22 entR)
  have HB := Aside0.mk ((Below.refl w.heap.size w).alloc (Nat.le_refl _) (.map #[] 0))
  go_enter Tryd.func38, Tryd.ntmps38
  go_upto_region 1 with (fail)
  simp only [List.append]
  go_wp2_with (refine wpList_cins rfl _ _ _ rfl _ _ _ rfl HO.out (by omega) _ _ rfl (by decide) ?_; (intro w1 hown1 hg1; have HB1 := Aside0.mk (HB.out.grown hg1 HB.out.size (fun j hj => by cases hj; exact Nat.le_refl _)); clear HO HB hg1; have HO := Aside0.mk hown1; clear hown1; have HB := HB1; clear HB1))
  go_ret
  exact ⟨rfl, KEY.out _ HO.out, HB.out⟩

end Go.Proofs.YtnagbdcpmbjnpaaDoor.Pr

namespace Go.Proofs.YtnagbdcpmbjnpaaDoor.Pr
set_option linter.unusedSimpArgs false
set_option linter.unusedVariables false
open Go.RowKit Go.Maps Go.Proofs.YtnagbdcpmbjnpaaDoorW.PrintWords Go.Proofs.YtnagbdcpmbjnpaaDoorW.PrintLast Go.Proofs.YtnagbdcpmbjnpaaDoorW.PrintMore

/-! ### lookups -/
def cAt (c : Int) : Int × ByteArray := match cSorted.find? (fun e => e.1 == c) with
  | some e => e.2
  | none => (0, ⟨#[]⟩)
theorem cD_at (c : Int) : cD.atKey (.int .u16 c) (entD 0 ⟨#[]⟩) = entD (cAt c).1 (cAt c).2 := by
  unfold cD cAt DataW.atKey
  simp only [List.find?_map]
  have e : ((fun p : Lit × DataW Unit => p.1.sameKey (.int .u16 c)) ∘ fun e : Int × Int × ByteArray => (Lit.int .u16 e.1, entD e.2.1 e.2.2)) = fun e => e.1 == c := by
    funext e
    rw [Bool.eq_iff_iff]
    simp [Lit.sameKey]
  rw [e]
  cases h : cSorted.find? (fun e => e.1 == c) with
  | none => rfl
  | some x => rfl
theorem zero_ent (w : World) : (zeroValue 85).run Tryd.prog w = .ok (entV 0 ⟨#[]⟩) w := by kernel_rfl
theorem look_ent {w : World} {b n : Nat} (h : w.ownsMap Tryd.prog 22 entR b n cD) (c : Int) (hc : (Lit.int .u16 c).wf = true) :
    (Instr.lookup 86 (.map (some b)) (.int .u16 c) false).run Tryd.prog w = .ok (.agg #[.int .i64 (cAt c).1, .string (cAt c).2]) w := by
  obtain ⟨v, ps, hrun, hv⟩ := h.lookup law_u16 Tryd.underlying86 (zero_ent w) (entR_mk 0 ⟨#[]⟩) (u16_key c hc)
  obtain ⟨k, s, rfl, hy⟩ := entR_inv hv
  have hy' := (Prod.mk.inj hy).1
  rw [cD_at] at hy'
  obtain ⟨h1, h2⟩ := entD_inj hy'
  rw [h1, h2]
  exact hrun

theorem ent_0 (k : Int) (s : ByteArray) (W : World) : (Instr.field 85 (.agg #[.int .i64 k, .string s]) 0).run Tryd.prog W = .ok (.int .i64 k) W := by kernel_rfl
theorem ent_1 (k : Int) (s : ByteArray) (W : World) : (Instr.field 85 (.agg #[.int .i64 k, .string s]) 1).run Tryd.prog W = .ok (.string s) W := by kernel_rfl
def code_Kind.f (a0 : Int) : Option Int := if (Lit.int .u16 a0).wf = true then some (cAt a0).1 else none
def code_Name.f (a0 : Int) : Option ByteArray := if (Lit.int .u16 a0).wf = true then some (cAt a0).2 else none
set_option maxHeartbeats 1000000 in
set_option maxRecDepth 100000 in
theorem code_Kind.calls (a0 : Int) (r : Int) (w : World) (h : code_Kind.f a0 = some r) : Calls Tryd.prog 39 #[.int .u16 a0] w fun e w' => e = .returned (.int .i64 r) ∧ Below w.heap.size w w' := by
  unfold code_Kind.f at h
  split at h
  case isFalse => cases h
  rename_i hwf
  obtain rfl := Option.some.inj h
  clear h
  have HW := Aside0.mk hwf
  clear hwf
  go_enter Tryd.func39, Tryd.ntmps39
  go_wp2_with (go_at_call 38; refine (code_table.calls w).mono ?_; rintro e w1 ⟨rfl, ho, hb⟩)
  have HR := Aside0.mk (look_ent ho a0 HW.out)
  have HB := Aside0.mk hb
  clear ho hb
  go_wp2
  rw [HR.out]
  simp only [Result.andThen]
  rw [Oper.upon_value]
  go_wp2
  rw [ent_0]
  simp only [Result.andThen]
  rw [Oper.upon_value]
  go_wp2
  go_ret
  exact ⟨rfl, HB.out⟩
set_option maxHeartbeats 1000000 in
set_option maxRecDepth 100000 in
theorem code_Name.calls (a0 : Int) (r : ByteArray) (w : World) (h : code_Name.f a0 = some r) : Calls Tryd.prog 21 #[.int .u16 a0] w fun e w' => e = .returned (.string r) ∧ Below w.heap.size w w' := by
  unfold code_Name.f at h
  split at h
  case isFalse => cases h
  rename_i hwf
  obtain rfl := Option.some.inj h
  clear h
  have HW := Aside0.mk hwf
  clear hwf
  go_enter Tryd.func21, Tryd.ntmps21
  go_wp2_with (go_at_call 38; refine (code_table.calls w).mono ?_; rintro e w1 ⟨rfl, ho, hb⟩)
  have HR := Aside0.mk (look_ent ho a0 HW.out)
  have HB := Aside0.mk hb
  clear ho hb
  go_wp2
  rw [HR.out]
  simp only [Result.andThen]
  rw [Oper.upon_value]
  go_wp2
  rw [ent_1]
  simp only [Result.andThen]
  rw [Oper.upon_value]
  go_wp2
  go_ret
  exact ⟨rfl, HB.out⟩
end Go.Proofs.YtnagbdcpmbjnpaaDoor.Pr

namespace Go.Proofs.YtnagbdcpmbjnpaaDoor.Pr
set_option linter.unusedSimpArgs false
set_option linter.unusedVariables false
open Go.RowKit Go.Maps Go.Proofs.YtnagbdcpmbjnpaaDoorW.PrintWords Go.Proofs.YtnagbdcpmbjnpaaDoorW.PrintLast Go.Proofs.YtnagbdcpmbjnpaaDoorW.PrintMore

/-- The step of a range over the codes' map. -/
theorem wpList_next_code {w : World} {ops : Array Oper} {rest : List Oper} {o : Oper} {a : Act} {Q : Exit → Act → World → Prop} (hg : o.guard = none) (it : Operand) (hop : o.op = Op.next it false) (b r n : Nat) (left : Lit → Bool) (cnt : Nat)
    (hit : a.eval it = .pointer (some ⟨r, 0, none⟩)) (h : w.ranges Tryd.prog 22 entR b r n cD left cnt)
    (hDone : cnt = 0 → (∀ kl, left kl = false) → wpList Tryd.prog ops Q rest (a.put o.dst (.tuple #[.bool false])) w)
    (hMore : ∀ (x k : Int) (s : ByteArray) (w' : World) (cnt' : Nat), (x, k, s) ∈ cSorted → left (.int .u16 x) = true → w'.ranges Tryd.prog 22 entR b r n cD (fun z => left z && !z.sameKey (.int .u16 x)) cnt' → cnt' < cnt →
      w.grownBy w' (some r) → w'.heap.size = w.heap.size → (Instr.entry (.pointer (some ⟨r, 0, none⟩))).run Tryd.prog w' = .ok (.tuple #[.int .u16 x, .agg #[.int .i64 k, .string s]]) w' →
      wpList Tryd.prog ops Q rest (a.put o.dst (.tuple #[.bool true, .int .u16 x, .agg #[.int .i64 k, .string s]])) w') :
    wpList Tryd.prog ops Q (o :: rest) a w :=
  wpList_next_ranges w hg it hop 22 law_u16 entR (Value.int .u16) (fun p : Int × ByteArray => entV p.1 p.2) (fun key kl hkey => by obtain ⟨x, rfl, _⟩ := Maps.keyOf_int_inv Tryd.underlying22 hkey; exact ⟨x, rfl⟩) (fun v y hv => by obtain ⟨k, s, rfl, _⟩ := entR_inv hv; exact ⟨(k, s), rfl⟩)
    b r n cD left cnt hit h hDone (fun x c kl y w' cnt' hkey hlk hv hat hrg hlt hgr hsz hen => by
      obtain ⟨x', ex, rfl, hwx⟩ := Maps.keyOf_int_inv Tryd.underlying22 hkey
      cases ex
      obtain ⟨k, s⟩ := c
      refine hMore x k s w' cnt' ?_ hlk hrg hlt hgr hsz hen
      have hy : y = (entD k s, []) := by rw [entR_mk] at hv; exact (Option.some.inj hv).symm
      subst hy
      have h1 := hat .nil
      unfold cD DataW.atKey at h1
      simp only [List.find?_map] at h1
      have e : ((fun p : Lit × DataW Unit => p.1.sameKey (.int .u16 x)) ∘ fun e : Int × Int × ByteArray => (Lit.int .u16 e.1, entD e.2.1 e.2.2)) = fun e => e.1 == x := by
        funext e
        rw [Bool.eq_iff_iff]
        simp [Lit.sameKey]
      rw [e] at h1
      cases hf : cSorted.find? (fun e => e.1 == x) with
      | none => rw [hf] at h1; simp [entD] at h1
      | some z =>
        rw [hf] at h1
        have hz := List.mem_of_find?_eq_some hf
        have hzx := List.find?_some hf
        simp only [Option.map_some] at h1
        obtain ⟨e1, e2⟩ := entD_inj h1
        obtain ⟨z1, z2, z3⟩ := z
        simp only at e1 e2
        have : z1 = x := by simpa using hzx
        subst this; subst e1; subst e2
        exact hz)

theorem codes_one : cSorted.Pairwise (fun a b => a.1 ≠ b.1) := by
  have h : (cSorted.map fun e => e.1).Nodup := by decide +kernel
  exact (List.pairwise_map.1 h)
theorem pair_one {l : List (Int × Int × ByteArray)} (hl : l.Pairwise (fun a b => a.1 ≠ b.1)) {a b : Int × Int × ByteArray} (ha : a ∈ l) (hb : b ∈ l) (h : a.1 = b.1) : a = b := by
  induction l with
  | nil => cases ha
  | cons x r ih =>
    obtain ⟨h1, h2⟩ := List.pairwise_cons.1 hl
    rcases List.mem_cons.1 ha with ea | ha1
    · rcases List.mem_cons.1 hb with eb | hb1
      · rw [ea, eb]
      · rw [ea] at h
        exact absurd h (h1 b hb1)
    · rcases List.mem_cons.1 hb with eb | hb1
      · rw [eb] at h
        exact absurd h.symm (h1 a ha1)
      · exact ih h2 ha1 hb1
theorem code_one {x k : Int} {s : ByteArray} {e : Int × Int × ByteArray} (h : (x, k, s) ∈ cSorted) (he : e ∈ cSorted) (hx : x = e.1) : s = e.2.2 := by
  have := pair_one codes_one h he hx
  rw [← this]
def findOf (name : ByteArray) : Int × Bool := match cSorted.find? (fun e => e.2.2.data.toList == name.data.toList) with
  | some e => (e.1, true)
  | none => (0, false)
def code_Find.f (a0 : ByteArray) : Option (Int × Bool) := some (findOf a0)
theorem names_one : cSorted.Pairwise (fun a b => a.2.2.data.toList ≠ b.2.2.data.toList) := by
  have h : (cSorted.map fun e => e.2.2.data.toList).Nodup := by decide +kernel
  exact (List.pairwise_map.1 h)
theorem find_hit {l : List (Int × Int × ByteArray)} (hl : l.Pairwise (fun a b => a.2.2.data.toList ≠ b.2.2.data.toList)) {e : Int × Int × ByteArray} (he : e ∈ l) : l.find? (fun x => x.2.2.data.toList == e.2.2.data.toList) = some e := by
  induction l with
  | nil => cases he
  | cons x r ih =>
    obtain ⟨h1, h2⟩ := List.pairwise_cons.1 hl
    rcases List.mem_cons.1 he with rfl | he
    · simp
    · rw [List.find?_cons_of_neg]
      · exact ih h2 he
      · simpa using h1 e he
theorem findOf_hit {x k : Int} {s name : ByteArray} (h : (x, k, s) ∈ cSorted) (hs : s.data.toList = name.data.toList) : findOf name = (x, true) := by
  unfold findOf
  rw [← hs]
  have := find_hit names_one h
  simp only at this
  rw [this]
theorem findOf_miss {name : ByteArray} (h : ∀ e ∈ cSorted, e.2.2.data.toList ≠ name.data.toList) : findOf name = (0, false) := by
  unfold findOf
  rw [List.find?_eq_none.2 (fun e he => by simpa using h e he)]

set_option maxHeartbeats 2000000 in
set_option maxRecDepth 100000 in
theorem code_Find.calls (a0 : ByteArray) (r1 : Int) (r2 : Bool) (w : World) (h : code_Find.f a0 = some (r1, r2)) : Calls Tryd.prog 28 #[.string a0] w fun e w' => e = .returned (.tuple #[.int .u16 r1, .bool r2]) ∧ Below w.heap.size w w' := by
  have h' : findOf a0 = (r1, r2) := Option.some.inj h
  have HF := Aside0.mk h'
  clear h h'
  go_enter Tryd.func28, Tryd.ntmps28
  go_wp2_with (first | (go_at_call 38; refine (code_table.calls w).mono ?_; rintro e w1 ⟨rfl, ho, hb⟩) | (refine wpList_range_own _ rfl _ _ rfl 22 85 law_u16 Tryd.underlying86 entR w.heap.size 41 cD rfl ho ?_; intro w2 hrg hg hs))
  go_frame
  have HB := Aside0.mk ((hb.grown hg hb.size (fun j hj => by cases hj)))
  have hr : w1.heap.size ≥ w.heap.size := hb.size
  have hlt : w.heap.size < w1.heap.size := ho.lt
  clear hb hg ho
  go_loopw [2] (fun _ wr => ∃ (left : Lit → Bool) (cnt : Nat), Aside0 (wr.ranges Tryd.prog 22 entR w.heap.size w1.heap.size 41 cD left cnt) ∧ Aside0 (∀ e ∈ cSorted, left (.int .u16 e.1) = false → e.2.2.data.toList ≠ a0.data.toList) ∧ Aside0 (Below w.heap.size w wr)) (fun _ wr => wr.rangeLeft w.heap.size w1.heap.size)
  case atStart =>
    refine ⟨_, _, ⟨hrg⟩, ⟨fun e he hl => ?_⟩, HB⟩
    exfalso
    have hh : Maps.has cD (.int .u16 e.1) = true := by
      unfold cD
      rw [Maps.has_eq, List.any_map, List.any_eq_true]
      exact ⟨e, he, by simp [Lit.sameKey]⟩
    rw [hh] at hl
    cases hl
  case round =>
    obtain ⟨left, cnt, HR, HL, HW⟩ := hrel
    clear HB hrg
    go_wp2_with (refine wpList_next_code rfl _ rfl w.heap.size w1.heap.size 41 left cnt rfl HR.out ?_ ?_)
    · intro hc0 hl0
      have hm := findOf_miss (fun e he => HL.out e he (hl0 _))
      rw [HF.out] at hm
      obtain ⟨rfl, rfl⟩ := Prod.mk.inj hm
      clear hl0 hm hc0
      go_wp2
      go_ret2
      exact ⟨rfl, HW.out⟩
    · intro x k s w2 cnt2 hmem hleft hrg2 hlt2 hgr hsz hen
      have HMEM := Aside0.mk hmem
      have HLEFT := Aside0.mk hleft
      have HR2 := Aside0.mk (hrg2.alloc (.cells #[.int .i64 k, .string s] 85 (0, 0)))
      have HLT := Aside0.mk hlt2
      have HW2 := Aside0.mk (HW.out.grown hgr HW.out.size (fun j hj => by cases hj; exact hr))
      have HEN := Aside0.mk hen
      clear hmem hleft hrg2 hlt2 hgr hsz hen
      by_cases hs : s.data.toList = a0.data.toList
      · have hf := findOf_hit HMEM.out hs
        rw [HF.out] at hf
        obtain ⟨rfl, rfl⟩ := Prod.mk.inj hf
        have hsb : (s.toList == a0.toList) = true := by rw [ByteArray.toList_eq, ByteArray.toList_eq]; simpa using hs
        have hen := HEN.out
        clear hf hs
        go_wp2
        go_ret2
        exact ⟨rfl, HW2.out.alloc HW2.out.size _⟩
      · have hsb : (s.toList == a0.toList) = false := by rw [ByteArray.toList_eq, ByteArray.toList_eq]; simpa using hs
        have HS := Aside0.mk hs
        have hen := HEN.out
        clear hs
        go_wp2
        refine ⟨⟨_, cnt2, HR2, ⟨fun e he hl => ?_⟩, ⟨HW2.out.alloc HW2.out.size _⟩⟩, ?_⟩
        · by_cases hx : e.1 = x
          · have e2 := code_one HMEM.out he hx.symm
            rw [← e2]
            exact HS.out
          · refine HL.out e he ?_
            simp only [Lit.sameKey] at hl
            simpa [hx] using hl
        · rw [HR2.out.left_eq, HR.out.left_eq]
          exact HLT.out
end Go.Proofs.YtnagbdcpmbjnpaaDoor.Pr
