/- table.Name, table.Find: what they answer, whatever order the map is gone through. -/
import Derived.Test.YtpgjcjgmokfofaaDoorGTab19
import Derived.Maps.RangeWalk
import Derived.Laws.IdiomRangeMap
namespace Go.Proofs.YtpgjcjgmokfofaaDoor.Pr
set_option linter.unusedSimpArgs false
set_option linter.unusedVariables false
open Go.RowKit Go.Maps Go.Proofs.YtpgjcjgmokfofaaDoorW.PrintWords Go.Proofs.YtpgjcjgmokfofaaDoorW.PrintLast Go.Proofs.YtpgjcjgmokfofaaDoorW.PrintMore

/-- A name of a table; none: the empty one. -/
def tAt (l : List (Int × ByteArray)) (n : Int) : ByteArray := match l.find? (fun e => e.1 == n) with
  | some e => e.2
  | none => ⟨#[]⟩
def WfTab (l : List (Int × ByteArray)) : Prop := ∀ e ∈ l, (Lit.int .u32 e.1).wf = true
theorem same_kL {a x n : Int} (ha : (Lit.int .u32 a).wf = true) (hx : (Lit.int .u32 x).wf = true) (hn : (Lit.int .u32 n).wf = true) : (kL a x).sameKey (kL a n) = (x == n) := by
  rw [Bool.eq_iff_iff]
  have h : (kL a x).sameKey (kL a n) = true ↔ kL a x = kL a n := by
    unfold kL
    simp [Lit.sameKey]
  rw [h, beq_iff_eq]
  exact ⟨fun e => (kL_inj ha hx ha hn e).2, fun e => by rw [e]⟩
theorem tD_at {A n : Int} {l : List (Int × ByteArray)} (hA : (Lit.int .u32 A).wf = true) (hn : (Lit.int .u32 n).wf = true) (hl : WfTab l) (zd : DataW Unit) :
    (tD A l).atKey (kL A n) zd = match l.find? (fun e => e.1 == n) with
      | some e => eD e.2
      | none => zd := by
  unfold tD DataW.atKey
  simp only [List.find?_map]
  have e : l.find? ((fun p : Lit × DataW Unit => p.1.sameKey (kL A n)) ∘ fun e : Int × ByteArray => (kL A e.1, eD e.2)) = l.find? fun e => e.1 == n := by
    induction l with
    | nil => rfl
    | cons x r ih =>
      have hx := same_kL hA (hl x (List.mem_cons_self ..)) hn
      rw [List.find?_cons, List.find?_cons]
      simp only [Function.comp_apply, hx]
      rw [ih (fun y hy => hl y (List.mem_cons_of_mem _ hy))]
  rw [e]
  cases l.find? (fun e => e.1 == n) <;> rfl
theorem tabOf_wf (a : Int) : WfTab (tabOf a) := by
  unfold tabOf
  split
  · unfold WfTab; decide +kernel
  · split
    · unfold WfTab; decide +kernel
    · split
      · unfold WfTab; decide +kernel
      · intro e he; cases he
theorem zero_e (w : World) : (zeroValue 39).run Tryd.prog w = .ok (eV ⟨#[]⟩) w := by kernel_rfl
theorem look_t {w : World} {v : Value} {B : Nat} {a n : Int} (h : NamesAt B a v w) (ha : (Lit.int .u32 a).wf = true) (hn : (Lit.int .u32 n).wf = true) :
    (Instr.lookup 40 v (.agg #[.int .u32 a, .int .u32 n]) false).run Tryd.prog w = .ok (.agg #[.string (tAt (tabOf a) n)]) w := by
  rcases h with ⟨rfl, h0⟩ | ⟨m, rfl, ho, _⟩
  · rw [h0]
    exact Maps.look_nil false lawK Tryd.underlying40 (zero_e w) (key_of ha hn)
  · obtain ⟨v, ps, hrun, hv⟩ := ho.lookup lawK Tryd.underlying40 (zero_e w) (eR_mk ⟨#[]⟩) (key_of ha hn)
    obtain ⟨s, rfl, hy⟩ := eR_inv hv
    have hy' := (Prod.mk.inj hy).1
    rw [tD_at ha hn (tabOf_wf a)] at hy'
    have : s = tAt (tabOf a) n := by
      unfold tAt
      cases hf : (tabOf a).find? (fun e => e.1 == n) with
      | none => rw [hf] at hy'; exact (eD_inj hy').symm
      | some e => rw [hf] at hy'; exact (eD_inj hy').symm
    rw [this] at hrun
    exact hrun
theorem ent_f (s : ByteArray) (W : World) : (Instr.field 39 (.agg #[.string s]) 0).run Tryd.prog W = .ok (.string s) W := by kernel_rfl
def table_Name.f (a0 a1 : Int) : Option ByteArray := if (Lit.int .u32 a0).wf = true ∧ (Lit.int .u32 a1).wf = true then some (tAt (tabOf a0) a1) else none
set_option maxHeartbeats 1000000 in
set_option maxRecDepth 100000 in
theorem table_Name.calls (a0 a1 : Int) (r : ByteArray) (w : World) (h : table_Name.f a0 a1 = some r) : Calls Tryd.prog 9 #[.int .u32 a0, .int .u32 a1] w fun e w' => e = .returned (.string r) ∧ Below w.heap.size w w' := by
  unfold table_Name.f at h
  split at h
  case isFalse => cases h
  rename_i hwf
  obtain rfl := Option.some.inj h
  clear h
  have HA := Aside0.mk hwf.1
  have HN := Aside0.mk hwf.2
  clear hwf
  go_enter Tryd.func9, Tryd.ntmps9
  go_wp2_with (go_at_call 23; refine (table_names.calls a0 w).mono ?_; rintro e w1 ⟨v, rfl, ho, hb⟩)
  have HR := Aside0.mk (look_t ho HA.out HN.out)
  have HB := Aside0.mk hb
  clear ho hb
  go_wp2
  rw [HR.out]
  simp only [Result.andThen]
  rw [Oper.upon_value]
  go_wp2
  rw [ent_f]
  simp only [Result.andThen]
  rw [Oper.upon_value]
  go_wp2
  go_ret
  exact ⟨rfl, HB.out⟩

/-! ### Find -/
theorem lit_one {m : Nat} {c : Value} {ls : List Lit} (h : Tryd.prog.keyLits (m + 1) 22 [c] = some ls) : ∃ z, c = .int .u32 z ∧ ls = [.int .u32 z] ∧ (Lit.int .u32 z).wf = true := by
  have h1 : Tryd.prog.underlying 22 = some (.int .u32) := Tryd.underlying22
  unfold Program.keyLits at h
  simp only [h1] at h
  cases c <;> simp at h
  rename_i k z
  obtain ⟨⟨rfl, hw⟩, rfl⟩ := h
  exact ⟨z, rfl, rfl, hw⟩
set_option maxRecDepth 100000 in
theorem key_inv {key : Value} {kl : Lit} (h : keyOf Tryd.prog 43 key = some kl) : ∃ x : Int × Int, key = kV x.1 x.2 ∧ kl = kL x.1 x.2 ∧ (Lit.int .u32 x.1).wf = true ∧ (Lit.int .u32 x.2).wf = true := by
  obtain ⟨xs, L, rfl, hl, rfl⟩ := keyOf_top (by kernel_rfl) h
  obtain ⟨m, hm⟩ : ∃ m, Tryd.prog.types.size = m + 1 := ⟨_, show Tryd.prog.types.size = (Tryd.prog.types.size - 1) + 1 by kernel_rfl⟩
  rw [hm] at hl
  unfold Program.keyLits at hl
  have c1 : Tryd.prog.cellsOf 22 = 1 := by kernel_rfl
  have c2 : Tryd.prog.cellsOf 43 = 2 := by kernel_rfl
  simp only [Tryd.underlying43] at hl
  obtain ⟨l⟩ := xs
  rw [c2] at hl
  split at hl
  · rename_i hc
    have hlen : l.length = 2 := hc.1
    match l, hlen with
    | [v0, v1], _ =>
      simp only [List.mapM_cons, List.mapM_nil, c1, List.drop_zero, List.drop_succ_cons, List.take_succ_cons, List.take_zero] at hl
      obtain ⟨y, hy, hf⟩ := Option.map_eq_some_iff.1 hl
      simp only [bind, Option.bind_eq_some_iff, pure, Option.some.injEq] at hy
      obtain ⟨y0, h0, y1, ⟨y2, h2, y3, rfl, rfl⟩, rfl⟩ := hy
      obtain ⟨a, rfl, rfl, wa⟩ := lit_one h0
      obtain ⟨n, rfl, rfl, wn⟩ := lit_one h2
      subst hf
      exact ⟨(a, n), rfl, rfl, wa, wn⟩
  · cases hl

/-- The step of a range over a table's map. -/
theorem wpList_next_tab {w : World} {ops : Array Oper} {rest : List Oper} {o : Oper} {a : Act} {Q : Exit → Act → World → Prop} (hg : o.guard = none) (it : Operand) (hop : o.op = Op.next it false) (b r n : Nat) (A : Int) (l : List (Int × ByteArray)) (hA : (Lit.int .u32 A).wf = true) (hl : WfTab l) (left : Lit → Bool) (cnt : Nat)
    (hit : a.eval it = .pointer (some ⟨r, 0, none⟩)) (h : w.ranges Tryd.prog 43 eR b r n (tD A l) left cnt)
    (hDone : cnt = 0 → (∀ kl, left kl = false) → wpList Tryd.prog ops Q rest (a.put o.dst (.tuple #[.bool false])) w)
    (hMore : ∀ (x : Int) (s : ByteArray) (w' : World) (cnt' : Nat), (x, s) ∈ l → left (kL A x) = true → w'.ranges Tryd.prog 43 eR b r n (tD A l) (fun z => left z && !z.sameKey (kL A x)) cnt' → cnt' < cnt →
      w.grownBy w' (some r) → w'.heap.size = w.heap.size → (Instr.entry (.pointer (some ⟨r, 0, none⟩))).run Tryd.prog w' = .ok (.tuple #[.agg #[.int .u32 A, .int .u32 x], .agg #[.string s]]) w' →
      wpList Tryd.prog ops Q rest (a.put o.dst (.tuple #[.bool true, .agg #[.int .u32 A, .int .u32 x], .agg #[.string s]])) w') :
    wpList Tryd.prog ops Q (o :: rest) a w :=
  wpList_next_ranges w hg it hop 43 lawK eR (fun p : Int × Int => kV p.1 p.2) eV (fun key kl hkey => by obtain ⟨x, rfl, _⟩ := key_inv hkey; exact ⟨x, rfl⟩) (fun v y hv => by obtain ⟨s, rfl, _⟩ := eR_inv hv; exact ⟨s, rfl⟩)
    b r n (tD A l) left cnt hit h hDone (fun x c kl y w' cnt' hkey hlk hv hat hrg hlt hgr hsz hen => by
      obtain ⟨⟨A', x'⟩, ex, rfl, wA, wx⟩ := key_inv hkey
      simp only at ex wA wx hlk hat hrg
      obtain ⟨e1, e2⟩ := kV_inj ex
      have hy : y = (eD c, []) := by rw [eR_mk] at hv; exact (Option.some.inj hv).symm
      subst hy
      have h1 := hat .nil
      unfold tD DataW.atKey at h1
      simp only [List.find?_map] at h1
      cases hf : l.find? ((fun p : Lit × DataW Unit => p.1.sameKey (kL A' x')) ∘ fun e : Int × ByteArray => (kL A e.1, eD e.2)) with
      | none => rw [hf] at h1; simp [eD] at h1
      | some z =>
        rw [hf] at h1
        have hz := List.mem_of_find?_eq_some hf
        have hzx := List.find?_some hf
        simp only [Option.map_some] at h1
        have hs := eD_inj h1
        have hk : kL A z.1 = kL A' x' := by
          simp only [Function.comp_apply] at hzx
          unfold kL at hzx ⊢
          simpa [Lit.sameKey] using hzx
        obtain ⟨e3, e4⟩ := kL_inj hA (hl z hz) wA wx hk
        obtain ⟨z1, z2⟩ := z
        obtain ⟨x1, x2⟩ := x
        simp only at e1 e2 e3 e4 hs hz hen
        subst e1 e2 e3 e4 hs
        exact hMore z1 z2 w' cnt' hz hlk hrg hlt hgr hsz hen)

def findT (l : List (Int × ByteArray)) (name : ByteArray) : Int × Bool := match l.find? (fun e => e.2.data.toList == name.data.toList) with
  | some e => (e.1, true)
  | none => (0, false)
def OneName (l : List (Int × ByteArray)) : Prop := l.Pairwise fun a b => a.1 ≠ b.1 ∧ a.2.data.toList ≠ b.2.data.toList
theorem one_of_nodup {l : List (Int × ByteArray)} (h1 : (l.map fun e => e.1).Nodup) (h2 : (l.map fun e => e.2.data.toList).Nodup) : OneName l := (List.pairwise_map.1 h1).and (List.pairwise_map.1 h2)
theorem tabOf_one (a : Int) : OneName (tabOf a) := by
  unfold tabOf
  split
  · exact one_of_nodup (by decide +kernel) (by decide +kernel)
  · split
    · exact one_of_nodup (by decide +kernel) (by decide +kernel)
    · split
      · exact one_of_nodup (by decide +kernel) (by decide +kernel)
      · exact List.Pairwise.nil
theorem findT_hit {l : List (Int × ByteArray)} (hl : OneName l) {x : Int} {s name : ByteArray} (h : (x, s) ∈ l) (hs : s.data.toList = name.data.toList) : findT l name = (x, true) := by
  have : l.find? (fun e => e.2.data.toList == name.data.toList) = some (x, s) := by
    rw [← hs]
    induction l with
    | nil => cases h
    | cons y r ih =>
      obtain ⟨h1, h2⟩ := List.pairwise_cons.1 hl
      rcases List.mem_cons.1 h with rfl | h
      · simp
      · rw [List.find?_cons_of_neg]
        · exact ih h2 h
        · simpa using (h1 _ h).2
  unfold findT
  rw [this]
theorem findT_miss {l : List (Int × ByteArray)} {name : ByteArray} (h : ∀ e ∈ l, e.2.data.toList ≠ name.data.toList) : findT l name = (0, false) := by
  unfold findT
  rw [List.find?_eq_none.2 (fun e he => by simpa using h e he)]
theorem pair_at {l : List (Int × ByteArray)} (hl : OneName l) {a b : Int × ByteArray} (ha : a ∈ l) (hb : b ∈ l) (h : a.1 = b.1) : a = b := by
  induction l with
  | nil => cases ha
  | cons x r ih =>
    obtain ⟨h1, h2⟩ := List.pairwise_cons.1 hl
    rcases List.mem_cons.1 ha with ea | ha1
    · rcases List.mem_cons.1 hb with eb | hb1
      · rw [ea, eb]
      · rw [ea] at h
        exact absurd h (h1 b hb1).1
    · rcases List.mem_cons.1 hb with eb | hb1
      · rw [eb] at h
        exact absurd h.symm (h1 a ha1).1
      · exact ih h2 ha1 hb1
def table_Find.f (a0 : Int) (a1 : ByteArray) : Option (Int × Bool) := if (Lit.int .u32 a0).wf = true then some (findT (tabOf a0) a1) else none
theorem run_range_nil (W : World) : (Instr.range 40 (.map none)).run Tryd.prog W = .ok (.pointer (some ⟨W.heap.size, 0, none⟩)) (W.alloc (.mapIter none 0 #[] 0)) := run_range_nilMap W 40 43 39 Tryd.underlying40
set_option maxHeartbeats 2000000 in
set_option maxRecDepth 100000 in
theorem table_Find.calls (a0 : Int) (a1 : ByteArray) (r1 : Int) (r2 : Bool) (w : World) (h : table_Find.f a0 a1 = some (r1, r2)) : Calls Tryd.prog 10 #[.int .u32 a0, .string a1] w fun e w' => e = .returned (.tuple #[.int .u32 r1, .bool r2]) ∧ Below w.heap.size w w' := by
  unfold table_Find.f at h
  split at h
  case isFalse => cases h
  rename_i hwf
  have HF := Aside0.mk (Option.some.inj h)
  have HA := Aside0.mk hwf
  clear h hwf
  go_enter Tryd.func10, Tryd.ntmps10
  go_wp2_with (go_at_call 23; fail)
  refine (table_names.calls a0 w).mono ?_
  rintro e w1 ⟨v, rfl, ho, hb⟩
  rcases ho with ⟨rfl, h0⟩ | ⟨n, rfl, ho, hne⟩
  · have HB := Aside0.mk hb
    have hm := findT_miss (l := tabOf a0) (name := a1) (fun e he => by rw [h0] at he; cases he)
    rw [HF.out] at hm
    obtain ⟨rfl, rfl⟩ := Prod.mk.inj hm
    clear hb h0 hm
    have hr := run_range_nil
    have hn := fun (W : World) (ty : TypeId) (a b : Nat) (s : Array Nat) => run_next_nilMap (P := Tryd.prog) W ty a b s
    go_wp2
    refine wp_loop_rounds 1 ?_
    rw [rounds_succ]
    go_wp2
    go_ret2
    exact ⟨rfl, HB.out.alloc HB.out.size _⟩
  · have hr : w1.heap.size ≥ w.heap.size := hb.size
    have hlt : w.heap.size < w1.heap.size := ho.lt
    have HB0 := Aside0.mk hb
    clear hb
    go_wp2_with (refine wpList_range_own _ rfl _ _ rfl 43 39 lawK Tryd.underlying40 eR w.heap.size n (tD a0 (tabOf a0)) rfl ho ?_; intro w2 hrg hg hs)
    go_frame
    have HB := Aside0.mk ((HB0.out.grown hg HB0.out.size (fun j hj => by cases hj)))
    clear hg ho HB0
    go_loopw [6] (fun _ wr => ∃ (left : Lit → Bool) (cnt : Nat), Aside0 (wr.ranges Tryd.prog 43 eR w.heap.size w1.heap.size n (tD a0 (tabOf a0)) left cnt) ∧ Aside0 (∀ e ∈ tabOf a0, left (kL a0 e.1) = false → e.2.data.toList ≠ a1.data.toList) ∧ Aside0 (Below w.heap.size w wr)) (fun _ wr => wr.rangeLeft w.heap.size w1.heap.size)
    case atStart =>
      refine ⟨_, _, ⟨hrg⟩, ⟨fun e he hl => ?_⟩, HB⟩
      exfalso
      have hh : Maps.has (tD a0 (tabOf a0)) (kL a0 e.1) = true := by
        unfold tD
        rw [Maps.has_eq, List.any_map, List.any_eq_true]
        exact ⟨e, he, by simp only [Function.comp_apply]; rw [same_kL HA.out (tabOf_wf a0 e he) (tabOf_wf a0 e he)]; simp⟩
      rw [hh] at hl
      cases hl
    case round =>
      obtain ⟨left, cnt, HR, HL, HW⟩ := hrel
      clear HB hrg
      go_wp2_with (refine wpList_next_tab rfl _ rfl w.heap.size w1.heap.size n a0 (tabOf a0) HA.out (tabOf_wf a0) left cnt rfl HR.out ?_ ?_)
      · intro hc0 hl0
        have hm := findT_miss (fun e he => HL.out e he (hl0 _))
        rw [HF.out] at hm
        obtain ⟨rfl, rfl⟩ := Prod.mk.inj hm
        clear hl0 hm hc0
        go_wp2
        go_ret2
        exact ⟨rfl, HW.out⟩
      · intro x s w2 cnt2 hmem hleft hrg2 hlt2 hgr hsz hen
        have HMEM := Aside0.mk hmem
        have HLEFT := Aside0.mk hleft
        have HR2 := Aside0.mk ((hrg2.alloc (.cells #[.int .u32 a0, .int .u32 x] 43 (0, 0))).alloc (.cells #[.string s] 39 (0, 0)))
        have HLT := Aside0.mk hlt2
        have HW2 := Aside0.mk (HW.out.grown hgr HW.out.size (fun j hj => by cases hj; exact hr))
        have hen' := hen
        have HEN := Aside0.mk hen
        clear hmem hleft hrg2 hlt2 hgr hsz hen hen'
        by_cases hs : s.data.toList = a1.data.toList
        · have hf := findT_hit (tabOf_one a0) HMEM.out hs
          rw [HF.out] at hf
          obtain ⟨rfl, rfl⟩ := Prod.mk.inj hf
          have hsb : (s.toList == a1.toList) = true := by rw [ByteArray.toList_eq, ByteArray.toList_eq]; simpa using hs
          have hen := HEN.out
          clear hf hs
          go_wp2
          go_ret2
          exact ⟨rfl, (HW2.out.alloc HW2.out.size _).alloc (by have := HW2.out.size; simp; omega) _⟩
        · have hsb : (s.toList == a1.toList) = false := by rw [ByteArray.toList_eq, ByteArray.toList_eq]; simpa using hs
          have HS := Aside0.mk hs
          have hen := HEN.out
          clear hs
          go_wp2
          refine ⟨⟨_, cnt2, HR2, ⟨fun e he hl => ?_⟩, ⟨(HW2.out.alloc HW2.out.size _).alloc (by have := HW2.out.size; simp; omega) _⟩⟩, ?_⟩
          · by_cases hx : e.1 = x
            · have e2 : e = (x, s) := by
                have h1 := findT_hit (tabOf_one a0) he rfl
                have h2 := findT_hit (tabOf_one a0) HMEM.out rfl
                have hp := tabOf_one a0
                have := HMEM.out
                exact pair_at hp he this hx
              rw [e2]
              exact HS.out
            · refine HL.out e he ?_
              rw [same_kL HA.out (tabOf_wf a0 e he) (tabOf_wf a0 _ HMEM.out)] at hl
              simpa [hx] using hl
          · rw [HR2.out.left_eq, HR.out.left_eq]
            exact HLT.out
end Go.Proofs.YtpgjcjgmokfofaaDoor.Pr
