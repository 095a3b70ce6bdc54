/- table.All: the numbers of an architecture's calls, each once, in rising order, whatever order the map gives them in. | table.All: the round of the range over the keys, and the whole. | table.All: the whole. -/
import Derived.Test.YtpgjcjgmokfofaaDoorGTabLook
import Derived.Test.YtpgjcjgmokfofaaDoorGSort32H
import Derived.Lib.SlKeysI
import Derived.Shelf.SlIter.Collect
import Derived.RangeFuncBound
import Derived.Sort.OwnSorted
import Derived.CallsIn
namespace Go.Proofs.YtpgjcjgmokfofaaDoor.Pr
set_option linter.unusedSimpArgs false
set_option linter.unusedVariables false
open Go.RowKit Go.Maps Go.Sort Go.Shelf Go.Proofs.YtpgjcjgmokfofaaDoorW.PrintWords Go.Proofs.YtpgjcjgmokfofaaDoorW.PrintLast Go.Proofs.YtpgjcjgmokfofaaDoorW.PrintMore

theorem at_tab {A : Int} {l : List (Int × ByteArray)} (hA : (Lit.int .u32 A).wf = true) (hl : WfTab l) {x : Int × Int} {kl : Lit} {y : DataW Unit} (hkey : keyOf Tryd.prog 43 (kV x.1 x.2) = some kl) (hat : ∀ zd, (tD A l).atKey kl zd = y) :
    ∃ s, x.1 = A ∧ (x.2, s) ∈ l ∧ kl = kL A x.2 := by
  obtain ⟨⟨A', x'⟩, ex, rfl, wA, wx⟩ := key_inv hkey
  simp only at ex wA wx hat
  obtain ⟨e1, e2⟩ := kV_inj ex
  have h1 := hat .nil
  have h2 := hat (eD ⟨#[]⟩)
  unfold tD DataW.atKey at h1 h2
  simp only [List.find?_map] at h1 h2
  cases hf : l.find? ((fun p : Lit × DataW Unit => p.1.sameKey (kL A' x')) ∘ fun e : Int × ByteArray => (kL A e.1, eD e.2)) with
  | none => rw [hf] at h1 h2; rw [← h1] at h2; simp [eD] at h2
  | some z =>
    have hz := List.mem_of_find?_eq_some hf
    have hzx := List.find?_some hf
    have hk : kL A z.1 = kL A' x' := by
      simp only [Function.comp_apply] at hzx
      unfold kL at hzx ⊢
      simpa [Lit.sameKey] using hzx
    obtain ⟨e3, e4⟩ := kL_inj hA (hl z hz) wA wx hk
    refine ⟨z.2, by rw [e1, ← e3], ?_, by rw [hk.symm, e2, e4]⟩
    rw [e2, ← e4]
    exact hz

/-- The numbers that have come so far. -/
def CollT (A : Int) (l : List (Int × ByteArray)) (left : Lit → Bool) (ss : List Int) : Prop := ss.Nodup ∧ (∀ e ∈ l, e.1 ∈ ss ↔ left (kL A e.1) = false) ∧ ∀ x ∈ ss, ∃ s, (x, s) ∈ l
theorem has_tab {A : Int} {l : List (Int × ByteArray)} (hA : (Lit.int .u32 A).wf = true) (hl : WfTab l) {e : Int × ByteArray} (he : e ∈ l) : Maps.has (tD A l) (kL A e.1) = true := by
  unfold tD
  rw [Maps.has_eq, List.any_map, List.any_eq_true]
  exact ⟨e, he, by simp only [Function.comp_apply]; rw [same_kL hA (hl e he) (hl e he)]; simp⟩
theorem CollT.start {A : Int} {l : List (Int × ByteArray)} (hA : (Lit.int .u32 A).wf = true) (hl : WfTab l) : CollT A l (Maps.has (tD A l)) [] :=
  ⟨List.nodup_nil, fun e he => by rw [has_tab hA hl he]; simp, fun x hx => by cases hx⟩
theorem CollT.step {A : Int} {l : List (Int × ByteArray)} (hA : (Lit.int .u32 A).wf = true) (hl : WfTab l) {left : Lit → Bool} {ss : List Int} (h : CollT A l left ss) {x : Int} {s : ByteArray} (hm : (x, s) ∈ l) (hlk : left (kL A x) = true) :
    CollT A l (fun z => left z && !z.sameKey (kL A x)) (ss ++ [x]) := by
  have hnew : x ∉ ss := fun hx => by have := (h.2.1 _ hm).1 hx; rw [hlk] at this; cases this
  refine ⟨List.nodup_append.2 ⟨h.1, by simp, fun a ha b hb => by simp at hb; subst hb; exact fun e => hnew (e ▸ ha)⟩, fun e he => ?_, fun y hy => ?_⟩
  · have hs := same_kL hA (hl e he) (hl _ hm)
    simp only at hs ⊢
    rw [hs]
    by_cases hx : e.1 = x
    · simp [hx]
    · simp [h.2.1 e he, hx]
  · rcases List.mem_append.1 hy with hy | hy
    · exact h.2.2 y hy
    · rw [List.mem_singleton.1 hy]; exact ⟨s, hm⟩
theorem CollT.perm {A : Int} {l : List (Int × ByteArray)} (hl : OneName l) {left : Lit → Bool} {ss : List Int} (h : CollT A l left ss) (h0 : ∀ kl, left kl = false) : ss.Perm (l.map (·.1)) := by
  refine (List.perm_ext_iff_of_nodup h.1 ?_).2 fun x => ?_
  · exact List.pairwise_map.2 (hl.imp fun h => h.1)
  · constructor
    · intro hx
      obtain ⟨s, hs⟩ := h.2.2 x hx
      exact List.mem_map.2 ⟨_, hs, rfl⟩
    · intro hx
      obtain ⟨e, he, rfl⟩ := List.mem_map.1 hx
      exact (h.2.1 e he).2 (h0 _)
theorem size_tab (A : Int) (l : List (Int × ByteArray)) : Maps.size (tD A l) = l.length := by
  unfold tD
  simp [Maps.size]

theorem holds_of_block_i {w : World} {g : Nat} {cur : Array Value} {e : TypeId} {ss : List Int} (hb : w.heap[g]? = some (.cells cur e (0, 0))) (ht : cur.toList.take ss.length = ss.map (Value.int .u32)) : Holds (Value.int .u32) w g 0 ss.toArray := by
  intro j hj
  have hj' : j < ss.length := by simpa using hj
  refine ⟨?_, by simp [World.frozen?, hb]⟩
  have h1 : (cur.toList.take ss.length)[j]? = (ss.map (Value.int .u32))[j]? := by rw [ht]
  rw [List.getElem?_take_of_lt hj'] at h1
  simp only [World.cell?, hb, Nat.zero_add]
  simp only [Option.isSome_none, Bool.false_eq_true, if_false]
  rw [← Array.getElem?_toList, h1]
  simp [hj']

theorem heap_sorted_i {w : World} {g n : Nat} {os : Array Obj} {cur : Array Value} {e : TypeId} {fr : Nat × Nat} (d : Array Int) (hb : w.heap[g]? = some (.cells cur e fr)) :
    (grow (putRow (Value.int .u32) (Sort.ahead w n) g 0 d) os).heap[g]? = some (.cells (putCells (Value.int .u32) 0 d cur) e fr) := by
  have hg : g < w.heap.size := (Array.getElem?_eq_some_iff.1 hb).1
  rw [heap_grow_old _ _ (by simpa using hg)]
  simp [putRow, mapBlock, Sort.ahead, Array.getElem?_modify, hb, onCells]

theorem grownBy_sorted_i {w : World} {g n : Nat} {os : Array Obj} (d : Array Int) : w.grownBy (grow (putRow (Value.int .u32) (Sort.ahead w n) g 0 d) os) (some g) := by
  refine ⟨rfl, rfl, rfl, by simp, fun k hk hne => ?_⟩
  rw [heap_grow_old _ _ (by simpa using hk)]
  have : g ≠ k := fun e => hne (by rw [e])
  simp [putRow, mapBlock, Sort.ahead, Array.getElem?_modify, this]

theorem take_putCells_i (cur : Array Value) (ts : List Int) (h : ts.length ≤ cur.size) : (putCells (Value.int .u32) 0 ts.toArray cur).toList.take ts.length = ts.map (Value.int .u32) := by
  apply List.ext_getElem?
  intro j
  by_cases hj : j < ts.length
  · rw [List.getElem?_take_of_lt hj, Array.getElem?_toList]
    simp [putCells, hj, show j < cur.size by omega]
  · rw [List.getElem?_take_eq_none (by omega), List.getElem?_eq_none (by simp; omega)]

theorem ownsRow_sorted_i {w : World} {base g cap n : Nat} {e : TypeId} {os : Array Obj} {cur : Array Value} {ss ts : List Int} (hl : ts.length = ss.length) (hbase : base ≤ g) (hb : w.heap[g]? = some (.cells cur e (0, 0)))
    (h1 : ss.length ≤ cap) (h2 : cap ≤ maxLen) (h3 : cur.size = cap * 1) :
    (grow (putRow (Value.int .u32) (Sort.ahead w n) g 0 ts.toArray) os).ownsRow base e 1 (.slice (some ⟨g, 0, none⟩) ss.length cap) ss.length (ts.map (Value.int .u32)) :=
  ⟨by simp [hl], .inr ⟨g, cap, _, rfl, hbase, heap_sorted_i _ hb, h1, h2, by simp [putCells, h3], by rw [Nat.mul_one, ← hl]; exact take_putCells_i cur ts (by omega)⟩⟩

theorem U32.info22 : (Tryd.prog.info? 22).map (fun i => (i.zero, i.size, i.bytes)) = some (some (.int .u32 0), 1, 4) := by kernel_rfl

set_option maxHeartbeats 1000000 in
theorem U32.keys_in (F : Fence) (n : Nat) (h7 : F.fn 27) (hro : F.round = none) (mb : Option Nat) (w : World) :
    CallsIn F n Tryd.prog 27 #[.map mb] w fun e w' => e = .returned (.func (.func 34) #[] #[.pointer (some ⟨w.heap.size, 0, none⟩)]) ∧ w' = w.alloc (.cells #[.map mb] 40) := by
  refine callsIn_of_wp Tryd.func27 rfl h7 ?_ hro
  simp only [Tryd.ntmps27, List.size_toArray, List.length_cons, List.length_nil, Nat.reduceAdd, Nat.reduceSub, Array.replicate_succ, Array.replicate_zero, List.push_toArray, List.append_toArray, List.nil_append, List.cons_append]
  gi_wp2
  go_ret
  exact ⟨rfl, rfl⟩

set_option maxRecDepth 100000 in
set_option maxHeartbeats 1000000 in
theorem U32.keys1N_in (F : Fence) (n : Nat) (h10 : F.fn 34) (hro : F.round = none) (hn : 1 ≤ n) (A : Int) (T : List (Int × ByteArray)) (hA : (Lit.int .u32 A).wf = true) (hT : WfTab T) (hT1 : OneName T) (l Bm b nn : Nat) (J : List Int → World → Prop)
    (hY : ∀ pre x W, J pre W → pre.length < T.length → YieldAt F (n - 1) Tryd.prog l #[kV A x] W fun e W' => e = .returned (.bool true) ∧ J (pre ++ [x]) W' ∧ KeepsWalks W W')
    (W : World) (hJ : AbidesFrom W.heap.size J) (hm : W.cell? ⟨Bm, 0, none⟩ = some (.map (some b))) (hown : W.ownsMap Tryd.prog 43 eR b nn (tD A T)) (h0 : J [] W) :
    CallsIn F n Tryd.prog 34 #[.func (.yield l) #[] #[], .pointer (some ⟨Bm, 0, none⟩)] W fun e W' => (∃ v, e = .returned v) ∧ ∃ ss : List Int, ss.Perm (T.map (·.1)) ∧ J ss W' := by
  refine callsIn_of_wp Tryd.func34 rfl h10 ?_ hro
  simp only [Tryd.ntmps34, List.size_toArray, List.length_cons, List.length_nil, Nat.reduceAdd, Nat.reduceSub, Array.replicate_succ, Array.replicate_zero, List.push_toArray, List.append_toArray, List.nil_append, List.cons_append]
  gi_wp2_with (first
    | (gi_at_range; refine wpListIn_range_own _ rfl _ 40 rfl 43 39 lawK Tryd.underlying40 _ b nn _ rfl hown ?_; intro w0 hrg0 hg0 hs0)
    | gi_in)
  go_frame
  gi_loopw [3] (fun _ wr => ∃ (left : Lit → Bool) (cnt : Nat) (ss : List Int), wr.ranges Tryd.prog 43 eR b W.heap.size nn (tD A T) left cnt ∧ ss.length + cnt ≤ T.length ∧ CollT A T left ss ∧ J ss wr)
    (fun _ wr => wr.rangeLeft b W.heap.size)
  case atStart =>
    exact ⟨_, _, [], hrg0, by rw [size_tab]; simp, CollT.start hA hT, hJ [] W w0 none h0 hg0 (fun r e => by cases e)⟩
  case round =>
    obtain ⟨left, cnt, ss, hrg, hcs, hC, hJs⟩ := hrel
    gi_wp2_with (first
      | (gi_at_next; refine wpListIn_next_ranges _ rfl _ rfl 43 lawK eR (fun p : Int × Int => kV p.1 p.2) id (fun key kl hk => by obtain ⟨x, hx, _⟩ := key_inv hk; exact ⟨x, hx⟩) (fun v _ _ => ⟨v, rfl⟩) b W.heap.size nn _ _ _ rfl hrg ?_ ?_)
      | gi_in)
    · intro hc0 hl0
      gi_wp2
      go_end0
      exact ⟨⟨_, rfl⟩, ss, hC.perm hT1 hl0, hJs⟩
    · intro x1 x2 c kl yd yp w2 cnt2 hkey hlk hv hat hrg2 hlt hg2 hs2 hen
      obtain ⟨s, ex, hmem, rfl⟩ := at_tab (x := (x1, x2)) hA hT hkey hat
      simp only at ex hmem hlk hrg2 hen
      subst ex
      have hJ2 : J ss (w2.alloc (.cells #[.int .u32 x1, .int .u32 x2] 43)) := hJ ss w2 _ none (hJ ss wr w2 (some W.heap.size) hJs hg2 (fun r e => by cases e; exact ⟨Nat.le_refl _, hrg.iter_walk⟩)) (World.grownBy_alloc _ _ none) (fun r e => by cases e)
      obtain ⟨fn, tmps, assign, body, hy, hR⟩ := hY ss x2 _ hJ2 (by omega)
      simp only [kV] at hy hen
      clear hs2 hkey hat
      gi_wp2
      refine hR.mono ?_
      rintro e W3 ⟨rfl, hJ3, hk3⟩
      gi_wp2
      have hrg3 := hrg2.of_walks ((KeepsWalks.alloc _ _).trans hk3)
      go_roundw
      case rel => exact ⟨_, cnt2, ss ++ [x2], hrg3, by simp; omega, hC.step hA hT hmem hlk, hJ3⟩
      case measure => rw [hrg3.left_eq, hrg.left_eq]; exact hlt

set_option maxRecDepth 100000 in
set_option maxHeartbeats 1000000 in
theorem U32.keys1none_in (F : Fence) (n : Nat) (h10 : F.fn 34) (hro : F.round = none) (hn : 1 ≤ n) (l Bm : Nat) (J : List Int → World → Prop)
    (W : World) (hJ : AbidesFrom W.heap.size J) (hm : W.cell? ⟨Bm, 0, none⟩ = some (.map none)) (h0 : J [] W) :
    CallsIn F n Tryd.prog 34 #[.func (.yield l) #[] #[], .pointer (some ⟨Bm, 0, none⟩)] W fun e W' => (∃ v, e = .returned v) ∧ ∃ ss : List Int, ss.Perm [] ∧ J ss W' := by
  refine callsIn_of_wp Tryd.func34 rfl h10 ?_ hro
  simp only [Tryd.ntmps34, List.size_toArray, List.length_cons, List.length_nil, Nat.reduceAdd, Nat.reduceSub, Array.replicate_succ, Array.replicate_zero, List.push_toArray, List.append_toArray, List.nil_append, List.cons_append]
  have hr := run_range_nil
  have hnx := fun (W : World) (ty : TypeId) (a b : Nat) (s : Array Nat) => run_next_nilMap (P := Tryd.prog) W ty a b s
  have hJ1 := Aside0.mk (hJ [] W (W.alloc (.mapIter none 0 #[] 0)) none h0 (World.grownBy_alloc W _ none) (fun r e => by cases e))
  gi_wp2
  gi_loopw [3] (fun _ wr => wr = W.alloc (.mapIter none 0 #[] 0)) (fun _ wr => 0)
  case atStart => rfl
  case round =>
    subst hrel
    gi_wp2
    go_end0
    exact ⟨⟨_, rfl⟩, [], List.Perm.nil, hJ1.out⟩

/-- What the iterator over a table's keys gives. -/
theorem U32.keys_gives (F : Fence) (n : Nat) (h10 : F.fn 34) (hro : F.round = none) (hn : 1 ≤ n) (A : Int) (hA : (Lit.int .u32 A).wf = true) (Bm B : Nat) (v : Value) (w : World) (hBm : Bm < w.heap.size)
    (hm : w.cell? ⟨Bm, 0, none⟩ = some v) (hat : NamesAt B A v w) :
    SeqGives F n Tryd.prog 34 #[.pointer (some ⟨Bm, 0, none⟩)] (kV A) (fun ss => ss.Perm ((tabOf A).map (·.1))) (tabOf A).length w := fun l J W hW hJ hY h0 => by
  rcases hat with ⟨rfl, h00⟩ | ⟨m, rfl, hown, _⟩
  · rw [h00]
    exact U32.keys1none_in F n h10 hro hn l Bm J W hJ ((hW.cell (p := ⟨Bm, 0, none⟩) hBm).trans hm) h0
  · have hown' : W.ownsMap Tryd.prog 43 eR B m (tD A (tabOf A)) := by
      have hbl := hown.lt
      obtain ⟨es, clock, hb, Ft, hs, hD⟩ := hown
      exact ⟨es, clock, (hW.block B hbl).trans hb, Ft, hs, hD⟩
    exact U32.keys1N_in F n h10 hro hn A (tabOf A) hA (tabOf_wf A) (tabOf_one A) l Bm B m J hY W hJ ((hW.cell (p := ⟨Bm, 0, none⟩) hBm).trans hm) hown' h0


end Go.Proofs.YtpgjcjgmokfofaaDoor.Pr

namespace Go.Proofs.YtpgjcjgmokfofaaDoor.Pr
set_option linter.unusedSimpArgs false
set_option linter.unusedVariables false
open Go.RowKit Go.Maps Go.Sort Go.Shelf Go.Proofs.YtpgjcjgmokfofaaDoorW.PrintWords Go.Proofs.YtpgjcjgmokfofaaDoorW.PrintLast Go.Proofs.YtpgjcjgmokfofaaDoorW.PrintMore

/-- The assigning of a round, and its body. -/
def U32.apAssign : Code := .region 3 #[{ dst := some 4, op := .alloc 43, type := 0, pos := "table.go:114", after := #[], guard := none }, { dst := none, op := .store 43 (.tmp 4) (.tmp 8), type := 0, pos := "table.go:114", after := #[{ on := 0, ground := .data }, { on := 0, ground := .phase }], guard := none }] false
def U32.apBody : Code := .block 1 (.region 4 #[{ dst := some 9, op := .load 27 (.tmp 3), type := 27, pos := "table.go:115", after := #[], guard := none }, { dst := some 10, op := .fieldAddr 43 (.tmp 4) 1, type := 0, pos := "table.go:115", after := #[], guard := none }, { dst := some 11, op := .load 22 (.tmp 10), type := 22, pos := "table.go:115", after := #[{ on := 1, ground := .data }], guard := none }, { dst := some 12, op := .buildSlice 27 1 #[(0, .tmp 11)], type := 27, pos := "table.go:115", after := #[{ on := 2, ground := .data }], guard := none }, { dst := some 13, op := .call { callee := .builtin .append, args := #[.tmp 9, .tmp 12], argTypes := #[27, 27] }, type := 27, pos := "table.go:115", after := #[{ on := 0, ground := .data }, { on := 3, ground := .data }], guard := none }, { dst := none, op := .store 27 (.tmp 3) (.tmp 13), type := 0, pos := "table.go:115", after := #[{ on := 4, ground := .data }, { on := 4, ground := .chain }, { on := 0, ground := .phase }, { on := 1, ground := .phase }, { on := 2, ground := .phase }, { on := 3, ground := .phase }, { on := 4, ground := .phase }], guard := none }] false)
def U32.apTmps (a : Int) (m sv : Value) (Bs : Nat) : Array Value := #[.int .u32 a, undef, .slice none 0 0, .pointer (some ⟨Bs, 0, none⟩), undef, .int .u32 a, m, sv, undef, undef, undef, undef, undef, undef, undef, undef, undef]
def U32.apRec (fn : FuncId) (a : Int) (m sv : Value) (Bs D : Nat) (st : LoopState) (pend : Option Code) : Loop :=
  { state := st, pending := pend, fn, tmps := U32.apTmps a m sv Bs, params := #[8], assign := U32.apAssign, body := U32.apBody, defers := D }

structure U32.ApAt (w0 : World) (fn : FuncId) (a : Int) (m sv : Value) (Bs l D : Nat) (ss : List Int) (W : World) : Prop where
  box : ∃ v, W.heap[Bs]? = some (.cells #[v] 27 (0, 0)) ∧ W.ownsRow w0.heap.size 22 1 v ss.length (ss.map (Value.int .u32)) ∧ (v = .slice none 0 0 ↔ ss = [])
  L : W.heap[l]? = some (.loop (U32.apRec fn a m sv Bs D .ready none))
  K : W.heap[D]? = some (.deferred (some []))
  below : Below w0.heap.size w0 W

theorem U32.ap_abides (w0 : World) (fn : FuncId) (a : Int) (m sv : Value) (Bs l D B : Nat) (hB : w0.heap.size ≤ B) : AbidesFrom B (U32.ApAt w0 fn a m sv Bs l D) := fun s W W' row h hg hrow => by
  have hrow' : ∀ r, row = some r → ∃ o : Obj, W.heap[r]? = some o ∧ o.isWalk = true := fun r e => (hrow r e).2
  obtain ⟨v, hv, hr, hn⟩ := h.box
  exact ⟨⟨v, (grownBy_keeps hg hrow' hv rfl).trans hv, ownsRow_abides_a hr hg hrow', hn⟩, (grownBy_keeps hg hrow' h.L rfl).trans h.L, (grownBy_keeps hg hrow' h.K rfl).trans h.K,
    h.below.grown hg h.below.size (fun k e => Nat.le_trans hB (hrow k e).1)⟩

set_option maxRecDepth 100000 in
set_option maxHeartbeats 2000000 in
theorem U32.apYield (F : Fence) (k0 : Nat) (w0 : World) (fn : FuncId) (hfn : F.fn fn) (a : Int) (m sv : Value) (Bs l D : Nat) (hBl : Bs ≠ l) (hDl : D ≠ l) (hDB : D ≠ Bs) (h0B : w0.heap.size ≤ Bs) (h0l : w0.heap.size ≤ l)
    (N : Nat) (hN : N ≤ maxLen) (hNb : N * 4 ≤ 140737488355328) (ss : List Int) (x : Int) (W : World) (h : U32.ApAt w0 fn a m sv Bs l D ss W) (hlen : ss.length < N) :
    YieldAt F k0 Tryd.prog l #[kV a x] W fun e W' => e = .returned (.bool true) ∧ U32.ApAt w0 fn a m sv Bs l D (ss ++ [x]) W' ∧ KeepsWalks W W' := by
  have hne : (27 : TypeId) ≠ 22 := by decide
  obtain ⟨i0, hi, hz0, hz1, hz2⟩ := info_parts U32.info22
  refine ⟨fn, #[.int .u32 a, undef, .slice none 0 0, .pointer (some ⟨Bs, 0, none⟩), undef, .int .u32 a, m, sv, kV a x, undef, undef, undef, undef, undef, undef, undef, undef], U32.apAssign, U32.apBody, by simpa [U32.apRec, U32.apTmps] using run_yield (P := Tryd.prog) (args := #[kV a x]) h.L rfl, roundIn_of_wpIn hfn ?_⟩
  obtain ⟨Wa, hWa⟩ : ∃ Wa, W.alloc (.cells #[.int .u32 a, .int .u32 x] 43) = Wa := ⟨_, rfl⟩
  have hA : U32.ApAt w0 fn a m sv Bs l D ss Wa := by rw [← hWa]; exact U32.ap_abides w0 fn a m sv Bs l D _ (Nat.le_refl _) ss W _ none h (World.grownBy_alloc _ _ none) (fun r e => by cases e)
  have hka : KeepsWalks W Wa := by rw [← hWa]; exact KeepsWalks.alloc _ _
  have hca : Wa.heap[W.heap.size]? = some (.cells #[.int .u32 a, .int .u32 x] 43 (0, 0)) := by rw [← hWa]; exact World.alloc_heap_new W _
  obtain ⟨v, hv, hrow, _⟩ := hA.box
  have hlW : l < W.heap.size := (Array.getElem?_eq_some_iff.1 h.L).1
  have hl : l < Wa.heap.size := (Array.getElem?_eq_some_iff.1 hA.L).1
  have hbr := run_beginRound (P := Tryd.prog) hA.L rfl
  obtain ⟨W2, hW2⟩ : ∃ W2, Wa.putObj l (.loop { U32.apRec fn a m sv Bs D .ready none with state := .busy }) = W2 := ⟨_, rfl⟩
  rw [hW2] at hbr
  have hg2 : Wa.grownBy W2 (some l) := by rw [← hW2]; exact grownBy_putObj_a _ _ _
  have hk2 : KeepsWalks W W2 := by rw [← hW2]; exact hka.trans (KeepsWalks.putObj _ hA.L rfl)
  have hcx : W2.heap[W.heap.size]? = some (.cells #[.int .u32 a, .int .u32 x] 43 (0, 0)) := by rw [← hW2]; exact (World.putObj_heap_other (by omega)).trans hca
  have hcx1 : W2.cell? ⟨W.heap.size, 1, none⟩ = some (.int .u32 x) := by simp [World.cell?, hcx]
  have hv2 : W2.heap[Bs]? = some (.cells #[v] 27 (0, 0)) := by rw [← hW2]; exact (World.putObj_heap_other hBl).trans hv
  have hK2 : W2.heap[D]? = some (.deferred (some [])) := by rw [← hW2]; exact (World.putObj_heap_other hDl).trans hA.K
  have hL2 : W2.heap[l]? = some (.loop { U32.apRec fn a m sv Bs D .ready none with state := .busy }) := by rw [← hW2]; exact World.putObj_heap_same hl
  have hrow2 : W2.ownsRow w0.heap.size 22 1 v ss.length (ss.map (Value.int .u32)) := hrow.kept hg2 (ownsRow_ne_a hrow hA.L (fun cur e => by first | cases e | exact hne (Obj.cells.inj e).2.1))
  have hb2 : Below w0.heap.size w0 W2 := hA.below.grown hg2 hA.below.size (fun k e => by cases e; exact h0l)
  obtain ⟨hc2, hf2⟩ := cell_of_box_a hv2
  have hBlt : Bs < W2.heap.size := (Array.getElem?_eq_some_iff.1 hv2).1
  have hl2 : l < W2.heap.size := (Array.getElem?_eq_some_iff.1 hL2).1
  have hDlt : D < W2.heap.size := (Array.getElem?_eq_some_iff.1 hK2).1
  have ne_of : ∀ {j : Nat} {o : Obj}, W2.heap[j]? = some o → (∀ cur, o ≠ .cells cur 22 (0, 0)) → some j ≠ v.ownBlock := fun hj hno => by
    rcases ownsRow_ne_a hrow2 hj hno with e | e
    · rw [e]; simp
    · exact fun e' => e e'.symm
  clear hW2
  unfold U32.apAssign
  unfold kV
  gi_wp2_with gi_round_op_a
  unfold U32.apBody
  gi_wp2_with (first
    | (gi_at_builtin; refine wpListIn_append_own _ rfl _ _ 27 rfl w0.heap.size 22 i0 (.int .u32 0) 1 4 Tryd.underlying27 hi hz0 hz1 hz2 rfl (by decide) _ _ _ rfl (hrow2.alloc _) ⟨W2.heap.size, 0, none⟩ 1 1 [Value.int .u32 x] rfl rfl (cell_one_new _ _ _) (by simp [Value.oneCell']) (by omega) (by omega) (by have := hb2.size; simp; omega) ?_; intro v' w3 hown' hg3 hnil3
       have hv3 : w3.heap[Bs]? = some (.cells #[v] 27 (0, 0)) := (hg3.block Bs (by simp; omega) (ne_of hv2 (fun cur e => by first | cases e | exact hne (Obj.cells.inj e).2.1))).trans ((Below.heap_alloc _ _ Bs hBlt).trans hv2)
       obtain ⟨hc3, hf3⟩ := cell_of_box_a hv3
       obtain ⟨g', cap', cur', rfl, hbase', hgb', hr1, hr2, hr3, hr4⟩ : ∃ g' cap' cur', v' = .slice (some ⟨g', 0, none⟩) (ss.length + 1) cap' ∧ w0.heap.size ≤ g' ∧ w3.heap[g']? = some (.cells cur' 22 (0, 0)) ∧ ss.length + 1 ≤ cap' ∧ cap' ≤ maxLen ∧ cur'.size = cap' * 1 ∧ cur'.toList.take ((ss.length + 1) * 1) = ss.map (Value.int .u32) ++ [Value.int .u32 x] := by
         rcases hown'.2 with ⟨_, h0⟩ | h'
         · exact absurd h0 (by omega)
         · exact h'
       go_frame)
    | gi_round_op_a)
  have hg3' : (W2.alloc (.cells #[Value.int .u32 x] 22)).grownBy w3 v.ownBlock := hg3
  have hL3 : w3.heap[l]? = some (.loop { U32.apRec fn a m sv Bs D .ready none with state := .busy }) := (hg3'.block l (by simp; omega) (ne_of hL2 (fun cur e => by first | cases e | exact hne (Obj.cells.inj e).2.1))).trans ((Below.heap_alloc _ _ l hl2).trans hL2)
  have hK3 : w3.heap[D]? = some (.deferred (some [])) := (hg3'.block D (by simp; omega) (ne_of hK2 (fun cur e => by first | cases e | exact hne (Obj.cells.inj e).2.1))).trans ((Below.heap_alloc _ _ D hDlt).trans hK2)
  obtain ⟨w4, hw4⟩ : ∃ w4, w3.setCell ⟨Bs, 0, none⟩ (.slice (some ⟨g', 0, none⟩) (ss.length + 1) cap') = w4 := ⟨_, rfl⟩
  rw [hw4]
  have hg4 : w3.grownBy w4 (some Bs) := by rw [← hw4]; exact grownBy_setCell0_a _ _ _
  have hv4 : w4.heap[Bs]? = some (.cells #[.slice (some ⟨g', 0, none⟩) (ss.length + 1) cap'] 27 (0, 0)) := by rw [← hw4]; exact heap_setCell_box_a _ hv3
  have hL4 : w4.heap[l]? = some (.loop { U32.apRec fn a m sv Bs D .ready none with state := .busy }) := (hg4.block l (Array.getElem?_eq_some_iff.1 hL3).1 (fun e => hBl (by cases e; rfl))).trans hL3
  have hK4 : w4.heap[D]? = some (.deferred (some [])) := (hg4.block D (Array.getElem?_eq_some_iff.1 hK3).1 (fun e => hDB (by cases e; rfl))).trans hK3
  have hrow4 := hown'.kept hg4 (ownsRow_ne_a hown' hv3 (fun cur e => by first | cases e | exact hne (Obj.cells.inj e).2.1))
  have hl4 : l < w4.heap.size := (Array.getElem?_eq_some_iff.1 hL4).1
  have hb3 : Below w0.heap.size w0 w3 := (hb2.alloc hb2.size _).grown hg3' (by have := hb2.size; simp; omega) (fun k e => (hrow2.lt k e).1)
  have hb4 : Below w0.heap.size w0 w4 := hb3.grown hg4 hb3.size (fun k e => by cases e; exact h0B)
  have hk4 : KeepsWalks W w4 := ((hk2.trans (KeepsWalks.alloc _ _)).trans (KeepsWalks.of_grownBy hg3' (ownsRow_not_walk_a (hrow2.alloc _)))).trans (by rw [← hw4]; exact KeepsWalks.setCell _ _ _)
  clear hw4
  refine ⟨_, _, run_endRound none hL4, rfl, ⟨⟨_, (World.putObj_heap_other hBl).trans hv4, ?_, by simp⟩, World.putObj_heap_same hl4, (World.putObj_heap_other hDl).trans hK4, hb4.grown (grownBy_putObj_a _ _ _) hb4.size (fun k e => by cases e; exact h0l)⟩, hk4.trans (KeepsWalks.putObj _ hL4 rfl)⟩
  have := hrow4.kept (grownBy_putObj_a w4 l (.loop { { U32.apRec fn a m sv Bs D .ready none with state := .busy } with state := if (none : Option Code).isNone then .ready else .done, pending := none })) (ownsRow_ne_a hrow4 hL4 (fun cur e => by first | cases e | exact hne (Obj.cells.inj e).2.1))
  simpa using this

end Go.Proofs.YtpgjcjgmokfofaaDoor.Pr

namespace Go.Proofs.YtpgjcjgmokfofaaDoor.Pr
set_option linter.unusedSimpArgs false
set_option linter.unusedVariables false
open Go.RowKit Go.Maps Go.Sort Go.Shelf Go.Proofs.YtpgjcjgmokfofaaDoorW.PrintWords Go.Proofs.YtpgjcjgmokfofaaDoorW.PrintLast Go.Proofs.YtpgjcjgmokfofaaDoorW.PrintMore

theorem NamesAt.alloc {B : Nat} {a : Int} {v : Value} {w : World} (h : NamesAt B a v w) (o : Obj) : NamesAt B a v (w.alloc o) := by
  rcases h with ⟨e, h0⟩ | ⟨n, e, hown, hne⟩
  · exact .inl ⟨e, h0⟩
  · refine .inr ⟨n, e, ?_, hne⟩
    have hbl := hown.lt
    obtain ⟨es, clock, hb, Ft, hs, hD⟩ := hown
    exact ⟨es, clock, (Below.heap_alloc _ _ _ hbl).trans hb, Ft, hs, hD⟩
theorem NamesAt.map {B : Nat} {a : Int} {v : Value} {w : World} (h : NamesAt B a v w) : ∃ mb, v = .map mb := by
  rcases h with ⟨e, h0⟩ | ⟨n, e, hown, hne⟩
  · exact ⟨_, e⟩
  · exact ⟨_, e⟩
theorem tabOf_len (a : Int) : (tabOf a).length ≤ 1000 := by
  unfold tabOf
  split
  · decide +kernel
  split
  · decide +kernel
  split
  · decide +kernel
  · simp
theorem kdR_of_row32 {w : World} {base n : Nat} {v : Value} {xs : List Int} (hn : n = xs.length) (h : w.ownsRow base 22 1 v n (xs.map (Value.int .u32))) : Kd.R (Kd.int .u32) 22 w base (fun _ => True) v xs := by
  subst hn
  exact ⟨fun _ _ => trivial, _, h, Kd.reps_scalar xs⟩
def sortI (l : List Int) : List Int := l.mergeSort fun x y => decide (x ≤ y)
theorem sort_tab {a : Int} {ss : List Int} (h : ss.Perm ((tabOf a).map (·.1))) : (ss.mergeSort fun x y => decide (x ≤ y)) = sortI ((tabOf a).map (·.1)) := mergeSort_of_perm_i h

def table_All.f (a0 : Int) : Option (List Int) := if (Lit.int .u32 a0).wf = true then some (sortI ((tabOf a0).map (·.1))) else none

set_option maxRecDepth 100000 in
set_option maxHeartbeats 2000000 in
theorem table_All.calls_ (a : Int) (hA : (Lit.int .u32 a).wf = true) (w : World) : CallsIn Fence.wide 6 Tryd.prog 13 #[.int .u32 a] w fun e w' => ∃ v0_ : Value, e = .returned v0_ ∧ Kd.R (Kd.int .u32) 22 w' w.heap.size (fun _ => True) v0_ (sortI ((tabOf a).map (·.1))) ∧ Below w.heap.size w w' := by
  have hne : (27 : TypeId) ≠ 22 := by decide
  have hf1 : Fence.wide.fn 23 := trivial
  have hf2 : Fence.wide.fn 27 := trivial
  have hf3 : Fence.wide.fn 28 := trivial
  refine callsIn_of_wp_marks Tryd.func13 rfl trivial ?_ rfl
  simp only [Tryd.ntmps13, List.size_toArray, List.length_cons, List.length_nil, Nat.reduceAdd, Nat.reduceSub, Array.replicate_succ, Array.replicate_zero, List.push_toArray, List.append_toArray, List.nil_append, List.cons_append]
  gi_wp2_with (first
    | (gi_at_call 23; refine (callsIn_wide.2 (table_names.calls a _)).mono ?_; rintro e w1 ⟨v, rfl, hat, hb1⟩; obtain ⟨mb, rfl⟩ := hat.map)
    | (gi_at_call 27; refine (U32.keys_in Fence.wide (6 - 1) trivial rfl mb _).mono ?_; rintro e w2 ⟨rfl, hw2⟩))
  have hw2s : w2 = w1.alloc (.cells #[.map mb] 40) := hw2
  have hb2 : Below w.heap.size w w2 := by
    rw [hw2s]
    have h0 : Below w.heap.size w (w.alloc (.cells #[.slice none 0 0] 27)) := (Below.refl _ w).alloc (Nat.le_refl _) _
    have h1 := h0.trans (hb1.mono h0.size)
    exact h1.alloc h1.size _
  have hs1 : w.heap.size + 1 ≤ w1.heap.size := by have := hb1.size; simp at this; exact this
  have hs2 : w2.heap.size = w1.heap.size + 1 := by rw [hw2s]; simp
  have hv2 : w2.heap[w.heap.size]? = some (.cells #[.slice none 0 0] 27 (0, 0)) := by
    rw [hw2s]
    exact (Below.heap_alloc _ _ _ (by omega)).trans ((hb1.block w.heap.size (by simp)).trans (World.alloc_heap_new w _))
  have hm2 : w2.cell? ⟨w1.heap.size, 0, none⟩ = some (.map mb) := by rw [hw2s]; exact cell_one_new _ _ _ 0 _ rfl
  have hat2 := hat.alloc (.cells #[.map mb] 40)
  rw [← hw2s] at hat2
  simp only [← hw2s]
  have hseq := U32.keys_gives Fence.wide (6 - 1) trivial rfl (by omega) a hA w1.heap.size _ _ w2 (by omega) hm2 hat2
  clear hw2 hw2s
  refine wpIn_rangeFunc ?_
  intro fn hfn
  rw [show Fence.wide.round = none from rfl]
  obtain ⟨sv, hsv⟩ : ∃ sv, Value.func (.func 34) #[] #[.pointer (some ⟨w1.heap.size, 0, none⟩)] = sv := ⟨_, rfl⟩
  obtain ⟨W1, hW1⟩ : ∃ W1, (w2.alloc (.deferred (some []))).alloc (.loop (U32.apRec fn a (.map mb) sv w.heap.size w2.heap.size .ready none)) = W1 := ⟨_, rfl⟩
  have hold : ∀ k, k < w2.heap.size → W1.heap[k]? = w2.heap[k]? := fun k hk => by
    rw [← hW1]; exact (Below.heap_alloc _ _ k (by simp; omega)).trans (Below.heap_alloc _ _ k hk)
  have hbW : Below w2.heap.size w2 W1 := by rw [← hW1]; exact ((Below.refl _ w2).alloc (Nat.le_refl _) _).alloc (by simp) _
  have hbW1 : Below w.heap.size w W1 := hb2.trans (hbW.mono hb2.size)
  have hsW : W1.heap.size = w2.heap.size + 2 := by rw [← hW1]; simp
  have hM : U32.ApAt w fn a (.map mb) sv w.heap.size (w2.heap.size + 1) w2.heap.size [] W1 :=
    ⟨⟨_, (hold w.heap.size (by omega)).trans hv2, ⟨rfl, .inl ⟨rfl, rfl⟩⟩, by simp⟩,
     by rw [← hW1]; have := World.alloc_heap_new (w2.alloc (.deferred (some []))) (.loop (U32.apRec fn a (.map mb) sv w.heap.size w2.heap.size .ready none)); rwa [World.size_alloc] at this,
     by rw [← hW1]; exact (Below.heap_alloc _ _ _ (by simp)).trans (World.alloc_heap_new w2 _), hbW1⟩
  refine ⟨w2.heap.size + 1, [{ target := .collected w2.heap.size, args := #[] }], W1, { target := .fn (.func 34) #[.pointer (some ⟨w1.heap.size, 0, none⟩)], args := #[.func (.yield (w2.heap.size + 1)) #[] #[]] }, W1, 34,
    #[.func (.yield (w2.heap.size + 1)) #[] #[]] ++ #[.pointer (some ⟨w1.heap.size, 0, none⟩)], W1, ?_, ?_, ?_, ?_, fun _ => by omega, ?_⟩
  · rw [← hW1, ← hsv]; exact run_enterLoop_outer _ _ _ _ _
  · simp [resolve, go_sem, rangeCall]
  · intro f' hf'; trivial
  · have eg : ∀ args w, (callFunc 34 args).run Tryd.prog w = .ok (.enter 34 args) w := enters_of Tryd.func34 (by kernel_rfl) rfl
    simp [invoke, go_sem, eg]
  · refine (hseq (w2.heap.size + 1) (U32.ApAt w fn a (.map mb) sv w.heap.size (w2.heap.size + 1) w2.heap.size) W1 hbW (U32.ap_abides _ _ _ _ _ _ _ _ _ hbW1.size)
      (fun pre x W hJ hl => U32.apYield Fence.wide _ w fn hfn a _ _ w.heap.size (w2.heap.size + 1) w2.heap.size (by omega) (by omega) (by omega) (Nat.le_refl _) (by omega) 1000 (by decide) (by decide) pre x W hJ (by have := tabOf_len a; omega)) hM).mono ?_
    rintro e W2 ⟨⟨v0, rfl⟩, ss, hS, h2⟩
    obtain ⟨v, hv, hrow, hnil⟩ := h2.box
    have hend := run_endLoop (P := Tryd.prog) h2.L (by simp [U32.apRec])
    obtain ⟨W3, hW3⟩ : ∃ W3, W2.putObj (w2.heap.size + 1) (.loop { U32.apRec fn a (.map mb) sv w.heap.size w2.heap.size .ready none with state := .exhausted }) = W3 := ⟨_, rfl⟩
    rw [hW3] at hend
    have hg3 : W2.grownBy W3 (some (w2.heap.size + 1)) := by rw [← hW3]; exact grownBy_putObj_a _ _ _
    have hv3 : W3.heap[w.heap.size]? = some (.cells #[v] 27 (0, 0)) := by rw [← hW3]; exact (World.putObj_heap_other (by omega)).trans hv
    have hK3 : W3.heap[w2.heap.size]? = some (.deferred (some [])) := by rw [← hW3]; exact (World.putObj_heap_other (by omega)).trans h2.K
    have hrow3 := hrow.kept hg3 (ownsRow_ne_a hrow h2.L (fun cur e => by first | cases e | exact hne (Obj.cells.inj e).2.1))
    have hb3 : Below w.heap.size w W3 := h2.below.grown hg3 h2.below.size (fun k e => by cases e; omega)
    obtain ⟨hc3, hf3⟩ := cell_of_box_a hv3
    have hlen : ss.length ≤ 1000 := by have := hS.length_eq; rw [List.length_map] at this; have := tabOf_len a; omega
    clear hW3
    refine ⟨none, W3, hend, ?_⟩
    rcases hrow3.2 with ⟨rfl, hz⟩ | ⟨gb, cap, cur, rfl, hbase, hgb, r1, r2, r3, r4⟩
    · have hss : ss = [] := List.eq_nil_of_length_eq_zero hz
      subst hss
      have hso := sort_tab hS
      gi_wp2_with (gi_at_call 28; refine (callsIn_wide.2 (U32.Sort_int_nil none 0 _)).mono ?_; rintro e w' ⟨rfl, rfl⟩)
      rw [← hs2]
      refine ⟨by simp, .inl ⟨_, _, rfl, run_takeDeferred hK3, ?_⟩⟩
      refine ⟨_, results_tmp rfl _ _ _, _, rfl, ?_, hb3.grown (grownBy_putObj_a _ _ _) hb3.size (fun k e => by cases e; omega)⟩
      rw [← hso]
      exact kdR_of_row32 (n := 0) (by simp) ⟨by simp, .inl ⟨rfl, rfl⟩⟩
    · have hH : Holds (Value.int .u32) W3 gb 0 ss.toArray := holds_of_block_i hgb (by simpa using r4)
      have hgl : gb < W3.heap.size := (Array.getElem?_eq_some_iff.1 hgb).1
      have hsz : ss.length < 4611686018427387904 := Nat.lt_of_le_of_lt hlen (by decide)
      have cS := U32.slices_Sort_int gb 0 cap ss W3 hH hgl hsz
      gi_wp2_with (gi_at_call 28; refine (callsIn_wide.2 cS).mono ?_; rintro e w' ⟨rfl, nn, os, hw'⟩
                   have hrw : w'.ownsRow w.heap.size 22 1 (.slice (some ⟨gb, 0, none⟩) ss.length cap) ss.length ((ss.mergeSort fun x y => decide (x ≤ y)).map (Value.int .u32)) := by rw [hw']; exact ownsRow_sorted_i (by simp) hbase hgb r1 r2 r3
                   have hgw : W3.grownBy w' (some gb) := by rw [hw']; exact grownBy_sorted_i _
                   have hgB : w.heap.size ≠ gb := fun e => by rw [← e, hv3] at hgb; exact hne (Obj.cells.inj (Option.some.inj hgb)).2.1
                   have hgD : w2.heap.size ≠ gb := fun e => by rw [← e, hK3] at hgb; cases hgb
                   have hv4 : w'.heap[w.heap.size]? = some (.cells #[.slice (some ⟨gb, 0, none⟩) ss.length cap] 27 (0, 0)) := (hgw.block _ (Array.getElem?_eq_some_iff.1 hv3).1 (fun e => hgB (by cases e; rfl))).trans hv3
                   have hK4 : w'.heap[w2.heap.size]? = some (.deferred (some [])) := (hgw.block _ (Array.getElem?_eq_some_iff.1 hK3).1 (fun e => hgD (by cases e; rfl))).trans hK3
                   have hb4 : Below w.heap.size w w' := hb3.grown hgw hb3.size (fun j hj => by cases hj; exact hbase)
                   obtain ⟨hc4, hf4⟩ := cell_of_box_a hv4
                   clear hw')
      rw [← hs2]
      refine ⟨by simp, .inl ⟨_, _, rfl, run_takeDeferred hK4, ?_⟩⟩
      refine ⟨_, results_tmp rfl _ _ _, _, rfl, ?_, hb4.grown (grownBy_putObj_a _ _ _) hb4.size (fun k e => by cases e; omega)⟩
      have hso := sort_tab hS
      have hl : ss.length = (sortI ((tabOf a).map (·.1))).length := by rw [← hso, List.length_mergeSort]
      rw [hso] at hrw
      exact kdR_of_row32 hl (hrw.kept (grownBy_putObj_a _ _ _) (ownsRow_ne_a hrw hK4 (fun cur e => by first | cases e | exact hne (Obj.cells.inj e).2.1)))

theorem table_All.calls (a0 : Int) (r : List Int) (w : World) (h : table_All.f a0 = some r) : Calls Tryd.prog 13 #[.int .u32 a0] w fun e w' => ∃ v0_ : Value, e = .returned v0_ ∧ Kd.R (Kd.int .u32) 22 w' w.heap.size (fun _ => True) v0_ r ∧ Below w.heap.size w w' := by
  unfold table_All.f at h
  by_cases hA : (Lit.int .u32 a0).wf = true
  · rw [if_pos hA] at h
    cases h
    exact callsIn_wide.1 (table_All.calls_ a0 hA w)
  · rw [if_neg hA] at h
    cases h
end Go.Proofs.YtpgjcjgmokfofaaDoor.Pr
