/- table.x64, x86, arm64, names: the maps that they make, as read. -/
import Derived.Test.YtpgjcjgmokfofaaDoorPr0
import Derived.Test.YtpgjcjgmokfofaaDoorWInv
import Derived.Test.YtpgjcjgmokfofaaDoorWInvWords
import Derived.Maps.OwnSet
import Derived.DeepKeys3
namespace Go.Proofs.YtpgjcjgmokfofaaDoor.Pr
set_option linter.unusedSimpArgs false
set_option linter.unusedVariables false
open Go.RowKit Go.Maps Go.Proofs.YtpgjcjgmokfofaaDoorW.PrintWords Go.Proofs.YtpgjcjgmokfofaaDoorW.PrintLast Go.Proofs.YtpgjcjgmokfofaaDoorW.PrintMore

/-! ### keys: two whole numbers -/
def kV (a n : Int) : Value := .agg #[.int .u32 a, .int .u32 n]
def kL (a n : Int) : Lit := .string (keyBytes [.int .u32 a, .int .u32 n])
theorem lawK0 : WideMaps.KeyLaw Tryd.prog 43 := deep_law (m := 2) (by omega) (by kernel_rfl) (by kernel_rfl) (by kernel_rfl)
theorem lawK : Keyed Tryd.prog 43 := Keyed.of_law lawK0
theorem keyType_ : Tryd.prog.keyType 43 = true := by kernel_rfl
theorem lits_ (a n : Int) (ha : (Lit.int .u32 a).wf = true) (hn : (Lit.int .u32 n).wf = true) : ∀ m, Tryd.prog.types.size = m + 1 → Tryd.prog.keyLits (Tryd.prog.types.size + 1) 43 [.int .u32 a, .int .u32 n] = some [.int .u32 a, .int .u32 n] := by
  intro m hm
  rw [hm]
  unfold Program.keyLits
  have h1 : Tryd.prog.underlying 22 = some (.int .u32) := Tryd.underlying22
  have c1 : Tryd.prog.cellsOf 22 = 1 := by kernel_rfl
  simp only [Tryd.underlying43]
  have c2 : Tryd.prog.cellsOf 43 = 2 := by kernel_rfl
  simp [c1, c2, Program.keyLits, h1, ha, hn, List.mapM_cons]
theorem key_of {a n : Int} (ha : (Lit.int .u32 a).wf = true) (hn : (Lit.int .u32 n).wf = true) : keyOf Tryd.prog 43 (kV a n) = some (kL a n) := by
  have hf : (kV a n).formed Tryd.prog 43 = true := by
    simp [Value.formed, kV, Tryd.underlying43, show Tryd.prog.cellsOf 43 = 2 by kernel_rfl]
  obtain ⟨m, hm⟩ : ∃ m, Tryd.prog.types.size = m + 1 := ⟨_, show Tryd.prog.types.size = (Tryd.prog.types.size - 1) + 1 by kernel_rfl⟩
  unfold keyOf
  simp only [Tryd.underlying43]
  rw [keyType_, hf]
  simp only [Bool.and_self, if_true, kV, Value.cells]
  rw [lits_ a n ha hn m hm]
  rfl
theorem kV_inj {a n a' n' : Int} (h : kV a n = kV a' n') : a = a' ∧ n = n' := by
  simpa [kV] using h
theorem kL_inj {a n a' n' : Int} (ha : (Lit.int .u32 a).wf = true) (hn : (Lit.int .u32 n).wf = true) (ha' : (Lit.int .u32 a').wf = true) (hn' : (Lit.int .u32 n').wf = true) (h : kL a n = kL a' n') : a = a' ∧ n = n' := by
  have h1 := key_of ha hn
  have h2 := key_of ha' hn'
  rw [h] at h1
  exact kV_inj (lawK.inj h1 h2)

/-! ### elements: a name -/
def eV (s : ByteArray) : Value := .agg #[.string s]
def eD (s : ByteArray) : DataW Unit := .agg [.lit (.string s.data.toList)]
def eR : Value → Option (DataW Unit × List MemPlace)
  | .agg ⟨[.string s]⟩ => some (eD s, [])
  | _ => none
theorem eR_mk (s : ByteArray) : eR (eV s) = some (eD s, []) := rfl
theorem eR_inv {v : Value} {y : DataW Unit × List MemPlace} (h : eR v = some y) : ∃ s, v = eV s ∧ y = (eD s, []) := by
  unfold eR at h
  split at h
  · cases h; exact ⟨_, rfl, rfl⟩
  · cases h
theorem eD_inj {s s' : ByteArray} (h : eD s = eD s') : s = s' := by
  unfold eD at h
  injection h with h
  injection h with h1 _
  injection h1 with h1
  injection h1 with h1
  cases s; cases s'
  simp at h1
  rw [h1]
def tD (a : Int) (l : List (Int × ByteArray)) : DataW Unit := .map (l.map fun e => (kL a e.1, eD e.2))


/-! ### a literal of a map whose entries come up in any order -/
/-- The entries that are listed. -/
def selB (b : Nat → Bool) : Nat → List (Int × ByteArray) → List (Int × ByteArray)
  | _, [] => []
  | j, e :: r => if b (3 * j + 3) = true then e :: selB b (j + 1) r else selB b (j + 1) r
theorem selB_len (b : Nat → Bool) : ∀ (j : Nat) (l : List (Int × ByteArray)), (selB b j l).length ≤ l.length
  | _, [] => Nat.le_refl _
  | j, e :: r => by
    have := selB_len b (j + 1) r
    unfold selB
    split <;> simp <;> omega
theorem selB_mem (b : Nat → Bool) : ∀ (j : Nat) (l : List (Int × ByteArray)), ∀ e ∈ selB b j l, e ∈ l
  | _, [], _, h => h
  | j, e :: r, x, h => by
    unfold selB at h
    split at h
    · rcases List.mem_cons.1 h with rfl | h
      · exact List.mem_cons_self ..
      · exact List.mem_cons_of_mem _ (selB_mem b (j + 1) r x h)
    · exact List.mem_cons_of_mem _ (selB_mem b (j + 1) r x h)
theorem selB_none (b : Nat → Bool) : ∀ (j : Nat) (l : List (Int × ByteArray)), (∀ i, j ≤ i → i < j + l.length → b (3 * i + 3) = false) → selB b j l = []
  | _, [], _ => rfl
  | j, e :: r, h => by
    unfold selB
    rw [if_neg (by rw [h j (Nat.le_refl _) (by simp)]; decide)]
    exact selB_none b (j + 1) r (fun i h1 h2 => h i (by omega) (by simp only [List.length_cons]; omega))
theorem selB_all (b : Nat → Bool) : ∀ (j : Nat) (l : List (Int × ByteArray)), (∀ i, j ≤ i → i < j + l.length → b (3 * i + 3) = true) → selB b j l = l
  | _, [], _ => rfl
  | j, e :: r, h => by
    unfold selB
    rw [if_pos (h j (Nat.le_refl _) (by simp)), selB_all b (j + 1) r (fun i h1 h2 => h i (by omega) (by simp only [List.length_cons]; omega))]
theorem selB_same {b b' : Nat → Bool} : ∀ (j : Nat) (l : List (Int × ByteArray)), (∀ i, j ≤ i → i < j + l.length → b (3 * i + 3) = b' (3 * i + 3)) → selB b j l = selB b' j l
  | _, [], _ => rfl
  | j, e :: r, h => by
    unfold selB
    rw [h j (Nat.le_refl _) (by simp), selB_same (j + 1) r (fun i h1 h2 => h i (by omega) (by simp only [List.length_cons]; omega))]
/-- Keys rising. -/
def risingK (A : Int) (l : List (Int × ByteArray)) : Prop := l.Pairwise fun x y => (kL A x.1).before (kL A y.1) = true ∧ (kL A y.1).before (kL A x.1) = false ∧ (kL A x.1).sameKey (kL A y.1) = false ∧ (kL A y.1).sameKey (kL A x.1) = false
theorem ins_sel {A : Int} {b : Nat → Bool} : ∀ (l : List (Int × ByteArray)) (j0 j : Nat) (e : Int × ByteArray), risingK A l → l[j]? = some e → b (3 * (j0 + j) + 3) = false →
    DataW.insert (kL A e.1, eD e.2) ((selB b j0 l).map fun e => (kL A e.1, eD e.2)) = (selB (up b (3 * (j0 + j) + 3)) j0 l).map fun e => (kL A e.1, (eD e.2 : DataW Unit))
  | [], j0, j, e, _, h, _ => by simp at h
  | x :: r, j0, 0, e, hr, h, hb => by
    obtain rfl : x = e := by simpa using h
    obtain ⟨h1, h2⟩ := List.pairwise_cons.1 hr
    unfold selB
    have e1 : selB (up b (3 * (j0 + 0) + 3)) (j0 + 1) r = selB b (j0 + 1) r := selB_same _ _ (fun i hi _ => up_ne (by omega))
    have hb' : b (3 * j0 + 3) = false := hb
    rw [if_neg (by rw [hb']; decide), if_pos (show up b (3 * (j0 + 0) + 3) (3 * j0 + 3) = true from up_self _ _), e1]
    cases hs : selB b (j0 + 1) r with
    | nil => rfl
    | cons y s =>
      have hy := h1 y (selB_mem b (j0 + 1) r y (by rw [hs]; exact List.mem_cons_self ..))
      simp only [List.map_cons, DataW.insert]
      rw [if_pos hy.1]
  | x :: r, j0, j + 1, e, hr, h, hb => by
    obtain ⟨h1, h2⟩ := List.pairwise_cons.1 hr
    have he : r[j]? = some e := by simpa using h
    have hx := h1 e (List.mem_of_getElem? he)
    have ih := ins_sel r (j0 + 1) j e h2 he (by rw [show j0 + 1 + j = j0 + (j + 1) by omega]; exact hb)
    rw [show j0 + 1 + j = j0 + (j + 1) by omega] at ih
    unfold selB
    rw [up_ne (show 3 * j0 + 3 ≠ 3 * (j0 + (j + 1)) + 3 by omega)]
    by_cases hbx : b (3 * j0 + 3) = true
    · rw [if_pos hbx, if_pos hbx]
      simp only [List.map_cons, DataW.insert]
      rw [if_neg (by rw [hx.2.1]; decide), ih]
    · rw [if_neg hbx, if_neg hbx]
      exact ih
theorem put_sel {A : Int} {b : Nat → Bool} {l : List (Int × ByteArray)} {j : Nat} {e : Int × ByteArray} (hr : risingK A l) (hj : l[j]? = some e) (hb : b (3 * j + 3) = false) :
    (tD A (selB b 0 l)).put (kL A e.1) (eD e.2) = tD A (selB (up b (3 * j + 3)) 0 l) := by
  have hf : ((selB b 0 l).map fun e => (kL A e.1, (eD e.2 : DataW Unit))).filter (fun p => !p.1.sameKey (kL A e.1)) = (selB b 0 l).map fun e => (kL A e.1, (eD e.2 : DataW Unit)) := by
    rw [List.filter_eq_self]
    intro p hp
    obtain ⟨y, hy, rfl⟩ := List.mem_map.1 hp
    have hyl := selB_mem b 0 l y hy
    have : ∀ (l : List (Int × ByteArray)) (j0 j : Nat), risingK A l → l[j]? = some e → b (3 * (j0 + j) + 3) = false → y ∈ selB b j0 l → (kL A y.1).sameKey (kL A e.1) = false := by
      intro l
      induction l with
      | nil => intro _ _ _ _ _ hy; cases hy
      | cons x r ih =>
        intro j0 j hr hj hb hy
        obtain ⟨h1, h2⟩ := List.pairwise_cons.1 hr
        unfold selB at hy
        cases j with
        | zero =>
          obtain rfl : x = e := by simpa using hj
          have hb' : b (3 * j0 + 3) = false := hb
          rw [if_neg (by rw [hb']; decide)] at hy
          exact (h1 y (selB_mem b _ r y hy)).2.2.2
        | succ j =>
          have he : r[j]? = some e := by simpa using hj
          have hb' : b (3 * (j0 + 1 + j) + 3) = false := by rw [show j0 + 1 + j = j0 + (j + 1) by omega]; exact hb
          split at hy
          · rcases List.mem_cons.1 hy with rfl | hy
            · exact (h1 e (List.mem_of_getElem? he)).2.2.1
            · exact ih (j0 + 1) j h2 he hb' hy
          · exact ih (j0 + 1) j h2 he hb' hy
    simp [this l 0 j hr hj (by rw [Nat.zero_add]; exact hb) hy]
  show DataW.map (DataW.insert (kL A e.1, eD e.2) (((selB b 0 l).map fun e => (kL A e.1, (eD e.2 : DataW Unit))).filter (fun p => !p.1.sameKey (kL A e.1)))) = _
  rw [hf]
  have := ins_sel l 0 j e hr hj (by rw [Nat.zero_add]; exact hb)
  rw [Nat.zero_add] at this
  rw [this]
  rfl

/-- What stands when the operations of b are listed. -/
structure TInv (A : Int) (tab : List (Int × ByteArray)) (B0 : Nat) (w0 : World) (b : Nat → Bool) (a : Act) (w : World) : Prop where
  defers : a.defers = []
  size : 2 * tab.length + 3 ≤ a.tmps.size
  m : b 0 = true → a.tmps[1]? = some (.map (some B0))
  k : ∀ j e, tab[j]? = some e → b (3 * j + 1) = true → a.tmps[2 * j + 2]? = some (kV A e.1)
  v : ∀ j e, tab[j]? = some e → b (3 * j + 2) = true → a.tmps[2 * j + 3]? = some (eV e.2)
  mv : b (3 * tab.length + 1) = true → a.tmps[2 * tab.length + 2]? = some (.map (some B0))
  out : b (3 * tab.length + 2) = true → a.tmps[0]? = some (.map (some B0))
  fresh : b 0 = false → w.heap.size = B0
  own : b 0 = true → w.ownsMap Tryd.prog 43 eR B0 (selB b 0 tab).length (tD A (selB b 0 tab))
  below : Below B0 w0 w
/-- What an operation is, but for its place in the text and what it waits for. -/
def sigOf (o : Option Oper) : Option (Option Tmp × Op × Option (Nat × Bool)) := o.map fun o => (o.dst, o.op, o.guard)
structure TOps (A : Int) (tab : List (Int × ByteArray)) (ops : Array Oper) : Prop where
  size : ops.size = 3 * tab.length + 3
  mk0 : sigOf ops[0]? = some (some 1, Op.makeMap 40 none, none)
  key : ∀ j e, tab[j]? = some e → sigOf ops[3 * j + 1]? = some (some (2 * j + 2), Op.build 43 #[(0, .const (.int .u32 A)), (1, .const (.int .u32 e.1))], none)
  val : ∀ j e, tab[j]? = some e → sigOf ops[3 * j + 2]? = some (some (2 * j + 3), Op.build 39 #[(0, .const (.string e.2))], none)
  ins : ∀ j e, tab[j]? = some e → sigOf ops[3 * j + 3]? = some (none, Op.insert 40 (.tmp 1) (.tmp (2 * j + 2)) (.tmp (2 * j + 3)), none)
  mv : sigOf ops[3 * tab.length + 1]? = some (some (2 * tab.length + 2), Op.move (.tmp 1), none)
  out : sigOf ops[3 * tab.length + 2]? = some (some 0, Op.assign (.tmp (2 * tab.length + 2)), none)
theorem sig_at {o : Option Oper} {d : Option Tmp} {p : Op} (h : sigOf o = some (d, p, none)) : ∃ oi, o = some oi ∧ oi.dst = d ∧ oi.op = p ∧ oi.guard = none := by
  obtain ⟨oi, h1, h2⟩ := Option.map_eq_some_iff.1 h
  simp only [Prod.mk.injEq] at h2
  exact ⟨oi, h1, h2.1, h2.2.1, h2.2.2⟩
/-- What each waits for, as far as it is used: an entry for the map, its key, its value; the result for the map. -/
def waitB (n : Nat) : List Nat := (List.range (3 * n + 3)).map fun i => if i = 0 then 0 else if i = 3 * n + 1 then 2 ^ 0 else if i = 3 * n + 2 then 2 ^ (3 * n + 1) else if i % 3 = 0 then 2 ^ 0 ||| (2 ^ (i - 2) ||| 2 ^ (i - 1)) else 0
theorem waitB_at {n i : Nat} (h : i < 3 * n + 3) : (waitB n).getD i 0 = if i = 0 then 0 else if i = 3 * n + 1 then 2 ^ 0 else if i = 3 * n + 2 then 2 ^ (3 * n + 1) else if i % 3 = 0 then 2 ^ 0 ||| (2 ^ (i - 2) ||| 2 ^ (i - 1)) else 0 := by
  unfold waitB
  rw [List.getD_eq_getElem?_getD, List.getElem?_map, List.getElem?_range h]
  rfl
theorem build_key (A n : Int) (w : World) (ev : Operand → Value) (h0 : ∀ v, ev (.const v) = v) : (Instr.build 43 (#[(0, Operand.const (.int .u32 A)), (1, Operand.const (.int .u32 n))].map fun (i, x) => (i, ev x))).run Tryd.prog w = .ok (kV A n) w := by
  simp only [List.map_toArray, List.map_cons, List.map_nil, h0]
  kernel_rfl
theorem build_val (s : ByteArray) (w : World) (ev : Operand → Value) (h0 : ∀ v, ev (.const v) = v) : (Instr.build 39 (#[(0, Operand.const (.string s))].map fun (i, x) => (i, ev x))).run Tryd.prog w = .ok (eV s) w := by
  simp only [List.map_toArray, List.map_cons, List.map_nil, h0]
  kernel_rfl
theorem get_put {a : Act} {t s : Nat} {v : Value} (h : t < a.tmps.size) : (a.put (some t) v).tmps[s]? = if t = s then some v else a.tmps[s]? := by
  simp only [Act.put]
  by_cases hts : t = s
  · subst hts; simp [h]
  · simp [hts, Array.getElem?_setIfInBounds_ne hts]
theorem size_put {a : Act} {t : Option Tmp} {v : Value} : (a.put t v).tmps.size = a.tmps.size := by
  cases t <;> simp [Act.put]
theorem defers_put {a : Act} {t : Option Tmp} {v : Value} : (a.put t v).defers = a.defers := by
  cases t <;> rfl
section
variable {A : Int} {tab : List (Int × ByteArray)} {ops : Array Oper} {Q : Exit → Act → World → Prop} {w0 : World} {B0 : Nat}
theorem wanted_ {ops : Array Oper} {oi : Oper} {a : Act} (h : oi.guard = none) : Region.wanted oi (yielded ops a.tmps) = true := by
  unfold Region.wanted
  rw [h]
theorem step_mk (hO : TOps A tab ops) (hB : B0 = w0.heap.size) (hn : tab.length ≤ 100) : StepAt Tryd.prog ops Q (waitB tab.length) (List.range ops.size) (TInv A tab B0 w0) 0 := by
  intro b a w hI hb hon hoff
  obtain ⟨oi, h0, hd, hop, hg⟩ := sig_at hO.mk0
  refine ⟨oi, h0, fun K hK => ?_⟩
  rw [if_pos (wanted_ hg)]
  have hsz := hI.fresh hb
  have hno : ∀ i, i < tab.length → b (3 * i + 3) = false := fun i hi => hoff (3 * i + 3) (by
    have h1 : (List.range ops.size).contains (3 * i + 3) = true := by rw [List.contains_iff_mem, List.mem_range, hO.size]; omega
    rw [h1, waitB_at (by omega), if_neg (by omega), if_neg (by omega), if_neg (by omega), if_pos (by omega)]
    simp [Nat.testBit_or])
  have hs1 := hI.size
  unfold Oper.wp
  simp [execOp, hop, run_makeMap, Result.andThen]
  refine hK.out _ _ ⟨by rw [defers_put]; exact hI.defers, by rw [size_put]; exact hs1, fun _ => ?_, fun j e hj hbj => ?_, fun j e hj hbj => ?_, fun hbm => ?_, fun hbo => ?_, fun hb0 => ?_, fun _ => ?_, ?_⟩
  · rw [hd, get_put (by omega), if_pos rfl, hsz]
  · rw [hd, get_put (by omega), if_neg (by omega)]
    exact hI.k j e hj (by rw [← hbj, up_ne (by omega)])
  · rw [hd, get_put (by omega), if_neg (by omega)]
    exact hI.v j e hj (by rw [← hbj, up_ne (by omega)])
  · rw [hd, get_put (by omega), if_neg (by omega)]
    exact hI.mv (by rw [← hbm, up_ne (by omega)])
  · rw [hd, get_put (by omega), if_neg (by omega)]
    exact hI.out (by rw [← hbo, up_ne (by omega)])
  · rw [up_self] at hb0; cases hb0
  · have : selB (up b 0) 0 tab = [] := selB_none _ _ _ (fun i _ hi => by rw [up_ne (by omega)]; exact hno i (by omega))
    rw [this, ← hsz]
    exact World.ownsMap_made w Tryd.prog 43 eR
  · exact hI.below.alloc (by rw [hsz]; exact Nat.le_refl _) _
theorem step_key (hO : TOps A tab ops) {j : Nat} {e : Int × ByteArray} (hj : tab[j]? = some e) : StepAt Tryd.prog ops Q (waitB tab.length) (List.range ops.size) (TInv A tab B0 w0) (3 * j + 1) := by
  intro b a w hI hb hon hoff
  obtain ⟨oi, h0, hd, hop, hg⟩ := sig_at (hO.key j e hj)
  have hjl := (List.getElem?_eq_some_iff.1 hj).1
  refine ⟨oi, h0, fun K hK => ?_⟩
  rw [if_pos (wanted_ hg)]
  have hs1 := hI.size
  have hrun := build_key A e.1 w a.eval (fun _ => rfl)
  simp only [List.map_toArray, List.map_cons, List.map_nil] at hrun
  unfold Oper.wp
  simp [execOp, hop, hrun, Result.andThen]
  have hsel : selB (up b (3 * j + 1)) 0 tab = selB b 0 tab := selB_same _ _ (fun i _ _ => up_ne (by omega))
  refine hK.out _ _ ⟨by rw [defers_put]; exact hI.defers, by rw [size_put]; exact hs1, fun hm => ?_, fun i e' hi hbi => ?_, fun i e' hi hbi => ?_, fun hbm => ?_, fun hbo => ?_, fun hb0 => ?_, fun hb0 => ?_, hI.below⟩
  · rw [hd, get_put (by omega), if_neg (by omega)]
    exact hI.m (by rw [← hm, up_ne (by omega)])
  · rw [hd, get_put (by omega)]
    by_cases hij : i = j
    · subst hij
      rw [hj] at hi
      cases hi
      rw [if_pos rfl]
    · rw [if_neg (by omega)]
      exact hI.k i e' hi (by rw [← hbi, up_ne (by omega)])
  · rw [hd, get_put (by omega), if_neg (by omega)]
    exact hI.v i e' hi (by rw [← hbi, up_ne (by omega)])
  · rw [hd, get_put (by omega), if_neg (by omega)]
    exact hI.mv (by rw [← hbm, up_ne (by omega)])
  · rw [hd, get_put (by omega), if_neg (by omega)]
    exact hI.out (by rw [← hbo, up_ne (by omega)])
  · exact hI.fresh (by rw [← hb0, up_ne (by omega)])
  · rw [hsel]
    exact hI.own (by rw [← hb0, up_ne (by omega)])
theorem step_val (hO : TOps A tab ops) {j : Nat} {e : Int × ByteArray} (hj : tab[j]? = some e) : StepAt Tryd.prog ops Q (waitB tab.length) (List.range ops.size) (TInv A tab B0 w0) (3 * j + 2) := by
  intro b a w hI hb hon hoff
  obtain ⟨oi, h0, hd, hop, hg⟩ := sig_at (hO.val j e hj)
  have hjl := (List.getElem?_eq_some_iff.1 hj).1
  refine ⟨oi, h0, fun K hK => ?_⟩
  rw [if_pos (wanted_ hg)]
  have hs1 := hI.size
  have hrun := build_val e.2 w a.eval (fun _ => rfl)
  simp only [List.map_toArray, List.map_cons, List.map_nil] at hrun
  unfold Oper.wp
  simp [execOp, hop, hrun, Result.andThen]
  have hsel : selB (up b (3 * j + 2)) 0 tab = selB b 0 tab := selB_same _ _ (fun i _ _ => up_ne (by omega))
  refine hK.out _ _ ⟨by rw [defers_put]; exact hI.defers, by rw [size_put]; exact hs1, fun hm => ?_, fun i e' hi hbi => ?_, fun i e' hi hbi => ?_, fun hbm => ?_, fun hbo => ?_, fun hb0 => ?_, fun hb0 => ?_, hI.below⟩
  · rw [hd, get_put (by omega), if_neg (by omega)]
    exact hI.m (by rw [← hm, up_ne (by omega)])
  · rw [hd, get_put (by omega), if_neg (by omega)]
    exact hI.k i e' hi (by rw [← hbi, up_ne (by omega)])
  · rw [hd, get_put (by omega)]
    by_cases hij : i = j
    · subst hij
      rw [hj] at hi
      cases hi
      rw [if_pos rfl]
    · rw [if_neg (by omega)]
      exact hI.v i e' hi (by rw [← hbi, up_ne (by omega)])
  · rw [hd, get_put (by omega), if_neg (by omega)]
    exact hI.mv (by rw [← hbm, up_ne (by omega)])
  · rw [hd, get_put (by omega), if_neg (by omega)]
    exact hI.out (by rw [← hbo, up_ne (by omega)])
  · exact hI.fresh (by rw [← hb0, up_ne (by omega)])
  · rw [hsel]
    exact hI.own (by rw [← hb0, up_ne (by omega)])
theorem step_ins (hO : TOps A tab ops) (hn : tab.length ≤ 100) (hr : risingK A tab) (hA : (Lit.int .u32 A).wf = true) {j : Nat} {e : Int × ByteArray} (hj : tab[j]? = some e) (he : (Lit.int .u32 e.1).wf = true) : StepAt Tryd.prog ops Q (waitB tab.length) (List.range ops.size) (TInv A tab B0 w0) (3 * j + 3) := by
  intro b a w hI hb hon hoff
  obtain ⟨oi, h0, hd, hop, hg⟩ := sig_at (hO.ins j e hj)
  have hjl := (List.getElem?_eq_some_iff.1 hj).1
  refine ⟨oi, h0, fun K hK => ?_⟩
  rw [if_pos (wanted_ hg)]
  have hin : ∀ i, i < 3 * tab.length + 3 → (List.range ops.size).contains i = true := fun i hi => by rw [List.contains_iff_mem, List.mem_range, hO.size]; exact hi
  have hw := waitB_at (n := tab.length) (i := 3 * j + 3) (by omega)
  rw [if_neg (by omega), if_neg (by omega), if_neg (by omega), if_pos (by omega)] at hw
  have b0 : b 0 = true := hon 0 (by rw [hin 0 (by omega), hw]; simp [Nat.testBit_or])
  have b1 : b (3 * j + 1) = true := hon (3 * j + 1) (by rw [hin _ (by omega), hw]; simp [Nat.testBit_or, Nat.testBit_two_pow])
  have b2 : b (3 * j + 2) = true := hon (3 * j + 2) (by rw [hin _ (by omega), hw]; simp [Nat.testBit_or, Nat.testBit_two_pow])
  have e1 := eval_of (hI.m b0)
  have e2 := eval_of (hI.k j e hj b1)
  have e3 := eval_of (hI.v j e hj b2)
  have hown := hI.own b0
  have hlen := selB_len b 0 tab
  obtain ⟨w', hrun, r1, r2⟩ := hown.update lawK Tryd.underlying40 (by unfold maxLen; omega) (key_of hA he) (eR_mk e.2)
  rw [put_sel hr hj hb] at r1
  unfold Oper.wp
  simp [execOp, hop, e1, e2, e3, hrun, Result.andThen]
  show K (a.put oi.dst undef) w'
  rw [hd]
  refine hK.out _ _ ⟨hI.defers, hI.size, fun hm => ?_, fun i e' hi hbi => ?_, fun i e' hi hbi => ?_, fun hbm => ?_, fun hbo => ?_, fun hb0 => ?_, fun hb0 => ?_, ?_⟩
  · exact hI.m b0
  · exact hI.k i e' hi (by rw [← hbi, up_ne (by omega)])
  · exact hI.v i e' hi (by rw [← hbi, up_ne (by omega)])
  · exact hI.mv (by rw [← hbm, up_ne (by omega)])
  · exact hI.out (by rw [← hbo, up_ne (by omega)])
  · rw [up_ne (by omega), b0] at hb0; cases hb0
  · have hl : ∀ (l : List (Int × ByteArray)) (j0 j : Nat), j < l.length → b (3 * (j0 + j) + 3) = false → (selB (up b (3 * (j0 + j) + 3)) j0 l).length = (selB b j0 l).length + 1 := by
      intro l
      induction l with
      | nil => intro _ _ h; simp at h
      | cons x r ih =>
        intro j0 j hjl hb
        unfold selB
        cases j with
        | zero =>
          have e1 : selB (up b (3 * (j0 + 0) + 3)) (j0 + 1) r = selB b (j0 + 1) r := selB_same _ _ (fun i hi _ => up_ne (by omega))
          have hb' : b (3 * j0 + 3) = false := hb
          rw [if_pos (show up b (3 * (j0 + 0) + 3) (3 * j0 + 3) = true from up_self _ _), if_neg (by rw [hb']; decide), e1]
          rfl
        | succ j =>
          rw [up_ne (show 3 * j0 + 3 ≠ 3 * (j0 + (j + 1)) + 3 by omega)]
          have := ih (j0 + 1) j (by simpa using hjl) (by rw [show j0 + 1 + j = j0 + (j + 1) by omega]; exact hb)
          rw [show j0 + 1 + j = j0 + (j + 1) by omega] at this
          split
          · simp only [List.length_cons, this]
          · exact this
    have := hl tab 0 j hjl (by rw [Nat.zero_add]; exact hb)
    rw [Nat.zero_add] at this
    rw [this]
    exact r1
  · exact hI.below.grown r2 (by have := hI.below.size; have := hown.lt; exact Nat.le_of_lt hown.lt) (fun k hk => by cases hk; exact Nat.le_refl _)
theorem step_mv (hO : TOps A tab ops) : StepAt Tryd.prog ops Q (waitB tab.length) (List.range ops.size) (TInv A tab B0 w0) (3 * tab.length + 1) := by
  intro b a w hI hb hon hoff
  obtain ⟨oi, h0, hd, hop, hg⟩ := sig_at hO.mv
  refine ⟨oi, h0, fun K hK => ?_⟩
  rw [if_pos (wanted_ hg)]
  have b0 : b 0 = true := hon 0 (by
    have h1 : (List.range ops.size).contains 0 = true := by rw [List.contains_iff_mem, List.mem_range, hO.size]; omega
    rw [h1, waitB_at (by omega), if_neg (by omega), if_pos rfl]; rfl)
  have e1 := eval_of (hI.m b0)
  have hs1 := hI.size
  unfold Oper.wp
  simp [execOp, hop, e1, Result.andThen]
  have hsel : selB (up b (3 * tab.length + 1)) 0 tab = selB b 0 tab := selB_same _ _ (fun i _ _ => up_ne (by omega))
  refine hK.out _ _ ⟨by rw [defers_put]; exact hI.defers, by rw [size_put]; exact hs1, fun hm => ?_, fun i e' hi hbi => ?_, fun i e' hi hbi => ?_, fun hbm => ?_, fun hbo => ?_, fun hb0 => ?_, fun hb0 => ?_, hI.below⟩
  · rw [hd, get_put (by omega), if_neg (by omega)]
    exact hI.m b0
  · have hil := (List.getElem?_eq_some_iff.1 hi).1
    rw [hd, get_put (by omega), if_neg (by omega)]
    exact hI.k i e' hi (by rw [← hbi, up_ne (by omega)])
  · have hil := (List.getElem?_eq_some_iff.1 hi).1
    rw [hd, get_put (by omega), if_neg (by omega)]
    exact hI.v i e' hi (by rw [← hbi, up_ne (by omega)])
  · rw [hd, get_put (by omega), if_pos rfl]
  · rw [hd, get_put (by omega), if_neg (by omega)]
    exact hI.out (by rw [← hbo, up_ne (by omega)])
  · exact hI.fresh (by rw [← hb0, up_ne (by omega)])
  · rw [hsel]
    exact hI.own (by rw [← hb0, up_ne (by omega)])
theorem step_out (hO : TOps A tab ops) : StepAt Tryd.prog ops Q (waitB tab.length) (List.range ops.size) (TInv A tab B0 w0) (3 * tab.length + 2) := by
  intro b a w hI hb hon hoff
  obtain ⟨oi, h0, hd, hop, hg⟩ := sig_at hO.out
  refine ⟨oi, h0, fun K hK => ?_⟩
  rw [if_pos (wanted_ hg)]
  have b1 : b (3 * tab.length + 1) = true := hon (3 * tab.length + 1) (by
    have h1 : (List.range ops.size).contains (3 * tab.length + 1) = true := by rw [List.contains_iff_mem, List.mem_range, hO.size]; omega
    rw [h1, waitB_at (by omega), if_neg (by omega), if_neg (by omega), if_pos rfl]; simp [Nat.testBit_two_pow])
  have e1 := eval_of (hI.mv b1)
  have hs1 := hI.size
  unfold Oper.wp
  simp [execOp, hop, e1, Result.andThen]
  have hsel : selB (up b (3 * tab.length + 2)) 0 tab = selB b 0 tab := selB_same _ _ (fun i _ _ => up_ne (by omega))
  refine hK.out _ _ ⟨by rw [defers_put]; exact hI.defers, by rw [size_put]; exact hs1, fun hm => ?_, fun i e' hi hbi => ?_, fun i e' hi hbi => ?_, fun hbm => ?_, fun hbo => ?_, fun hb0 => ?_, fun hb0 => ?_, hI.below⟩
  · rw [hd, get_put (by omega), if_neg (by omega)]
    exact hI.m (by rw [← hm, up_ne (by omega)])
  · have hil := (List.getElem?_eq_some_iff.1 hi).1
    rw [hd, get_put (by omega), if_neg (by omega)]
    exact hI.k i e' hi (by rw [← hbi, up_ne (by omega)])
  · have hil := (List.getElem?_eq_some_iff.1 hi).1
    rw [hd, get_put (by omega), if_neg (by omega)]
    exact hI.v i e' hi (by rw [← hbi, up_ne (by omega)])
  · rw [hd, get_put (by omega), if_neg (by omega)]
    exact hI.mv (by rw [← hbm, up_ne (by omega)])
  · rw [hd, get_put (by omega), if_pos rfl]
  · exact hI.fresh (by rw [← hb0, up_ne (by omega)])
  · rw [hsel]
    exact hI.own (by rw [← hb0, up_ne (by omega)])
/-- THE REGION OF A TABLE's LITERAL. -/
theorem tab_region {id : Nat} {a : Act} {w : World} (hO : TOps A tab ops) (hn : tab.length ≤ 100) (hr : risingK A tab) (hA : (Lit.int .u32 A).wf = true) (he : ∀ e ∈ tab, (Lit.int .u32 e.1).wf = true)
    (hm : Tryd.prog.follows .mixedOrders = true) (hw : waitsOk (rtab .any ops).2 (waitB tab.length) = true) (hk : baseOk (rtab .any ops).2 (List.range ops.size) = true)
    (hl : (lof (rtab .any ops).2.length (List.range ops.size) (fun _ => false) == (Array.replicate ops.size false).toList && (List.range ops.size).length == ops.size) = true)
    (hd : a.defers = []) (hs : 2 * tab.length + 3 ≤ a.tmps.size)
    (hend : ∀ a' w', a'.defers = [] → a'.tmps[0]? = some (.map (some w.heap.size)) → w'.ownsMap Tryd.prog 43 eR w.heap.size tab.length (tD A tab) → Below w.heap.size w w' → Q .normal a' w') :
    (Code.region id ops true).wp Tryd.prog Q a w := by
  refine wp_region_last_drew (S := fun _ => True) (ds := []) hm trivial (fun _ => ?_)
  have hin : ∀ i, i < 3 * tab.length + 3 → (List.range ops.size).contains i = true := fun i hi => by rw [List.contains_iff_mem, List.mem_range, hO.size]; exact hi
  refine inv_ (List.range ops.size) (TInv A tab w.heap.size w) rfl hw hk hl ⟨hd, hs, (fun h => by cases h), (fun _ _ _ h => by cases h), (fun _ _ _ h => by cases h), (fun h => by cases h), (fun h => by cases h), (fun _ => rfl), (fun h => by cases h), (Below.refl _ w).drew⟩ (fun i hi => ?_) (fun b a' w' hall hI => ?_)
  · have hi' : i < 3 * tab.length + 3 := by rw [← hO.size]; exact List.mem_range.1 hi
    by_cases h0 : i = 0
    · subst h0; exact step_mk hO rfl hn
    · by_cases h1 : i = 3 * tab.length + 1 ∨ i = 3 * tab.length + 2
      · rcases h1 with h1 | h1
        · subst h1; exact step_mv hO
        · subst h1; exact step_out hO
      · have hj : (i - 1) / 3 < tab.length := by omega
        have hjg : tab[(i - 1) / 3]? = some tab[(i - 1) / 3] := List.getElem?_eq_getElem hj
        have h3 : i = 3 * ((i - 1) / 3) + 1 ∨ i = 3 * ((i - 1) / 3) + 2 ∨ i = 3 * ((i - 1) / 3) + 3 := by omega
        rcases h3 with h3 | h3 | h3
        · rw [h3]; exact step_key hO hjg
        · rw [h3]; exact step_val hO hjg
        · rw [h3]; exact step_ins hO hn hr hA hjg (he _ (List.getElem_mem hj))
  · have hb : ∀ i, i < 3 * tab.length + 3 → b i = true := fun i hi => hall i (hin i hi)
    have hsel : selB b 0 tab = tab := selB_all b 0 tab (fun i _ hi => hb (3 * i + 3) (by omega))
    have ho := hI.own (hb 0 (by omega))
    rw [hsel] at ho
    exact hend a' w' hI.defers (hI.out (hb _ (by omega))) ho hI.below
end
/-- The operations' form by comparing lists. -/
theorem tops_of {A : Int} {tab : List (Int × ByteArray)} {ops : Array Oper} (hs : ops.size = 3 * tab.length + 3)
    (h0 : sigOf ops[0]? = some (some 1, Op.makeMap 40 none, none))
    (h1 : ((List.range tab.length).map fun j => (sigOf ops[3 * j + 1]?, sigOf ops[3 * j + 2]?, sigOf ops[3 * j + 3]?)) = (List.range tab.length).map fun j =>
      (some (some (2 * j + 2), Op.build 43 #[(0, .const (.int .u32 A)), (1, .const (.int .u32 (tab.getD j (0, ⟨#[]⟩)).1))], none), some (some (2 * j + 3), Op.build 39 #[(0, .const (.string (tab.getD j (0, ⟨#[]⟩)).2))], none),
       some (none, Op.insert 40 (.tmp 1) (.tmp (2 * j + 2)) (.tmp (2 * j + 3)), none)))
    (h2 : sigOf ops[3 * tab.length + 1]? = some (some (2 * tab.length + 2), Op.move (.tmp 1), none)) (h3 : sigOf ops[3 * tab.length + 2]? = some (some 0, Op.assign (.tmp (2 * tab.length + 2)), none)) : TOps A tab ops := by
  have hj : ∀ j e, tab[j]? = some e → (sigOf ops[3 * j + 1]?, sigOf ops[3 * j + 2]?, sigOf ops[3 * j + 3]?) = (some (some (2 * j + 2), Op.build 43 #[(0, .const (.int .u32 A)), (1, .const (.int .u32 e.1))], none), some (some (2 * j + 3), Op.build 39 #[(0, .const (.string e.2))], none), some (none, Op.insert 40 (.tmp 1) (.tmp (2 * j + 2)) (.tmp (2 * j + 3)), none)) := by
    intro j e h
    have hl := (List.getElem?_eq_some_iff.1 h).1
    have := List.map_inj_left.1 h1 j (List.mem_range.2 hl)
    rw [this]
    have e1 : tab.getD j (0, ⟨#[]⟩) = e := by rw [List.getD_eq_getElem?_getD, h]; rfl
    rw [e1]
  exact ⟨hs, h0, fun j e h => (Prod.mk.inj (hj j e h)).1, fun j e h => (Prod.mk.inj (Prod.mk.inj (hj j e h)).2).1, fun j e h => (Prod.mk.inj (Prod.mk.inj (hj j e h)).2).2, h2, h3⟩
def risingB (A : Int) : List (Int × ByteArray) → Bool
  | [] => true
  | x :: r => (r.all fun y => (kL A x.1).before (kL A y.1) && !(kL A y.1).before (kL A x.1) && !(kL A x.1).sameKey (kL A y.1) && !(kL A y.1).sameKey (kL A x.1)) && risingB A r
theorem rising_of {A : Int} : ∀ {l : List (Int × ByteArray)}, risingB A l = true → risingK A l
  | [], _ => List.Pairwise.nil
  | x :: r, h => by
    unfold risingB at h
    rw [Bool.and_eq_true, List.all_eq_true] at h
    refine List.pairwise_cons.2 ⟨fun y hy => ?_, rising_of h.2⟩
    have := h.1 y hy
    simp only [Bool.and_eq_true, Bool.not_eq_true'] at this
    exact ⟨this.1.1.1, this.1.1.2, this.1.2, this.2⟩

/-! ### the tables -/
def tX64 : List (Int × ByteArray) := [(0, ⟨#[114, 101, 97, 100]⟩), (1, ⟨#[119, 114, 105, 116, 101]⟩), (2, ⟨#[111, 112, 101, 110]⟩), (3, ⟨#[99, 108, 111, 115, 101]⟩), (4, ⟨#[115, 116, 97, 116]⟩), (5, ⟨#[102, 115, 116, 97, 116]⟩), (6, ⟨#[108, 115, 116, 97, 116]⟩), (7, ⟨#[112, 111, 108, 108]⟩), (8, ⟨#[108, 115, 101, 101, 107]⟩), (9, ⟨#[109, 109, 97, 112]⟩), (10, ⟨#[109, 112, 114, 111, 116, 101, 99, 116]⟩), (11, ⟨#[109, 117, 110, 109, 97, 112]⟩), (12, ⟨#[98, 114, 107]⟩), (13, ⟨#[114, 116, 95, 115, 105, 103, 97, 99, 116, 105, 111, 110]⟩), (14, ⟨#[114, 116, 95, 115, 105, 103, 112, 114, 111, 99, 109, 97, 115, 107]⟩), (15, ⟨#[114, 116, 95, 115, 105, 103, 114, 101, 116, 117, 114, 110]⟩), (16, ⟨#[105, 111, 99, 116, 108]⟩), (17, ⟨#[112, 114, 101, 97, 100, 54, 52]⟩), (18, ⟨#[112, 119, 114, 105, 116, 101, 54, 52]⟩), (19, ⟨#[114, 101, 97, 100, 118]⟩), (20, ⟨#[119, 114, 105, 116, 101, 118]⟩), (21, ⟨#[97, 99, 99, 101, 115, 115]⟩), (22, ⟨#[112, 105, 112, 101]⟩), (32, ⟨#[100, 117, 112]⟩), (33, ⟨#[100, 117, 112, 50]⟩), (35, ⟨#[110, 97, 110, 111, 115, 108, 101, 101, 112]⟩), (39, ⟨#[103, 101, 116, 112, 105, 100]⟩), (41, ⟨#[115, 111, 99, 107, 101, 116]⟩), (42, ⟨#[99, 111, 110, 110, 101, 99, 116]⟩), (56, ⟨#[99, 108, 111, 110, 101]⟩), (57, ⟨#[102, 111, 114, 107]⟩), (59, ⟨#[101, 120, 101, 99, 118, 101]⟩), (60, ⟨#[101, 120, 105, 116]⟩), (61, ⟨#[119, 97, 105, 116, 52]⟩), (62, ⟨#[107, 105, 108, 108]⟩), (63, ⟨#[117, 110, 97, 109, 101]⟩), (72, ⟨#[102, 99, 110, 116, 108]⟩), (202, ⟨#[102, 117, 116, 101, 120]⟩), (231, ⟨#[101, 120, 105, 116, 95, 103, 114, 111, 117, 112]⟩), (257, ⟨#[111, 112, 101, 110, 97, 116]⟩), (317, ⟨#[115, 101, 99, 99, 111, 109, 112]⟩)]
def tX86 : List (Int × ByteArray) := [(1, ⟨#[101, 120, 105, 116]⟩), (2, ⟨#[102, 111, 114, 107]⟩), (3, ⟨#[114, 101, 97, 100]⟩), (4, ⟨#[119, 114, 105, 116, 101]⟩), (5, ⟨#[111, 112, 101, 110]⟩), (6, ⟨#[99, 108, 111, 115, 101]⟩), (11, ⟨#[101, 120, 101, 99, 118, 101]⟩), (19, ⟨#[108, 115, 101, 101, 107]⟩), (20, ⟨#[103, 101, 116, 112, 105, 100]⟩), (33, ⟨#[97, 99, 99, 101, 115, 115]⟩), (37, ⟨#[107, 105, 108, 108]⟩), (41, ⟨#[100, 117, 112]⟩), (42, ⟨#[112, 105, 112, 101]⟩), (45, ⟨#[98, 114, 107]⟩), (54, ⟨#[105, 111, 99, 116, 108]⟩), (55, ⟨#[102, 99, 110, 116, 108]⟩), (63, ⟨#[100, 117, 112, 50]⟩), (90, ⟨#[109, 109, 97, 112]⟩), (91, ⟨#[109, 117, 110, 109, 97, 112]⟩), (114, ⟨#[119, 97, 105, 116, 52]⟩), (120, ⟨#[99, 108, 111, 110, 101]⟩), (122, ⟨#[117, 110, 97, 109, 101]⟩), (125, ⟨#[109, 112, 114, 111, 116, 101, 99, 116]⟩), (145, ⟨#[114, 101, 97, 100, 118]⟩), (146, ⟨#[119, 114, 105, 116, 101, 118]⟩), (162, ⟨#[110, 97, 110, 111, 115, 108, 101, 101, 112]⟩), (168, ⟨#[112, 111, 108, 108]⟩), (173, ⟨#[114, 116, 95, 115, 105, 103, 114, 101, 116, 117, 114, 110]⟩), (174, ⟨#[114, 116, 95, 115, 105, 103, 97, 99, 116, 105, 111, 110]⟩), (175, ⟨#[114, 116, 95, 115, 105, 103, 112, 114, 111, 99, 109, 97, 115, 107]⟩), (180, ⟨#[112, 114, 101, 97, 100, 54, 52]⟩), (181, ⟨#[112, 119, 114, 105, 116, 101, 54, 52]⟩), (240, ⟨#[102, 117, 116, 101, 120]⟩), (252, ⟨#[101, 120, 105, 116, 95, 103, 114, 111, 117, 112]⟩), (295, ⟨#[111, 112, 101, 110, 97, 116]⟩), (354, ⟨#[115, 101, 99, 99, 111, 109, 112]⟩), (359, ⟨#[115, 111, 99, 107, 101, 116]⟩), (362, ⟨#[99, 111, 110, 110, 101, 99, 116]⟩)]
def tArm64 : List (Int × ByteArray) := [(23, ⟨#[100, 117, 112]⟩), (25, ⟨#[102, 99, 110, 116, 108]⟩), (29, ⟨#[105, 111, 99, 116, 108]⟩), (56, ⟨#[111, 112, 101, 110, 97, 116]⟩), (57, ⟨#[99, 108, 111, 115, 101]⟩), (62, ⟨#[108, 115, 101, 101, 107]⟩), (63, ⟨#[114, 101, 97, 100]⟩), (64, ⟨#[119, 114, 105, 116, 101]⟩), (65, ⟨#[114, 101, 97, 100, 118]⟩), (66, ⟨#[119, 114, 105, 116, 101, 118]⟩), (67, ⟨#[112, 114, 101, 97, 100, 54, 52]⟩), (68, ⟨#[112, 119, 114, 105, 116, 101, 54, 52]⟩), (80, ⟨#[102, 115, 116, 97, 116]⟩), (93, ⟨#[101, 120, 105, 116]⟩), (94, ⟨#[101, 120, 105, 116, 95, 103, 114, 111, 117, 112]⟩), (98, ⟨#[102, 117, 116, 101, 120]⟩), (101, ⟨#[110, 97, 110, 111, 115, 108, 101, 101, 112]⟩), (129, ⟨#[107, 105, 108, 108]⟩), (134, ⟨#[114, 116, 95, 115, 105, 103, 97, 99, 116, 105, 111, 110]⟩), (135, ⟨#[114, 116, 95, 115, 105, 103, 112, 114, 111, 99, 109, 97, 115, 107]⟩), (139, ⟨#[114, 116, 95, 115, 105, 103, 114, 101, 116, 117, 114, 110]⟩), (160, ⟨#[117, 110, 97, 109, 101]⟩), (172, ⟨#[103, 101, 116, 112, 105, 100]⟩), (198, ⟨#[115, 111, 99, 107, 101, 116]⟩), (203, ⟨#[99, 111, 110, 110, 101, 99, 116]⟩), (214, ⟨#[98, 114, 107]⟩), (215, ⟨#[109, 117, 110, 109, 97, 112]⟩), (220, ⟨#[99, 108, 111, 110, 101]⟩), (221, ⟨#[101, 120, 101, 99, 118, 101]⟩), (222, ⟨#[109, 109, 97, 112]⟩), (226, ⟨#[109, 112, 114, 111, 116, 101, 99, 116]⟩), (260, ⟨#[119, 97, 105, 116, 52]⟩), (277, ⟨#[115, 101, 99, 99, 111, 109, 112]⟩)]

theorem ops_X64 : TOps 3221225534 tX64 (opsOf Tryd.f31 1) := by
  refine tops_of (by kernel_rfl) (by kernel_rfl) (by kernel_rfl) (by kernel_rfl) (by kernel_rfl)
set_option maxHeartbeats 2000000 in
set_option maxRecDepth 100000 in
theorem table_x64.calls (w : World) : Calls Tryd.prog 31 #[] w fun e w' => e = .returned (.map (some w.heap.size)) ∧ w'.ownsMap Tryd.prog 43 eR w.heap.size 41 (tD 3221225534 tX64) ∧ Below w.heap.size w w' := by
  go_enter Tryd.func31, Tryd.ntmps31
  go_upto_region 1 with (fail)
  refine tab_region (ops := opsOf Tryd.f31 1) ops_X64 (by decide) (rising_of (by kernel_rfl)) (by decide) (by decide +kernel) (by kernel_rfl) (by kernel_rfl) (by kernel_rfl) (by kernel_rfl) rfl (by decide) ?_
  intro a' w' hd h0 ho hb
  go_wp2
  refine bodyPost_ret (results_tmp rfl _ _ _) hd ?_
  have e0 : a'.tmps.getD 0 undef = .map (some w.heap.size) := by simp [Array.getD_eq_getD_getElem?, h0]
  exact ⟨by first | rw [e0] | simp [e0], ho, hb⟩
theorem ops_X86 : TOps 1073741827 tX86 (opsOf Tryd.f32 1) := by
  refine tops_of (by kernel_rfl) (by kernel_rfl) (by kernel_rfl) (by kernel_rfl) (by kernel_rfl)
set_option maxHeartbeats 2000000 in
set_option maxRecDepth 100000 in
theorem table_x86.calls (w : World) : Calls Tryd.prog 32 #[] w fun e w' => e = .returned (.map (some w.heap.size)) ∧ w'.ownsMap Tryd.prog 43 eR w.heap.size 38 (tD 1073741827 tX86) ∧ Below w.heap.size w w' := by
  go_enter Tryd.func32, Tryd.ntmps32
  go_upto_region 1 with (fail)
  refine tab_region (ops := opsOf Tryd.f32 1) ops_X86 (by decide) (rising_of (by kernel_rfl)) (by decide) (by decide +kernel) (by kernel_rfl) (by kernel_rfl) (by kernel_rfl) (by kernel_rfl) rfl (by decide) ?_
  intro a' w' hd h0 ho hb
  go_wp2
  refine bodyPost_ret (results_tmp rfl _ _ _) hd ?_
  have e0 : a'.tmps.getD 0 undef = .map (some w.heap.size) := by simp [Array.getD_eq_getD_getElem?, h0]
  exact ⟨by first | rw [e0] | simp [e0], ho, hb⟩
theorem ops_Arm64 : TOps 3221225655 tArm64 (opsOf Tryd.f33 1) := by
  refine tops_of (by kernel_rfl) (by kernel_rfl) (by kernel_rfl) (by kernel_rfl) (by kernel_rfl)
set_option maxHeartbeats 2000000 in
set_option maxRecDepth 100000 in
theorem table_arm64.calls (w : World) : Calls Tryd.prog 33 #[] w fun e w' => e = .returned (.map (some w.heap.size)) ∧ w'.ownsMap Tryd.prog 43 eR w.heap.size 33 (tD 3221225655 tArm64) ∧ Below w.heap.size w w' := by
  go_enter Tryd.func33, Tryd.ntmps33
  go_upto_region 1 with (fail)
  refine tab_region (ops := opsOf Tryd.f33 1) ops_Arm64 (by decide) (rising_of (by kernel_rfl)) (by decide) (by decide +kernel) (by kernel_rfl) (by kernel_rfl) (by kernel_rfl) (by kernel_rfl) rfl (by decide) ?_
  intro a' w' hd h0 ho hb
  go_wp2
  refine bodyPost_ret (results_tmp rfl _ _ _) hd ?_
  have e0 : a'.tmps.getD 0 undef = .map (some w.heap.size) := by simp [Array.getD_eq_getD_getElem?, h0]
  exact ⟨by first | rw [e0] | simp [e0], ho, hb⟩

def tabOf (a : Int) : List (Int × ByteArray) := if a = 3221225534 then tX64 else if a = 1073741827 then tX86 else if a = 3221225655 then tArm64 else []
/-- What names hands back: a map of the call's own, or none. -/
def NamesAt (B : Nat) (a : Int) (v : Value) (w : World) : Prop := (v = .map none ∧ tabOf a = []) ∨ (∃ n, v = .map (some B) ∧ w.ownsMap Tryd.prog 43 eR B n (tD a (tabOf a)) ∧ tabOf a ≠ [])
set_option maxHeartbeats 1000000 in
set_option maxRecDepth 100000 in
theorem table_names.calls (a : Int) (w : World) : Calls Tryd.prog 23 #[.int .u32 a] w fun e w' => ∃ v, e = .returned v ∧ NamesAt w.heap.size a v w' ∧ Below w.heap.size w w' := by
  by_cases h1 : a = 3221225534
  · subst h1
    go_enter Tryd.func23, Tryd.ntmps23
    go_wp2_with (go_at_call 31; refine (table_x64.calls _).mono ?_; rintro e w1 ⟨rfl, ho, hb⟩)
    go_ret
    exact ⟨_, rfl, .inr ⟨_, rfl, ho, by decide⟩, hb⟩
  · by_cases h2 : a = 1073741827
    · subst h2
      go_enter Tryd.func23, Tryd.ntmps23
      go_wp2_with (go_at_call 32; refine (table_x86.calls _).mono ?_; rintro e w1 ⟨rfl, ho, hb⟩)
      go_ret
      exact ⟨_, rfl, .inr ⟨_, rfl, ho, by decide⟩, hb⟩
    · by_cases h3 : a = 3221225655
      · subst h3
        go_enter Tryd.func23, Tryd.ntmps23
        go_wp2_with (go_at_call 33; refine (table_arm64.calls _).mono ?_; rintro e w1 ⟨rfl, ho, hb⟩)
        go_ret
        exact ⟨_, rfl, .inr ⟨_, rfl, ho, by decide⟩, hb⟩
      · go_enter Tryd.func23, Tryd.ntmps23
        go_wp2
        go_ret
        exact ⟨_, rfl, .inl ⟨rfl, by unfold tabOf; rw [if_neg h1, if_neg h2, if_neg h3]⟩, Below.refl _ _⟩
end Go.Proofs.YtpgjcjgmokfofaaDoor.Pr
