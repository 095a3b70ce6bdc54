/- code.table: the map that it makes, as read; code.Kind, code.Name out of it. -/
import Derived.Test.YtkcecfoeimpfeaaPr0
import Derived.Maps.OwnSet
namespace Go.Proofs.Ytkcecfoeimpfeaa.Pr
set_option linter.unusedSimpArgs false
set_option linter.unusedVariables false
open Go.RowKit Go.Maps Go.Proofs.YtkcecfoeimpfeaaW.PrintWords Go.Proofs.YtkcecfoeimpfeaaW.PrintLast Go.Proofs.YtkcecfoeimpfeaaW.PrintMore

/-- The codes: number, kind, name; as the text has them, and rising. -/
def cTab : List (Int × Int × ByteArray) := [(32, 1, ⟨#[108, 100]⟩), (128, 2, ⟨#[108, 100, 108, 101, 110]⟩), (0, 3, ⟨#[108, 100, 105]⟩), (96, 4, ⟨#[108, 100, 109]⟩), (1, 5, ⟨#[108, 100, 120, 105]⟩), (97, 6, ⟨#[108, 100, 120, 109]⟩), (129, 7, ⟨#[108, 100, 120, 108, 101, 110]⟩), (2, 8, ⟨#[115, 116]⟩), (3, 9, ⟨#[115, 116, 120]⟩), (4, 10, ⟨#[97, 100, 100]⟩), (20, 10, ⟨#[115, 117, 98]⟩), (36, 10, ⟨#[109, 117, 108]⟩), (52, 10, ⟨#[100, 105, 118]⟩), (68, 10, ⟨#[111, 114]⟩), (84, 10, ⟨#[97, 110, 100]⟩), (100, 10, ⟨#[108, 115, 104]⟩), (116, 10, ⟨#[114, 115, 104]⟩), (164, 10, ⟨#[120, 111, 114]⟩), (12, 10, ⟨#[97, 100, 100, 120]⟩), (28, 10, ⟨#[115, 117, 98, 120]⟩), (44, 10, ⟨#[109, 117, 108, 120]⟩), (60, 10, ⟨#[100, 105, 118, 120]⟩), (76, 10, ⟨#[111, 114, 120]⟩), (92, 10, ⟨#[97, 110, 100, 120]⟩), (108, 10, ⟨#[108, 115, 104, 120]⟩), (124, 10, ⟨#[114, 115, 104, 120]⟩), (172, 10, ⟨#[120, 111, 114, 120]⟩), (132, 10, ⟨#[110, 101, 103]⟩), (5, 11, ⟨#[106, 97]⟩), (21, 12, ⟨#[106, 101, 113]⟩), (37, 12, ⟨#[106, 103, 116]⟩), (53, 12, ⟨#[106, 103, 101]⟩), (69, 12, ⟨#[106, 115, 101, 116]⟩), (29, 12, ⟨#[106, 101, 113, 120]⟩), (45, 12, ⟨#[106, 103, 116, 120]⟩), (61, 12, ⟨#[106, 103, 101, 120]⟩), (77, 12, ⟨#[106, 115, 101, 116, 120]⟩), (6, 13, ⟨#[114, 101, 116]⟩), (22, 14, ⟨#[114, 101, 116, 97]⟩), (7, 15, ⟨#[116, 97, 120]⟩), (135, 16, ⟨#[116, 120, 97]⟩)]
def cSorted : List (Int × Int × ByteArray) := [(0, 3, ⟨#[108, 100, 105]⟩), (1, 5, ⟨#[108, 100, 120, 105]⟩), (2, 8, ⟨#[115, 116]⟩), (3, 9, ⟨#[115, 116, 120]⟩), (4, 10, ⟨#[97, 100, 100]⟩), (5, 11, ⟨#[106, 97]⟩), (6, 13, ⟨#[114, 101, 116]⟩), (7, 15, ⟨#[116, 97, 120]⟩), (12, 10, ⟨#[97, 100, 100, 120]⟩), (20, 10, ⟨#[115, 117, 98]⟩), (21, 12, ⟨#[106, 101, 113]⟩), (22, 14, ⟨#[114, 101, 116, 97]⟩), (28, 10, ⟨#[115, 117, 98, 120]⟩), (29, 12, ⟨#[106, 101, 113, 120]⟩), (32, 1, ⟨#[108, 100]⟩), (36, 10, ⟨#[109, 117, 108]⟩), (37, 12, ⟨#[106, 103, 116]⟩), (44, 10, ⟨#[109, 117, 108, 120]⟩), (45, 12, ⟨#[106, 103, 116, 120]⟩), (52, 10, ⟨#[100, 105, 118]⟩), (53, 12, ⟨#[106, 103, 101]⟩), (60, 10, ⟨#[100, 105, 118, 120]⟩), (61, 12, ⟨#[106, 103, 101, 120]⟩), (68, 10, ⟨#[111, 114]⟩), (69, 12, ⟨#[106, 115, 101, 116]⟩), (76, 10, ⟨#[111, 114, 120]⟩), (77, 12, ⟨#[106, 115, 101, 116, 120]⟩), (84, 10, ⟨#[97, 110, 100]⟩), (92, 10, ⟨#[97, 110, 100, 120]⟩), (96, 4, ⟨#[108, 100, 109]⟩), (97, 6, ⟨#[108, 100, 120, 109]⟩), (100, 10, ⟨#[108, 115, 104]⟩), (108, 10, ⟨#[108, 115, 104, 120]⟩), (116, 10, ⟨#[114, 115, 104]⟩), (124, 10, ⟨#[114, 115, 104, 120]⟩), (128, 2, ⟨#[108, 100, 108, 101, 110]⟩), (129, 7, ⟨#[108, 100, 120, 108, 101, 110]⟩), (132, 10, ⟨#[110, 101, 103]⟩), (135, 16, ⟨#[116, 120, 97]⟩), (164, 10, ⟨#[120, 111, 114]⟩), (172, 10, ⟨#[120, 111, 114, 120]⟩)]

def entV (k : Int) (s : ByteArray) : Value := .agg #[.int .i64 k, .string s]
def entD (k : Int) (s : ByteArray) : DataW Unit := .agg [.lit (.int .i64 k), .lit (.string s.data.toList)]
def entR : Value → Option (DataW Unit × List MemPlace)
  | .agg ⟨[.int .i64 k, .string s]⟩ => some (entD k s, [])
  | _ => none
theorem entR_mk (k : Int) (s : ByteArray) : entR (entV k s) = some (entD k s, []) := rfl
theorem entR_inv {v : Value} {y : DataW Unit × List MemPlace} (h : entR v = some y) : ∃ k s, v = entV k s ∧ y = (entD k s, []) := by
  unfold entR at h
  split at h
  · cases h; exact ⟨_, _, rfl, rfl⟩
  · cases h
theorem entD_inj {k k' : Int} {s s' : ByteArray} (h : entD k s = entD k' s') : k = k' ∧ s = s' := by
  unfold entD at h
  injection h with h
  injection h with h1 h2
  injection h2 with h2 _
  injection h1 with h1
  injection h1 with _ h1
  injection h2 with h2
  injection h2 with h2
  refine ⟨h1, ?_⟩
  cases s; cases s'
  simp at h2
  rw [h2]
def cPut (D : DataW Unit) (e : Int × Int × ByteArray) : DataW Unit := D.put (.int .u16 e.1) (entD e.2.1 e.2.2)
def cD : DataW Unit := .map (cSorted.map fun e => (Lit.int .u16 e.1, entD e.2.1 e.2.2))
theorem cD_eq : cTab.foldl cPut (.map []) = cD := by kernel_rfl
theorem law_u16 : Keyed Try.prog 22 := int_keyed Try.underlying22

/-- A literal's next entry. -/
theorem wpList_ins {H : Type} {P : Program} (w : World) {ops : Array Oper} {rest : List Oper} {o : Oper} {a : Act} {Q : Exit → Act → World → Prop}
    (hg : o.guard = none) (m x v : Operand) (t : TypeId) (hop : o.op = Op.insert t m x v)
    (k e : TypeId) (K : Keyed P k) (ht : P.underlying t = some (.map k e)) (R : Value → Option (DataW H × List MemPlace)) (b n : Nat) (D : DataW H)
    (hm : a.eval m = .map (some b)) (hown : w.ownsMap P k R b n D) (hn : n < maxLen) (key val : Value) (kl : Lit) (hx : a.eval x = key) (hv : a.eval v = val) (hkey : keyOf P k key = some kl)
    (d : DataW H) (ps : List MemPlace) (hval : R val = some (d, ps))
    (hK : ∀ w', w'.ownsMap P k R b (n + 1) (D.put kl d) → w.grownBy w' (some b) → wpList P ops Q rest (a.put o.dst undef) w') :
    wpList P ops Q (o :: rest) a w := by
  refine wpList_plain hg fun K' hK' => ?_
  obtain ⟨w', hrun, r1, r2⟩ := hown.update K ht hn hkey hval
  unfold Oper.wp
  simp [execOp, hop, hm, hx, hv, hrun, Result.andThen]
  exact hK' _ _ (hK w' r1 r2)
theorem u16_key (c : Int) (h : (Lit.int .u16 c).wf = true) : keyOf Try.prog 22 (.int .u16 c) = some (.int .u16 c) := keyOf_int_mk Try.underlying22 h
theorem wpList_cins {w : World} {ops : Array Oper} {rest : List Oper} {o : Oper} {a : Act} {Q : Exit → Act → World → Prop} (hg : o.guard = none) (m v : Operand) (c : Int) (hop : o.op = Op.insert 36 m (.const (.int .u16 c)) v)
    (b n : Nat) (D : DataW Unit) (hm : a.eval m = .map (some b)) (hown : w.ownsMap Try.prog 22 entR b n D) (hn : n < 1000) (k : Int) (s : ByteArray) (hv : a.eval v = .agg #[.int .i64 k, .string s]) (hc : (Lit.int .u16 c).wf = true)
    (hK : ∀ w', w'.ownsMap Try.prog 22 entR b (n + 1) (cPut D (c, k, s)) → w.grownBy w' (some b) → wpList Try.prog ops Q rest (a.put o.dst undef) w') : wpList Try.prog ops Q (o :: rest) a w :=
  wpList_ins w hg m (.const (.int .u16 c)) v 36 hop 22 35 law_u16 Try.underlying36 entR b n D hm hown (by unfold maxLen; omega) _ _ _ rfl hv (u16_key c hc) _ _ (entR_mk k s) hK

set_option maxHeartbeats 4000000 in
set_option maxRecDepth 100000 in
theorem code_table.calls (w : World) : Calls Try.prog 23 #[] w fun e w' => e = .returned (.map (some w.heap.size)) ∧ w'.ownsMap Try.prog 22 entR w.heap.size 41 cD ∧ Below w.heap.size w w' := by
  have hmm := @run_makeMap Try.prog
  have key : ∀ w' : World, w'.ownsMap Try.prog 22 entR w.heap.size (cTab.length) (cTab.foldl cPut (.map [])) → w'.ownsMap Try.prog 22 entR w.heap.size 41 cD := by
    intro w' h
    rw [cD_eq] at h
    exact h
  have KEY := Aside0.mk key
  clear key
  have HO := Aside0.mk (World.ownsMap_made w Try.prog 22 entR)
  have HB := Aside0.mk ((Below.refl w.heap.size w).alloc (Nat.le_refl _) (.map #[] 0))
  go_enter Try.func23, Try.ntmps23
  go_upto_region 1 with (fail)
  simp only [List.append]
  go_wp2_with (refine wpList_cins rfl _ _ _ rfl _ _ _ rfl HO.out (by omega) _ _ rfl (by decide) ?_; (intro w1 hown1 hg1; have HB1 := Aside0.mk (HB.out.grown hg1 HB.out.size (fun j hj => by cases hj; exact Nat.le_refl _)); clear HO HB hg1; have HO := Aside0.mk hown1; clear hown1; have HB := HB1; clear HB1))
  go_ret
  exact ⟨rfl, KEY.out _ HO.out, HB.out⟩

end Go.Proofs.Ytkcecfoeimpfeaa.Pr
