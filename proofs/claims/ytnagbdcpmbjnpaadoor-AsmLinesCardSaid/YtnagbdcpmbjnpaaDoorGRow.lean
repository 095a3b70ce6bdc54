/- Layer 5: what the row's listed variables give the walks; the wrap for a row that lists variables and wants the world's shape. | What the reader of arguments reads, told as the print's kinds tell it: whole numbers, bools, strings, structs, slices, nested. | What the reader of arguments reads of an instruction. -/
import Derived.Test.YtnagbdcpmbjnpaaDoorRows
import Derived.Test.YtnagbdcpmbjnpaaDoorGLib
import Derived.Stop.LaidErr
import Derived.Shelf.Vars
import Derived.Handed
import Derived.MakeChecks
import Derived.Lib.LaidTab
import Derived.Test.YtnagbdcpmbjnpaaDoorWWords
import Derived.ChangeArms
import Derived.ChangeSame
import Derived.Deep.Slices
import Derived.SizedLaws
import Derived.Test.YtnagbdcpmbjnpaaDoorPr0
namespace Go.Proofs.YtnagbdcpmbjnpaaDoor
/-- 'returnsInHanded_of_change_and' with the world's shape handed to the contract. -/
theorem returnsInHanded_laid {H : Type} {enc : TypeId × Value → H} {a : Assume} {C : Checked} {os : Os} {f : FuncId} {fn : Func} {s : ChangeSpec} {conds : List PathCond} {apart fresh handsOn again : Bool} {X : World → Array Value → Prop}
    (hX : ∀ (w w' : World) (args : Array Value), w.heap = w'.heap → X w args → X w' args)
    (own : ownKnob C.prog.godebug = none) (started : os.Started) (noInit : C.prog.inits.idxOf? f = none) (hfn : C.prog.funcs[f]? = some fn)
    (witness : ∃ (w : World) (tape : Tape) (i : Input), w.os = os ∧ (w.forCall tape i).Shaped C.prog ∧ i.vars = [] ∧ Input.okWide C.prog (w.forCall tape i) .any w.heap.size f i ∧
      ((s.pre enc C.prog fn conds apart (w.forCall tape i).memory i.args ∧ X (w.forCall tape i).memory i.args) ∧ sizedMet enc C.prog fn (OpenSpec.ofChange s) apart (w.forCall tape i).memory i.args) ∧ a.holds C.prog (lone (Frame.enter C.prog f i.args .normal) [] (w.forCall tape i)))
    (contract : ∀ (W : World) (base : Nat) (args : Array Value) (ds gs : List (DataW H)) (before : List MemPlace),
      (∀ (j : Nat) t v, fn.params[j]? = some t → args[j]? = some v → Value.okWide C.prog W .any base t v) →
      DataW.Whole enc C.prog fn.params.toList s.vars apart W args.toList ds gs before →
      conds.all (PathCond.test C.prog ⟨fn.params.toList, ds, s.plain.varTypes C.prog, gs⟩) = true →
      (DataW.weightsEach C.prog (fn.params.toList ++ s.plain.varTypes C.prog) (ds ++ gs)).all (· ≤ reachBytes) = true → X W args → W.ShapedOpen C.prog →
      Calls C.prog f args W fun e W' => ∃ v, e = .returned v ∧ s.post enc C.prog fn apart fresh handsOn again W args v W') :
    ReturnsInHanded a C os f .any (fun w args => (s.pre enc C.prog fn conds apart w args ∧ X w args) ∧ sizedMet enc C.prog fn (OpenSpec.ofChange s) apart w args) (s.post enc C.prog fn apart fresh handsOn again) := by
  refine returnsInHanded_of_calls own started noInit witness ?_
  intro w tape i _ hsh _ hok hpre _
  obtain ⟨_, _, _, fn', hfn', _, _, _, _, hval⟩ := hok
  have e : fn' = fn := Option.some.inj (hfn'.symm.trans hfn)
  subst e
  obtain ⟨⟨⟨ds, gs, before, hw, hc⟩, hx⟩, hz⟩ := hpre
  have hw' := DataW.Whole.of_heap (w' := w.forCall tape i) (by rfl) hw
  refine (contract (w.forCall tape i) w.heap.size i.args ds gs before hval hw' hc (hz.weights hw) (hX _ _ _ (by rfl) hx) hsh).mono fun e W' ⟨v, he, hp⟩ => ?_
  subst he
  exact ChangeSpec.post_blind hp
end Go.Proofs.YtnagbdcpmbjnpaaDoor
namespace Go.Proofs.YtnagbdcpmbjnpaaDoor.Pr
open Go.RowKit Go.ChangeShapes
def laid05 : List (String × DataW Unit) := [("math/bits.deBruijn32tab", Rows.laid_math_bits_deBruijn32tab), ("math/bits.deBruijn64tab", Rows.laid_math_bits_deBruijn64tab), ("internal/strconv.uint64pow10", Rows.laid_internal_strconv_uint64pow10), ("unicode/utf8.acceptRanges", Rows.laid_unicode_utf8_acceptRanges), ("strconv.ErrRange", Rows.laid_strconv_ErrRange), ("strconv.ErrSyntax", Rows.laid_strconv_ErrSyntax), ("unicode/utf8.first", Rows.laid_unicode_utf8_first)]
theorem star_ : "*" ++ "errors.errorString" = "*errors.errorString" := by decide
theorem rowErr (u : TypeId) (h : Tryd.prog.typeName? 3 u = some "*errors.errorString") : u = 131 :=
  typeName_ptr_named (nm := "errors.errorString") (by rw [star_]; kernel_rfl) (by kernel_rfl) (by decide) u (by rw [star_]; exact h)
theorem globW_laid {W : World} (hL0 : laidMetH Tryd.prog laid05 W) (hsh : W.ShapedOpen Tryd.prog) : GlobW W := by
  rw [MakeChecks.laidMetH_plain _ _ _ (by kernel_rfl)] at hL0
  have hL : laidMet Tryd.prog laid05 W := hL0
  unfold laid05 at hL
  have hP := hL.tail.tail
  have hR := hP.tail.tail
  have hS := hR.tail
  refine globW_of ⟨?_, ?_, ?_, ?_⟩
  · exact Lib.tabIs_of_head (P := Tryd.prog) (k := .u64) (zs := Lib.pow10Tab) (g := 1) (t := 116) (e := 62) (n := 20) (by kernel_rfl) (by kernel_rfl) Tryd.underlying116 Tryd.underlying62 (by kernel_rfl) (by kernel_rfl) hP
  · obtain ⟨a, s, hv, _⟩ := laid_sentinel hS (g := 2) (by kernel_rfl) (by kernel_rfl) Tryd.underlying79 rowErr Tryd.underlying131 Tryd.underlying133 rfl rfl Tryd.underlying9 (by kernel_rfl) (by kernel_rfl)
    exact ⟨_, _, hv⟩
  · obtain ⟨a, s, hv, _⟩ := laid_sentinel hR (g := 3) (by kernel_rfl) (by kernel_rfl) Tryd.underlying79 rowErr Tryd.underlying131 Tryd.underlying133 rfl rfl Tryd.underlying9 (by kernel_rfl) (by kernel_rfl)
    exact ⟨_, _, hv⟩
  · exact cell_of_shapedOpen_int (P := Tryd.prog) (g := 0) (t := 3) (zero := #[.int .i64 0]) hsh (of_decide_eq_true (by kernel_rfl)) (by kernel_rfl) rfl (by kernel_rfl) (by kernel_rfl) Tryd.underlying3
end Go.Proofs.YtnagbdcpmbjnpaaDoor.Pr

namespace Go.Proofs.YtnagbdcpmbjnpaaDoor.Pr
open Go.RowKit Go.ChangeShapes Go.WideShapes Go.Proofs.YtnagbdcpmbjnpaaDoorW.PrintWords

/-- Whatever cells the reader reads at type t are the kind d's cells of some value that is ok. -/
structure Opens {α : Type} (P : Program) (t : TypeId) (d : Kd α) (ok : α → Prop) : Prop where
  out : ∀ {H : Type} (enc : TypeId × Value → H) (w : World) (base : Nat) (spare : Nat → Bool) (held : Bool) (fuel : Nat) (cs : List Value) (x : DataW H × List MemPlace), DataW.trod enc P w base spare held fuel t cs = some x → ∃ a, d.K w a cs ∧ ok a
theorem opens_int {P : Program} {t : TypeId} {k : IntKind} (ht : P.underlying t = some (.int k)) : Opens P t (Kd.int k) (fun n => (Lit.int k n).wf = true) :=
  ⟨fun enc w base spare held fuel cs x h => by
    obtain ⟨n, rfl, _, hw⟩ := DataW.trod_int ht h
    exact ⟨n, rfl, hw⟩⟩
theorem opens_bool {P : Program} {t : TypeId} (ht : P.underlying t = some .bool) : Opens P t Kd.bool (fun _ => True) :=
  ⟨fun enc w base spare held fuel cs x h => by
    obtain ⟨n, rfl, _⟩ := DataW.trod_bool ht h
    exact ⟨n, rfl, trivial⟩⟩
theorem opens_string {P : Program} {t : TypeId} (ht : P.underlying t = some .string) : Opens P t Kd.string (fun s => s.size ≤ maxLen) :=
  ⟨fun enc w base spare held fuel cs x h => by
    obtain ⟨s, rfl, _, hs⟩ := DataW.trod_string ht h
    exact ⟨s, rfl, hs⟩⟩

/-- The fields from the cell 'off' on. -/
structure OpensF {α : Type} (P : Program) (fs : List Field) (off : Nat) (d : Kd α) (ok : α → Prop) : Prop where
  out : ∀ {H : Type} (enc : TypeId × Value → H) (w : World) (base : Nat) (spare : Nat → Bool) (held : Bool) (n : Nat) (cs : List Value), cs.length = off + d.sz →
    (∀ f ∈ fs, ∃ x, DataW.trod enc P w base spare held n f.type ((cs.drop f.offset).take (P.cellsOf f.type)) = some x) → ∃ a, d.K w a (cs.drop off) ∧ ok a
theorem opensF_last {α : Type} {P : Program} {f : Field} {off : Nat} {d : Kd α} {ok : α → Prop} (h : Opens P f.type d ok) (ho : f.offset = off) (hc : P.cellsOf f.type = d.sz) : OpensF P [f] off d ok :=
  ⟨fun enc w base spare held n cs hl hx => by
    obtain ⟨x, hx⟩ := hx f (by simp)
    obtain ⟨a, ha, hok⟩ := h.out enc w base spare held n _ x hx
    rw [ho, hc, List.take_of_length_le (by rw [List.length_drop]; omega)] at ha
    exact ⟨a, ha, hok⟩⟩
theorem opensF_cons {α β : Type} {P : Program} {f : Field} {fs : List Field} {off : Nat} {d : Kd α} {ok : α → Prop} {d' : Kd β} {ok' : β → Prop} (h : Opens P f.type d ok) (ho : f.offset = off) (hc : P.cellsOf f.type = d.sz)
    (hr : OpensF P fs (off + d.sz) d' ok') : OpensF P (f :: fs) off (Kd.pair d d') (fun p => ok p.1 ∧ ok' p.2) :=
  ⟨fun enc w base spare held n cs hl hx => by
    obtain ⟨x, hx0⟩ := hx f (by simp)
    obtain ⟨a, ha, hok⟩ := h.out enc w base spare held n _ x hx0
    have hl' : cs.length = off + d.sz + d'.sz := by rw [hl]; show off + (d.sz + d'.sz) = _; omega
    obtain ⟨b, hb, hok'⟩ := hr.out enc w base spare held n cs hl' (fun g hg => hx g (by simp [hg]))
    rw [ho, hc] at ha
    refine ⟨(a, b), ⟨_, _, ?_, ha, hb⟩, hok, hok'⟩
    rw [← List.drop_drop, List.take_append_drop]⟩
theorem opens_struct {α β : Type} {P : Program} {t : TypeId} {fs : Array Field} {d : Kd α} {ok : α → Prop} {f : β → α} {ok2 : β → Prop} (ht : P.underlying t = some (.struct fs)) (hc : P.cellsOf t = d.sz) (hf : OpensF P fs.toList 0 d ok) (g : α → β) (hg : ∀ a, f (g a) = a) (hok : ∀ a, ok a → ok2 (g a)) :
    Opens P t (Kd.iso d f) ok2 :=
  ⟨fun enc w base spare held fuel cs x h => by
    obtain ⟨xs, n, _, _, hl, hxl, hx⟩ := DataW.trod_struct ht h
    obtain ⟨a, ha, ho⟩ := hf.out enc w base spare held n cs (by rw [hl, hc]; omega) (fun fl hfl => by
      obtain ⟨i, hi⟩ := List.getElem?_of_mem hfl
      have hi' : fs[i]? = some fl := by rw [← Array.getElem?_toList]; exact hi
      have hlt : i < xs.length := by rw [hxl]; exact (Array.getElem?_eq_some_iff.1 hi').1
      exact ⟨xs[i], by rw [hx i fl hi', List.getElem?_eq_getElem hlt]⟩)
    refine ⟨g a, ?_, hok a ho⟩
    show d.K w (f (g a)) cs
    rw [hg]
    exact ha⟩
theorem list_of_all {α : Type} (n : Nat) (p : Nat → α → Prop) (h : ∀ i, i < n → ∃ a, p i a) : ∃ l : List α, l.length = n ∧ ∀ i a, l[i]? = some a → p i a := by
  induction n with
  | zero => exact ⟨[], rfl, fun i a hi => by simp at hi⟩
  | succ n ih =>
    obtain ⟨l, hl, hp⟩ := ih (fun i hi => h i (by omega))
    obtain ⟨a, ha⟩ := h n (by omega)
    refine ⟨l ++ [a], by simp [hl], fun i b hi => ?_⟩
    rcases Nat.lt_or_ge i l.length with hlt | hge
    · rw [List.getElem?_append_left hlt] at hi
      exact hp i b hi
    · have hi2 : i = n := by
        have := (List.getElem?_eq_some_iff.1 hi).1
        simp at this
        omega
      subst hi2
      rw [List.getElem?_append_right hge, hl] at hi
      simp at hi
      subst hi
      exact ha
theorem opens_slice {α : Type} {P : Program} {t e : TypeId} {d : Kd α} {ok : α → Prop} (ht : P.underlying t = some (.slice e)) (hc : P.cellsOf e = d.sz) (he : Opens P e d ok) : Opens P t (Kd.slice e d) (fun l => ∀ x ∈ l, ok x) :=
  ⟨fun enc w base spare held fuel cs x h => by
    rcases DataW.trod_slice ht h with ⟨rfl, _⟩ | ⟨a, len, cap, elems, rest, n, _, rfl, _, hb, hl, hm, hel, hi, _, _⟩
    · exact ⟨[], ⟨none, 0, rfl, Nat.le_refl _, Kd.C_nil _ _⟩, by simp⟩
    · have key : ∀ i, i < len → ∃ y : α, (∃ c : List Value, c.length = d.sz ∧ d.K w y c ∧ ∀ j u, c[j]? = some u → w.cell? (a.add (i * d.sz + j)) = some u) ∧ ok y := by
        intro i hlt
        have h1 := hi i hlt
        have hs : i < elems.length := by omega
        rw [List.getElem?_eq_getElem hs, Option.bind_eq_some_iff] at h1
        obtain ⟨c, hcells, ht2⟩ := h1
        rw [hc] at hcells
        obtain ⟨_, hcl, hat⟩ := World.cells?_some hcells
        obtain ⟨y, hy, hoky⟩ := he.out enc w base spare held n c _ ht2
        refine ⟨y, ⟨c, hcl, hy, fun j u hj => ?_⟩, hoky⟩
        have hjl : j < d.sz := by have := (List.getElem?_eq_some_iff.1 hj).1; omega
        have := hat j hjl
        rw [← Go.Deep.add_add, this, hj]
      obtain ⟨l, hll, hp⟩ := list_of_all len _ key
      refine ⟨l, ⟨some a, cap, by rw [hll], by omega, ?_⟩, fun y hy => ?_⟩
      · refine ⟨rfl, by unfold maxLen at hm; omega, fun _ => ⟨a, rfl, fun j p hj => (hp j p hj).1⟩⟩
      · obtain ⟨i, hi⟩ := List.getElem?_of_mem hy
        exact (hp i y hi).2⟩
theorem sized_len {H : Type} {enc : TypeId × Value → H} {P : Program} {W : World} {base : Nat} {spare : Nat → Bool} {held : Bool} {t e : TypeId} {a : Option Addr} {len cap : Nat} {d : DataW H} {ps : List MemPlace} {ts : List TypeId} {ds : List (DataW H)} {j fuel : Nat}
    (hsz : (DataW.weightsEach P ts ds).all (· ≤ reachBytes) = true) (ht : ts[j]? = some t) (hd : ds[j]? = some d) (hu : P.underlying t = some (.slice e)) {B : Nat} (hB : P.bytesOf e = B)
    (h : DataW.trod enc P W base spare held fuel t (Value.slice a len cap).cells.toList = some (d, ps)) : len * B ≤ 140737488351232 := by
  rcases DataW.trod_slice hu h with ⟨hcs, _⟩ | ⟨x, l, c, elems, rest, n, _, hcs, hx, _, hl, _, hel, _, _, _⟩
  · simp [Value.cells] at hcs
    obtain ⟨rfl, rfl, rfl⟩ := hcs
    simp
  · simp [Value.cells] at hcs
    obtain ⟨rfl, rfl, rfl⟩ := hcs
    obtain ⟨hx, _⟩ := Prod.mk.inj hx
    subst hx
    have z := sized_slice hsz ht hd hu
    rw [hB, List.length_map, List.length_map, hel] at z
    have z' : (len + rest.length) * B ≤ 140737488351232 := z
    exact Nat.le_trans (Nat.mul_le_mul_right _ (Nat.le_add_right _ _)) z'
end Go.Proofs.YtnagbdcpmbjnpaaDoor.Pr

namespace Go.Proofs.YtnagbdcpmbjnpaaDoor.Pr
open Go.RowKit Go.Proofs.YtnagbdcpmbjnpaaDoorW.PrintWords Go.Proofs.YtnagbdcpmbjnpaaDoorW.PrintLast
def okS25 (x : S25) : Prop := (fun n : Int => (Lit.int .u16 n).wf = true) x.f0 ∧ ((fun n : Int => (Lit.int .u8 n).wf = true) x.f1 ∧ ((fun n : Int => (Lit.int .u8 n).wf = true) x.f2 ∧ ((fun n : Int => (Lit.int .u32 n).wf = true) x.f3)))
theorem opS25 : Opens Tryd.prog 25 k25 okS25 :=
  opens_struct Tryd.underlying25 (by kernel_rfl) (opensF_cons (opens_int Tryd.underlying22) rfl (by kernel_rfl) (opensF_cons (opens_int Tryd.underlying5) rfl (by kernel_rfl) (opensF_cons (opens_int Tryd.underlying5) rfl (by kernel_rfl) (opensF_last (opens_int Tryd.underlying23) rfl (by kernel_rfl))))) (fun p => ⟨p.1, p.2.1, p.2.2.1, p.2.2.2⟩) (fun _ => rfl) (fun _ h => h)
theorem okS_range (x : S25) (h : okS25 x) : (0 ≤ x.f0 ∧ x.f0 < 65536) ∧ (0 ≤ x.f1 ∧ x.f1 < 256) ∧ (0 ≤ x.f2 ∧ x.f2 < 256) ∧ (0 ≤ x.f3 ∧ x.f3 < 4294967296) := by
  obtain ⟨h0, h1, h2, h3⟩ := h
  simp [Lit.wf, IntKind.min, IntKind.max, IntKind.signed, IntKind.bits] at h0 h1 h2 h3
  omega
end Go.Proofs.YtnagbdcpmbjnpaaDoor.Pr
