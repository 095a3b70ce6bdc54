/- strings.Builder at this program: what copyCheck, WriteString and String do to a builder that the call has made. | asm.Print: line behind line, through its builder. Condition: GlobW. -/
import Derived.Test.YtnagbdcpmbjnpaaDoorPr0
import Derived.Lib.FrozenHead
import Derived.Lib.UnsafeStr
import Derived.Lib.MakeNoZero
import Derived.Lib.AppendStr
import Derived.Lib.Slices
import Derived.Lib.Walk
import Derived.Laws.Externs
import Derived.RegionTactic
import Derived.Test.YtnagbdcpmbjnpaaDoorFAsmLine
import Derived.Test.YtnagbdcpmbjnpaaDoorGLib
namespace Go.Proofs.YtnagbdcpmbjnpaaDoor.Pr
open Go.RowKit

theorem gb_size : (Tryd.prog.info? 77).map (·.size) = some 2 := by kernel_rfl
theorem gb_lies : liesAt Tryd.prog Tryd.prog.depth 77 (2 / Tryd.prog.cellsOf 77) 0 77 1 = true := by kernel_rfl
theorem gb_infoByte : (Tryd.prog.info? 5).map (fun i => (i.zero, i.size, i.bytes)) = some (some (.int .u8 0), 1, 1) := by kernel_rfl
theorem gb_cellsByte : Tryd.prog.cellsOf 5 = 1 := by kernel_rfl

set_option maxHeartbeats 1000000 in
set_option maxRecDepth 100000 in
theorem gb_check_used (b : Nat) (w : World) (h0 : w.cell? ⟨b, 0, none⟩ = some (.pointer (some ⟨b, 0, none⟩))) :
    Calls Tryd.prog 48 #[.pointer (some ⟨b, 0, none⟩)] w fun e w' => e = .returned (.tuple #[]) ∧ w' = w := by
  obtain ⟨j, hj, _⟩ := Option.map_eq_some_iff.1 gb_size
  go_enter Tryd.func48, Tryd.ntmps48
  go_wp2
  rw [Lib.run_neq_ptr_same w _ Tryd.underlying74 hj]
  go_wp2
  go_end0
  exact ⟨rfl, rfl⟩

set_option maxHeartbeats 1000000 in
set_option maxRecDepth 100000 in
theorem gb_check_fresh (b : Nat) (w : World) (h0 : w.cell? ⟨b, 0, none⟩ = some (.pointer none)) (hsh : w.shape? b = some (77, 2)) (hfz : w.frozen? ⟨b, 0, none⟩ = false) :
    Calls Tryd.prog 48 #[.pointer (some ⟨b, 0, none⟩)] w fun e w' => e = .returned (.tuple #[]) ∧ w' = w.setCell ⟨b, 0, none⟩ (.pointer (some ⟨b, 0, none⟩)) := by
  obtain ⟨j, hj, hjs⟩ := Option.map_eq_some_iff.1 gb_size
  go_enter Tryd.func48, Tryd.ntmps48
  go_wp2
  rw [Lib.run_to_unsafe w ⟨b, 0, none⟩ Tryd.underlying74 Tryd.underlying97 hj (by rw [hjs]; decide) hsh (Nat.zero_lt_succ 1)]
  simp only [Result.andThen]
  rw [Oper.upon_value]
  go_wp2
  rw [run_callFunc_extern Tryd.func55 (by kernel_rfl) (by kernel_rfl) (by kernel_rfl) (e := Extern.AbiNoEscape.same) (by kernel_rfl)]
  rw [Lib.run_noEscape]
  simp only [Result.andThen]
  rw [Oper.upon_value]
  go_wp2
  rw [Lib.run_from_unsafe w ⟨b, 0, none⟩ Tryd.underlying97 Tryd.underlying74 hj hsh gb_lies]
  simp only [Result.andThen]
  rw [Oper.upon_value]
  go_wp2
  go_end0
  exact ⟨rfl, rfl⟩

theorem gb_check (B b : Nat) (bs : List Value) (w : World) (h : Lib.IsBuilderF 77 5 B b bs w) :
    Calls Tryd.prog 48 #[.pointer (some ⟨b, 0, none⟩)] w fun e w' => e = .returned (.tuple #[]) ∧ (Lib.BuilderAtF 77 5 B b (.pointer (some ⟨b, 0, none⟩)) bs w' ∧ Below B w w') := by
  rcases h with h | h
  · refine (gb_check_fresh b w h.cell0 h.shape h.frozen0).mono ?_
    rintro e w' ⟨rfl, rfl⟩
    exact ⟨rfl, h.used _, (Below.refl B w).setCell (p := ⟨b, 0, none⟩) h.1 _⟩
  · refine (gb_check_used b w h.cell0).mono ?_
    rintro e w' ⟨rfl, rfl⟩
    exact ⟨rfl, h, Below.refl B _⟩

set_option maxHeartbeats 2000000 in
set_option maxRecDepth 100000 in
/-- WriteString: the bytes behind those that are there. -/
theorem gb_write (B b : Nat) (bs : List Value) (s : ByteArray) (w : World) (h : Lib.IsBuilderF 77 5 B b bs w) (hlen : bs.length + s.size ≤ 140737488355328) (hBw : B ≤ w.heap.size) :
    Calls Tryd.prog 35 #[.pointer (some ⟨b, 0, none⟩), .string s] w fun e w' => e = .returned (.tuple #[.int .i64 s.size, .nilIface]) ∧ (Lib.BuilderAtF 77 5 B b (.pointer (some ⟨b, 0, none⟩)) (bs ++ Lib.strCells s) w' ∧ Below B w w') := by
  obtain ⟨i0, hi, hz0, hz1, hz2⟩ := info_parts gb_infoByte
  go_enter Tryd.func35, Tryd.ntmps35
  go_wp2_with (go_at_call 48; refine (gb_check B b bs _ h).mono ?_)
  rintro e w1 ⟨rfl, h1, hb1⟩
  obtain ⟨hB, v, hbk, hown, hne⟩ := h1
  have c0 : w1.cell? ⟨b, 0, none⟩ = some (.pointer (some ⟨b, 0, none⟩)) := by rw [Lib.cell_of_heap hbk]; rfl
  have c1 : w1.cell? ⟨b, 1, none⟩ = some v := by rw [Lib.cell_of_heap hbk]; rfl
  go_wp2_with (at_builtin; refine Lib.wpList_append_own_stringF _ rfl _ _ 75 9 rfl B 5 i0 Tryd.underlying75 Tryd.underlying9 hi hz0 hz1 hz2 _ _ _ rfl hown s rfl ?c3 ?c4 ?c5 ?_)
  case c3 => unfold maxLen; omega
  case c4 => omega
  case c5 => have := hb1.size; omega
  intro v' w2 hown' hgrow _
  have hlt : b < w1.heap.size := by
    rcases Nat.lt_or_ge b w1.heap.size with h' | h'
    · exact h'
    · simp [Array.getElem?_eq_none h'] at hbk
  have hb2 : w2.heap[b]? = some (.cells #[.pointer (some ⟨b, 0, none⟩), v] 77 (0, 0)) := by
    rw [hgrow.block b hlt (fun e => hne e.symm)]
    exact hbk
  have d0 : w2.cell? ⟨b, 0, none⟩ = some (.pointer (some ⟨b, 0, none⟩)) := by rw [Lib.cell_of_heap hb2]; rfl
  have d1 : w2.cell? ⟨b, 1, none⟩ = some v := by rw [Lib.cell_of_heap hb2]; rfl
  have f1 : w2.frozen? ⟨b, 1, none⟩ = false := Lib.frozen_of_heap hb2 1
  obtain ⟨ao, n', cap, rfl⟩ : ∃ ao n' cap, v' = .slice ao n' cap := by
    rcases hown'.2 with ⟨hv, _⟩ | ⟨g, cap, cur, fz, hv, _⟩
    · exact ⟨_, _, _, hv⟩
    · exact ⟨_, _, _, hv⟩
  go_wp2
  go_ret2
  refine ⟨rfl, ?_, ?_⟩
  · exact Lib.BuilderAtF.put (T := 77) (e := 5) hB hb2 (bs' := bs ++ Lib.strCells s) (by simpa [Lib.strCells_length] using hown') (by decide)
  · exact (hb1.grown hgrow (by have := hb1.size; omega) (fun k hk => (hown.lt k hk).1)).setCell (p := ⟨b, 1, none⟩) hB _

set_option maxHeartbeats 1000000 in
set_option maxRecDepth 100000 in
/-- String, of a builder that holds a byte. -/
theorem gb_string_some (B b : Nat) (l : List UInt8) (w : World) (h : Lib.IsBuilderF 77 5 B b (Lib.byteCells l) w) (h0 : l ≠ []) :
    Calls Tryd.prog 36 #[.pointer (some ⟨b, 0, none⟩)] w fun e w' => e = .returned (.string ⟨l.toArray⟩) ∧ Below B w w' := by
  obtain ⟨p, hp, hAt⟩ : ∃ p, (p = .pointer none ∨ p = .pointer (some ⟨b, 0, none⟩)) ∧ Lib.BuilderAtF 77 5 B b p (Lib.byteCells l) w := by
    rcases h with h | h
    · exact ⟨_, .inl rfl, h⟩
    · exact ⟨_, .inr rfl, h⟩
  obtain ⟨hB, v, hbk, hown, hne⟩ := hAt
  have hl0 : l.length ≠ 0 := by simpa using h0
  rw [Lib.byteCells_length] at hown
  obtain ⟨g, cap, cur, fz, rfl, hbg, hg, hfz, hnc, hcm, hcs, htake⟩ : ∃ g cap cur fz, v = .slice (some ⟨g, 0, none⟩) l.length cap ∧ B ≤ g ∧ w.heap[g]? = some (.cells cur 5 fz) ∧ fz.2 ≤ l.length * 1 ∧ l.length ≤ cap ∧ cap ≤ maxLen ∧ cur.size = cap * 1 ∧ cur.toList.take (l.length * 1) = Lib.byteCells l := by
    rcases hown.2 with ⟨_, hz⟩ | ⟨g, cap, cur, fz, hv, r⟩
    · exact absurd hz hl0
    · exact ⟨g, cap, cur, fz, hv, r⟩
  have c1 : w.drew.cell? ⟨b, 1, none⟩ = some (.slice (some ⟨g, 0, none⟩) l.length cap) := by
    have : w.drew.heap[b]? = some (.cells #[p, .slice (some ⟨g, 0, none⟩) l.length cap] 77 (0, 0)) := hbk
    rw [Lib.cell_of_heap this]; rfl
  have hSD : (Builtin.unsafeSliceData_ #[75] 94 #[.slice (some ⟨g, 0, none⟩) l.length cap]).run Tryd.prog w.drew = .ok (.pointer (some ⟨g, 0, none⟩)) w.drew :=
    Lib.run_unsafeSliceData_row _ _ _ _ _ _ (by omega)
  have hUS : (Builtin.unsafeString_ #[94, 3] 9 #[.pointer (some ⟨g, 0, none⟩), .int .i64 l.length]).run Tryd.prog w.drew = .ok (.string ⟨l.toArray⟩) (w.drew.freeze ⟨g, 0, none⟩ l.length) := by
    refine Lib.run_unsafeString_row w.drew 94 3 9 5 Tryd.underlying94 gb_cellsByte g cur.size (by have hg' : w.drew.heap[g]? = some (.cells cur 5 fz) := hg; simp [World.shape?, hg']) l h0 (by omega) (by unfold maxLen at hcm; omega) ?_
    intro j x hx
    have := hown.cells (g := g) rfl j (.int .u8 x.toNat) (by simp [Lib.byteCells, hx])
    exact this
  go_enter Tryd.func36, Tryd.ntmps36
  go_wp2
  go_region
  all_goals (go_wp2; go_ret; exact ⟨rfl, Lib.below_freeze (Below.drew (Below.refl B w)) (p := ⟨g, 0, none⟩) hbg _⟩)
end Go.Proofs.YtnagbdcpmbjnpaaDoor.Pr

namespace Go.Proofs.YtnagbdcpmbjnpaaDoor.Pr
set_option linter.unusedSimpArgs false
set_option linter.unusedVariables false
open Go.RowKit Go.Proofs.YtnagbdcpmbjnpaaDoorW.PrintWords Go.Proofs.YtnagbdcpmbjnpaaDoorW.PrintLast Go.Proofs.YtnagbdcpmbjnpaaDoorW.PrintMore

def lineOf (x : S25) : Option (ByteArray × Int) := asm_Line.f 20 x.f0 x.f1 x.f2 x.f3
def asm_Print.go : List (S25) → List UInt8 → Option (ByteArray × Int)
  | [], acc => some ((⟨acc.toArray⟩ : ByteArray), 0)
  | x :: r, acc => (lineOf x).bind fun q => if q.2 = 0 then (if acc.length + q.1.size + 1 ≤ 140737488355328 then asm_Print.go r (acc ++ (q.1.data.toList ++ [10])) else none) else some ((⟨#[]⟩ : ByteArray), q.2)
def asm_Print.f (l0 : List (S25)) : Option (ByteArray × Int) :=
  if l0.length = 0 then some ((⟨#[]⟩ : ByteArray), 4) else if 4096 < l0.length then some ((⟨#[]⟩ : ByteArray), 5) else asm_Print.go l0 []
theorem builder_below {T e : TypeId} {B b : Nat} {bs : List Value} {w w' : World} (h : Lib.IsBuilderF T e B b bs w) (hb : Below w.heap.size w w') : Lib.IsBuilderF T e B b bs w' := by
  have key : ∀ p, Lib.BuilderAtF T e B b p bs w → Lib.BuilderAtF T e B b p bs w' := by
    rintro p ⟨hB, v, hbk, hown, hne⟩
    exact ⟨hB, v, blk_below hbk hb, hown.kept (grown_of_below hb none) (by cases v.ownBlock <;> simp), hne⟩
  rcases h with h | h
  · exact .inl (key _ h)
  · exact .inr (key _ h)
theorem rd_get (l : List (S25)) (n : Nat) (h : n < l.length) : rd_T25 l (n : Int) = l[n] := by
  unfold rd_T25
  rw [Int.toNat_natCast, List.getD_eq_getElem?_getD, List.getElem?_eq_getElem h, Option.getD_some]
theorem strCells_of (l : List UInt8) : Lib.strCells ⟨l.toArray⟩ = Lib.byteCells l := by
  simp [Lib.strCells, Lib.byteCells]
theorem byteCells_append (a b : List UInt8) : Lib.byteCells (a ++ b) = Lib.byteCells a ++ Lib.byteCells b := by
  simp [Lib.byteCells]


set_option maxHeartbeats 2000000 in
set_option maxRecDepth 100000 in
theorem asm_Print.calls (A0 : Option Addr) (c0 : Nat) (l0 : List (S25)) (r1 : ByteArray) (r2 : Int) (w : World) (hr0 : Kd.C k25 w A0 l0.length l0) (hc0 : l0.length ≤ c0) (hG : GlobW w) (h : asm_Print.f l0 = some (r1, r2)) :
    Calls Tryd.prog 17 #[.slice A0 l0.length c0] w fun e w' => e = .returned (.tuple #[.string r1, .int .i64 r2]) ∧ Below w.heap.size w w' := by
  have HR := Aside0.mk hr0
  clear hr0 hc0
  by_cases h0 : l0.length = 0
  · unfold asm_Print.f at h
    rw [if_pos h0] at h
    obtain ⟨rfl, rfl⟩ := Prod.mk.inj (Option.some.inj h)
    clear h
    go_enter Tryd.func17, Tryd.ntmps17
    go_wp2
    go_ret2
    exact ⟨rfl, Below.refl _ _⟩
  · by_cases h1 : 4096 < l0.length
    · unfold asm_Print.f at h
      rw [if_neg h0, if_pos h1] at h
      obtain ⟨rfl, rfl⟩ := Prod.mk.inj (Option.some.inj h)
      clear h
      go_enter Tryd.func17, Tryd.ntmps17
      go_wp2
      go_ret2
      exact ⟨rfl, Below.refl _ _⟩
    · unfold asm_Print.f at h
      rw [if_neg h0, if_neg h1] at h
      have H := Aside0.mk h
      clear h
      have hle : ¬ (4096 : Int) < (l0.length : Int) := by omega
      have hpos : 0 < l0.length := by omega
      have hne0 : ¬ (l0.length : Int) = 0 := by omega
      clear h0 h1
      have HB := Aside0.mk (Below.refl w.heap.size w)
      go_enter Tryd.func17, Tryd.ntmps17
      go_wp2
      have HB1 := Aside0.mk (HB.out.alloc (Nat.le_refl _) (.cells #[.pointer none, .slice none 0 0] 77 (0, 0)))
      go_loopw [19] (fun v19 wr => ∃ (n : Nat) (bs : List UInt8), n ≤ l0.length ∧ v19 = .int .i64 n ∧ Aside0 (asm_Print.go (l0.drop n) bs = some (r1, r2)) ∧ Aside0 (n = 0 ∨ bs ≠ []) ∧ Aside0 (Lib.IsBuilderF 77 5 w.heap.size w.heap.size (Lib.byteCells bs) wr) ∧ Aside0 (Below w.heap.size w wr)) (fun v19 _ => l0.length - (intOf v19).toNat)
      case atStart =>
        exact ⟨0, [], by omega, rfl, ⟨by simpa using H.out⟩, ⟨.inl rfl⟩, ⟨.inl ⟨Nat.le_refl _, _, by simpa using heap_alloc_new w _, World.ownsRowF_nil _ _ _ _, by simp [Value.ownBlock]⟩⟩, by simpa using HB1⟩
      case round =>
        obtain ⟨n, bs, hn, rfl, HGO, HNB, HI, HW⟩ := hrel
        clear HB HB1 H
        by_cases hlt : n < l0.length
        · have p0 : (0 : Int) ≤ (n : Int) := by omega
          have q0 : (n : Int) < (l0.length : Int) := by omega
          obtain ⟨ad, e, x0, x1, x2, x3⟩ := at_T25 HR.out (n : Int) p0 q0
          cases e
          replace x0 := pw_cell_below HW.out x0
          replace x1 := pw_cell_below HW.out x1
          replace x2 := pw_cell_below HW.out x2
          replace x3 := pw_cell_below HW.out x3
          have eq1 := rd_get l0 n hlt
          have hgo := HGO.out
          rw [List.drop_eq_getElem_cons hlt, ← eq1] at hgo
          generalize rd_T25 l0 (n : Int) = xx at *
          rw [Int.toNat_natCast] at x0 x1 x2 x3
          unfold asm_Print.go at hgo
          obtain ⟨⟨s, er⟩, hline, hgo⟩ := Option.bind_eq_some_iff.1 hgo
          have HLN := Aside0.mk hline
          have HG1 := Aside0.mk (hG.on HW.out)
          simp only at hgo
          by_cases he : er = 0
          · rw [if_pos he] at hgo
            have hlen : bs.length + s.size + 1 ≤ 140737488355328 := by
              by_cases hc : bs.length + s.size + 1 ≤ 140737488355328
              · exact hc
              · rw [if_neg hc] at hgo; cases hgo
            rw [if_pos hlen] at hgo
            have hsz : s.size + 1 ≤ 9223372036854775807 := by omega
            subst he
            have HGG := Aside0.mk hgo
            have hL : (Lib.byteCells bs).length + (s ++ (⟨#[10]⟩ : ByteArray)).size ≤ 140737488355328 := by
              rw [Lib.byteCells_length, ByteArray.size_append]
              exact hlen
            have HL := Aside0.mk hL
            clear hline hgo eq1 HGO hL hlen
            go_wp2_with (go_at_call 10; refine (asm_Line.calls 20 _ _ _ _ _ _ _ (HG1.out.on ((Below.refl _ _).alloc (Nat.le_refl _) _)) HLN.out).mono ?_; rintro e w1 ⟨rfl, hb1⟩)
            have HW1 := Aside0.mk (below_step (HW.out.alloc HW.out.size (.cells #[.int .u16 xx.f0, .int .u8 xx.f1, .int .u8 xx.f2, .int .u32 xx.f3] 25 (0, 0))) hb1)
            have HI1 := Aside0.mk (builder_below (builder_below HI.out ((Below.refl _ _).alloc (Nat.le_refl _) (.cells #[.int .u16 xx.f0, .int .u8 xx.f1, .int .u8 xx.f2, .int .u32 xx.f3] 25 (0, 0)))) hb1)
            clear hb1
            refine (gb_write w.heap.size w.heap.size _ _ w1 HI1.out HL.out HW1.out.size).mono ?_
            rintro e w2 ⟨rfl, h2, hb2⟩
            have HI2 := Aside0.mk h2
            have HW2 := Aside0.mk (HW1.out.trans hb2)
            clear h2 hb2
            go_wp2
            go_roundw
            case rel =>
              refine ⟨n + 1, bs ++ (s.data.toList ++ [10]), by omega, by go_num, ⟨HGG.out⟩, ⟨.inr (by simp)⟩, ⟨.inr ?_⟩, HW2⟩
              rw [byteCells_append]
              have hq : Lib.strCells (s ++ (⟨#[10]⟩ : ByteArray)) = Lib.byteCells (s.data.toList ++ [10]) := by
                rw [← strCells_of]
                congr 1
              rw [← hq]
              exact HI2.out
            case measure => simp [intOf]; omega
          · rw [if_neg he] at hgo
            obtain ⟨rfl, rfl⟩ := Prod.mk.inj (Option.some.inj hgo)
            clear hline hgo eq1 HGO
            go_wp2_with (go_at_call 10; refine (asm_Line.calls 20 _ _ _ _ _ _ _ (HG1.out.on ((Below.refl _ _).alloc (Nat.le_refl _) _)) HLN.out).mono ?_; rintro e w1 ⟨rfl, hb1⟩)
            have HW1 := Aside0.mk (below_step (HW.out.alloc HW.out.size (.cells #[.int .u16 xx.f0, .int .u8 xx.f1, .int .u8 xx.f2, .int .u32 xx.f3] 25 (0, 0))) hb1)
            go_ret2
            exact ⟨rfl, HW1.out⟩
        · have hnl : n = l0.length := by omega
          have hgo := HGO.out
          rw [hnl, List.drop_length] at hgo
          unfold asm_Print.go at hgo
          obtain ⟨rfl, rfl⟩ := Prod.mk.inj (Option.some.inj hgo)
          have hne : bs ≠ [] := by
            rcases HNB.out with h | h
            · omega
            · exact h
          have HNE := Aside0.mk hne
          clear hne hgo HGO HNB
          go_wp2_with (go_at_call 36; refine (gb_string_some w.heap.size w.heap.size bs wr HI.out HNE.out).mono ?_; rintro e w2 ⟨rfl, hb2⟩)
          have HW2 := Aside0.mk (HW.out.trans hb2)
          go_ret2
          exact ⟨rfl, HW2.out⟩
end Go.Proofs.YtnagbdcpmbjnpaaDoor.Pr
