/- asm.Parse: a line as an instruction. Condition: GlobW. -/
import Derived.Test.YtnagbdcpmbjnpaaDoorGLib
import Derived.Test.YtnagbdcpmbjnpaaDoorGCode
import Derived.Test.YtnagbdcpmbjnpaaDoorFAsmShape
namespace Go.Proofs.YtnagbdcpmbjnpaaDoor.Pr
set_option linter.unusedSimpArgs false
set_option linter.unusedVariables false
open Go.RowKit Go.Proofs.YtnagbdcpmbjnpaaDoorW.PrintWords Go.Proofs.YtnagbdcpmbjnpaaDoorW.PrintLast Go.Proofs.YtnagbdcpmbjnpaaDoorW.PrintMore

def partsOf (s : ByteArray) : List ByteArray := splitL s ⟨#[32]⟩
/-- The numbers behind the name, each of its width; none: one is refused. -/
def numsOf : List ByteArray → List Nat → Option (List Int)
  | _, [] => some []
  | [], _ :: _ => none
  | p :: ps, b :: bs => if (numAt b p).2 = true then (numsOf ps bs).map ((numAt b p).1 :: ·) else none
def widthsOf (k j : Bool) : List Nat := (if k then [32] else []) ++ (if j then [8, 8] else [])
def widthsI (k j : Bool) : List Int := (if k then [32] else []) ++ (if j then [8, 8] else [])
def instrOf (c : Int) : Bool → Bool → List Int → Int × Int × Int × Int × Int
  | true, true, [a, b, d] => (c, b % 256, d % 256, a % 4294967296, 0)
  | true, false, [a] => (c, 0, 0, a % 4294967296, 0)
  | false, true, [b, d] => (c, b % 256, d % 256, 0, 0)
  | false, false, [] => (c, 0, 0, 0, 0)
  | _, _, _ => (0, 0, 0, 0, 3)
def parseParts : List ByteArray → Option (Int × Int × Int × Int × Int)
  | [] => none
  | p :: ps => match findOf p with
    | (_, false) => some (0, 0, 0, 0, 3)
    | (c, true) => (asm_shape.f 20 c).bind fun q =>
      if ps.length = (widthsOf q.1 q.2).length then
        (match numsOf ps (widthsOf q.1 q.2) with
        | none => some (0, 0, 0, 0, 3)
        | some ns => some (instrOf c q.1 q.2 ns))
      else some (0, 0, 0, 0, 3)
def asm_Parse.f (a0 : ByteArray) : Option (Int × Int × Int × Int × Int) :=
  if a0.size < 4294967281 ∧ (partsOf a0).all (fun p => decide (p.size ≤ 281474976710656)) = true then parseParts (partsOf a0) else none

/-- The result's own cell, as it was laid. -/
def ResV (b : Nat) (x0 x1 x2 x3 : Int) (w : World) : Prop := w.heap[b]? = some (.cells #[.int .u16 x0, .int .u8 x1, .int .u8 x2, .int .u32 x3] 25 (0, 0))
def ResAt (b : Nat) (w : World) : Prop := ResV b 0 0 0 0 w
theorem ResV.cells {b : Nat} {x0 x1 x2 x3 : Int} {w : World} (h : ResV b x0 x1 x2 x3 w) : w.cell? ⟨b, 0, none⟩ = some (.int .u16 x0) ∧ w.cell? ⟨b, 1, none⟩ = some (.int .u8 x1) ∧ w.cell? ⟨b, 2, none⟩ = some (.int .u8 x2) ∧ w.cell? ⟨b, 3, none⟩ = some (.int .u32 x3) := by
  unfold ResV at h
  refine ⟨?_, ?_, ?_, ?_⟩ <;> simp [World.cell?, h]
theorem ResV.free {b : Nat} {x0 x1 x2 x3 : Int} {w : World} (h : ResV b x0 x1 x2 x3 w) : w.frozen? ⟨b, 0, none⟩ = false ∧ w.frozen? ⟨b, 1, none⟩ = false ∧ w.frozen? ⟨b, 2, none⟩ = false ∧ w.frozen? ⟨b, 3, none⟩ = false := by
  unfold ResV at h
  refine ⟨?_, ?_, ?_, ?_⟩ <;> simp [World.frozen?, h]
theorem ResV.store {b : Nat} {x0 x1 x2 x3 y0 y1 y2 y3 : Int} {w : World} (h : ResV b x0 x1 x2 x3 w) :
    ResV b y0 y1 y2 y3 ((((w.setCell ⟨b, 0, none⟩ (.int .u16 y0)).setCell ⟨b, 1, none⟩ (.int .u8 y1)).setCell ⟨b, 2, none⟩ (.int .u8 y2)).setCell ⟨b, 3, none⟩ (.int .u32 y3)) := by
  unfold ResV at *
  simp [World.setCell, Array.getElem?_modify, h]
theorem ResAt.cells {b : Nat} {w : World} (h : ResAt b w) : w.cell? ⟨b, 0, none⟩ = some (.int .u16 0) ∧ w.cell? ⟨b, 1, none⟩ = some (.int .u8 0) ∧ w.cell? ⟨b, 2, none⟩ = some (.int .u8 0) ∧ w.cell? ⟨b, 3, none⟩ = some (.int .u32 0) ∧
    w.frozen? ⟨b, 0, none⟩ = false ∧ w.frozen? ⟨b, 1, none⟩ = false ∧ w.frozen? ⟨b, 2, none⟩ = false ∧ w.frozen? ⟨b, 3, none⟩ = false := by
  unfold ResAt ResV at h
  refine ⟨?_, ?_, ?_, ?_, ?_, ?_, ?_, ?_⟩ <;> simp [World.cell?, World.frozen?, h]
theorem ResAt.below {b : Nat} {w w' : World} (h : ResAt b w) (hb : Below w.heap.size w w') : ResAt b w' := (hb.block b (Array.getElem?_eq_some_iff.1 h).1).trans h

/-- A row of whole numbers that the call has made. -/
def RowAt (bw : Nat) (l : List Nat) (w : World) : Prop := ∀ i : Nat, i < l.length → w.cell? ⟨bw, i, none⟩ = some (.int .i64 ((l.getD i 0 : Nat) : Int))
theorem RowAt.below {bw : Nat} {l : List Nat} {w w' : World} (h : RowAt bw l w) (hb : Below w.heap.size w w') : RowAt bw l w' := fun i hi => (hb.cell (Lib.lt_of_cell (h i hi))).trans (h i hi)

/-- The three numbers' block. -/
def ArrAt (b : Nat) (ds : List Int) (w : World) : Prop := w.heap[b]? = some (.cells #[.int .u64 (ds.getD 0 0), .int .u64 (ds.getD 1 0), .int .u64 (ds.getD 2 0)] 63 (0, 0))
theorem ArrAt.below {b : Nat} {ds : List Int} {w w' : World} (h : ArrAt b ds w) (hb : Below w.heap.size w w') : ArrAt b ds w' := (hb.block b (Array.getElem?_eq_some_iff.1 h).1).trans h
theorem ArrAt.cell {b n : Nat} {ds : List Int} {w : World} (h : ArrAt b ds w) (hn : n < 3) : w.cell? ⟨b, n, none⟩ = some (.int .u64 (ds.getD n 0)) ∧ w.frozen? ⟨b, n, none⟩ = false := by
  unfold ArrAt at h
  have : n = 0 ∨ n = 1 ∨ n = 2 := by omega
  rcases this with rfl | rfl | rfl <;> exact ⟨by simp [World.cell?, h], by simp [World.frozen?, h]⟩
theorem ArrAt.store {b n : Nat} {ds : List Int} {w : World} (h : ArrAt b ds w) (hl : ds.length = n) (hn : n < 3) (x : Int) : ArrAt b (ds ++ [x]) (w.setCell ⟨b, n, none⟩ (.int .u64 x)) := by
  unfold ArrAt at *
  match ds, hl with
  | [], hl => subst hl; simp [World.setCell, Array.getElem?_modify, h]
  | [a], hl => subst hl; simp [World.setCell, Array.getElem?_modify, h]
  | [a, a2], hl => subst hl; simp [World.setCell, Array.getElem?_modify, h]
  | _ :: _ :: _ :: _, hl => simp at hl; omega
theorem ResV.far {b b1 o : Nat} {x0 x1 x2 x3 : Int} {w : World} (h : ResV b x0 x1 x2 x3 w) (hne : ¬ b = b1) (v : Value) : ResV b x0 x1 x2 x3 (w.setCell ⟨b1, o, none⟩ v) := by
  unfold ResV at *
  simp [World.setCell, Array.getElem?_modify, h, Ne.symm hne]
theorem ResV.drew {b : Nat} {x0 x1 x2 x3 : Int} {w : World} (h : ResV b x0 x1 x2 x3 w) : ResV b x0 x1 x2 x3 w.drew := h
theorem ResV.put1 {b : Nat} {x0 x1 x2 x3 : Int} {w : World} (h : ResV b x0 x1 x2 x3 w) (y : Int) : ResV b x0 y x2 x3 (w.setCell ⟨b, 1, none⟩ (.int .u8 y)) := by
  unfold ResV at *
  simp [World.setCell, Array.getElem?_modify, h]
theorem ResV.put2 {b : Nat} {x0 x1 x2 x3 : Int} {w : World} (h : ResV b x0 x1 x2 x3 w) (y : Int) : ResV b x0 x1 y x3 (w.setCell ⟨b, 2, none⟩ (.int .u8 y)) := by
  unfold ResV at *
  simp [World.setCell, Array.getElem?_modify, h]
theorem ResV.put3 {b : Nat} {x0 x1 x2 x3 : Int} {w : World} (h : ResV b x0 x1 x2 x3 w) (y : Int) : ResV b x0 x1 x2 y (w.setCell ⟨b, 3, none⟩ (.int .u32 y)) := by
  unfold ResV at *
  simp [World.setCell, Array.getElem?_modify, h]
theorem ArrAt.far {b b1 o : Nat} {ds : List Int} {w : World} (h : ArrAt b ds w) (hne : ¬ b = b1) (v : Value) : ArrAt b ds (w.setCell ⟨b1, o, none⟩ v) := by
  unfold ArrAt at *
  simp [World.setCell, Array.getElem?_modify, h, Ne.symm hne]
theorem ArrAt.drew {b : Nat} {ds : List Int} {w : World} (h : ArrAt b ds w) : ArrAt b ds w.drew := h
theorem nums_step {ps : List ByteArray} {ws : List Nat} {n : Nat} {ds : List Int} (h : n < ws.length) (hl : ps.length = ws.length) (hnum : numsOf ps ws = (numsOf (ps.drop n) (ws.drop n)).map (ds ++ ·)) :
    ((numAt (ws.getD n 0) (ps.getD n ByteArray.empty)).2 = false → numsOf ps ws = none) ∧
    ((numAt (ws.getD n 0) (ps.getD n ByteArray.empty)).2 = true → numsOf ps ws = (numsOf (ps.drop (n + 1)) (ws.drop (n + 1))).map ((ds ++ [(numAt (ws.getD n 0) (ps.getD n ByteArray.empty)).1]) ++ ·)) := by
  have hp : n < ps.length := by omega
  rw [List.drop_eq_getElem_cons h, List.drop_eq_getElem_cons hp] at hnum
  have e1 : ws.getD n 0 = ws[n] := by rw [List.getD_eq_getElem?_getD, List.getElem?_eq_getElem h]; rfl
  have e2 : ps.getD n ByteArray.empty = ps[n] := by rw [List.getD_eq_getElem?_getD, List.getElem?_eq_getElem hp]; rfl
  rw [e1, e2]
  simp only [numsOf] at hnum
  constructor
  · intro hf
    rw [hnum, if_neg (by rw [hf]; decide)]
    rfl
  · intro hf
    rw [hnum, if_pos hf, Option.map_map]
    congr 1
    funext l
    simp
theorem number_of (k j : Bool) (n : Nat) (h : n < (widthsOf k j).length) (s : ByteArray) (hs : s.size ≤ 281474976710656) : asm_number.f s (rd (widthsI k j) (n : Int)) = some (numAt ((widthsOf k j).getD n 0) s) := by
  unfold asm_number.f
  rw [if_pos hs]
  cases k <;> cases j <;> simp [widthsOf] at h <;> (have : n = 0 ∨ n = 1 ∨ n = 2 := by omega) <;> rcases this with rfl | rfl | rfl <;> first | omega | rfl
theorem row_cell {b n : Nat} {p : ByteArray} {ps : List ByteArray} {T : TypeId} {w : World} (h : w.heap[b]? = some (.cells (List.map Value.string (p :: ps)).toArray T (0, 0))) (hn : n < ps.length) : w.cell? ⟨b, n + 1, none⟩ = some (.string (ps.getD n ByteArray.empty)) := by
  simp [World.cell?, h, List.getElem?_eq_getElem hn, List.getD_eq_getElem?_getD]

theorem info3 : (Tryd.prog.info? 3).map (fun i => (i.zero, i.size, i.bytes)) = some (some (.int .i64 0), 1, 8) := by kernel_rfl

set_option maxHeartbeats 8000000 in
set_option maxRecDepth 100000 in
theorem asm_Parse.calls (a0 : ByteArray) (r1 r2 r3 r4 r5 : Int) (w : World) (hG : GlobW w) (h : asm_Parse.f a0 = some (r1, r2, r3, r4, r5)) :
    Calls Tryd.prog 12 #[.string a0] w fun e w' => e = .returned (.tuple #[.agg #[.int .u16 r1, .int .u8 r2, .int .u8 r3, .int .u32 r4], .int .i64 r5]) ∧ Below w.heap.size w w' := by
  unfold asm_Parse.f at h
  split at h
  case isFalse => cases h
  case isTrue h1 =>
    have hpl : (partsOf a0).length = Lib.countB a0 ⟨#[32]⟩ + 1 := Lib.splitB_all ⟨#[32]⟩ (by decide) 0 _ a0 rfl
    have hcl : (partsOf a0).length ≤ 4294967282 := by
      have := Lib.countB_le ⟨#[32]⟩ (by decide) a0.size a0 (Nat.le_refl _)
      omega
    have hsplit : ∀ W : World, GlobW W → Calls Tryd.prog 27 #[.string a0, .string ⟨#[32]⟩] W fun e w' => e = .returned (.slice (some ⟨W.heap.size, 0, none⟩) (partsOf a0).length (partsOf a0).length) ∧ w' = W.alloc (.cells ((partsOf a0).map Value.string).toArray 9) := fun W hW => by
      obtain ⟨m, hm⟩ := hW.here.max
      rw [hpl]
      exact Tryd.strings_Split a0 ⟨#[32]⟩ m W h1.1 hm (by decide)
    have HS := Aside0.mk hsplit
    have HP := Aside0.mk h1.2
    clear hsplit hpl h1
    generalize partsOf a0 = ps at *
    have HG1 := Aside0.mk hG
    cases ps with
    | nil => cases h
    | cons p ps =>
    obtain ⟨c, ok, hfo⟩ : ∃ c ok, findOf p = (c, ok) := ⟨_, _, rfl⟩
    have hfind : code_Find.f p = some (c, ok) := congrArg some hfo
    simp only [parseParts, hfo] at h
    have HF := Aside0.mk hfind
    clear hfind hfo hG
    have hB0 : Below w.heap.size w (w.alloc (.cells #[.int .u16 0, .int .u8 0, .int .u8 0, .int .u32 0] 25)) := (Below.refl _ w).alloc (Nat.le_refl _) _
    have HG2 := Aside0.mk (HG1.out.on hB0)
    have HB := Aside0.mk (hB0.alloc (by simp) (.cells ((p :: ps).map Value.string).toArray 9))
    clear hB0
    cases ok with
    | false =>
      obtain ⟨rfl, rfl, rfl, rfl, rfl⟩ : r1 = 0 ∧ r2 = 0 ∧ r3 = 0 ∧ r4 = 0 ∧ r5 = 3 := by
        have := Option.some.inj h
        simp only [Prod.mk.injEq] at this
        obtain ⟨h1, h2, h3, h4, h5⟩ := this
        exact ⟨h1.symm, h2.symm, h3.symm, h4.symm, h5.symm⟩
      clear h
      go_enter Tryd.func12, Tryd.ntmps12
      go_wp2_with (first
        | (go_at_call 27; refine (HS.out _ HG2.out).mono ?_; rintro e w1 ⟨rfl, rfl⟩)
        | (go_at_call 28; fail))
      refine (code_Find.calls p c false _ HF.out).mono ?_
      rintro e w2 ⟨rfl, hb2⟩
      have hR1 : ResAt w.heap.size (w.alloc (.cells #[.int .u16 0, .int .u8 0, .int .u8 0, .int .u32 0] 25)) := heap_alloc_new w _
      have hR2 : ResAt w.heap.size ((w.alloc (.cells #[.int .u16 0, .int .u8 0, .int .u8 0, .int .u32 0] 25)).alloc (.cells ((p :: ps).map Value.string).toArray 9)) := hR1.below ((Below.refl _ _).alloc (Nat.le_refl _) _)
      have hR := ResAt.below hR2 hb2
      have HB2 := Aside0.mk (below_step HB.out hb2)
      obtain ⟨k0, k1, k2, k3, f0, f1, f2, f3⟩ := hR.cells
      have HRS := Aside0.mk (ResV.store (y0 := 0) (y1 := 0) (y2 := 0) (y3 := 0) hR)
      clear hR1 hR2 hR hb2 HB
      go_wp2
      obtain ⟨k0, k1, k2, k3⟩ := HRS.out.cells
      refine bodyPost_ret (v := .tuple #[.agg #[.int .u16 0, .int .u8 0, .int .u8 0, .int .u32 0], .int .i64 3]) ?_ rfl ⟨rfl, ?_⟩
      · simp [results, Tryd.results12, go_sem, k0, k1, k2, k3]
      · exact (((HB2.out.setCell (Nat.le_refl _) _).setCell (Nat.le_refl _) _).setCell (Nat.le_refl _) _).setCell (Nat.le_refl _) _
    | true =>
      obtain ⟨⟨k, j⟩, hsh, h⟩ := Option.bind_eq_some_iff.1 h
      have HSH := Aside0.mk hsh
      have HH := Aside0.mk h
      clear hsh h
      go_enter Tryd.func12, Tryd.ntmps12
      go_wp2_with (first
        | (go_at_call 27; refine (HS.out _ HG2.out).mono ?_; rintro e w1 ⟨rfl, rfl⟩)
        | (go_at_call 28; fail))
      refine (code_Find.calls p c true _ HF.out).mono ?_
      rintro e w2 ⟨rfl, hb2⟩
      have hR1 : ResAt w.heap.size (w.alloc (.cells #[.int .u16 0, .int .u8 0, .int .u8 0, .int .u32 0] 25)) := heap_alloc_new w _
      have hR2 : ResAt w.heap.size ((w.alloc (.cells #[.int .u16 0, .int .u8 0, .int .u8 0, .int .u32 0] 25)).alloc (.cells ((p :: ps).map Value.string).toArray 9)) := hR1.below ((Below.refl _ _).alloc (Nat.le_refl _) _)
      have HR := Aside0.mk (ResAt.below hR2 hb2)
      have HB2 := Aside0.mk (below_step HB.out hb2)
      have hrow : ((w.alloc (.cells #[.int .u16 0, .int .u8 0, .int .u8 0, .int .u32 0] 25)).alloc (.cells ((p :: ps).map Value.string).toArray 9)).heap[w.heap.size + 1]? = some (.cells ((p :: ps).map Value.string).toArray 9 (0, 0)) := by
        have := heap_alloc_new (w.alloc (.cells #[.int .u16 0, .int .u8 0, .int .u8 0, .int .u32 0] 25)) (.cells ((p :: ps).map Value.string).toArray 9)
        simpa using this
      have HROW := Aside0.mk ((hb2.block _ (Array.getElem?_eq_some_iff.1 hrow).1).trans hrow)
      clear hR1 hR2 hb2 HB hrow
      go_wp2_with (go_at_call 22; fail)
      refine (asm_shape.calls 20 c k j _ HSH.out).mono ?_
      rintro e w3 ⟨rfl, hb3⟩
      have hE : Below w2.heap.size w2 w3 := ((Below.refl _ w2).alloc (Nat.le_refl _) _).trans (hb3.mono (by simp))
      have hR0 : (Kd.int .i64).R 3 (w2.alloc (.cells #[] 3)) w2.heap.size (fun _ => True) (.slice (some ⟨w2.heap.size, 0, none⟩) 0 0) [] := ⟨fun _ _ => trivial, OwnRow.lit w2 w2.heap.size (e := 3) (Kd.reps_scalar (enc := Value.int .i64) []) (Nat.le_refl _) (by simp)⟩
      have HW3 := Aside0.mk (Kd.R_below hR0 hb3)
      have HE3 := Aside0.mk hE
      clear hb3 hE hR0 HSH HF HS
      (try simp only [Act.put, List.setIfInBounds_toArray, List.set_cons_zero, List.set_cons_succ])
      go_upto_if 33 with (fail)
      go_cut [7] (fun v7 wc => Aside0 ((Kd.int .i64).R 3 wc w2.heap.size (fun _ => True) v7 (if k then [32] else [])) ∧ Aside0 (Below w2.heap.size w2 wc))
      case first =>
        cases k
        · go_wp2
          go_meet
          case rel => exact ⟨⟨HW3.out⟩, HE3⟩
        · go_wp2_with (at_builtin; refine Kd.R_append (Kd.int .i64) (w0 := w2) w2.heap.size rfl (.tmp 34) (.tmp 35) 61 3 (.int .i64 0) 8 rfl Tryd.underlying61 info3 rfl (by decide) (by omega) (.slice (some ⟨w2.heap.size, 0, none⟩) 0 0) [] 32 [.int .i64 32] (fun _ => True) (fun _ => False) rfl rfl ?aP (fun _ hk => hk.elim) ?aF ?aO ?aB ?aS ?aL ?_; (case aP => exact rfl); (case aB => exact HE3.out); (case aF => exact (fun _ _ => trivial)); (case aO => exact HW3.out); (case aS => exact HE3.out.size); (case aL => simp); intro v111 w29 ho hb hg hat; have HW4 := Aside0.mk ho; have HE4 := Aside0.mk hb; clear ho hb hg hat)
          go_meet
          case rel => exact ⟨⟨HW4.out⟩, HE4⟩
      case rest =>
        obtain ⟨HW4, HE4⟩ := hcut
        clear HW3 HE3
        go_upto_if 37 with (fail)
        go_cut [7] (fun v7 wd => Aside0 ((Kd.int .i64).R 3 wd w2.heap.size (fun _ => True) v7 (widthsI k j)) ∧ Aside0 (Below w2.heap.size w2 wd))
        case first =>
          cases j
          · go_wp2
            go_meet
            case rel => exact ⟨⟨by have := HW4.out; cases k <;> exact this⟩, HE4⟩
          · have hlit : (Kd.int .i64).R 3 (wc.alloc (.cells #[.int .i64 8, .int .i64 8] 3)) wc.heap.size (fun _ => True) (.slice (some ⟨wc.heap.size, 0, none⟩) 2 2) [8, 8] := ⟨fun _ _ => trivial, OwnRow.lit wc wc.heap.size (e := 3) (Kd.reps_scalar (enc := Value.int .i64) [8, 8]) (Nat.le_refl _) (by simp)⟩
            have HL := Aside0.mk (Kd.R_reads' hlit).2.2
            clear hlit
            have hlen : (if k then [(32 : Int)] else []).length ≤ 1 := by cases k <;> simp
            go_wp2_with (at_builtin; refine Kd.R_append_rows (Kd.int .i64) (w0 := w2) w2.heap.size rfl (.tmp 38) (.tmp 39) 61 3 (.int .i64 0) 8 rfl Tryd.underlying61 info3 rfl (by decide) (by omega) u7 (if k then [32] else []) [8, 8] (some ⟨wc.heap.size, 0, none⟩) 2 2 (fun _ => True) (fun _ => False) rfl rfl ?aO HL.out (fun _ _ h => h) (fun _ h => h.elim) ?aF ?aB ?aS ?aL ?_; (case aB => exact HE4.out.alloc HE4.out.size _); (case aF => exact (fun _ _ => trivial)); (case aO => exact Kd.R_alloc HW4.out _); (case aS => exact (HE4.out.alloc HE4.out.size _).size); (case aL => omega); intro v111 w29 ho hb hg hat; have HW5 := Aside0.mk ho; have HE5 := Aside0.mk hb; clear ho hb hg hat)
            go_meet
            case rel => exact ⟨⟨by have := HW5.out; cases k <;> exact this⟩, HE5⟩
        case rest =>
          obtain ⟨HW5, HE5⟩ := hcut
          clear HW4 HE4
          obtain ⟨Aw, cw, ew⟩ := Kd.R_slice HW5.out
          subst ew
          have HBD := Aside0.mk (below_step HB2.out HE5.out)
          have HRD := Aside0.mk (HR.out.below HE5.out)
          have HROWD := Aside0.mk ((HE5.out.block _ (Array.getElem?_eq_some_iff.1 HROW.out).1).trans HROW.out)
          have hwl : (widthsI k j).length ≤ 3 := by cases k <;> cases j <;> decide
          have hwe : (widthsI k j).length = (widthsOf k j).length := by cases k <;> cases j <;> rfl
          by_cases hl : ps.length = (widthsOf k j).length
          · have HC := Aside0.mk (Kd.R_reads' HW5.out).2.2
            clear HW5 HRD
            have hl3 : ((ps.length : Int) + 1 != ((widthsI k j).length : Int) + 1) = false := by simp; omega
            have HL := Aside0.mk hl
            have HWE := Aside0.mk hwe
            clear hl hwe
            go_wp2
            clear hl3
            go_loopw [50] (fun v50 wr => ∃ (n : Nat) (ds : List Int), n ≤ (widthsI k j).length ∧ v50 = .int .i64 n ∧ Aside0 (ds.length = n) ∧ Aside0 (numsOf ps (widthsOf k j) = (numsOf (ps.drop n) ((widthsOf k j).drop n)).map (ds ++ ·)) ∧ Aside0 (ArrAt wc.heap.size ds wr) ∧ Aside0 (Below wc.heap.size wc wr)) (fun v50 _ => (widthsI k j).length - (intOf v50).toNat)
            case atStart => exact ⟨0, [], by omega, rfl, ⟨rfl⟩, ⟨by simp⟩, ⟨heap_alloc_new wc _⟩, ⟨(Below.refl _ wc).alloc (Nat.le_refl _) _⟩⟩
            case round =>
              obtain ⟨n, ds, hn, rfl, HDS, HNUM, HARR, HBW⟩ := hrel
              have HRR := Aside0.mk ((HR.out.below HE5.out).below HBW.out)
              have HBR := Aside0.mk (below_step HBD.out HBW.out)
              by_cases hlt : n < (widthsI k j).length
              · have hlI : (n : Int) < ((widthsI k j).length : Int) := by omega
                have hn3 : (n : Int) < 3 := by omega
                have hnp : (n : Int) < (ps.length : Int) := by have := HL.out; have := HWE.out; omega
                obtain ⟨ad, e, xw⟩ := Kd.at_int (Kd.C_below HC.out HBW.out) (n : Int) (by omega) hlI
                subst e
                rw [Int.toNat_natCast] at xw
                have xp := row_cell ((HBW.out.block _ (Array.getElem?_eq_some_iff.1 HROWD.out).1).trans HROWD.out) (n := n) (by have := HL.out; have := HWE.out; omega)
                have hq := number_of k j n (by have := HWE.out; omega) (ps.getD n ByteArray.empty) (by
                  have := List.all_eq_true.1 HP.out (ps.getD n ByteArray.empty) (by
                    rw [List.getD_eq_getElem?_getD, List.getElem?_eq_getElem (by have := HL.out; have := HWE.out; omega)]
                    exact List.mem_cons_of_mem _ (List.getElem_mem _))
                  exact of_decide_eq_true this)
                have HST := Aside0.mk (nums_step (by have := HWE.out; omega) HL.out HNUM.out)
                obtain ⟨xa, fa⟩ := HARR.out.cell (n := n) (by omega)
                generalize ps.getD n ByteArray.empty = P at *
                generalize rd (widthsI k j) (n : Int) = B at *
                generalize hQ : numAt ((widthsOf k j).getD n 0) P = q at *
                obtain ⟨q1, q2⟩ := q
                have HQ := Aside0.mk hq
                have HGW := Aside0.mk (HG1.out.on HBR.out)
                clear hq hQ
                cases q2
                · have hh := HH.out
                  rw [if_pos HL.out, HST.out.1 (by simp)] at hh
                  have hh := Option.some.inj hh
                  simp only [Prod.mk.injEq] at hh
                  obtain ⟨rfl, rfl, rfl, rfl, rfl⟩ := hh
                  go_wp2_with (go_at_call 29; refine (asm_number.calls _ _ _ _ _ HGW.out HQ.out).mono ?_; rintro e w5 ⟨rfl, hb5⟩; have HARR5 := Aside0.mk (HARR.out.below hb5); have HB5 := Aside0.mk (below_step HBR.out hb5); have HR5 := Aside0.mk ((HRR.out.below hb5).far (o := n) (show ¬ w.heap.size = wc.heap.size from by have := (Array.getElem?_eq_some_iff.1 (show w2.heap[w.heap.size]? = _ from HR.out)).1; have := HE5.out.size; omega) (.int .u64 q1)); obtain ⟨xa, fa⟩ := HARR5.out.cell (n := n) (by omega); obtain ⟨k0, k1, k2, k3, f0, f1, f2, f3⟩ := ResAt.cells HR5.out; clear hb5)
                  have HRS := Aside0.mk (ResV.store (y0 := 0) (y1 := 0) (y2 := 0) (y3 := 0) HR5.out)
                  obtain ⟨k0, k1, k2, k3⟩ := HRS.out.cells
                  refine bodyPost_ret (v := .tuple #[.agg #[.int .u16 0, .int .u8 0, .int .u8 0, .int .u32 0], .int .i64 3]) ?_ rfl ⟨rfl, ?_⟩
                  · simp [results, Tryd.results12, go_sem, k0, k1, k2, k3]
                  · exact (((((HB5.out.setCell (p := ⟨wc.heap.size, n, none⟩) HBD.out.size _).setCell (Nat.le_refl _) _).setCell (Nat.le_refl _) _).setCell (Nat.le_refl _) _).setCell (Nat.le_refl _) _)
                · go_wp2_with (go_at_call 29; refine (asm_number.calls _ _ _ _ _ HGW.out HQ.out).mono ?_; rintro e w5 ⟨rfl, hb5⟩; have HARR5 := Aside0.mk (HARR.out.below hb5); have HB5 := Aside0.mk (below_step HBW.out hb5); obtain ⟨xa, fa⟩ := HARR5.out.cell (n := n) (by omega); clear hb5)
                  go_roundw
                  case rel =>
                    refine ⟨n + 1, ds ++ [q1], by omega, by go_num, ⟨by rw [List.length_append, HDS.out]; rfl⟩, ⟨HST.out.2 (by simp)⟩, ⟨HARR5.out.store HDS.out (by omega) q1⟩, ⟨HB5.out.setCell (Nat.le_refl _) _⟩⟩
                  case measure => simp [intOf]; omega
              · have hn' : n = (widthsI k j).length := by omega
                have hnums : numsOf ps (widthsOf k j) = some ds := by
                  rw [HNUM.out, hn', HWE.out, List.drop_length]
                  simp [numsOf]
                have hh := HH.out
                rw [if_pos HL.out, hnums] at hh
                have hh := Option.some.inj hh
                have hdl : ds.length = (widthsI k j).length := by rw [HDS.out, hn']
                have hB0 : Below wr.heap.size wr (wr.alloc (.cells #[.int .u16 c, .int .u8 0, .int .u8 0, .int .u32 0] 25)) := (Below.refl _ _).alloc (Nat.le_refl _) _
                have HX := Aside0.mk (HARR.out.below hB0)
                have HI := Aside0.mk (show ResV wr.heap.size c 0 0 0 (wr.alloc (.cells #[.int .u16 c, .int .u8 0, .int .u8 0, .int .u32 0] 25)) from heap_alloc_new wr _)
                have HRX := Aside0.mk (HRR.out.below hB0)
                have HBX := Aside0.mk (below_step HBR.out hB0)
                have hne1 : ¬ wc.heap.size = wr.heap.size := by
                  have := (Array.getElem?_eq_some_iff.1 HARR.out).1
                  omega
                have hne2 : ¬ w.heap.size = wr.heap.size := by
                  have := (Array.getElem?_eq_some_iff.1 (show wr.heap[w.heap.size]? = _ from HRR.out)).1
                  omega
                have HN := Aside0.mk (show w.heap.size ≤ wr.heap.size from HBR.out.size)
                clear HARR HRR HNUM HDS hnums HBD HC HH hB0
                have hge : ¬ (n : Int) < ((widthsI k j).length : Int) := by omega
                clear hn hlt hn' HP HG1 HG2 HROWD HWE HL HE5 HB2 HROW HR
                cases k
                · cases j
                  · obtain rfl : ds = [] := List.eq_nil_of_length_eq_zero hdl
                    simp only [instrOf, Prod.mk.injEq] at hh
                    obtain ⟨rfl, rfl, rfl, rfl, rfl⟩ := hh
                    have HRS := Aside0.mk (ResV.store (y0 := c) (y1 := 0) (y2 := 0) (y3 := 0) HRX.out)
                    obtain ⟨k0, k1, k2, k3, f0, f1, f2, f3⟩ := ResAt.cells HRX.out
                    go_wp2
                    obtain ⟨k0, k1, k2, k3⟩ := HRS.out.cells
                    refine bodyPost_ret (v := .tuple #[.agg #[.int .u16 c, .int .u8 0, .int .u8 0, .int .u32 0], .int .i64 0]) ?_ rfl ⟨rfl, ?_⟩
                    · simp [results, Tryd.results12, go_sem, k0, k1, k2, k3]
                    · exact (((HBX.out.setCell (Nat.le_refl _) _).setCell (Nat.le_refl _) _).setCell (Nat.le_refl _) _).setCell (Nat.le_refl _) _
                  · obtain ⟨a, b, rfl⟩ : ∃ a b : Int, ds = [a, b] := by
                      match ds, hdl with
                      | [a, b], _ => exact ⟨a, b, rfl⟩
                    simp only [instrOf, Prod.mk.injEq] at hh
                    obtain ⟨rfl, rfl, rfl, rfl, rfl⟩ := hh
                    go_wp2
                    obtain ⟨wx, hwx⟩ : ∃ wx, wx = wr.alloc (.cells #[.int .u16 c, .int .u8 0, .int .u8 0, .int .u32 0] 25) := ⟨_, rfl⟩
                    rw [← hwx] at HX HI HRX HBX ⊢
                    clear hwx hge
                    obtain ⟨xq0, gq0⟩ := HX.out.cell (n := 0) (by omega)
                    obtain ⟨xq1, gq1⟩ := HX.out.cell (n := 1) (by omega)
                    simp only [List.getD_cons_zero, List.getD_cons_succ] at xq0 xq1
                    obtain ⟨i0, i1, i2, i3⟩ := HI.out.cells
                    obtain ⟨j0, j1, j2, j3⟩ := HI.out.free
                    have HIq := Aside0.mk (((HI.out).put1 (a % 256)).put2 (b % 256)).drew
                    have HRq := Aside0.mk ((((((show ResV _ 0 0 0 0 _ from HRX.out)).far (o := 1) hne2 (.int .u8 (a % 256)))).far (o := 2) hne2 (.int .u8 (b % 256)))).drew
                    have HXq := Aside0.mk ((((HX.out).far (o := 1) hne1 (.int .u8 (a % 256)))).far (o := 2) hne1 (.int .u8 (b % 256))).drew
                    have HBq := Aside0.mk (((((HBX.out).setCell (p := ⟨wr.heap.size, 1, none⟩) HN.out (.int .u8 (a % 256)))).setCell (p := ⟨wr.heap.size, 2, none⟩) HN.out (.int .u8 (b % 256)))).drew
                    go_region
                    all_goals
                      obtain ⟨wy, hwy⟩ : ∃ wy, wy = ((wx.setCell ⟨wr.heap.size, 1, none⟩ (.int .u8 (a % 256))).setCell ⟨wr.heap.size, 2, none⟩ (.int .u8 (b % 256))).drew := ⟨_, rfl⟩
                      rw [← hwy] at HIq HRq HXq HBq ⊢
                      clear hwy
                      clear i0 i1 i2 i3 j0 j1 j2 j3 xq0 xq1 gq0 gq1
                      obtain ⟨i0, i1, i2, i3⟩ := HIq.out.cells
                      obtain ⟨k0, k1, k2, k3, f0, f1, f2, f3⟩ := ResAt.cells HRq.out
                      have HRS := Aside0.mk (ResV.store (y0 := c) (y1 := a % 256) (y2 := b % 256) (y3 := 0) HRq.out)
                      go_wp2
                      obtain ⟨k0, k1, k2, k3⟩ := HRS.out.cells
                      refine bodyPost_ret (v := .tuple #[.agg #[.int .u16 c, .int .u8 (a % 256), .int .u8 (b % 256), .int .u32 (0)], .int .i64 0]) ?_ rfl ⟨rfl, ?_⟩
                      · simp [results, Tryd.results12, go_sem, k0, k1, k2, k3]
                      · exact (((HBq.out.setCell (Nat.le_refl _) _).setCell (Nat.le_refl _) _).setCell (Nat.le_refl _) _).setCell (Nat.le_refl _) _
                · cases j
                  · obtain ⟨a, rfl⟩ : ∃ a : Int, ds = [a] := by
                      match ds, hdl with
                      | [a], _ => exact ⟨a, rfl⟩
                    simp only [instrOf, Prod.mk.injEq] at hh
                    obtain ⟨rfl, rfl, rfl, rfl, rfl⟩ := hh
                    go_wp2
                    obtain ⟨wx, hwx⟩ : ∃ wx, wx = wr.alloc (.cells #[.int .u16 c, .int .u8 0, .int .u8 0, .int .u32 0] 25) := ⟨_, rfl⟩
                    rw [← hwx] at HX HI HRX HBX ⊢
                    clear hwx hge
                    obtain ⟨xq0, gq0⟩ := HX.out.cell (n := 0) (by omega)
                    simp only [List.getD_cons_zero, List.getD_cons_succ] at xq0
                    obtain ⟨i0, i1, i2, i3⟩ := HI.out.cells
                    obtain ⟨j0, j1, j2, j3⟩ := HI.out.free
                    have HIq := Aside0.mk ((HI.out).put3 (a % 4294967296)).drew
                    have HRq := Aside0.mk ((((show ResV _ 0 0 0 0 _ from HRX.out)).far (o := 3) hne2 (.int .u32 (a % 4294967296)))).drew
                    have HXq := Aside0.mk ((HX.out).far (o := 3) hne1 (.int .u32 (a % 4294967296))).drew
                    have HBq := Aside0.mk (((HBX.out).setCell (p := ⟨wr.heap.size, 3, none⟩) HN.out (.int .u32 (a % 4294967296)))).drew
                    go_region
                    all_goals
                      obtain ⟨wy, hwy⟩ : ∃ wy, wy = (wx.setCell ⟨wr.heap.size, 3, none⟩ (.int .u32 (a % 4294967296))).drew := ⟨_, rfl⟩
                      rw [← hwy] at HIq HRq HXq HBq ⊢
                      clear hwy
                      clear i0 i1 i2 i3 j0 j1 j2 j3 xq0 gq0
                      obtain ⟨i0, i1, i2, i3⟩ := HIq.out.cells
                      obtain ⟨k0, k1, k2, k3, f0, f1, f2, f3⟩ := ResAt.cells HRq.out
                      have HRS := Aside0.mk (ResV.store (y0 := c) (y1 := 0) (y2 := 0) (y3 := a % 4294967296) HRq.out)
                      go_wp2
                      obtain ⟨k0, k1, k2, k3⟩ := HRS.out.cells
                      refine bodyPost_ret (v := .tuple #[.agg #[.int .u16 c, .int .u8 (0), .int .u8 (0), .int .u32 (a % 4294967296)], .int .i64 0]) ?_ rfl ⟨rfl, ?_⟩
                      · simp [results, Tryd.results12, go_sem, k0, k1, k2, k3]
                      · exact (((HBq.out.setCell (Nat.le_refl _) _).setCell (Nat.le_refl _) _).setCell (Nat.le_refl _) _).setCell (Nat.le_refl _) _
                  · obtain ⟨a, b, d, rfl⟩ : ∃ a b d : Int, ds = [a, b, d] := by
                      match ds, hdl with
                      | [a, b, d], _ => exact ⟨a, b, d, rfl⟩
                    simp only [instrOf, Prod.mk.injEq] at hh
                    obtain ⟨rfl, rfl, rfl, rfl, rfl⟩ := hh
                    go_wp2
                    obtain ⟨wx, hwx⟩ : ∃ wx, wx = wr.alloc (.cells #[.int .u16 c, .int .u8 0, .int .u8 0, .int .u32 0] 25) := ⟨_, rfl⟩
                    rw [← hwx] at HX HI HRX HBX ⊢
                    clear hwx hge
                    obtain ⟨xq0, gq0⟩ := HX.out.cell (n := 0) (by omega)
                    simp only [List.getD_cons_zero, List.getD_cons_succ] at xq0
                    obtain ⟨i0, i1, i2, i3⟩ := HI.out.cells
                    obtain ⟨j0, j1, j2, j3⟩ := HI.out.free
                    have HIq := Aside0.mk ((HI.out).put3 (a % 4294967296)).drew
                    have HRq := Aside0.mk ((((show ResV _ 0 0 0 0 _ from HRX.out)).far (o := 3) hne2 (.int .u32 (a % 4294967296)))).drew
                    have HXq := Aside0.mk ((HX.out).far (o := 3) hne1 (.int .u32 (a % 4294967296))).drew
                    have HBq := Aside0.mk (((HBX.out).setCell (p := ⟨wr.heap.size, 3, none⟩) HN.out (.int .u32 (a % 4294967296)))).drew
                    go_region
                    all_goals
                      obtain ⟨wy, hwy⟩ : ∃ wy, wy = (wx.setCell ⟨wr.heap.size, 3, none⟩ (.int .u32 (a % 4294967296))).drew := ⟨_, rfl⟩
                      rw [← hwy] at HIq HRq HXq HBq ⊢
                      clear hwy
                      clear i0 i1 i2 i3 j0 j1 j2 j3 xq0 gq0
                      go_wp2
                      obtain ⟨xp1, gp1⟩ := HXq.out.cell (n := 1) (by omega)
                      obtain ⟨xp2, gp2⟩ := HXq.out.cell (n := 2) (by omega)
                      simp only [List.getD_cons_zero, List.getD_cons_succ] at xp1 xp2
                      obtain ⟨i0, i1, i2, i3⟩ := HIq.out.cells
                      obtain ⟨j0, j1, j2, j3⟩ := HIq.out.free
                      have HIp := Aside0.mk (((HIq.out).put1 (b % 256)).put2 (d % 256)).drew
                      have HRp := Aside0.mk ((((((show ResV _ 0 0 0 0 _ from HRq.out)).far (o := 1) hne2 (.int .u8 (b % 256)))).far (o := 2) hne2 (.int .u8 (d % 256)))).drew
                      have HXp := Aside0.mk ((((HXq.out).far (o := 1) hne1 (.int .u8 (b % 256)))).far (o := 2) hne1 (.int .u8 (d % 256))).drew
                      have HBp := Aside0.mk (((((HBq.out).setCell (p := ⟨wr.heap.size, 1, none⟩) HN.out (.int .u8 (b % 256)))).setCell (p := ⟨wr.heap.size, 2, none⟩) HN.out (.int .u8 (d % 256)))).drew
                      go_region
                      all_goals
                        obtain ⟨wz, hwz⟩ : ∃ wz, wz = ((wy.setCell ⟨wr.heap.size, 1, none⟩ (.int .u8 (b % 256))).setCell ⟨wr.heap.size, 2, none⟩ (.int .u8 (d % 256))).drew := ⟨_, rfl⟩
                        rw [← hwz] at HIp HRp HXp HBp ⊢
                        clear hwz
                        clear i0 i1 i2 i3 j0 j1 j2 j3 xp1 gp1 xp2 gp2
                        obtain ⟨i0, i1, i2, i3⟩ := HIp.out.cells
                        obtain ⟨k0, k1, k2, k3, f0, f1, f2, f3⟩ := ResAt.cells HRp.out
                        have HRS := Aside0.mk (ResV.store (y0 := c) (y1 := b % 256) (y2 := d % 256) (y3 := a % 4294967296) HRp.out)
                        go_wp2
                        obtain ⟨k0, k1, k2, k3⟩ := HRS.out.cells
                        refine bodyPost_ret (v := .tuple #[.agg #[.int .u16 c, .int .u8 (b % 256), .int .u8 (d % 256), .int .u32 (a % 4294967296)], .int .i64 0]) ?_ rfl ⟨rfl, ?_⟩
                        · simp [results, Tryd.results12, go_sem, k0, k1, k2, k3]
                        · exact (((HBp.out.setCell (Nat.le_refl _) _).setCell (Nat.le_refl _) _).setCell (Nat.le_refl _) _).setCell (Nat.le_refl _) _
          · have hl2 : ¬ (ps.length : Int) = ((widthsI k j).length : Int) := by omega
            have hl3 : ((ps.length : Int) + 1 != ((widthsI k j).length : Int) + 1) = true := by simp; omega
            have hh := HH.out
            rw [if_neg hl] at hh
            have hh := Option.some.inj hh
            simp only [Prod.mk.injEq] at hh
            obtain ⟨rfl, rfl, rfl, rfl, rfl⟩ := hh
            have HRS := Aside0.mk (ResV.store (y0 := 0) (y1 := 0) (y2 := 0) (y3 := 0) HRD.out)
            obtain ⟨k0, k1, k2, k3, f0, f1, f2, f3⟩ := HRD.out.cells
            clear hwe hl hl2
            go_wp2

            obtain ⟨k0, k1, k2, k3⟩ := HRS.out.cells
            refine bodyPost_ret (v := .tuple #[.agg #[.int .u16 0, .int .u8 0, .int .u8 0, .int .u32 0], .int .i64 3]) ?_ rfl ⟨rfl, ?_⟩
            · simp [results, Tryd.results12, go_sem, k0, k1, k2, k3]
            · exact (((HBD.out.setCell (Nat.le_refl _) _).setCell (Nat.le_refl _) _).setCell (Nat.le_refl _) _).setCell (Nat.le_refl _) _
end Go.Proofs.YtnagbdcpmbjnpaaDoor.Pr
