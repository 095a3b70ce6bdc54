/- table.Read: the name's number, or the number that the text is, if it is printed so. Condition: GlobW. -/
import Derived.Test.YtpgjcjgmokfofaaDoorFTablePrint
import Derived.Lib.ParseIntBCases
import Derived.Lib.AtoiErrMem
import Derived.Laws.Entries
import Derived.Stop.IfaceNil
namespace Go.Proofs.YtpgjcjgmokfofaaDoor.Pr
set_option linter.unusedSimpArgs false
set_option linter.unusedVariables false
open Go.RowKit Go.Proofs.YtpgjcjgmokfofaaDoorW.PrintWords Go.Proofs.YtpgjcjgmokfofaaDoorW.PrintLast

theorem bytes_below (w w' : World) (s : ByteArray) (h : w' = w ∨ w' = Lib.bytesWorld w 5 s) : Below w.heap.size w w' := by
  rcases h with rfl | rfl
  · exact Below.refl _ _
  · exact Lib.bytesWorld_below _ _ _

theorem ParseUint32 (s : ByteArray) (hlim : s.size ≤ 281474976710656) (w : World) (hG : GlobW w) :
    Calls Tryd.prog 30 #[.string s, .int .i64 10, .int .i64 32] w fun e w' => ∃ (n : Int) (ev : Value), e = .returned (.tuple #[.int .u64 n, ev]) ∧ Below w.heap.size w w' ∧
      ((∃ u : Nat, Lib.parseUintB 32 s.data.toList = .ok u ∧ n = u ∧ ev = .nilIface) ∨ ((∀ u, Lib.parseUintB 32 s.data.toList ≠ .ok u) ∧ ∃ t p, ev = .iface t p)) := by
  cases hp : Lib.parseUintB 32 s.data.toList with
  | ok u =>
    refine (Tryd.strconv_ParseUint_10_at32_ok s (by omega) u hp w).mono ?_
    rintro e w' ⟨rfl, h⟩
    exact ⟨_, _, rfl, bytes_below _ _ _ h, .inl ⟨u, rfl, rfl, rfl⟩⟩
  | «syntax» =>
    obtain ⟨tp, p, hv⟩ := hG.here.syn
    refine (Tryd.strconv_ParseUint_10_at32_syntax_var s hlim hp tp p w hv).mono ?_
    rintro e w' ⟨N, rfl, _, _, hb⟩
    exact ⟨_, _, rfl, hb, .inr ⟨(fun u h => nomatch h), _, _, rfl⟩⟩
  | range =>
    obtain ⟨tp, p, hv⟩ := hG.here.rng
    refine (Tryd.strconv_ParseUint_10_at32_range_var s hlim hp tp p w hv).mono ?_
    rintro e w' ⟨N, rfl, _, _, hb⟩
    exact ⟨_, _, rfl, hb, .inr ⟨(fun u h => nomatch h), _, _, rfl⟩⟩

def printT (a n : Int) : ByteArray := if (tAt (tabOf a) n).toList = ([] : List UInt8) then decB n.toNat else tAt (tabOf a) n
/-- What a text that is no name is read as. -/
def numT (a : Int) (s : ByteArray) : Int × Bool := match Lib.parseUintB 32 s.data.toList with
  | .ok u => if (printT a u).toList = s.toList then ((u : Int), true) else (0, false)
  | _ => (0, false)
def readT (a : Int) (s : ByteArray) : Int × Bool := if (findT (tabOf a) s).2 = true then ((findT (tabOf a) s).1, true) else numT a s
def table_Read.f (a0 : Int) (a1 : ByteArray) : Option (Int × Bool) := if (Lit.int .u32 a0).wf = true ∧ a1.size ≤ 281474976710656 then some (readT a0 a1) else none

theorem u32_wf {n : Nat} (h : n < 4294967296) : (Lit.int .u32 (n : Int)).wf = true := by
  have h1 : IntKind.u32.min = 0 := by decide
  have h2 : IntKind.u32.max = 4294967295 := by decide
  simp only [Lit.wf, h1, h2, Bool.and_eq_true, decide_eq_true_eq]
  omega
theorem print_gives {a : Int} (ha : (Lit.int .u32 a).wf = true) {n : Nat} (hn : n < 4294967296) : table_Print.f a n = some (printT a n) := by
  unfold table_Print.f table_Name.f asm_Number.f printT
  rw [if_pos ⟨ha, u32_wf hn⟩, if_pos ⟨by omega, by omega⟩]
  simp only [Option.bind_some]
  split <;> rfl

set_option maxHeartbeats 3200000 in
set_option maxRecDepth 100000 in
theorem table_Read.calls (a0 : Int) (a1 : ByteArray) (r1 : Int) (r2 : Bool) (w : World) (hG : GlobW w) (h : table_Read.f a0 a1 = some (r1, r2)) :
    Calls Tryd.prog 17 #[.int .u32 a0, .string a1] w fun e w' => e = .returned (.tuple #[.int .u32 r1, .bool r2]) ∧ Below w.heap.size w w' := by
  unfold table_Read.f at h
  by_cases hA : (Lit.int .u32 a0).wf = true ∧ a1.size ≤ 281474976710656
  case neg => rw [if_neg hA] at h; cases h
  rw [if_pos hA] at h
  obtain ⟨ha, hs⟩ := hA
  have h := Option.some.inj h
  obtain ⟨f1, f2, hF⟩ : ∃ f1 f2, findT (tabOf a0) a1 = (f1, f2) := ⟨_, _, rfl⟩
  have hf : table_Find.f a0 a1 = some (f1, f2) := by unfold table_Find.f; rw [if_pos ha, hF]
  have hcF := table_Find.calls a0 a1 f1 f2 w hf
  unfold readT at h
  rw [hF] at h
  clear hF hf
  cases f2 with
  | true =>
    rw [if_pos rfl] at h
    obtain ⟨rfl, rfl⟩ := Prod.mk.inj h
    clear h
    go_enter Tryd.func17, Tryd.ntmps17
    go_wp2_with (go_at_call 10; refine hcF.mono ?_; rintro e w1 ⟨rfl, hb⟩)
    go_ret2
    exact ⟨rfl, hb⟩
  | false =>
    rw [if_neg (by simp)] at h
    have e1 : ∀ W : World, Sem.run Tryd.prog (eqGuard BinOp.neq 51 (Operand.tmp 23) (Operand.const Value.nilIface) Value.nilIface Value.nilIface) W = Result.ok () W := fun W => rfl
    have e2 : ∀ W : World, Sem.run Tryd.prog (binOp BinOp.neq 51 Value.nilIface Value.nilIface) W = Result.ok (.bool false) W := fun W => by kernel_rfl
    have e3 : ∀ (t : TypeId) (p : Value) (W : World), Sem.run Tryd.prog (eqGuard BinOp.neq 51 (Operand.tmp 23) (Operand.const Value.nilIface) (Value.iface t p) Value.nilIface) W = Result.ok () W := fun t p W => by rfl
    have e4 : ∀ (t : TypeId) (p : Value) (W : World), Sem.run Tryd.prog (binOp BinOp.neq 51 (Value.iface t p) Value.nilIface) W = Result.ok (.bool true) W := fun t p W => by kernel_rfl
    have E1 := Aside0.mk e1
    have E2 := Aside0.mk e2
    have E3 := Aside0.mk e3
    have E4 := Aside0.mk e4
    have HF := Aside0.mk hcF
    have HG := Aside0.mk hG
    have HH := Aside0.mk h
    clear e1 e2 e3 e4 hcF h hG
    go_enter Tryd.func17, Tryd.ntmps17
    go_wp2_with (first
      | (go_at_call 10; refine HF.out.mono ?_; rintro e w1 ⟨rfl, hb1⟩)
      | (go_at_call 30; refine (ParseUint32 a1 hs w1 (HG.out.on hb1)).mono ?_; rintro e w2 ⟨n, ev, rfl, hb2, hcase⟩))
    rcases hcase with ⟨u, hp, rfl, rfl⟩ | ⟨hn, t, p, rfl⟩
    · have hu : u ≤ 2 ^ 32 - 1 := Lib.parseUintB_le hp
      have hu2 : u < 4294967296 := by omega
      have hm : IntKind.u32.wrap (u : Int) = u := by rw [IntKind.wrap_u32]; omega
      have h := HH.out
      unfold numT at h
      rw [hp] at h
      simp only at h
      clear HH hp
      have hb : Below w.heap.size w w2 := hb1.trans (hb2.mono hb1.size)
      have hcP := table_Print.calls a0 (u : Int) (printT a0 u) w2 (HG.out.on hb) (print_gives ha hu2)
      clear HG HF hb1 hb2
      rw [E1.out]; simp only [Result.andThen]; rw [E2.out]; simp only [Result.andThen]; rw [Oper.upon_value]
      by_cases hx : (printT a0 u).toList = a1.toList
      · rw [if_pos hx] at h
        obtain ⟨rfl, rfl⟩ := Prod.mk.inj h
        have b0 : ((printT a0 u).toList == a1.toList) = true := beq_iff_eq.mpr hx
        have b1 : ((printT a0 u).toList != a1.toList) = false := bne_eq_false_iff_eq.mpr hx
        obtain ⟨pt, hpt⟩ : ∃ pt, printT a0 u = pt := ⟨_, rfl⟩
        rw [hpt] at hcP b0 b1
        clear h hx hpt
        go_wp2_with (go_at_call 16; refine hcP.mono ?_; rintro e w3 ⟨rfl, hb3⟩)
        go_ret2
        exact ⟨rfl, hb.trans (hb3.mono hb.size)⟩
      · rw [if_neg hx] at h
        obtain ⟨rfl, rfl⟩ := Prod.mk.inj h
        have b0 : ((printT a0 u).toList == a1.toList) = false := beq_eq_false_iff_ne.mpr hx
        have b1 : ((printT a0 u).toList != a1.toList) = true := bne_iff_ne.mpr hx
        obtain ⟨pt, hpt⟩ : ∃ pt, printT a0 u = pt := ⟨_, rfl⟩
        rw [hpt] at hcP b0 b1
        clear h hx hpt
        go_wp2_with (go_at_call 16; refine hcP.mono ?_; rintro e w3 ⟨rfl, hb3⟩)
        go_ret2
        exact ⟨rfl, hb.trans (hb3.mono hb.size)⟩
    · have h : ((0 : Int), false) = (r1, r2) := by
        rw [← HH.out]
        unfold numT
        cases hq : Lib.parseUintB 32 a1.data.toList with
        | ok u => exact absurd hq (hn u)
        | «syntax» => rfl
        | range => rfl
      obtain ⟨rfl, rfl⟩ := Prod.mk.inj h
      clear HH h hn HG HF
      have hb : Below w.heap.size w w2 := hb1.trans (hb2.mono hb1.size)
      rw [E3.out]; simp only [Result.andThen]; rw [E4.out]; simp only [Result.andThen]; rw [Oper.upon_value]
      go_wp2
      go_ret2
      exact ⟨rfl, hb⟩
end Go.Proofs.YtpgjcjgmokfofaaDoor.Pr
