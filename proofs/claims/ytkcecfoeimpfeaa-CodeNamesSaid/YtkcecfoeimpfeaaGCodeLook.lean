/- code.Kind, code.Name: what they answer. -/
import Derived.Test.YtkcecfoeimpfeaaGCodeTab
namespace Go.Proofs.Ytkcecfoeimpfeaa.Pr
set_option linter.unusedSimpArgs false
set_option linter.unusedVariables false
open Go.RowKit Go.Maps Go.Proofs.YtkcecfoeimpfeaaW.PrintWords Go.Proofs.YtkcecfoeimpfeaaW.PrintLast Go.Proofs.YtkcecfoeimpfeaaW.PrintMore

/-! ### lookups -/
def cAt (c : Int) : Int × ByteArray := match cSorted.find? (fun e => e.1 == c) with
  | some e => e.2
  | none => (0, ⟨#[]⟩)
theorem cD_at (c : Int) : cD.atKey (.int .u16 c) (entD 0 ⟨#[]⟩) = entD (cAt c).1 (cAt c).2 := by
  unfold cD cAt DataW.atKey
  simp only [List.find?_map]
  have e : ((fun p : Lit × DataW Unit => p.1.sameKey (.int .u16 c)) ∘ fun e : Int × Int × ByteArray => (Lit.int .u16 e.1, entD e.2.1 e.2.2)) = fun e => e.1 == c := by
    funext e
    rw [Bool.eq_iff_iff]
    simp [Lit.sameKey]
  rw [e]
  cases h : cSorted.find? (fun e => e.1 == c) with
  | none => rfl
  | some x => rfl
theorem zero_ent (w : World) : (zeroValue 35).run Try.prog w = .ok (entV 0 ⟨#[]⟩) w := by kernel_rfl
theorem look_ent {w : World} {b n : Nat} (h : w.ownsMap Try.prog 22 entR b n cD) (c : Int) (hc : (Lit.int .u16 c).wf = true) :
    (Instr.lookup 36 (.map (some b)) (.int .u16 c) false).run Try.prog w = .ok (.agg #[.int .i64 (cAt c).1, .string (cAt c).2]) w := by
  obtain ⟨v, ps, hrun, hv⟩ := h.lookup law_u16 Try.underlying36 (zero_ent w) (entR_mk 0 ⟨#[]⟩) (u16_key c hc)
  obtain ⟨k, s, rfl, hy⟩ := entR_inv hv
  have hy' := (Prod.mk.inj hy).1
  rw [cD_at] at hy'
  obtain ⟨h1, h2⟩ := entD_inj hy'
  rw [h1, h2]
  exact hrun

theorem ent_0 (k : Int) (s : ByteArray) (W : World) : (Instr.field 35 (.agg #[.int .i64 k, .string s]) 0).run Try.prog W = .ok (.int .i64 k) W := by kernel_rfl
theorem ent_1 (k : Int) (s : ByteArray) (W : World) : (Instr.field 35 (.agg #[.int .i64 k, .string s]) 1).run Try.prog W = .ok (.string s) W := by kernel_rfl
def code_Kind.f (a0 : Int) : Option Int := if (Lit.int .u16 a0).wf = true then some (cAt a0).1 else none
def code_Name.f (a0 : Int) : Option ByteArray := if (Lit.int .u16 a0).wf = true then some (cAt a0).2 else none
set_option maxHeartbeats 1000000 in
theorem code_Kind.calls (a0 : Int) (r : Int) (w : World) (h : code_Kind.f a0 = some r) : Calls Try.prog 12 #[.int .u16 a0] w fun e w' => e = .returned (.int .i64 r) ∧ Below w.heap.size w w' := by
  unfold code_Kind.f at h
  split at h
  case isFalse => cases h
  rename_i hwf
  obtain rfl := Option.some.inj h
  clear h
  have HW := Aside0.mk hwf
  clear hwf
  go_enter Try.func12, Try.ntmps12
  go_wp2_with (go_at_call 23; refine (code_table.calls w).mono ?_; rintro e w1 ⟨rfl, ho, hb⟩)
  have HR := Aside0.mk (look_ent ho a0 HW.out)
  have HB := Aside0.mk hb
  clear ho hb
  go_wp2
  rw [HR.out]
  simp only [Result.andThen]
  rw [Oper.upon_value]
  go_wp2
  rw [ent_0]
  simp only [Result.andThen]
  rw [Oper.upon_value]
  go_wp2
  go_ret
  exact ⟨rfl, HB.out⟩
set_option maxHeartbeats 1000000 in
theorem code_Name.calls (a0 : Int) (r : ByteArray) (w : World) (h : code_Name.f a0 = some r) : Calls Try.prog 13 #[.int .u16 a0] w fun e w' => e = .returned (.string r) ∧ Below w.heap.size w w' := by
  unfold code_Name.f at h
  split at h
  case isFalse => cases h
  rename_i hwf
  obtain rfl := Option.some.inj h
  clear h
  have HW := Aside0.mk hwf
  clear hwf
  go_enter Try.func13, Try.ntmps13
  go_wp2_with (go_at_call 23; refine (code_table.calls w).mono ?_; rintro e w1 ⟨rfl, ho, hb⟩)
  have HR := Aside0.mk (look_ent ho a0 HW.out)
  have HB := Aside0.mk hb
  clear ho hb
  go_wp2
  rw [HR.out]
  simp only [Result.andThen]
  rw [Oper.upon_value]
  go_wp2
  rw [ent_1]
  simp only [Result.andThen]
  rw [Oper.upon_value]
  go_wp2
  go_ret
  exact ⟨rfl, HB.out⟩
end Go.Proofs.Ytkcecfoeimpfeaa.Pr
