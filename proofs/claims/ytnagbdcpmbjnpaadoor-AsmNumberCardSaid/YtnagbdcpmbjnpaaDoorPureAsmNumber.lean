/- A number is written as the document says, and read by a line that has it. No condition. -/
import Derived.Test.YtnagbdcpmbjnpaaDoorFTamislaw05AsmNumber
import Derived.Test.YtnagbdcpmbjnpaaDoorGPure05
import Derived.Test.YtnagbdcpmbjnpaaDoorGRow
namespace Go.Proofs.YtnagbdcpmbjnpaaDoor.Pure
set_option linter.unusedSimpArgs false
set_option linter.unusedVariables false
open Go.RowKit Go.Proofs.YtnagbdcpmbjnpaaDoor.Pr Go.Proofs.YtnagbdcpmbjnpaaDoorW.PrintWords Go.Proofs.YtnagbdcpmbjnpaaDoorW.PrintLast

theorem AsmNumber (a0 : Int) (w0 : (Lit.int .u32 a0).wf = true) : ∃ k, tamislaw05_AsmNumber.f k a0 = some true := by
  have hr : 0 ≤ a0 ∧ a0 < 4294967296 := by
    simp [Lit.wf, IntKind.min, IntKind.max, IntKind.signed, IntKind.bits] at w0
    omega
  have hd := dec_len10 hr.2
  obtain ⟨K, h⟩ := refNumber hr.1 hr.2
  have e1 := h K (Nat.le_refl _)
  simp only at e1
  have ha : (⟨#[114, 101, 116, 32]⟩ : ByteArray) = mk [114, 101, 116, 32] := rfl
  have hb : (⟨#[114, 101, 116, 32, 48]⟩ : ByteArray) = mk [114, 101, 116, 32, 48] := rfl
  have h6 : (6 : Int) ∈ codesL := by decide +kernel
  have hk6 : hk 6 = true := by decide +kernel
  have hj6 : hj 6 = false := by decide +kernel
  have hn6 : nm 6 = [114, 101, 116] := by decide +kernel
  have hok : okX ⟨6, 0, 0, a0⟩ := ⟨by simp, by simp, by simp, hr⟩
  have hl : ∀ n : Int, lineX ⟨6, 0, 0, n⟩ = ([114, 101, 116, 32] ++ Lib.decDigits n.toNat, 0) := fun n => by
    unfold lineX badX partsX numsX
    simp only
    rw [if_pos h6, hk6, hj6, hn6]
    simp [join_one, join_more]
  have hp1 : parseX ([114, 101, 116, 32] ++ Lib.decDigits a0.toNat) = some ⟨6, 0, 0, a0⟩ := (parseX_iff _ _).2 ⟨hok, hl a0⟩
  have hp2 : parseX ([114, 101, 116, 32, 48] ++ Lib.decDigits a0.toNat) = none := by
    cases hp : parseX ([114, 101, 116, 32, 48] ++ Lib.decDigits a0.toNat) with
    | none => rfl
    | some x =>
      exfalso
      obtain ⟨hx, hlx⟩ := (parseX_iff _ x).1 hp
      unfold lineX at hlx
      split at hlx
      · rename_i hc
        split at hlx
        · simp at hlx
        · have hs : Lib.join (partsX x) [32] = [114, 101, 116, 32, 48] ++ Lib.decDigits a0.toNat := (Prod.mk.inj hlx).1
          have hw : spl 32 ([114, 101, 116, 32, 48] ++ Lib.decDigits a0.toNat) = partsX x := by rw [← hs, spl_join _ (by simp [partsX]) (parts_no32 x hc)]
          have hw2 : spl 32 ([114, 101, 116, 32, 48] ++ Lib.decDigits a0.toNat) = [[114, 101, 116], 48 :: Lib.decDigits a0.toNat] := by
            have hno : (32 : UInt8) ∉ 48 :: Lib.decDigits a0.toNat := by
              have := dec_not a0.toNat (c := 32) (by decide)
              simp [this]
            rw [show [114, 101, 116, 32, 48] ++ Lib.decDigits a0.toNat = [114, 101, 116] ++ 32 :: (48 :: Lib.decDigits a0.toNat) from rfl, spl_hit _ (by decide), spl_none hno]
          rw [hw2] at hw
          have f2 := tab_find x.f0 hc
          have f1 := tab_find 6 h6
          have hnx : nm x.f0 = [114, 101, 116] := (List.cons.inj hw).1.symm
          rw [hnx] at f2
          rw [hn6, f2] at f1
          have e6 : x.f0 = 6 := by simpa using f1
          have hq := (List.cons.inj hw).2
          unfold numsX at hq
          rw [e6, hk6, hj6] at hq
          simp at hq
          exact dec_lead _ _ hq.symm
      · simp at hlx
  refine ⟨K, ?_⟩
  unfold tamislaw05_AsmNumber.f awake05.f
  rw [num_eq hr.1 hr.2, Option.bind_some, if_pos (by rw [mk_size]; omega), ha, hb, mk_append, mk_append, asmParse _ (by simp only [List.length_append, List.length_cons, List.length_nil]; omega), Option.bind_some, if_pos (by rw [mk_size]; omega), asmParse _ (by simp only [List.length_append, List.length_cons, List.length_nil]; omega), Option.bind_some, Option.bind_some, if_pos rfl, e1, Option.bind_some, if_pos rfl, hp1, hp2]
  simp [packP]

end Go.Proofs.YtnagbdcpmbjnpaaDoor.Pure
