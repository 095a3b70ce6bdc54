-- Made by a program of this session (wip/tools/myprint.sh).
import Derived.Test.YtjgapcidhoecfaaRows
import Derived.Test.YtjgapcidhoecfaaFTamislaw02InstrParts
import Derived.Test.YtjgapcidhoecfaaGOpens
import Derived.Test.YtjgapcidhoecfaaPureInstrParts
import Derived.WalkKit
import Derived.ProofKit
import Derived.OpenShut
import Derived.ShutString
import Derived.ChangeOld
import Derived.Below
import Derived.SizedLaws
namespace Go.Proofs.Ytjgapcidhoecfaa.instrParts
open Go.ChangeShapes Go.WideShapes Go.ChangeAt Go.RowKit Go.Proofs.Ytjgapcidhoecfaa.Pr Go.Proofs.YtjgapcidhoecfaaW.PrintWords Go.Proofs.YtjgapcidhoecfaaW.PrintLast
open Go.ChangeMaps (open_string shut_string)
set_option linter.unusedVariables false
theorem own : ownKnob Try.prog.godebug = none := by kernel_rfl
theorem laidOut : laidOutB Try.prog = true := by kernel_rfl
set_option maxRecDepth 100000 in
theorem lifted (os : Os) (started : os.Started) (H : Type) (enc : TypeId × Value → H) :
    ReturnsInHanded {} Try.checked os 5 .any (Rows.instrPartsSpec.pre6 enc Try.prog Try.f5 Rows.instrPartsRow.domain false) (Rows.instrPartsSpec.post enc Try.prog Try.f5 false true false false) := by
  refine returnsInHanded_of_change_sized (C := Try.checked) own started (by kernel_rfl) Try.func5
    (ChangeSpec.witness6 (enc := enc) (C := Try.checked) false ⟨#[], #[.agg #[.int .u16 0, .int .u8 0, .int .u8 0, .int .u32 0]], []⟩ 8 (by kernel_rfl) (by kernel_rfl) (by kernel_rfl) (by kernel_rfl)) ?_
  intro W base args ds gs before hval0 hW hcnd hsz0 _
  have hsz : (DataW.weightsEach Try.prog (Try.f5.params.toList ++ Rows.instrPartsSpec.plain.varTypes Try.prog) (ds ++ gs)).all (· ≤ reachBytes) = true := hsz0
  have hval : ∀ (j : Nat) t v, Try.f5.params[j]? = some t → args[j]? = some v → Value.okWide Try.prog W .any base t v := hval0
  have hW' := hW
  obtain ⟨p, q, hA0, hV, rfl, hfz, hnd⟩ := hW
  have hA : DataW.TrodAll enc Try.prog W 0 (fun _ => true) true Try.f5.params.toList args.toList ds p := hA0
  rw [Try.params5] at hA hval hsz
  obtain ⟨v0, vs0, d0, ds0, p0, q0, hargs, rfl, rfl, h0, r0⟩ := trodAll_cons hA
  obtain ⟨rfl, rfl, rfl⟩ := trodAll_nil r0
  obtain rfl : args = #[v0] := by cases args; simp_all
  obtain ⟨rfl, rfl⟩ := trodVars_none hV
  have k0 := h0
  have lt0 : ∀ x ∈ p0, x.block < W.heap.size := by obtain ⟨m, hm⟩ := k0; exact DataW.trod_lt m _ _ _ hm
  obtain ⟨fuel0, hf0⟩ := h0
  obtain ⟨cs0, rfl, _⟩ := okWide_struct Try.underlying39 (hval 0 39 v0 rfl rfl)
  obtain ⟨x0, hx0, w0⟩ := opS39.out enc W _ _ _ fuel0 _ _ hf0
  have ec0 := k39_open hx0
  obtain rfl : cs0 = #[.int .u16 x0.f0, .int .u8 x0.f1, .int .u8 x0.f2, .int .u32 x0.f3] := by cases cs0; simpa [Value.cells] using ec0
  clear hA0 hval0 hsz0 hsz
  obtain ⟨kk, hk⟩ := Pure.InstrParts x0.f0 x0.f1 x0.f2 x0.f3 w0
  refine (Pr.tamislaw02_InstrParts.calls kk x0.f0 x0.f1 x0.f2 x0.f3 true W  hk).mono fun e W' ⟨he, hd⟩ => ?_
  have bel : Below W.heap.size W W' := hd
  subst he
  exact ⟨_, rfl, _, _, _, [], _, [], hW', trodAll_mk1 (shut_bool Try.underlying4 _), (trodAll_cons_mk (Below.trod laidOut (by kernel_rfl) (of_decide_eq_true (by kernel_rfl)) k0 bel lt0) trodAll_mk0), rfl, bel.frame _, fun h => by cases h⟩
theorem over : Rows.instrPartsRow.holds Try.pinned (OpenSpec.ofChange Rows.instrPartsSpec) :=
  OpenClaim.holds_of_wide 5 Try.f5 rfl rfl rfl rfl rfl rfl rfl ⟨rfl, rfl, rfl, rfl, rfl⟩ rfl rfl rfl rfl rfl (by kernel_rfl) Try.func5 (by kernel_rfl)
    (of_decide_eq_true (by kernel_rfl)) (by unfold Func.isWrapper; first | (rw [if_pos (by decide +kernel)]; kernel_rfl) | (rw [if_neg (by decide +kernel)]; exact ⟨rfl, rfl⟩))
    (fun os started H enc _ => lifted os started H enc)
theorem proved : Rows.InstrPartsSaid := over
#print axioms proved
end Go.Proofs.Ytjgapcidhoecfaa.instrParts
namespace Go.Proofs.Ytjgapcidhoecfaa
/-- The row, under a short name, for the claim. -/
theorem instrParts_holds : Rows.InstrPartsSaid := instrParts.proved
end Go.Proofs.Ytjgapcidhoecfaa
