/- The row and the tied card of AsmLines, out of its walk and its plain law. Listed variables: as the row lists them. -/
import Derived.Test.YtnagbdcpmbjnpaaDoorRows
import Derived.Test.YtnagbdcpmbjnpaaDoorTie
import Derived.Test.YtnagbdcpmbjnpaaDoorCards
import Derived.Test.YtnagbdcpmbjnpaaDoorFTamislaw05AsmLines
import Derived.Test.YtnagbdcpmbjnpaaDoorGRow
import Derived.Test.YtnagbdcpmbjnpaaDoorPureAsmLines
import Derived.WalkKit
import Derived.ProofKit
import Derived.OpenShut
import Derived.ShutString
import Derived.ChangeOld
import Derived.Below
import Derived.SizedLaws
import Derived.Lay
import Derived.LaidMore
import Derived.SevenTiedAt
import Derived.Stop.Joined
namespace Go.Proofs.YtnagbdcpmbjnpaaDoor.asmLines
open Go.ChangeShapes Go.WideShapes Go.ChangeAt Go.RowKit Go.Proofs.YtnagbdcpmbjnpaaDoor.Pr Go.Proofs.YtnagbdcpmbjnpaaDoorW.PrintWords Go.Proofs.YtnagbdcpmbjnpaaDoorW.PrintLast
open Go.ChangeMaps (open_string shut_string)
set_option linter.unusedVariables false
set_option linter.unusedSimpArgs false
theorem own : ownKnob Tryd.prog.godebug = none := by kernel_rfl
theorem laidOut : laidOutB Tryd.prog = true := by kernel_rfl
set_option maxRecDepth 100000 in
theorem lifted (os : Os) (started : os.Started) (H : Type) (enc : TypeId × Value → H) :
    ReturnsInHanded {} Tryd.checked os 3 .any (fun w args => (Rows.asmLinesSpec.pre enc Tryd.prog Tryd.f3 Rows.asmLinesRow.domain false w args ∧ laidMetH Tryd.prog Rows.asmLinesRow.laid w) ∧ sizedMet enc Tryd.prog Tryd.f3 (OpenSpec.ofChange Rows.asmLinesSpec) false w args)
      (Rows.asmLinesSpec.post enc Tryd.prog Tryd.f3 false true false false) := by
  refine returnsInHanded_laid (C := Tryd.checked) (X := fun w _ => laidMetH Tryd.prog Rows.asmLinesRow.laid w) (fun _ _ _ hh h => h.of_heap hh) own started (by kernel_rfl) Tryd.func3
    (ChangeSpec.witness_shaped (enc := enc) (C := Tryd.checked) (os := os) (X := fun w _ => laidMetH Tryd.prog Rows.asmLinesRow.laid w) false (World.laidAll Tryd.prog os Rows.asmLinesRow.laid) #[.agg #[.int .u16 0, .int .u8 0, .int .u8 0, .int .u32 0], .string ByteArray.empty] 8 (World.laidAll_os _ _ _)
      (World.shaped_of_ZipB (by kernel_rfl) (by kernel_rfl)) (by kernel_rfl) (by kernel_rfl) (by kernel_rfl)
      (by rw [MakeChecks.laidMetH_plain _ _ _ (by kernel_rfl)]; exact laidMet_laidAll _ (by kernel_rfl) (by kernel_rfl))) ?_
  intro W base args ds gs before hval0 hW hcnd hsz0 hL hsh
  have hG : GlobW W := globW_laid hL hsh
  have hsz : (DataW.weightsEach Tryd.prog (Tryd.f3.params.toList ++ Rows.asmLinesSpec.plain.varTypes Tryd.prog) (ds ++ gs)).all (· ≤ reachBytes) = true := hsz0
  have hval : ∀ (j : Nat) t v, Tryd.f3.params[j]? = some t → args[j]? = some v → Value.okWide Tryd.prog W .any base t v := hval0
  have hW' := hW
  obtain ⟨p, q, hA0, hV, rfl, hfz, hnd⟩ := hW
  have hA : DataW.TrodAll enc Tryd.prog W 0 (fun _ => true) true Tryd.f3.params.toList args.toList ds p := hA0
  rw [Tryd.params3] at hA hval hsz
  obtain ⟨v0, vs0, d0, ds0, p0, q0, hargs, rfl, rfl, h0, r0⟩ := trodAll_cons hA
  obtain ⟨v1, vs1, d1, ds1, p1, q1, rfl, rfl, rfl, h1, r1⟩ := trodAll_cons r0
  obtain ⟨rfl, rfl, rfl⟩ := trodAll_nil r1
  obtain rfl : args = #[v0, v1] := by cases args; simp_all
  obtain ⟨rfl, rfl⟩ := trodVars_none hV
  have k0 := h0
  have lt0 : ∀ x ∈ p0, x.block < W.heap.size := by obtain ⟨m, hm⟩ := k0; exact DataW.trod_lt m _ _ _ hm
  obtain ⟨fuel0, hf0⟩ := h0
  obtain ⟨cs0, rfl, _⟩ := okWide_struct Tryd.underlying25 (hval 0 25 v0 rfl rfl)
  obtain ⟨x0, hx0, w0⟩ := opS25.out enc W _ _ _ fuel0 _ _ hf0
  have ec0 := k25_open hx0
  obtain rfl : cs0 = #[.int .u16 x0.f0, .int .u8 x0.f1, .int .u8 x0.f2, .int .u32 x0.f3] := by cases cs0; simpa [Value.cells] using ec0
  obtain ⟨a1, rfl, rfl, rfl, y1⟩ := open_string Tryd.underlying9 (hval 1 9 v1 rfl rfl) h1
  have w1 : a1.size ≤ 140737488351232 := by
    have z := sized_string hsz (j := 1) (t := 9) rfl rfl
    rw [Array.length_toList] at z
    exact z
  clear hA0 hval0 hsz0 hsz
  obtain ⟨kk, hk⟩ := Pure.AsmLines x0.f0 x0.f1 x0.f2 x0.f3 a1 w0 w1
  refine (Pr.tamislaw05_AsmLines.calls kk x0.f0 x0.f1 x0.f2 x0.f3 a1 true W  rfl hG hk).mono fun e W' ⟨he, hd⟩ => ?_
  have bel : Below W.heap.size W W' := hd
  subst he
  exact ⟨_, rfl, _, _, _, [], _, [], hW', trodAll_mk1 (shut_bool Tryd.underlying4 _), (trodAll_cons_mk (Below.trod laidOut (by kernel_rfl) (of_decide_eq_true (by kernel_rfl)) k0 bel lt0) (trodAll_cons_mk (shut_string Tryd.underlying9 y1) trodAll_mk0)), rfl, bel.frame _, fun h => by cases h⟩
theorem over : Rows.asmLinesRow.holds Tryd.pinned (OpenSpec.ofChange Rows.asmLinesSpec) :=
  OpenClaim.holds_of_wide 3 Tryd.f3 rfl rfl rfl rfl rfl rfl rfl ⟨rfl, rfl, rfl, rfl, rfl⟩ rfl rfl rfl rfl rfl (by kernel_rfl) Tryd.func3 (by kernel_rfl)
    (of_decide_eq_true (by kernel_rfl)) (by unfold Func.isWrapper; first | (rw [if_pos (by decide +kernel)]; kernel_rfl) | (rw [if_neg (by decide +kernel)]; exact ⟨rfl, rfl⟩))
    (fun os started H enc _ => lifted os started H enc)
theorem card : Rows.AsmLinesCardSaid :=
  Claim7.holds_tied_plain_at .later [] [.data, .data, .data, .data, .sentinel, .sentinel, .pinned] true (true, "058f8c6c10db4b7d94f8f322adace66690a8fd2e27c19ca23c17c710e3ff2ac4") true over (fun _ h => by cases h) (by kernel_rfl) (fun _ h => by cases h) asmLines_row_tie rfl ⟨rfl, rfl⟩ (by kernel_rfl) rfl
    (fun f fn hf hfn => by
      obtain rfl : f = 3 := Option.some.inj ((show Tryd.prog.funcNamed (Rows.asmLinesRow.func) = some 3 by kernel_rfl).symm.trans hf) |>.symm
      obtain rfl : fn = Tryd.f3 := (Option.some.inj (Tryd.func3.symm.trans hfn)).symm
      exact ⟨by kernel_rfl, fun j t ht => by
        rw [Tryd.params3] at ht
        have hm : t ∈ [25, 9] := by simpa using Array.mem_of_getElem? ht
        have hall : ([25, 9].all fun u => !Tryd.prog.wantsStandIn u) = true := by kernel_rfl
        exact (show Tryd.prog.wantsStandIn t = false by simpa using List.all_eq_true.1 hall t hm)⟩)
    (by kernel_rfl)
#print axioms card
end Go.Proofs.YtnagbdcpmbjnpaaDoor.asmLines
namespace Go.Proofs.YtnagbdcpmbjnpaaDoor
/-- The tied card, under a short name, for the claim. -/
theorem asmLines_holds : Rows.AsmLinesCardSaid := asmLines.card
end Go.Proofs.YtnagbdcpmbjnpaaDoor
