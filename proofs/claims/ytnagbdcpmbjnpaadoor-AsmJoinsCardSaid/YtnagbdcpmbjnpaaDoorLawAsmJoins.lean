/- The row and the tied card of AsmJoins, out of its walk and its plain law. Listed variables: as the row lists them. -/
import Derived.Test.YtnagbdcpmbjnpaaDoorRows
import Derived.Test.YtnagbdcpmbjnpaaDoorTie
import Derived.Test.YtnagbdcpmbjnpaaDoorCards
import Derived.Test.YtnagbdcpmbjnpaaDoorFTamislaw05AsmJoins
import Derived.Test.YtnagbdcpmbjnpaaDoorGRow
import Derived.Test.YtnagbdcpmbjnpaaDoorPureAsmJoins
import Derived.WalkKit
import Derived.ProofKit
import Derived.OpenShut
import Derived.ShutString
import Derived.ChangeOld
import Derived.Below
import Derived.SizedLaws
import Derived.Lay
import Derived.LaidMore
import Derived.SevenTiedAt
import Derived.Stop.Joined
namespace Go.Proofs.YtnagbdcpmbjnpaaDoor.asmJoins
open Go.ChangeShapes Go.WideShapes Go.ChangeAt Go.RowKit Go.Proofs.YtnagbdcpmbjnpaaDoor.Pr Go.Proofs.YtnagbdcpmbjnpaaDoorW.PrintWords Go.Proofs.YtnagbdcpmbjnpaaDoorW.PrintLast
open Go.ChangeMaps (open_string shut_string)
set_option linter.unusedVariables false
set_option linter.unusedSimpArgs false
theorem own : ownKnob Tryd.prog.godebug = none := by kernel_rfl
theorem laidOut : laidOutB Tryd.prog = true := by kernel_rfl
set_option maxRecDepth 100000 in
theorem lifted (os : Os) (started : os.Started) (H : Type) (enc : TypeId × Value → H) :
    ReturnsInHanded {} Tryd.checked os 8 .any (fun w args => (Rows.asmJoinsSpec.pre enc Tryd.prog Tryd.f8 Rows.asmJoinsRow.domain false w args ∧ laidMetH Tryd.prog Rows.asmJoinsRow.laid w) ∧ sizedMet enc Tryd.prog Tryd.f8 (OpenSpec.ofChange Rows.asmJoinsSpec) false w args)
      (Rows.asmJoinsSpec.post enc Tryd.prog Tryd.f8 false true false false) := by
  refine returnsInHanded_laid (C := Tryd.checked) (X := fun w _ => laidMetH Tryd.prog Rows.asmJoinsRow.laid w) (fun _ _ _ hh h => h.of_heap hh) own started (by kernel_rfl) Tryd.func8
    (ChangeSpec.witness_shaped (enc := enc) (C := Tryd.checked) (os := os) (X := fun w _ => laidMetH Tryd.prog Rows.asmJoinsRow.laid w) false (World.laidAll Tryd.prog os Rows.asmJoinsRow.laid) #[.slice none 0 0, .slice none 0 0, .int .i64 0] 8 (World.laidAll_os _ _ _)
      (World.shaped_of_ZipB (by kernel_rfl) (by kernel_rfl)) (by kernel_rfl) (by kernel_rfl) (by kernel_rfl)
      (by rw [MakeChecks.laidMetH_plain _ _ _ (by kernel_rfl)]; exact laidMet_laidAll _ (by kernel_rfl) (by kernel_rfl))) ?_
  intro W base args ds gs before hval0 hW hcnd hsz0 hL hsh
  have hG : GlobW W := globW_laid hL hsh
  have hsz : (DataW.weightsEach Tryd.prog (Tryd.f8.params.toList ++ Rows.asmJoinsSpec.plain.varTypes Tryd.prog) (ds ++ gs)).all (· ≤ reachBytes) = true := hsz0
  have hval : ∀ (j : Nat) t v, Tryd.f8.params[j]? = some t → args[j]? = some v → Value.okWide Tryd.prog W .any base t v := hval0
  have hW' := hW
  obtain ⟨p, q, hA0, hV, rfl, hfz, hnd⟩ := hW
  have hA : DataW.TrodAll enc Tryd.prog W 0 (fun _ => true) true Tryd.f8.params.toList args.toList ds p := hA0
  rw [Tryd.params8] at hA hval hsz
  obtain ⟨v0, vs0, d0, ds0, p0, q0, hargs, rfl, rfl, h0, r0⟩ := trodAll_cons hA
  obtain ⟨v1, vs1, d1, ds1, p1, q1, rfl, rfl, rfl, h1, r1⟩ := trodAll_cons r0
  obtain ⟨v2, vs2, d2, ds2, p2, q2, rfl, rfl, rfl, h2, r2⟩ := trodAll_cons r1
  obtain ⟨rfl, rfl, rfl⟩ := trodAll_nil r2
  obtain rfl : args = #[v0, v1, v2] := by cases args; simp_all
  obtain ⟨rfl, rfl⟩ := trodVars_none hV
  have k0 := h0
  have lt0 : ∀ x ∈ p0, x.block < W.heap.size := by obtain ⟨m, hm⟩ := k0; exact DataW.trod_lt m _ _ _ hm
  obtain ⟨fuel0, hf0⟩ := h0
  obtain ⟨B0, len0, cap0, rfl⟩ := okWide_slice Tryd.underlying37 (hval 0 37 v0 rfl rfl)
  obtain ⟨l0, ⟨A0, c0, e0, hc0, hr0⟩, w0⟩ := ((opens_slice Tryd.underlying37 (by kernel_rfl) opS25)).out enc W _ _ _ fuel0 _ _ hf0
  have z0 := sized_len hsz (j := 0) (t := 37) rfl rfl Tryd.underlying37 (by kernel_rfl : Tryd.prog.bytesOf 25 = 8) hf0
  simp [Value.cells] at e0
  obtain ⟨rfl, rfl, rfl⟩ := e0
  have k1 := h1
  have lt1 : ∀ x ∈ p1, x.block < W.heap.size := by obtain ⟨m, hm⟩ := k1; exact DataW.trod_lt m _ _ _ hm
  obtain ⟨fuel1, hf1⟩ := h1
  obtain ⟨B1, len1, cap1, rfl⟩ := okWide_slice Tryd.underlying37 (hval 1 37 v1 rfl rfl)
  obtain ⟨l1, ⟨A1, c1, e1, hc1, hr1⟩, w1⟩ := ((opens_slice Tryd.underlying37 (by kernel_rfl) opS25)).out enc W _ _ _ fuel1 _ _ hf1
  have z1 := sized_len hsz (j := 1) (t := 37) rfl rfl Tryd.underlying37 (by kernel_rfl : Tryd.prog.bytesOf 25 = 8) hf1
  simp [Value.cells] at e1
  obtain ⟨rfl, rfl, rfl⟩ := e1
  obtain ⟨a2, rfl, rfl, rfl, w2⟩ := open_int Tryd.underlying3 (hval 2 3 v2 rfl rfl) h2
  clear hA0 hval0 hsz0 hsz
  obtain ⟨kk, hk⟩ := Pure.AsmJoins l0 l1 a2 w0 z0 w1 z1 w2
  refine (Pr.tamislaw05_AsmJoins.calls kk _ _ l0 _ _ l1 a2 true W hr0 hc0 hr1 hc1 rfl hG hk).mono fun e W' ⟨he, hd⟩ => ?_
  have bel : Below W.heap.size W W' := hd
  subst he
  exact ⟨_, rfl, _, _, _, [], _, [], hW', trodAll_mk1 (shut_bool Tryd.underlying4 _), (trodAll_cons_mk (Below.trod laidOut (by kernel_rfl) (of_decide_eq_true (by kernel_rfl)) k0 bel lt0) (trodAll_cons_mk (Below.trod laidOut (by kernel_rfl) (of_decide_eq_true (by kernel_rfl)) k1 bel lt1) (trodAll_cons_mk (shut_int Tryd.underlying3 w2) trodAll_mk0))), rfl, bel.frame _, fun h => by cases h⟩
theorem over : Rows.asmJoinsRow.holds Tryd.pinned (OpenSpec.ofChange Rows.asmJoinsSpec) :=
  OpenClaim.holds_of_wide 8 Tryd.f8 rfl rfl rfl rfl rfl rfl rfl ⟨rfl, rfl, rfl, rfl, rfl⟩ rfl rfl rfl rfl rfl (by kernel_rfl) Tryd.func8 (by kernel_rfl)
    (of_decide_eq_true (by kernel_rfl)) (by unfold Func.isWrapper; first | (rw [if_pos (by decide +kernel)]; kernel_rfl) | (rw [if_neg (by decide +kernel)]; exact ⟨rfl, rfl⟩))
    (fun os started H enc _ => lifted os started H enc)
theorem card : Rows.AsmJoinsCardSaid :=
  Claim7.holds_tied_plain_at .later [] [.data, .data, .data, .data, .sentinel, .sentinel, .pinned] true (true, "058f8c6c10db4b7d94f8f322adace66690a8fd2e27c19ca23c17c710e3ff2ac4") true over (fun _ h => by cases h) (by kernel_rfl) (fun _ h => by cases h) asmJoins_row_tie rfl ⟨rfl, rfl⟩ (by kernel_rfl) rfl
    (fun f fn hf hfn => by
      obtain rfl : f = 8 := Option.some.inj ((show Tryd.prog.funcNamed (Rows.asmJoinsRow.func) = some 8 by kernel_rfl).symm.trans hf) |>.symm
      obtain rfl : fn = Tryd.f8 := (Option.some.inj (Tryd.func8.symm.trans hfn)).symm
      exact ⟨by kernel_rfl, fun j t ht => by
        rw [Tryd.params8] at ht
        have hm : t ∈ [37, 37, 3] := by simpa using Array.mem_of_getElem? ht
        have hall : ([37, 37, 3].all fun u => !Tryd.prog.wantsStandIn u) = true := by kernel_rfl
        exact (show Tryd.prog.wantsStandIn t = false by simpa using List.all_eq_true.1 hall t hm)⟩)
    (by kernel_rfl)
#print axioms card
end Go.Proofs.YtnagbdcpmbjnpaaDoor.asmJoins
namespace Go.Proofs.YtnagbdcpmbjnpaaDoor
/-- The tied card, under a short name, for the claim. -/
theorem asmJoins_holds : Rows.AsmJoinsCardSaid := asmJoins.card
end Go.Proofs.YtnagbdcpmbjnpaaDoor
