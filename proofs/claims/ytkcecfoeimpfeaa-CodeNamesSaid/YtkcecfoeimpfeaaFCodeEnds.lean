-- Made by a program of this session (wip/tools/myprint.sh).
import Derived.Test.YtkcecfoeimpfeaaPr0
import Derived.Test.YtkcecfoeimpfeaaGCodeLook
namespace Go.Proofs.Ytkcecfoeimpfeaa.Pr
open Go.RowKit Go.Proofs.YtkcecfoeimpfeaaW.PrintWords Go.Proofs.YtkcecfoeimpfeaaW.PrintLast Go.Proofs.YtkcecfoeimpfeaaW.PrintMore
attribute [local go_sem] max2_int min2_int max_two min_two max_three min_three max_four min_four   -- for this text's walks alone
set_option linter.unusedVariables false
set_option linter.unusedSimpArgs false

/-! ### code_Ends: function 15 -/
def code_Ends.f (a0 : Int) : Option (Bool) := (code_Kind.f a0).bind fun t115 => (if t115 = 13 then (some true) else (some (t115 == 14)))
set_option maxHeartbeats 8000000 in
set_option maxRecDepth 100000 in
theorem code_Ends.calls (a0 : Int) (r : Bool) (w : World) (h : code_Ends.f a0 = some r) :
    Calls Try.prog 15 #[.int .u16 a0] w fun e w' => e = .returned (.bool r) ∧ Below w.heap.size w w' := by
  have HB := Aside0.mk (Below.refl w.heap.size w)
  have H : ((code_Kind.f a0).bind fun t115 => (if t115 = 13 then (some true) else (some (t115 == 14)))) = some r := h
  clear h
  replace H := Option.bind_eq_some_iff.mp H
  obtain ⟨t115, A20, H⟩ := H
  replace H : (if t115 = 13 then (some true) else (some (t115 == 14))) = some r := H
  have A2 := Aside0.mk A20
  clear A20
  by_cases c3 : t115 = 13
  · rw [if_pos c3] at H
    have c3b0 : (t115 == 13) = true := beq_iff_eq.mpr c3
    have c3b1 : (t115 != 13) = false := bne_eq_false_iff_eq.mpr c3
    clear c3
    obtain rfl := Option.some.inj H
    go_enter Try.func15, Try.ntmps15
    go_wp2_with (first | ((with_reducible refine gate_callee (f := 12) rfl ?_); refine goesL_ (some 5) rfl rfl Try.func12 (by kernel_rfl) rfl #[.int .u16 a0] rfl (by (try simp only [List.map_toArray, List.map_cons, List.map_nil]); first | done | rfl | (simp only [List.length_drop, List.length_take]; rfl)) ?_; (with_reducible refine (code_Kind.calls a0 t115 _ A2.out).mono ?_); rintro e w4 ⟨rfl, hb⟩; refine ⟨_, rfl, ?_⟩; have n0_ := Aside0.mk (below_step (by repeat (first | (with_reducible first | exact HB.out | apply below_alloc | apply pw_below_drewN | apply below_drew1) | exact HB.out)) hb); clear HB; have HB := n0_; clear n0_; (try clear hb); (try clear hb2); (try clear hk); (try clear hi)))
    go_ret
    exact ⟨by first | rfl | (simp [errW_none, errW_some] <;> rfl) | (simp [*, errW_none, errW_some] <;> rfl), by repeat (first | (with_reducible first | exact HB.out | apply below_alloc | apply pw_below_drewN | apply below_drew1) | exact HB.out)⟩
  · rw [if_neg c3] at H
    have c3b0 : (t115 == 13) = false := beq_eq_false_iff_ne.mpr c3
    have c3b1 : (t115 != 13) = true := bne_iff_ne.mpr c3
    obtain rfl := Option.some.inj H
    go_enter Try.func15, Try.ntmps15
    go_wp2_with (first | ((with_reducible refine gate_callee (f := 12) rfl ?_); refine goesL_ (some 5) rfl rfl Try.func12 (by kernel_rfl) rfl #[.int .u16 a0] rfl (by (try simp only [List.map_toArray, List.map_cons, List.map_nil]); first | done | rfl | (simp only [List.length_drop, List.length_take]; rfl)) ?_; (with_reducible refine (code_Kind.calls a0 t115 _ A2.out).mono ?_); rintro e w5 ⟨rfl, hb⟩; refine ⟨_, rfl, ?_⟩; have n0_ := Aside0.mk (below_step (by repeat (first | (with_reducible first | exact HB.out | apply below_alloc | apply pw_below_drewN | apply below_drew1) | exact HB.out)) hb); clear HB; have HB := n0_; clear n0_; (try clear hb); (try clear hb2); (try clear hk); (try clear hi)))
    go_ret
    exact ⟨by first | rfl | (simp [errW_none, errW_some] <;> rfl) | (simp [*, errW_none, errW_some] <;> rfl), by repeat (first | (with_reducible first | exact HB.out | apply below_alloc | apply pw_below_drewN | apply below_drew1) | exact HB.out)⟩

end Go.Proofs.Ytkcecfoeimpfeaa.Pr
