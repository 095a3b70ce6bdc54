-- Made by a program of this session (wip/tools/myprint.sh).
import Derived.Test.YtjgapcidhoecfaaPr0
import Derived.Test.YtjgapcidhoecfaaGOpen
namespace Go.Proofs.Ytjgapcidhoecfaa.Pr
open Go.RowKit Go.Proofs.YtjgapcidhoecfaaW.PrintWords Go.Proofs.YtjgapcidhoecfaaW.PrintLast
def okS39 (x : S39) : Prop := (fun n : Int => (Lit.int .u16 n).wf = true) x.f0 ∧ ((fun n : Int => (Lit.int .u8 n).wf = true) x.f1 ∧ ((fun n : Int => (Lit.int .u8 n).wf = true) x.f2 ∧ ((fun n : Int => (Lit.int .u32 n).wf = true) x.f3)))
theorem opS39 : Opens Try.prog 39 k39 okS39 :=
  opens_struct Try.underlying39 (by kernel_rfl) (opensF_cons (opens_int Try.underlying36) rfl (by kernel_rfl) (opensF_cons (opens_int Try.underlying5) rfl (by kernel_rfl) (opensF_cons (opens_int Try.underlying5) rfl (by kernel_rfl) (opensF_last (opens_int Try.underlying37) rfl (by kernel_rfl))))) (fun p => ⟨p.1, p.2.1, p.2.2.1, p.2.2.2⟩) (fun _ => rfl) (fun _ h => h)

end Go.Proofs.Ytjgapcidhoecfaa.Pr
