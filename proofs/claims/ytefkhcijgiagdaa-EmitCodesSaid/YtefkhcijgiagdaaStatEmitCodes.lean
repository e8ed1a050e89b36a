-- Written by a program of this session (wip/tools/rowgen.py).
import Derived.Test.YtefkhcijgiagdaaPEmitCodesx1
import Derived.Test.YtefkhcijgiagdaaWOpen
import Derived.KernelRfl
namespace Go.Proofs.Ytefkhcijgiagdaa.StatEmitCodes
open Go.RowKit Go.Proofs.YtefkhcijgiagdaaW.PrintWords Go.Proofs.Ytefkhcijgiagdaa.Open Go.Proofs.Ytefkhcijgiagdaa.PEmitCodes Go.Proofs.Ytefkhcijgiagdaa.Le Go.Proofs.Ytefkhcijgiagdaa.HKnown Go.Proofs.Ytefkhcijgiagdaa.HPut Go.Proofs.Ytefkhcijgiagdaa.I1 Go.Proofs.Ytefkhcijgiagdaa.E1 Go.Proofs.Ytefkhcijgiagdaa.HAsm Go.Proofs.Ytefkhcijgiagdaa.E2
set_option maxRecDepth 100000
def Q3 (x : Int) : Prop := (Lit.int .i64 x).wf = true
theorem opens3 : Opens Try.prog (Kd.int .i64) 3 Q3 := Opens.int .i64 Try.underlying3 (by kernel_rfl)
def Q24 (x : Int) : Prop := (Lit.int .u32 x).wf = true
theorem opens24 : Opens Try.prog (Kd.int .u32) 24 Q24 := Opens.int .u32 Try.underlying24 (by kernel_rfl)
def Q40 (x : S40) : Prop := Q3 x.f0 ∧ Q24 x.f1 ∧ Q3 x.f2 ∧ Q3 x.f3
theorem opens40 : Opens Try.prog k40 40 Q40 := by
  intro fuel
  cases fuel with
  | zero => exact OpensN.none (by kernel_rfl)
  | succ fuel => exact OpensN.struct Try.underlying40 (by kernel_rfl) (OpensF.iso (fun x : S40 => (x.f0, x.f1, x.f2, x.f3)) (fun p => ⟨p.1, p.2.1, p.2.2.1, p.2.2.2⟩) (fun _ => rfl) (OpensF.cons (by kernel_rfl) (opens3 fuel) (OpensF.cons (by kernel_rfl) (opens24 fuel) (OpensF.cons (by kernel_rfl) (opens3 fuel) (OpensF.last (by kernel_rfl) (opens3 fuel))))))
def Q33 (x : List S40) : Prop := (x.length ≤ maxLen ∧ ∀ y_ ∈ x, Q40 y_)
theorem opens33 : Opens Try.prog (Kd.slice 40 k40) 33 Q33 := Opens.slice Try.underlying33 (by kernel_rfl) opens40
def Stat : Prop := ∀ (a0 : List S40), a0.length ≤ maxLen → a0.length * 32 ≤ 140737488351232 → (∀ x ∈ a0, Q40 x) → ∃ k, doorwardlaw21_EmitCodes.f k a0 = some true
end Go.Proofs.Ytefkhcijgiagdaa.StatEmitCodes
