-- Written by a program of this session (wip/tools/rowgen.py).
import Derived.Test.YtefkhcijgiagdaaPInsnJoinsx1
import Derived.Test.YtefkhcijgiagdaaWOpen
import Derived.KernelRfl
namespace Go.Proofs.Ytefkhcijgiagdaa.StatInsnJoins
open Go.RowKit Go.Proofs.YtefkhcijgiagdaaW.PrintWords Go.Proofs.Ytefkhcijgiagdaa.Open Go.Proofs.Ytefkhcijgiagdaa.PInsnJoins Go.Proofs.Ytefkhcijgiagdaa.Le Go.Proofs.Ytefkhcijgiagdaa.HKnown Go.Proofs.Ytefkhcijgiagdaa.HPut Go.Proofs.Ytefkhcijgiagdaa.I1 Go.Proofs.Ytefkhcijgiagdaa.E1 Go.Proofs.Ytefkhcijgiagdaa.HAsm Go.Proofs.Ytefkhcijgiagdaa.E2 Go.Proofs.Ytefkhcijgiagdaa.HAll Go.Proofs.Ytefkhcijgiagdaa.V0
set_option maxRecDepth 100000
def Q3 (x : Int) : Prop := (Lit.int .i64 x).wf = true
theorem opens3 : Opens Try.prog (Kd.int .i64) 3 Q3 := Opens.int .i64 Try.underlying3 (by kernel_rfl)
def Q24 (x : Int) : Prop := (Lit.int .u32 x).wf = true
theorem opens24 : Opens Try.prog (Kd.int .u32) 24 Q24 := Opens.int .u32 Try.underlying24 (by kernel_rfl)
def Q28 (x : S28) : Prop := Q3 x.f0 ∧ Q3 x.f1 ∧ Q3 x.f2 ∧ Q24 x.f3
theorem opens28 : Opens Try.prog k28 28 Q28 := by
  intro fuel
  cases fuel with
  | zero => exact OpensN.none (by kernel_rfl)
  | succ fuel => exact OpensN.struct Try.underlying28 (by kernel_rfl) (OpensF.iso (fun x : S28 => (x.f0, x.f1, x.f2, x.f3)) (fun p => ⟨p.1, p.2.1, p.2.2.1, p.2.2.2⟩) (fun _ => rfl) (OpensF.cons (by kernel_rfl) (opens3 fuel) (OpensF.cons (by kernel_rfl) (opens3 fuel) (OpensF.cons (by kernel_rfl) (opens3 fuel) (OpensF.last (by kernel_rfl) (opens24 fuel))))))
def Q34 (x : List S28) : Prop := (x.length ≤ maxLen ∧ ∀ y_ ∈ x, Q28 y_)
theorem opens34 : Opens Try.prog (Kd.slice 28 k28) 34 Q34 := Opens.slice Try.underlying34 (by kernel_rfl) opens28
def Stat : Prop := ∀ (a0 : List S28) (a1 : List S28), a0.length ≤ maxLen → a0.length * 32 ≤ 140737488351232 → (∀ x ∈ a0, Q28 x) → a1.length ≤ maxLen → a1.length * 32 ≤ 140737488351232 → (∀ x ∈ a1, Q28 x) → ∃ k, doorwardlaw10_InsnJoins.f k a0 a1 = some true
end Go.Proofs.Ytefkhcijgiagdaa.StatInsnJoins
