-- Written by a program of this session (wip/tools/rowgen.py).
import Derived.Test.YtoeklekjhaigoaaPWordJoinsx2
import Derived.Test.YtoeklekjhaigoaaWOpen
import Derived.KernelRfl
namespace Go.Proofs.Ytoeklekjhaigoaa.StatWordJoins
open Go.RowKit Go.Proofs.YtoeklekjhaigoaaW.PrintWords Go.Proofs.Ytoeklekjhaigoaa.Open Go.Proofs.Ytoeklekjhaigoaa.PWordJoins Go.Proofs.Ytoeklekjhaigoaa.Le Go.Proofs.Ytoeklekjhaigoaa.C1 Go.Proofs.Ytoeklekjhaigoaa.C2 Go.Proofs.Ytoeklekjhaigoaa.HAct Go.Proofs.Ytoeklekjhaigoaa.W0 Go.Proofs.Ytoeklekjhaigoaa.HFrom Go.Proofs.Ytoeklekjhaigoaa.W1
set_option maxRecDepth 100000
def Q3 (x : Int) : Prop := (Lit.int .i64 x).wf = true
theorem opens3 : Opens Try.prog (Kd.int .i64) 3 Q3 := Opens.int .i64 Try.underlying3 (by kernel_rfl)
def Q22 (x : Int) : Prop := (Lit.int .u32 x).wf = true
theorem opens22 : Opens Try.prog (Kd.int .u32) 22 Q22 := Opens.int .u32 Try.underlying22 (by kernel_rfl)
def Q40 (x : S40) : Prop := Q3 x.f0 ∧ Q22 x.f1 ∧ Q3 x.f2 ∧ Q3 x.f3
theorem opens40 : Opens Try.prog k40 40 Q40 := by
  intro fuel
  cases fuel with
  | zero => exact OpensN.none (by kernel_rfl)
  | succ fuel => exact OpensN.struct Try.underlying40 (by kernel_rfl) (OpensF.iso (fun x : S40 => (x.f0, x.f1, x.f2, x.f3)) (fun p => ⟨p.1, p.2.1, p.2.2.1, p.2.2.2⟩) (fun _ => rfl) (OpensF.cons (by kernel_rfl) (opens3 fuel) (OpensF.cons (by kernel_rfl) (opens22 fuel) (OpensF.cons (by kernel_rfl) (opens3 fuel) (OpensF.last (by kernel_rfl) (opens3 fuel))))))
def Q33 (x : List S40) : Prop := (x.length ≤ maxLen ∧ ∀ y_ ∈ x, Q40 y_)
theorem opens33 : Opens Try.prog (Kd.slice 40 k40) 33 Q33 := Opens.slice Try.underlying33 (by kernel_rfl) opens40
def Q9 (s : ByteArray) : Prop := s.size ≤ maxLen
theorem opens9 : Opens Try.prog Kd.string 9 Q9 := Opens.string Try.underlying9 (by kernel_rfl)
def Stat : Prop := ∀ (a0 : List S40) (a1 : List S40) (a2 : ByteArray), a0.length ≤ maxLen → a0.length * 32 ≤ 140737488351232 → (∀ x ∈ a0, Q40 x) → a1.length ≤ maxLen → a1.length * 32 ≤ 140737488351232 → (∀ x ∈ a1, Q40 x) → a2.size ≤ 140737488351232 → ∃ k, doorwardlaw19_WordJoins.f k a0 a1 a2 = some true
end Go.Proofs.Ytoeklekjhaigoaa.StatWordJoins
