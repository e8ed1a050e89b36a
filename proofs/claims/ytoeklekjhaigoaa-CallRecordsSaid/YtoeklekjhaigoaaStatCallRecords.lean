-- Written by a program of this session (wip/tools/rowgen.py).
import Derived.Test.YtoeklekjhaigoaaPCallRecordsx2
import Derived.Test.YtoeklekjhaigoaaWOpen
import Derived.KernelRfl
namespace Go.Proofs.Ytoeklekjhaigoaa.StatCallRecords
open Go.RowKit Go.Proofs.YtoeklekjhaigoaaW.PrintWords Go.Proofs.Ytoeklekjhaigoaa.Open Go.Proofs.Ytoeklekjhaigoaa.PCallRecords Go.Proofs.Ytoeklekjhaigoaa.Le Go.Proofs.Ytoeklekjhaigoaa.C1 Go.Proofs.Ytoeklekjhaigoaa.C2 Go.Proofs.Ytoeklekjhaigoaa.HAct Go.Proofs.Ytoeklekjhaigoaa.W0 Go.Proofs.Ytoeklekjhaigoaa.HFrom Go.Proofs.Ytoeklekjhaigoaa.W1 Go.Proofs.Ytoeklekjhaigoaa.R01 Go.Proofs.Ytoeklekjhaigoaa.HPack Go.Proofs.Ytoeklekjhaigoaa.HUnpack Go.Proofs.Ytoeklekjhaigoaa.HRefPack Go.Proofs.Ytoeklekjhaigoaa.K49
set_option maxRecDepth 100000
def Q22 (x : Int) : Prop := (Lit.int .u32 x).wf = true
theorem opens22 : Opens Try.prog (Kd.int .u32) 22 Q22 := Opens.int .u32 Try.underlying22 (by kernel_rfl)
def Q30 (x : Int) : Prop := (Lit.int .u64 x).wf = true
theorem opens30 : Opens Try.prog (Kd.int .u64) 30 Q30 := Opens.int .u64 Try.underlying30 (by kernel_rfl)
def Q47 (x : S47) : Prop := Q30 x.f0 ∧ Q30 x.f1 ∧ Q30 x.f2 ∧ Q30 x.f3 ∧ Q30 x.f4 ∧ Q30 x.f5
theorem opens47 : Opens Try.prog k47 47 Q47 := by
  intro fuel
  cases fuel with
  | zero => exact OpensN.none (by kernel_rfl)
  | succ fuel => exact OpensN.array Try.underlying47 (by kernel_rfl) (OpensA.iso (fun x : S47 => (x.f0, x.f1, x.f2, x.f3, x.f4, x.f5)) (fun p => ⟨p.1, p.2.1, p.2.2.1, p.2.2.2.1, p.2.2.2.2.1, p.2.2.2.2.2⟩) (fun _ => rfl) (OpensA.cons (by kernel_rfl) (opens30 fuel) (OpensA.cons (by kernel_rfl) (opens30 fuel) (OpensA.cons (by kernel_rfl) (opens30 fuel) (OpensA.cons (by kernel_rfl) (opens30 fuel) (OpensA.cons (by kernel_rfl) (opens30 fuel) (OpensA.last (by kernel_rfl) (opens30 fuel))))))))
def Q49 (x : S49) : Prop := Q22 x.f0 ∧ Q22 x.f1 ∧ Q30 x.f2 ∧ Q47 x.f3
theorem opens49 : Opens Try.prog k49 49 Q49 := by
  intro fuel
  cases fuel with
  | zero => exact OpensN.none (by kernel_rfl)
  | succ fuel => exact OpensN.struct Try.underlying49 (by kernel_rfl) (OpensF.iso (fun x : S49 => (x.f0, x.f1, x.f2, x.f3)) (fun p => ⟨p.1, p.2.1, p.2.2.1, p.2.2.2⟩) (fun _ => rfl) (OpensF.cons (by kernel_rfl) (opens22 fuel) (OpensF.cons (by kernel_rfl) (opens22 fuel) (OpensF.cons (by kernel_rfl) (opens30 fuel) (OpensF.last (by kernel_rfl) (opens47 fuel))))))
def Q9 (s : ByteArray) : Prop := s.size ≤ maxLen
theorem opens9 : Opens Try.prog Kd.string 9 Q9 := Opens.string Try.underlying9 (by kernel_rfl)
def Stat : Prop := ∀ (a0 : S49) (a1 : ByteArray), Q49 a0 → a1.size ≤ 140737488351232 → doorwardlaw13_CallRecords.f a0.f0 a0.f1 a0.f2 a0.f3.f0 a0.f3.f1 a0.f3.f2 a0.f3.f3 a0.f3.f4 a0.f3.f5 a1 = some true
end Go.Proofs.Ytoeklekjhaigoaa.StatCallRecords
