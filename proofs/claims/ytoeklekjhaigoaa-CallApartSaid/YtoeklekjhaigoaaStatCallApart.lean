-- Written by a program of this session (wip/tools/rowgen.py).
import Derived.Test.YtoeklekjhaigoaaPCallApartx1
import Derived.Test.YtoeklekjhaigoaaWOpen
import Derived.KernelRfl
namespace Go.Proofs.Ytoeklekjhaigoaa.StatCallApart
open Go.RowKit Go.Proofs.YtoeklekjhaigoaaW.PrintWords Go.Proofs.Ytoeklekjhaigoaa.Open Go.Proofs.Ytoeklekjhaigoaa.PCallApart Go.Proofs.Ytoeklekjhaigoaa.Le Go.Proofs.Ytoeklekjhaigoaa.C1 Go.Proofs.Ytoeklekjhaigoaa.C2
set_option maxRecDepth 100000
def Q9 (s : ByteArray) : Prop := s.size ≤ maxLen
theorem opens9 : Opens Try.prog Kd.string 9 Q9 := Opens.string Try.underlying9 (by kernel_rfl)
def Q22 (x : Int) : Prop := (Lit.int .u32 x).wf = true
theorem opens22 : Opens Try.prog (Kd.int .u32) 22 Q22 := Opens.int .u32 Try.underlying22 (by kernel_rfl)
def Stat : Prop := ∀ (a0 : ByteArray) (a1 : ByteArray) (a2 : Int) (a3 : Int), a0.size ≤ 140737488351232 → a1.size ≤ 140737488351232 → Q22 a2 → Q22 a3 → ∃ k, doorwardlaw13_CallApart.f k a0 a1 a2 a3 = some true
end Go.Proofs.Ytoeklekjhaigoaa.StatCallApart
