-- Written by a program of this session (wip/tools/rowgen.py).
import Derived.Test.YtoeklekjhaigoaaPCallNamesx1
import Derived.Test.YtoeklekjhaigoaaWOpen
import Derived.KernelRfl
namespace Go.Proofs.Ytoeklekjhaigoaa.StatCallNames
open Go.RowKit Go.Proofs.YtoeklekjhaigoaaW.PrintWords Go.Proofs.Ytoeklekjhaigoaa.Open Go.Proofs.Ytoeklekjhaigoaa.PCallNames Go.Proofs.Ytoeklekjhaigoaa.Le Go.Proofs.Ytoeklekjhaigoaa.C1 Go.Proofs.Ytoeklekjhaigoaa.C2 Go.Proofs.Ytoeklekjhaigoaa.HAct
set_option maxRecDepth 100000
def Q22 (x : Int) : Prop := (Lit.int .u32 x).wf = true
theorem opens22 : Opens Try.prog (Kd.int .u32) 22 Q22 := Opens.int .u32 Try.underlying22 (by kernel_rfl)
def Q9 (s : ByteArray) : Prop := s.size ≤ maxLen
theorem opens9 : Opens Try.prog Kd.string 9 Q9 := Opens.string Try.underlying9 (by kernel_rfl)
def Q30 (x : Int) : Prop := (Lit.int .u64 x).wf = true
theorem opens30 : Opens Try.prog (Kd.int .u64) 30 Q30 := Opens.int .u64 Try.underlying30 (by kernel_rfl)
def Stat : Prop := ∀ (a0 : Int) (a1 : Int) (a2 : ByteArray) (a3 : Int), Q22 a0 → Q22 a1 → a2.size ≤ 140737488351232 → Q30 a3 → ∃ k, doorwardlaw13_CallNames.f k a0 a1 a2 a3 = some true
end Go.Proofs.Ytoeklekjhaigoaa.StatCallNames
