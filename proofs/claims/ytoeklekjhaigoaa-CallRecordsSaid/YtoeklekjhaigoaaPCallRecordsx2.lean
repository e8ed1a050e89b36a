/- CallRecords: the law's function, walked by hand. -/
import Derived.Test.YtoeklekjhaigoaaHLaw13
namespace Go.Proofs.Ytoeklekjhaigoaa.PCallRecords
open Go.RowKit Go.Proofs.YtoeklekjhaigoaaW.PrintWords Go.Proofs.YtoeklekjhaigoaaW.PrintLast Go.Proofs.YtoeklekjhaigoaaW.PrintMore Go.Proofs.Ytoeklekjhaigoaa.HLaw13 Go.Proofs.Ytoeklekjhaigoaa.HPack Go.Proofs.Ytoeklekjhaigoaa.HRefPack
def U32 (x : Int) : Prop := 0 ≤ x ∧ x < 4294967296
def U64 (x : Int) : Prop := 0 ≤ x ∧ x < 18446744073709551616
instance (x : Int) : Decidable (U32 x) := inferInstanceAs (Decidable (_ ∧ _))
instance (x : Int) : Decidable (U64 x) := inferInstanceAs (Decidable (_ ∧ _))
def doorwardlaw13_CallRecords.f (a0_0 a0_1 a0_2 a0_3 a0_4 a0_5 a0_6 a0_7 a0_8 : Int) (a1 : ByteArray) : Option Bool :=
  if (U32 a0_0 ∧ U32 a0_1 ∧ U64 a0_2 ∧ U64 a0_3 ∧ U64 a0_4 ∧ U64 a0_5 ∧ U64 a0_6 ∧ U64 a0_7 ∧ U64 a0_8) ∧ a1.size ≤ 140737488351232 then some true else none
theorem doorwardlaw13_CallRecords.calls (a0_0 : Int) (a0_1 : Int) (a0_2 : Int) (a0_3 : Int) (a0_4 : Int) (a0_5 : Int) (a0_6 : Int) (a0_7 : Int) (a0_8 : Int) (a1 : ByteArray) (r : Bool) (w : World) (h : doorwardlaw13_CallRecords.f a0_0 a0_1 a0_2 a0_3 a0_4 a0_5 a0_6 a0_7 a0_8 a1 = some r) :
    Calls Try.prog 14 #[.agg #[.int .u32 a0_0, .int .u32 a0_1, .int .u64 a0_2, .int .u64 a0_3, .int .u64 a0_4, .int .u64 a0_5, .int .u64 a0_6, .int .u64 a0_7, .int .u64 a0_8], .string a1] w fun e w' => e = .returned (.bool r) ∧ Below w.heap.size w w' := by
  unfold doorwardlaw13_CallRecords.f at h
  split at h
  · rename_i hc
    obtain ⟨⟨h0, h1, h2, h3, h4, h5, h6, h7, h8⟩, hs⟩ := hc
    obtain rfl := Option.some.inj h
    exact records_any a1 a0_0 a0_1 a0_2 a0_3 a0_4 a0_5 a0_6 a0_7 a0_8 w hs _ (fun W => pack_any _ _ _ _ _ _ _ _ _ W h0 h1 h2.1 h3.1 h4.1 h5.1 h6.1 h7.1 h8.1) (fun W => refPack_any _ _ _ _ _ _ _ _ _ W h0 h1 h2 h3 h4 h5 h6 h7 h8)
  · cases h
end Go.Proofs.Ytoeklekjhaigoaa.PCallRecords
