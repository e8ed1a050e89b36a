/- CallRecords: a record of a call, and any row of bytes read as one, are as the reference says. -/
import Derived.Test.YtoeklekjhaigoaaStatCallRecords
import Derived.Test.YtoeklekjhaigoaaQNum
namespace Go.Proofs.Ytoeklekjhaigoaa.Pure
open Go.RowKit Go.Proofs.Ytoeklekjhaigoaa.StatCallRecords Go.Proofs.YtoeklekjhaigoaaW.PrintWords Go.Proofs.Ytoeklekjhaigoaa.PCallRecords Go.Proofs.Ytoeklekjhaigoaa.QNum Go.Proofs.Ytoeklekjhaigoaa.K49
theorem CallRecords : StatCallRecords.Stat := by
  intro c s hc hs
  obtain ⟨h0, h1, h2, h3, h4, h5, h6, h7, h8⟩ := hc
  unfold doorwardlaw13_CallRecords.f
  exact if_pos ⟨⟨wf_u32 h0, wf_u32 h1, wf_u64 h2, wf_u64 h3, wf_u64 h4, wf_u64 h5, wf_u64 h6, wf_u64 h7, wf_u64 h8⟩, hs⟩
end Go.Proofs.Ytoeklekjhaigoaa.Pure
