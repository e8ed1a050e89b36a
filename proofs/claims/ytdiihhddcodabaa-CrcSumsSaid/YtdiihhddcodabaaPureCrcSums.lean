/- CrcSums: any text's sum, any text sealed, and any bytes opened or refused, are as the reference says; for all texts. -/
import Derived.Test.YtdiihhddcodabaaPCrcSumsx1
import Derived.Test.YtdiihhddcodabaaQCrc
namespace Go.Proofs.Ytdiihhddcodabaa.Pure
open Go.RowKit Go.Proofs.Ytdiihhddcodabaa.PCrcSums Go.Proofs.YtdiihhddcodabaaW.PrintWords Go.Proofs.YtdiihhddcodabaaW.PrintLast Go.Proofs.Ytdiihhddcodabaa.QCrc Go.Proofs.Ytdiihhddcodabaa.B
theorem CrcSums : doorwardlaw02_CrcSums.Pure := by
  intro s t _ _
  have h1 := shortS_size s
  have h2 := shortS_size t
  refine ⟨100000, ?_⟩
  unfold doorwardlaw02_CrcSums.f
  rw [short_ok, short_ok]
  simp only [Option.bind_some]
  rw [open_ok _ (by omega) _ (by omega), refOpen_ok _ (by omega) _ (by omega), alive_ok]
  simp only [Option.bind_some, if_true]
  rw [of_ok _ (by omega), refOf_ok _ (by omega) _ (by omega), seal_ok _ (by omega) _ (by omega), refSeal_ok _ (by omega) _ (by omega)]
  simp
end Go.Proofs.Ytdiihhddcodabaa.Pure
