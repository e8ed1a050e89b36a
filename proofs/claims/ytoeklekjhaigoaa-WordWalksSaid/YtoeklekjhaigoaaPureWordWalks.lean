/- WordWalks: where any steps end on any record is as the reference says. -/
import Derived.Test.YtoeklekjhaigoaaStatWordWalks
import Derived.Test.YtoeklekjhaigoaaQRef19
namespace Go.Proofs.Ytoeklekjhaigoaa.Pure
open Go.RowKit Go.Proofs.Ytoeklekjhaigoaa.StatWordWalks Go.Proofs.YtoeklekjhaigoaaW.PrintWords Go.Proofs.YtoeklekjhaigoaaW.PrintLast Go.Proofs.YtoeklekjhaigoaaW.PrintMore Go.Proofs.Ytoeklekjhaigoaa.PWordWalks Go.Proofs.Ytoeklekjhaigoaa.QLe Go.Proofs.Ytoeklekjhaigoaa.QNum Go.Proofs.Ytoeklekjhaigoaa.WWalk Go.Proofs.Ytoeklekjhaigoaa.QWalk Go.Proofs.Ytoeklekjhaigoaa.QRef19 Go.Proofs.Ytoeklekjhaigoaa.W0 Go.Proofs.Ytoeklekjhaigoaa.W1
theorem few_f (l : List S40) : doorwardlaw19_few.f l = some (l.take (min l.length 200)) := by
  unfold doorwardlaw19_few.f
  have e1 : mn (l.length : Int) 200 = ((min l.length 200 : Nat) : Int) := by unfold mn; split <;> omega
  rw [e1, if_pos (by omega), if_pos (by omega), Int.toNat_natCast]
theorem alive19 (k : Nat) (hk : 30 ≤ k) : doorwardlaw19_alive.f k = some true := by
  unfold doorwardlaw19_alive.f
  rw [if_pos (by decide), walk_f _ [] (by simp) (fun o ho => absurd ho (List.not_mem_nil)) k (by simpa using hk)]
  have hz : (strOfNums (List.replicate 64 0)).size = 64 := by rw [sON_size, List.length_replicate]
  unfold walkR
  rw [if_pos hz]
  rfl
theorem WordWalks : StatWordWalks.Stat := by
  intro l s _ _ hq hs
  refine ⟨5000, ?_⟩
  unfold doorwardlaw19_WordWalks.f
  rw [few_f, alive19 5000 (by omega)]
  have e1 : mn (s.size : Int) 80 = ((min s.size 80 : Nat) : Int) := by unfold mn; split <;> omega
  simp only [Option.bind_some]
  rw [e1, if_pos (by omega), if_pos (by omega), if_pos trivial]
  have hl : (l.take (min l.length 200)).length ≤ 200 := by rw [List.length_take]; omega
  have hk : ∀ o ∈ l.take (min l.length 200), 0 ≤ o.f1 ∧ o.f1 < 4294967296 := fun o ho => wf_u32 (hq o (List.mem_of_mem_take ho)).2.1
  rw [walk_f _ _ (by omega) hk 5000 (by omega), refWalk_f _ _ (by omega) hk 5000 (by omega)]
  simp [tup]
end Go.Proofs.Ytoeklekjhaigoaa.Pure
