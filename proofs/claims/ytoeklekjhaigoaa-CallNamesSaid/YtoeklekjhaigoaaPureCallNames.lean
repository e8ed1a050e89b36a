/- CallNames: the number of any architecture, any call and any action, and the name of any number, is as the reference says, or there is none. -/
import Derived.Test.YtoeklekjhaigoaaStatCallNames
import Derived.Test.YtoeklekjhaigoaaQCall
import Derived.Test.YtoeklekjhaigoaaQAct
import Derived.Test.YtoeklekjhaigoaaQRef13
namespace Go.Proofs.Ytoeklekjhaigoaa.Pure
open Go.RowKit Go.Proofs.Ytoeklekjhaigoaa.StatCallNames Go.Proofs.YtoeklekjhaigoaaW.PrintWords Go.Proofs.YtoeklekjhaigoaaW.PrintLast Go.Proofs.YtoeklekjhaigoaaW.PrintMore Go.Proofs.Ytoeklekjhaigoaa.PCallNames Go.Proofs.Ytoeklekjhaigoaa.C1 Go.Proofs.Ytoeklekjhaigoaa.C2 Go.Proofs.Ytoeklekjhaigoaa.QNum Go.Proofs.Ytoeklekjhaigoaa.QLe Go.Proofs.Ytoeklekjhaigoaa.QCall Go.Proofs.Ytoeklekjhaigoaa.QAct Go.Proofs.Ytoeklekjhaigoaa.QRef13 Go.Proofs.Ytoeklekjhaigoaa.HAct
theorem action_f (a : ByteArray) (d : Int) (h : a.size ≤ 140737488351232) : call_Action.f a d = some (actOut a.toList d) := by
  unfold call_Action.f
  rw [if_pos (by unfold maxLen; omega), ByteArray.toList_eq]
theorem arch_f (a : ByteArray) (h : a.size ≤ 140737488351232) : call_Arch.f a = some (archB a.toList) := by
  unfold call_Arch.f
  rw [if_pos (by unfold maxLen; omega), ByteArray.toList_eq]
theorem names_loop (nr : Int) (nm : ByteArray) (data : Int) (hn : nm.size ≤ 140737488351232) (hd : 0 ≤ data) (xs : List Int) (hx : xs.length ≤ 10) : ∀ n i : Nat, i + n = xs.length → ∀ k, n + 40 < k → doorwardlaw13_CallNames.l0 k nr nm data xs (xs.length : Int) i = some true := by
  intro n
  induction n with
  | zero =>
    intro i hi k hk
    obtain ⟨k, rfl⟩ : ∃ m, k = m + 1 := ⟨k - 1, by omega⟩
    simp only [doorwardlaw13_CallNames.l0]
    rw [if_neg (by omega), action_f nm data hn, refAction_f nm data hd k (by omega)]
    simp
  | succ n ih =>
    intro i hi k hk
    obtain ⟨k, rfl⟩ : ∃ m, k = m + 1 := ⟨k - 1, by omega⟩
    simp only [doorwardlaw13_CallNames.l0]
    rw [if_pos (by omega), if_pos (by omega), if_pos (by omega), nr_f _ nm k (by omega), refNr_f _ nm k (by omega), name_f _ nr k (by omega), refName_f _ nr k (by omega)]
    simp only [Option.bind_some, if_true, bne_self_eq_false]
    rw [if_neg (by decide), if_neg (by decide), w64 _ (by omega) (by omega)]
    exact ih (i + 1) (by omega) k (by omega)
theorem CallNames : StatCallNames.Stat := by
  intro arch nr nm data ha hnr hn hd
  obtain ⟨K, hK⟩ : ∃ K : Nat, 100 ≤ K := ⟨100, Nat.le_refl _⟩
  refine ⟨K + 1, ?_⟩
  have hd := wf_u64 hd
  unfold doorwardlaw13_CallNames.f
  rw [arch_f nm hn, refArch_f, alive_ok (K + 1) (by omega)]
  simp only [Option.bind_some, if_true, bne_self_eq_false, Bool.not_true]
  rw [if_neg (by decide)]
  simp only [doorwardlaw13_CallNames.j0]
  rw [if_neg (by decide)]
  simp only [Option.bind_some]
  exact names_loop nr nm data hn hd.1 [arch, 3221225534, 3221225655] (by simp) 3 0 (by simp) K (by omega)
end Go.Proofs.Ytoeklekjhaigoaa.Pure
