/- CallActions: two actions with data have one number just if they are the same. -/
import Derived.Test.YtoeklekjhaigoaaStatCallActions
import Derived.Test.YtoeklekjhaigoaaQCall
import Derived.Test.YtoeklekjhaigoaaQAct
namespace Go.Proofs.Ytoeklekjhaigoaa.Pure
open Go.RowKit Go.Proofs.Ytoeklekjhaigoaa.StatCallActions Go.Proofs.YtoeklekjhaigoaaW.PrintWords Go.Proofs.YtoeklekjhaigoaaW.PrintLast Go.Proofs.YtoeklekjhaigoaaW.PrintMore Go.Proofs.Ytoeklekjhaigoaa.PCallActions Go.Proofs.Ytoeklekjhaigoaa.C1 Go.Proofs.Ytoeklekjhaigoaa.QNum Go.Proofs.Ytoeklekjhaigoaa.QCall Go.Proofs.Ytoeklekjhaigoaa.QAct Go.Proofs.Ytoeklekjhaigoaa.HAct
theorem action_f (a : ByteArray) (d : Int) (h : a.size ≤ 140737488351232) : call_Action.f a d = some (actOut a.toList d) := by
  unfold call_Action.f
  rw [if_pos (by unfold maxLen; omega), ByteArray.toList_eq]
theorem CallActions : StatCallActions.Stat := by
  intro a b x y ha hb hx hy
  obtain ⟨K, hK⟩ : ∃ K : Nat, 100 ≤ K := ⟨100, Nat.le_refl _⟩
  refine ⟨K + 1, ?_⟩
  have hx := wf_u64 hx
  have hy := wf_u64 hy
  unfold doorwardlaw13_CallActions.f
  rw [action_f a x ha, action_f b y hb]
  simp only [Option.bind_some, doorwardlaw13_CallActions.j0]
  rw [alive_ok K (by omega)]
  simp only [Option.bind_some, if_true]
  cases h1 : (actOut a.toList x).2
  · have z1 := act_bad _ _ h1
    cases h2 : (actOut b.toList y).2
    · have z2 := act_bad _ _ h2
      rw [z1, z2]; rfl
    · rw [z1]; rfl
  · cases h2 : (actOut b.toList y).2
    · have z2 := act_bad _ _ h2
      rw [z2]; rfl
    · have hi := act_inj a.toList b.toList x y hx.1 hy.1 h1 h2
      simp only [Bool.not_true, if_true]
      rw [if_neg (by decide)]
      by_cases hab : a.toList = b.toList
      · rw [if_pos hab]
        by_cases hxy : x = y
        · rw [hi.2 ⟨hab, hxy⟩, hxy]; simp
        · have hn : ¬ (actOut a.toList x).1 = (actOut b.toList y).1 := fun h => hxy (hi.1 h).2
          rw [beq_eq_false_iff_ne.2 hn, beq_eq_false_iff_ne.2 hxy]; rfl
      · rw [if_neg hab]
        have hn : ¬ (actOut a.toList x).1 = (actOut b.toList y).1 := fun h => hab (hi.1 h).1
        rw [beq_eq_false_iff_ne.2 hn]; rfl
end Go.Proofs.Ytoeklekjhaigoaa.Pure
