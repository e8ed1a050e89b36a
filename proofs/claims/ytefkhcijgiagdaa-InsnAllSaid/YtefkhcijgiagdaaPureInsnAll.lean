/- InsnAll: the bytes of any filter, and the filter of any bytes, is as the reference says, or refused. -/
import Derived.Test.YtefkhcijgiagdaaStatInsnAll
import Derived.Test.YtefkhcijgiagdaaPInsnAllx1
import Derived.Test.YtefkhcijgiagdaaI1x0
import Derived.Test.YtefkhcijgiagdaaHAll
import Derived.Test.YtefkhcijgiagdaaQIn
import Derived.Test.YtefkhcijgiagdaaQNum
import Derived.Test.YtefkhcijgiagdaaQAll
namespace Go.Proofs.Ytefkhcijgiagdaa.Pure
open Go.RowKit Go.Proofs.Ytefkhcijgiagdaa.StatInsnAll Go.Proofs.YtefkhcijgiagdaaW.PrintWords Go.Proofs.YtefkhcijgiagdaaW.PrintMore Go.Proofs.Ytefkhcijgiagdaa.PInsnAll Go.Proofs.Ytefkhcijgiagdaa.QLe Go.Proofs.Ytefkhcijgiagdaa.QNum Go.Proofs.Ytefkhcijgiagdaa.QIn Go.Proofs.Ytefkhcijgiagdaa.QAll Go.Proofs.Ytefkhcijgiagdaa.HKnown Go.Proofs.Ytefkhcijgiagdaa.HPut Go.Proofs.Ytefkhcijgiagdaa.HAll Go.Proofs.Ytefkhcijgiagdaa.I1
theorem rg_all {l : List S28} (h : ∀ x ∈ l, Q28 x) : ∀ i ∈ l, rgI i := fun i hi => ⟨wf_i64 (h i hi).1, wf_i64 (h i hi).2.1, wf_i64 (h i hi).2.2.1, (wf_u32 (h i hi).2.2.2).1, (wf_u32 (h i hi).2.2.2).2⟩
theorem all_j1 (l : List S28) (hl : l.length ≤ 4100) (hr : ∀ i ∈ l, rgI i) (s : ByteArray) (k : Nat) (hk : 5000 ≤ k) : doorwardlaw10_InsnAll.j1 (k + 1) l s = some true := by
  simp only [doorwardlaw10_InsnAll.j1]
  have e : mn (s.size : Int) 32780 = ((min s.size 32780 : Nat) : Int) := by unfold mn; split <;> omega
  rw [e, if_pos (by omega), if_pos (by omega), all_f l (by omega) hr, refAll_f l hr k hk]
  simp only [Option.bind_some]
  rw [read_f _ k hk, refRead_f _ k hk, QIn.alive_ok]
  simp only [Option.bind_some, if_true]
  have h2 := readR_len (s.extract 0 ((min s.size 32780 : Nat) : Int).toNat).data.toList
  rw [like_self _ (by omega) k (by omega)]
  simp
theorem all_j0 (l : List S28) (hl : l.length ≤ 4100) (hr : ∀ i ∈ l, rgI i) (s : ByteArray) (b : Bool) (hb : b = true → 3000 ≤ s.size) (k : Nat) (hk : 5000 ≤ k) : doorwardlaw10_InsnAll.j0 (k + 1 + 1) l s b = some true := by
  simp only [doorwardlaw10_InsnAll.j0]
  cases b
  · rw [if_neg (by decide)]; exact all_j1 l hl hr s k hk
  · have := hb rfl
    rw [if_pos rfl, if_pos (by decide), if_pos (by omega)]; exact all_j1 l hl hr _ k hk
theorem InsnAll : StatInsnAll.Stat := by
  intro l s _ _ hq hs
  obtain ⟨K, hK⟩ : ∃ K : Nat, 6000 ≤ K := ⟨6000, Nat.le_refl _⟩
  refine ⟨K + 1 + 1, ?_⟩
  unfold doorwardlaw10_InsnAll.f
  obtain ⟨a, ha, hl, hm⟩ := few_f l
  have hr := rg_all hq
  rw [ha]
  simp only [Option.bind_some]
  split
  · exact all_j0 a hl (fun i hi => hr i (hm i hi)) s _ (fun _ => by omega) K (by omega)
  · exact all_j0 a hl (fun i hi => hr i (hm i hi)) s _ (fun h => by cases h) K (by omega)
end Go.Proofs.Ytefkhcijgiagdaa.Pure
