/- What call.Action answers, in plain words. -/
import Derived.Test.YtoeklekjhaigoaaHAct
import Derived.Laws.BitsLemmas
import Derived.KernelRfl
namespace Go.Proofs.Ytoeklekjhaigoaa.QAct
open Go.RowKit Go.Proofs.YtoeklekjhaigoaaW.PrintWords Go.Proofs.Ytoeklekjhaigoaa.HAct
set_option linter.unusedVariables false
set_option maxRecDepth 100000
theorem bits16 (n d : Int) (h0 : 0 ≤ n) (h1 : n < 4294967296) (h2 : n % 65536 = 0) (d0 : 0 ≤ d) (d1 : d < 65536) : bits BinOp.or IntKind.u32 n d = n + d :=
  bits_join .u32 32 (by decide) (fun n h0 h1 => IntKind.wrap_u32 n ▸ Int.emod_eq_of_lt h0 h1) 16 n d h0 h2 h1 d0 d1 (by omega)
theorem find_mem (l : List UInt8) : ∀ ps p, findAct l ps = some p → (l, p) ∈ ps := by
  intro ps
  induction ps with
  | nil => intro p h; cases h
  | cons q r ih =>
    intro p h
    unfold findAct at h
    split at h
    · rename_i e
      injection h with h
      subst h; subst e
      exact List.mem_cons_self ..
    · exact List.mem_cons_of_mem _ (ih p h)
theorem acts_ok : ∀ u ∈ acts, 0 ≤ u.2.1 ∧ u.2.1 < 4294967296 ∧ u.2.1 % 65536 = 0 ∧ 0 ≤ u.2.2 ∧ u.2.2 < 65536 := by decide +kernel
theorem acts_apart : ∀ u ∈ acts, ∀ v ∈ acts, u = v ∨ u.1 ≠ v.1 ∧ (u.2.1 + u.2.2 < v.2.1 ∨ v.2.1 + v.2.2 < u.2.1) := by decide +kernel
theorem act_ok (l : List UInt8) (d : Int) (hd : 0 ≤ d) (h : (actOut l d).2 = true) : ∃ p : Int × Int, (l, p) ∈ acts ∧ d ≤ p.2 ∧ (actOut l d).1 = p.1 + d := by
  unfold actOut at h ⊢
  cases hA : actB l with
  | none => rw [hA] at h; cases h
  | some p =>
    rw [hA] at h
    simp only at h ⊢
    have hm : (l, p) ∈ acts := List.mem_reverse.1 (find_mem l _ p hA)
    by_cases hlt : p.2 < d
    · rw [if_pos hlt] at h; cases h
    · rw [if_neg hlt]
      obtain ⟨h0, h1, h2, h3, h4⟩ := acts_ok _ hm
      simp only at h0 h1 h2 h3 h4
      refine ⟨p, hm, by omega, ?_⟩
      rw [show d % 4294967296 = d by omega]
      exact bits16 p.1 d h0 h1 h2 hd (by omega)
theorem act_bad (l : List UInt8) (d : Int) (h : (actOut l d).2 = false) : (actOut l d).1 = 0 := by
  unfold actOut at h ⊢
  cases hA : actB l with
  | none => rfl
  | some p =>
    rw [hA] at h
    simp only at h ⊢
    split
    · rfl
    · rename_i hn; rw [if_neg hn] at h; cases h
/-- Two actions have one number just if they are the same. -/
theorem act_inj (l m : List UInt8) (x y : Int) (hx : 0 ≤ x) (hy : 0 ≤ y) (h1 : (actOut l x).2 = true) (h2 : (actOut m y).2 = true) : (actOut l x).1 = (actOut m y).1 ↔ l = m ∧ x = y := by
  obtain ⟨p, hp, p1, p2⟩ := act_ok l x hx h1
  obtain ⟨q, hq, q1, q2⟩ := act_ok m y hy h2
  constructor
  · intro h
    rcases acts_apart _ hp _ hq with e | ⟨e, e2⟩
    · injection e with e1 e2
      subst e1; subst e2
      exact ⟨rfl, by omega⟩
    · simp only at e2; omega
  · rintro ⟨rfl, rfl⟩; rfl
end Go.Proofs.Ytoeklekjhaigoaa.QAct
