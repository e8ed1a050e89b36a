/- EmitJoins: steps one behind the other become their instructions one behind the other, if the first ones go to no label of the others. -/
import Derived.Test.YtefkhcijgiagdaaStatEmitJoins
import Derived.Test.YtefkhcijgiagdaaPEmitJoinsx1
import Derived.Test.YtefkhcijgiagdaaI1x0
import Derived.Test.YtefkhcijgiagdaaE1x0
import Derived.Test.YtefkhcijgiagdaaHAsm2
import Derived.Test.YtefkhcijgiagdaaHAsm
import Derived.Test.YtefkhcijgiagdaaQEmit
import Derived.Test.YtefkhcijgiagdaaQIn
import Derived.Test.YtefkhcijgiagdaaQNum
namespace Go.Proofs.Ytefkhcijgiagdaa.Pure
open Go.RowKit Go.Proofs.Ytefkhcijgiagdaa.StatEmitJoins Go.Proofs.YtefkhcijgiagdaaW.PrintWords Go.Proofs.YtefkhcijgiagdaaW.PrintMore Go.Proofs.Ytefkhcijgiagdaa.PEmitJoins Go.Proofs.Ytefkhcijgiagdaa.QLe Go.Proofs.Ytefkhcijgiagdaa.QNum Go.Proofs.Ytefkhcijgiagdaa.QEmit Go.Proofs.Ytefkhcijgiagdaa.HAsm Go.Proofs.Ytefkhcijgiagdaa.E1 Go.Proofs.Ytefkhcijgiagdaa.E2 Go.Proofs.Ytefkhcijgiagdaa.I1
structure Rel (M : List S28) (s1 s2 : WS) : Prop where
  xs : s2.xs = M ++ s1.xs
  L : ∀ k v, s1.L k = some v → s2.L k = some (v + (M.length : Int))
  bad : s2.bad = false
theorem Rel.put {M : List S28} {s1 s2 : WS} (h : Rel M s1 s2) (x : S28) : Rel M (s1.put x) (s2.put x) :=
  ⟨by show s2.xs ++ [x] = M ++ (s1.xs ++ [x]); rw [h.xs, List.append_assoc], h.L, h.bad⟩
theorem Rel.goI {M : List S28} {s1 s2 : WS} (h : Rel M s1 s2) (l : Int) (hs : (s1.L l).isSome = true) : HAsm.goI s2.xs s2.L l = HAsm.goI s1.xs s1.L l ∧ (s2.L l).isSome = true := by
  obtain ⟨v, hv⟩ := Option.isSome_iff_exists.1 hs
  have h2 := h.L l v hv
  unfold HAsm.goI
  rw [hv, h2, h.xs]
  refine ⟨?_, rfl⟩
  have e : (((M ++ s1.xs).length : Nat) : Int) - (some (v + (M.length : Int))).getD 0 = ((s1.xs.length : Nat) : Int) - (some v).getD 0 := by
    simp only [List.length_append, Option.getD_some]; omega
  rw [e]
theorem Rel.go {M : List S28} {s1 s2 : WS} (h : Rel M s1 s2) (l : Int) (hs : (s1.L l).isSome = true) : Rel M (s1.go l) (s2.go l) := by
  obtain ⟨e, h2⟩ := h.goI l hs
  refine ⟨?_, h.L, ?_⟩
  · show s2.xs ++ [HAsm.goI s2.xs s2.L l] = M ++ (s1.xs ++ [HAsm.goI s1.xs s1.L l])
    rw [e, h.xs, List.append_assoc]
  · show (s2.bad || !(s2.L l).isSome) = false
    rw [h.bad, h2]; rfl
theorem or_not_false {a b : Bool} (h : (a || !b) = false) : a = false ∧ b = true := by cases a <;> cases b <;> simp at h ⊢
theorem Rel.step {M : List S28} {s1 s2 : WS} (h : Rel M s1 s2) (o : S40) (hb : (stepS s1 o).bad = false) : Rel M (stepS s1 o) (stepS s2 o) := by
  unfold stepS at hb ⊢
  split
  · exact h.put _
  · rename_i h1
    rw [if_neg h1] at hb
    split
    · exact h.put _
    · rename_i h2
      rw [if_neg h2] at hb
      split
      · rename_i h3
        rw [if_pos h3] at hb
        have hb' : ((s1.bad || !(s1.L o.f3).isSome) || !(s1.L o.f2).isSome) = false := hb
        obtain ⟨hb1, k2⟩ := or_not_false hb'
        obtain ⟨_, k3⟩ := or_not_false hb1
        exact ((h.go o.f3 k3).go o.f2 k2).put _
      · rename_i h3
        rw [if_neg h3] at hb
        split
        · refine ⟨h.xs, fun k v hk => ?_, h.bad⟩
          simp only at hk ⊢
          split at hk
          · rename_i e
            rw [if_pos e]
            injection hk with hk
            rw [h.xs, ← hk, List.length_append]
            congr 1; omega
          · rename_i e
            rw [if_neg e]; exact h.L k v hk
        · rename_i h6
          rw [if_neg h6] at hb
          split
          · rename_i h7
            rw [if_pos h7] at hb
            have hb' : (s1.bad || !(s1.L o.f2).isSome) = false := hb
            exact h.go o.f2 (or_not_false hb').2
          · rename_i h7
            rw [if_neg h7] at hb
            split
            · exact h.put _
            · rename_i h8
              rw [if_neg h8] at hb
              cases hb
theorem rel_fold (s : WS) (hs : s.bad = false) : ∀ l : List S40, (foldR init l).bad = false → Rel s.xs (foldR init l) (foldR s l) := by
  intro l
  induction l with
  | nil => intro _; exact ⟨by show s.xs = s.xs ++ []; rw [List.append_nil], (fun k v h => (by cases h)), hs⟩
  | cons o l ih =>
    intro hb
    have hb1 : (foldR init l).bad = false := by
      cases e : (foldR init l).bad
      · rfl
      · have := step_bad _ o e
        rw [show (foldR init (o :: l)).bad = (stepS (foldR init l) o).bad from rfl, this] at hb
        cases hb
    exact (ih hb1).step o hb
theorem asm_ok (l : List S40) (hl : l.length ≤ 200) : ((asmR l).2 = 0 ↔ (foldR init l).bad = false) ∧ ((foldR init l).bad = false → asmR l = ((foldR init l).xs.reverse, 0)) := by
  have h := (fold_len init l).1
  have e0 : init.xs.length = 0 := rfl
  unfold asmR
  cases e : (foldR init l).bad
  · rw [if_neg (by decide), if_neg (by omega)]; simp
  · rw [if_pos rfl]; simp
theorem joins (l m : List S40) (hl : l.length ≤ 60) (hm : m.length ≤ 60) (h1 : (asmR l).2 = 0) (h2 : (asmR m).2 = 0) : asmR (l ++ m) = ((asmR l).1 ++ (asmR m).1, 0) := by
  have b1 := ((asm_ok l (by omega)).1).1 h1
  have b2 := ((asm_ok m (by omega)).1).1 h2
  have hr := rel_fold (foldR init m) b2 l b1
  have e := foldR_append init l m
  rw [(asm_ok l (by omega)).2 b1, (asm_ok m (by omega)).2 b2, (asm_ok (l ++ m) (by rw [List.length_append]; omega)).2 (by rw [e]; exact hr.bad), e, hr.xs, List.reverse_append]
theorem joins_bad (l m : List S40) (hl : l.length ≤ 60) (hm : m.length ≤ 60) (h2 : ¬ (asmR m).2 = 0) : ¬ (asmR (l ++ m)).2 = 0 := by
  intro h
  apply h2
  have b := ((asm_ok (l ++ m) (by rw [List.length_append]; omega)).1).1 h
  rw [foldR_append] at b
  refine ((asm_ok m (by omega)).1).2 ?_
  cases e : (foldR init m).bad
  · rfl
  · rw [fold_bad _ l e] at b; cases b
theorem ok_of {l : List S40} (h : ∀ x ∈ l, Q40 x) : ∀ o ∈ l, OkOp o := fun o ho => by
  obtain ⟨_, _, h2, h3⟩ := h o ho
  exact ⟨decide_eq_true (wf_i64 h2), decide_eq_true (wf_i64 h3)⟩
theorem EmitJoins : StatEmitJoins.Stat := by
  intro l m _ _ hl _ _ hm
  refine ⟨1000, ?_⟩
  unfold doorwardlaw21_EmitJoins.f
  simp only [Option.bind_some]
  have e1 : mn (l.length : Int) 60 = ((min l.length 60 : Nat) : Int) := by unfold mn; split <;> omega
  have e2 : mn (m.length : Int) 60 = ((min m.length 60 : Nat) : Int) := by unfold mn; split <;> omega
  rw [e1, e2, if_pos (by omega), if_pos (by omega), if_pos (by omega), if_pos (by omega)]
  simp only [Int.toNat_natCast, List.nil_append, List.length_nil, Nat.zero_add]
  have q1 : ∀ x ∈ l.take (min l.length 60), Q40 x := fun x hx => hl x (List.mem_of_mem_take hx)
  have q2 : ∀ x ∈ m.take (min m.length 60), Q40 x := fun x hx => hm x (List.mem_of_mem_take hx)
  have z1 : (l.take (min l.length 60)).length ≤ 60 := by rw [List.length_take]; omega
  have z2 : (m.take (min m.length 60)).length ≤ 60 := by rw [List.length_take]; omega
  generalize l.take (min l.length 60) = a at *
  generalize m.take (min m.length 60) = b at *
  have g1 : a.length < 4398046511104 := by omega
  have g2 : a.length + b.length < 4398046511104 := by omega
  simp only [g1, g2, if_true]
  rw [emit_f a (by omega) (ok_of q1), emit_f b (by omega) (ok_of q2), emit_f (a ++ b) (by rw [List.length_append]; omega) (fun o ho => by
    rcases List.mem_append.1 ho with h | h
    · exact ok_of q1 o h
    · exact ok_of q2 o h)]
  simp only [Option.bind_some]
  have w1 := (fold_len init a).1
  have w2 := (fold_len init b).1
  have e0 : init.xs.length = 0 := rfl
  by_cases h1 : (asmR a).2 = 0
  · rw [if_pos h1]
    by_cases h2 : (asmR b).2 = 0
    · have hj := joins a b z1 z2 h1 h2
      have l1 : (asmR a).1.length ≤ 180 := by rw [(asm_ok a (by omega)).2 (((asm_ok a (by omega)).1).1 h1)]; simp; omega
      have l2 : (asmR b).1.length ≤ 180 := by rw [(asm_ok b (by omega)).2 (((asm_ok b (by omega)).1).1 h2)]; simp; omega
      rw [h2, hj]
      have e : ((0 : Int) != 0) = false := by decide
      rw [e]
      show doorwardlaw21_EmitJoins.j0 (999 + 1) _ _ _ _ _ _ = _
      simp only [doorwardlaw21_EmitJoins.j0]
      rw [if_neg (by decide), alive_ok]
      simp only [Option.bind_some, List.nil_append, List.length_nil, Nat.zero_add]
      simp only [if_true]
      rw [if_pos (by omega), if_pos (by omega), like_self _ (by rw [List.length_append]; omega) 999 (by rw [List.length_append]; omega)]
      rfl
    · have hj := joins_bad a b z1 z2 h2
      have e : ((asmR b).2 != 0) = true := by simpa using h2
      rw [e]
      show doorwardlaw21_EmitJoins.j0 (999 + 1) _ _ _ _ _ _ = _
      simp only [doorwardlaw21_EmitJoins.j0]
      simp only [if_true]
      rw [alive_ok]
      simp only [Option.bind_some, if_true]
      rw [if_neg h2]
      simpa using hj
  · rw [if_neg h1]
    show doorwardlaw21_EmitJoins.j0 (999 + 1) _ _ _ _ _ _ = _
    simp only [doorwardlaw21_EmitJoins.j0]
    simp only [if_true]
    rw [alive_ok]
    simp only [Option.bind_some, if_true]
    by_cases h2 : (asmR b).2 = 0
    · rw [if_pos h2]
    · rw [if_neg h2]
      simpa using joins_bad a b z1 z2 h2
end Go.Proofs.Ytefkhcijgiagdaa.Pure
