/- EmitCodes: all instructions that are made are known, and all jumps go on within them, or just behind the last one. -/
import Derived.Test.YtefkhcijgiagdaaStatEmitCodes
import Derived.Test.YtefkhcijgiagdaaPEmitCodesx1
import Derived.Test.YtefkhcijgiagdaaHKnown
import Derived.Test.YtefkhcijgiagdaaQLe
import Derived.Test.YtefkhcijgiagdaaHPut
import Derived.Test.YtefkhcijgiagdaaI1x0
import Derived.Test.YtefkhcijgiagdaaE1x0
import Derived.Test.YtefkhcijgiagdaaHAsm2
import Derived.Test.YtefkhcijgiagdaaHAsm
import Derived.Test.YtefkhcijgiagdaaQEmit
import Derived.Test.YtefkhcijgiagdaaQIn2
import Derived.Test.YtefkhcijgiagdaaQIn
import Derived.Test.YtefkhcijgiagdaaQNum
namespace Go.Proofs.Ytefkhcijgiagdaa.Pure
open Go.RowKit Go.Proofs.Ytefkhcijgiagdaa.StatEmitCodes Go.Proofs.YtefkhcijgiagdaaW.PrintWords Go.Proofs.YtefkhcijgiagdaaW.PrintMore Go.Proofs.Ytefkhcijgiagdaa.PEmitCodes Go.Proofs.Ytefkhcijgiagdaa.QLe Go.Proofs.Ytefkhcijgiagdaa.QNum Go.Proofs.Ytefkhcijgiagdaa.QIn Go.Proofs.Ytefkhcijgiagdaa.QEmit Go.Proofs.Ytefkhcijgiagdaa.HAsm Go.Proofs.Ytefkhcijgiagdaa.HKnown Go.Proofs.Ytefkhcijgiagdaa.HPut Go.Proofs.Ytefkhcijgiagdaa.E1 Go.Proofs.Ytefkhcijgiagdaa.E2 Go.Proofs.Ytefkhcijgiagdaa.I1
def codeOk (c : Int) : Prop := c = 5 ∨ c = 6 ∨ c = 21 ∨ c = 32 ∨ c = 37 ∨ c = 53 ∨ c = 84
structure G (p : Nat) (x : S28) : Prop where
  code : codeOk x.f0
  jt : x.f1 = 0
  jf : x.f2 = 0 ∨ x.f2 = 1 ∧ 1 ≤ p
  k : 0 ≤ x.f3 ∧ x.f3 < 4294967296
  ja : x.f0 = 5 → x.f3 ≤ (p : Int)
structure Inv (s : WS) : Prop where
  xs : ∀ p (hp : p < s.xs.length), G p s.xs[p]
  L : ∀ k v, s.L k = some v → 0 ≤ v ∧ v ≤ (s.xs.length : Int)
theorem Inv.put {s : WS} (h : Inv s) (x : S28) (hx : G s.xs.length x) : Inv (s.put x) := by
  refine ⟨fun p hp => ?_, fun k v hk => ?_⟩
  · have hp' : p < (s.xs ++ [x]).length := hp
    show G p (s.xs ++ [x])[p]
    by_cases hlt : p < s.xs.length
    · rw [List.getElem_append_left hlt]; exact h.xs p hlt
    · have e : p = s.xs.length := by simp at hp'; omega
      subst e
      rw [List.getElem_append_right (Nat.le_refl _)]
      simpa using hx
  · have := h.L k v hk
    show 0 ≤ v ∧ v ≤ (((s.xs ++ [x]).length : Nat) : Int)
    rw [List.length_append]; simp; omega
theorem Inv.goI {s : WS} (h : Inv s) (hl : s.xs.length ≤ 10000) (l : Int) : G s.xs.length (HAsm.goI s.xs s.L l) := by
  have hv : 0 ≤ (s.L l).getD 0 ∧ (s.L l).getD 0 ≤ (s.xs.length : Int) := by
    cases e : s.L l with
    | none => simp
    | some v => simpa using h.L l v e
  have e : (wrap64 ((s.xs.length : Int) - (s.L l).getD 0)) % 4294967296 = (s.xs.length : Int) - (s.L l).getD 0 := by
    rw [w64 _ (by omega) (by omega)]; omega
  refine ⟨Or.inl rfl, rfl, Or.inl rfl, ?_, fun _ => ?_⟩
  · show 0 ≤ (wrap64 _) % 4294967296 ∧ (wrap64 _) % 4294967296 < 4294967296
    rw [e]; omega
  · show (wrap64 _) % 4294967296 ≤ _
    rw [e]; omega
theorem Inv.go {s : WS} (h : Inv s) (hl : s.xs.length ≤ 10000) (l : Int) : Inv (s.go l) := by
  have := h.put _ (h.goI hl l)
  exact ⟨this.xs, this.L⟩
theorem Inv.step {s : WS} (h : Inv s) (o : S40) (hl : s.xs.length ≤ 9990) (ho : 0 ≤ o.f1 ∧ o.f1 < 4294967296) : Inv (stepS s o) := by
  unfold stepS
  split
  · exact h.put _ ⟨by simp [codeOk], rfl, Or.inl rfl, ho, fun e => by simp at e⟩
  · split
    · exact h.put _ ⟨by simp [codeOk], rfl, Or.inl rfl, ho, fun e => by simp at e⟩
    · split
      · rename_i h3
        have a1 := h.go (by omega) o.f3
        have e1 : (s.go o.f3).xs.length = s.xs.length + 1 := by simp [WS.go]
        have a2 := a1.go (by omega) o.f2
        have e2 : ((s.go o.f3).go o.f2).xs.length = s.xs.length + 2 := by simp [WS.go]
        have hc : codeB o.f0 = 21 ∨ codeB o.f0 = 37 ∨ codeB o.f0 = 53 := by
          unfold codeB
          split
          · exact Or.inl rfl
          · split
            · exact Or.inr (Or.inl rfl)
            · exact Or.inr (Or.inr rfl)
        refine a2.put _ ⟨?_, rfl, Or.inr ⟨rfl, by omega⟩, ho, fun e => ?_⟩
        · show codeOk (codeB o.f0)
          unfold codeOk; omega
        · have e' : codeB o.f0 = 5 := e
          omega
      · split
        · refine ⟨h.xs, fun k v hk => ?_⟩
          simp only at hk ⊢
          split at hk
          · injection hk with hk; omega
          · exact h.L k v hk
        · split
          · exact h.go (by omega) o.f2
          · split
            · exact h.put _ ⟨by simp [codeOk], rfl, Or.inl rfl, ho, fun e => by simp at e⟩
            · exact ⟨h.xs, h.L⟩
theorem inv_fold : ∀ l : List S40, l.length ≤ 1000 → (∀ o ∈ l, 0 ≤ o.f1 ∧ o.f1 < 4294967296) → Inv (foldR init l) := by
  intro l
  induction l with
  | nil => intro _ _; exact ⟨fun p hp => absurd hp (Nat.not_lt_zero _), fun k v h => by cases h⟩
  | cons o l ih =>
    intro hl ho
    rw [List.length_cons] at hl
    have h1 := (fold_len init l).1
    have e0 : init.xs.length = 0 := rfl
    exact (ih (by omega) (fun x hx => ho x (List.mem_cons_of_mem _ hx))).step o (by omega) (ho o (List.mem_cons_self ..))
theorem codes_loop (xs : List S28) (hl : xs.length ≤ 10000) (hg : ∀ i (hi : i < xs.length), G (xs.length - 1 - i) xs[i]) : ∀ n i : Nat, i + n = xs.length → ∀ k, n < k → doorwardlaw21_EmitCodes.l0 k xs xs (xs.length : Int) i = some true := by
  intro n
  induction n with
  | zero =>
    intro i hi k hk
    obtain ⟨k, rfl⟩ : ∃ m, k = m + 1 := ⟨k - 1, by omega⟩
    simp only [doorwardlaw21_EmitCodes.l0]
    rw [if_neg (by omega), QEmit.alive_ok]; rfl
  | succ n ih =>
    intro i hi k hk
    obtain ⟨k, rfl⟩ : ∃ m, k = m + 1 := ⟨k - 1, by omega⟩
    simp only [doorwardlaw21_EmitCodes.l0]
    have hlt : i < xs.length := by omega
    have hG := hg i hlt
    rw [if_pos (by omega), if_pos (by omega), if_pos (by omega), rd28_get xs i hlt]
    generalize xs[i] = x at hG ⊢
    obtain ⟨c, a, b, d⟩ := x
    obtain ⟨hc, rfl, hb, hd, hj⟩ := hG
    simp only at hc hb hd hj ⊢
    have hc2 : 5 ≤ c ∧ c ≤ 84 := by unfold codeOk at hc; omega
    have hb2 : 0 ≤ b ∧ b ≤ 1 := by omega
    have hok : putOk c 0 b = true := decide_eq_true ⟨by omega, by omega, by omega, by omega, by omega, by omega⟩
    have hkn : knownB c = true := by
      rcases hc with rfl | rfl | rfl | rfl | rfl | rfl | rfl <;> decide
    rw [put_f c 0 b d (by omega) (by omega) (by omega) (by omega), known_f, hok, hkn]
    simp only [if_true, Option.bind_some]
    have w1 : wrap64 ((i : Int) + 1) = (i : Int) + 1 := w64 _ (by omega) (by omega)
    have w2 : wrap64 ((i : Int) + 1 + 0) = (i : Int) + 1 := by rw [w64 _ (by omega) (by omega)]; omega
    have w3 : wrap64 ((i : Int) + 1 + b) = (i : Int) + 1 + b := w64 _ (by omega) (by omega)
    have w4 : wrap64 d = d := w64 _ (by omega) (by omega)
    have w5 : wrap64 ((i : Int) + 1 + d) = (i : Int) + 1 + d := w64 _ (by omega) (by omega)
    rw [w1, w2, w3, w4, w5]
    have next := ih (i + 1) (by omega) k (by omega)
    have n1 : ¬ ((i : Int) + 1 > (xs.length : Int)) := by omega
    have n2 : ¬ ((i : Int) + 1 + b > (xs.length : Int)) := by omega
    by_cases h5 : c = 5
    · have n3 : ¬ ((i : Int) + 1 + d > (xs.length : Int)) := by have := hj h5; omega
      rw [if_pos h5, if_neg n3, if_neg n1, if_neg n2]; exact next
    · rw [if_neg h5, if_neg n1, if_neg n2]; exact next
theorem EmitCodes : StatEmitCodes.Stat := by
  intro l _ _ hq
  refine ⟨10000, ?_⟩
  unfold doorwardlaw21_EmitCodes.f
  have e1 : mn (l.length : Int) 200 = ((min l.length 200 : Nat) : Int) := by unfold mn; split <;> omega
  rw [e1, if_pos (by omega), if_pos (by omega)]
  simp only [Int.toNat_natCast]
  have q1 : ∀ x ∈ l.take (min l.length 200), Q40 x := fun x hx => hq x (List.mem_of_mem_take hx)
  have z1 : (l.take (min l.length 200)).length ≤ 200 := by rw [List.length_take]; omega
  generalize l.take (min l.length 200) = a at *
  rw [emit_f a (by omega) (fun o ho => by
    obtain ⟨_, _, h2, h3⟩ := q1 o ho
    exact ⟨decide_eq_true (wf_i64 h2), decide_eq_true (wf_i64 h3)⟩)]
  simp only [Option.bind_some]
  have hi := inv_fold a (by omega) (fun o ho => wf_u32 (q1 o ho).2.1)
  have w1 := (fold_len init a).1
  have e0 : init.xs.length = 0 := rfl
  unfold asmR
  by_cases hb : (foldR init a).bad = true
  · rw [if_pos hb]
    simp only
    rw [if_neg (by decide), QEmit.alive_ok]
    rfl
  · rw [if_neg hb, if_neg (show ¬ 4096 < (foldR init a).xs.length by omega)]
    simp only [if_true]
    refine codes_loop _ (by simp; omega) (fun i hlt => ?_) (foldR init a).xs.reverse.length 0 (by omega) 10000 (by simp; omega)
    have hlt' : i < (foldR init a).xs.length := by simpa using hlt
    rw [List.getElem_reverse, List.length_reverse]
    exact hi.xs _ _
end Go.Proofs.Ytefkhcijgiagdaa.Pure
