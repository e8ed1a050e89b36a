/- Where steps end, told along the row of steps itself: running, or on the way to a label. Plain theorems. -/
import Derived.Test.YtoeklekjhaigoaaW0x0
namespace Go.Proofs.Ytoeklekjhaigoaa.WWalk
open Go.RowKit Go.Proofs.YtoeklekjhaigoaaW.PrintWords Go.Proofs.YtoeklekjhaigoaaW.PrintLast Go.Proofs.YtoeklekjhaigoaaW.PrintMore Go.Proofs.Ytoeklekjhaigoaa.W0
set_option linter.unusedVariables false
set_option linter.unusedSimpArgs false
structure EndR where
  lb : Int
  ans : Int
  told : Bool
  wrong : Bool
deriving DecidableEq
inductive Md where
  | run (a : Int)
  | seek (lb a : Int)
def tst (o : S40) (a : Int) : Bool := if o.f0 = 3 then decide (a = o.f1) else if o.f0 = 4 then decide (a > o.f1) else if o.f0 = 5 then decide (a ≥ o.f1) else true
def wk (wd : Int → Option Int) : List S40 → Md → EndR
  | [], .run _ => ⟨-1, 0, false, false⟩
  | [], .seek lb _ => ⟨lb, 0, false, false⟩
  | o :: l, .seek lb a => if o.f0 = 6 ∧ o.f2 = lb then wk wd l (.run a) else wk wd l (.seek lb a)
  | o :: l, .run a =>
    if o.f0 = 1 then (match wd o.f1 with | none => ⟨0, 0, false, true⟩ | some w => wk wd l (.run w))
    else if o.f0 = 2 then wk wd l (.run (bits BinOp.and IntKind.u32 a o.f1))
    else if o.f0 = 6 then wk wd l (.run a)
    else if o.f0 = 8 then ⟨0, o.f1, true, false⟩
    else if o.f0 = 3 ∨ o.f0 = 4 ∨ o.f0 = 5 ∨ o.f0 = 7 then wk wd l (.seek (if tst o a = true then o.f2 else o.f3) a)
    else ⟨0, 0, false, true⟩
/-- Steps that answer, or go wrong, do so whatever stands behind them. -/
theorem wk_told (wd : Int → Option Int) (m : List S40) : ∀ (l : List S40) (M : Md), (wk wd l M).told = true ∨ (wk wd l M).wrong = true → wk wd (l ++ m) M = wk wd l M := by
  intro l
  induction l with
  | nil => intro M h; cases M <;> (simp only [wk] at h; simp at h)
  | cons o l ih =>
    intro M h
    rw [List.cons_append]
    cases M with
    | seek lb a =>
      simp only [wk] at h ⊢
      split
      · rename_i c; rw [if_pos c] at h; exact ih _ h
      · rename_i c; rw [if_neg c] at h; exact ih _ h
    | run a =>
      simp only [wk] at h ⊢
      split
      · rename_i c; rw [if_pos c] at h
        cases e : wd o.f1 with
        | none => rfl
        | some w => rw [e] at h; exact ih _ h
      · rename_i c; rw [if_neg c] at h
        split
        · rename_i c; rw [if_pos c] at h; exact ih _ h
        · rename_i c; rw [if_neg c] at h
          split
          · rename_i c; rw [if_pos c] at h; exact ih _ h
          · rename_i c; rw [if_neg c] at h
            split
            · rfl
            · rename_i c; rw [if_neg c] at h
              split
              · rename_i c; rw [if_pos c] at h; exact ih _ h
              · rfl
/-- An answer told or a fault has label 0; what stands at a label has neither. -/
theorem wk_shape (wd : Int → Option Int) : ∀ (l : List S40) (M : Md), (wk wd l M).told = false → (wk wd l M).wrong = false → wk wd l M = ⟨(wk wd l M).lb, 0, false, false⟩ := by
  intro l
  induction l with
  | nil => intro M _ _; cases M <;> rfl
  | cons o l ih =>
    intro M h1 h2
    cases M with
    | seek lb a =>
      simp only [wk] at h1 h2 ⊢
      split at h1
      · rename_i c; rw [if_pos c] at h2; rw [if_pos c]; exact ih _ h1 h2
      · rename_i c; rw [if_neg c] at h2; rw [if_neg c]; exact ih _ h1 h2
    | run a =>
      simp only [wk] at h1 h2 ⊢
      split at h1
      · rename_i c; rw [if_pos c] at h2; rw [if_pos c]
        cases e : wd o.f1 with
        | none => rw [e] at h2; simp at h2
        | some w => rw [e] at h1 h2; exact ih _ h1 h2
      · rename_i c; rw [if_neg c] at h2; rw [if_neg c]
        split at h1
        · rename_i c; rw [if_pos c] at h2; rw [if_pos c]; exact ih _ h1 h2
        · rename_i c; rw [if_neg c] at h2; rw [if_neg c]
          split at h1
          · rename_i c; rw [if_pos c] at h2; rw [if_pos c]; exact ih _ h1 h2
          · rename_i c; rw [if_neg c] at h2; rw [if_neg c]
            split at h1
            · simp at h1
            · rename_i c; rw [if_neg c] at h2; rw [if_neg c]
              split at h1
              · rename_i c; rw [if_pos c] at h2; rw [if_pos c]; exact ih _ h1 h2
              · rename_i c; rw [if_neg c] at h2; simp at h2
/-- An answer behind steps that end at no label of theirs. -/
theorem wk_ret (wd : Int → Option Int) (n t f : Int) : ∀ (l : List S40) (M : Md), (wk wd l M).told = false → (wk wd l M).wrong = false →
    wk wd (l ++ [⟨8, n, t, f⟩]) M = ⟨0, n, true, false⟩ ∨ wk wd (l ++ [⟨8, n, t, f⟩]) M = wk wd l M := by
  intro l
  induction l with
  | nil =>
    intro M _ _
    cases M with
    | run a => exact Or.inl rfl
    | seek lb a => exact Or.inr (by simp [wk])
  | cons o l ih =>
    intro M h1 h2
    rw [List.cons_append]
    cases M with
    | seek lb a =>
      simp only [wk] at h1 h2 ⊢
      split at h1
      · rename_i c; rw [if_pos c] at h2; rw [if_pos c]; simp only [if_pos c]; exact ih _ h1 h2
      · rename_i c; rw [if_neg c] at h2; rw [if_neg c]; simp only [if_neg c]; exact ih _ h1 h2
    | run a =>
      simp only [wk] at h1 h2 ⊢
      split at h1
      · rename_i c; rw [if_pos c] at h2; simp only [if_pos c]
        cases e : wd o.f1 with
        | none => rw [e] at h2; simp at h2
        | some w => rw [e] at h1 h2; exact ih _ h1 h2
      · rename_i c; rw [if_neg c] at h2; simp only [if_neg c]
        split at h1
        · rename_i c; rw [if_pos c] at h2; simp only [if_pos c]; exact ih _ h1 h2
        · rename_i c; rw [if_neg c] at h2; simp only [if_neg c]
          split at h1
          · rename_i c; rw [if_pos c] at h2; simp only [if_pos c]; exact ih _ h1 h2
          · rename_i c; rw [if_neg c] at h2; simp only [if_neg c]
            split at h1
            · simp at h1
            · rename_i c; rw [if_neg c] at h2; simp only [if_neg c]
              split at h1
              · rename_i c; rw [if_pos c] at h2; simp only [if_pos c]; exact ih _ h1 h2
              · rename_i c; rw [if_neg c] at h2; simp at h2
/-- The label at which steps end, and more steps, behind them. -/
theorem wk_label (wd : Int → Option Int) (k f : Int) (m : List S40) : ∀ (l : List S40) (M : Md), (wk wd l M).told = false → (wk wd l M).wrong = false → (wk wd l M).lb ≠ -1 →
    ∃ a, wk wd (l ++ (⟨6, k, (wk wd l M).lb, f⟩ :: m)) M = wk wd m (.run a) := by
  intro l
  induction l with
  | nil =>
    intro M _ _ h3
    cases M with
    | run a => exact absurd rfl h3
    | seek lb a => exact ⟨a, by simp [wk]⟩
  | cons o l ih =>
    intro M h1 h2 h3
    rw [List.cons_append]
    cases M with
    | seek lb a =>
      simp only [wk] at h1 h2 h3 ⊢
      split at h1
      · rename_i c; rw [if_pos c] at h2 h3; simp only [if_pos c]; exact ih _ h1 h2 h3
      · rename_i c; rw [if_neg c] at h2 h3; simp only [if_neg c]; exact ih _ h1 h2 h3
    | run a =>
      simp only [wk] at h1 h2 h3 ⊢
      split at h1
      · rename_i c; rw [if_pos c] at h2 h3; simp only [if_pos c]
        cases e : wd o.f1 with
        | none => rw [e] at h2; simp at h2
        | some w => rw [e] at h1 h2 h3; exact ih _ h1 h2 h3
      · rename_i c; rw [if_neg c] at h2 h3; simp only [if_neg c]
        split at h1
        · rename_i c; rw [if_pos c] at h2 h3; simp only [if_pos c]; exact ih _ h1 h2 h3
        · rename_i c; rw [if_neg c] at h2 h3; simp only [if_neg c]
          split at h1
          · rename_i c; rw [if_pos c] at h2 h3; simp only [if_pos c]; exact ih _ h1 h2 h3
          · rename_i c; rw [if_neg c] at h2 h3; simp only [if_neg c]
            split at h1
            · simp at h1
            · rename_i c; rw [if_neg c] at h2 h3; simp only [if_neg c]
              split at h1
              · rename_i c; rw [if_pos c] at h2 h3; simp only [if_pos c]; exact ih _ h1 h2 h3
              · rename_i c; rw [if_neg c] at h2; simp at h2
end Go.Proofs.Ytoeklekjhaigoaa.WWalk
