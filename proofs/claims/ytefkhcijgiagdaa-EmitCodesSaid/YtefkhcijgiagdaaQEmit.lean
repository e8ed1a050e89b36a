/- What emit.Assemble answers, in plain words: a fold from the last step to the first one. -/
import Derived.KernelRfl
import Derived.Test.YtefkhcijgiagdaaE2x2
import Derived.Test.YtefkhcijgiagdaaQLe
import Derived.Test.YtefkhcijgiagdaaI1x0
import Derived.Test.YtefkhcijgiagdaaI1x5
import Derived.Test.YtefkhcijgiagdaaE1x0
import Derived.Test.YtefkhcijgiagdaaHAsm4
import Derived.Test.YtefkhcijgiagdaaHAsm2
import Derived.Test.YtefkhcijgiagdaaHAsm
import Derived.Test.YtefkhcijgiagdaaQIn
namespace Go.Proofs.Ytefkhcijgiagdaa.QEmit
open Go.RowKit Go.Proofs.YtefkhcijgiagdaaW.PrintWords Go.Proofs.YtefkhcijgiagdaaW.PrintLast Go.Proofs.YtefkhcijgiagdaaW.PrintMore Go.Proofs.Ytefkhcijgiagdaa.QLe Go.Proofs.Ytefkhcijgiagdaa.I1 Go.Proofs.Ytefkhcijgiagdaa.E1 Go.Proofs.Ytefkhcijgiagdaa.E2 Go.Proofs.Ytefkhcijgiagdaa.HAsm
set_option linter.unusedVariables false
set_option linter.unusedSimpArgs false
set_option maxRecDepth 100000
def init : WS := ⟨[], fun _ => none, 0, false⟩
def foldR (s : WS) : List S40 → WS
  | [] => s
  | o :: l => stepS (foldR s l) o
theorem foldR_append (s : WS) (l m : List S40) : foldR s (l ++ m) = foldR (foldR s m) l := by
  induction l with
  | nil => rfl
  | cons o l ih => exact congrArg (fun x => stepS x o) ih
theorem rd40_get (l : List S40) (i : Nat) (h : i < l.length) : rd_T40 l (i : Int) = l[i] := by
  unfold rd_T40; simp [List.getD, h]
theorem rd28_get (l : List S28) (i : Nat) (h : i < l.length) : rd_T28 l (i : Int) = l[i] := by
  unfold rd_T28; simp [List.getD, h]
theorem runS_fold (l : List S40) : ∀ j, j ≤ l.length → runS l j = foldR init (l.drop (l.length - j)) := by
  intro j
  induction j with
  | zero => intro _; rw [Nat.sub_zero, List.drop_length]; rfl
  | succ j ih =>
    intro hj
    have hlt : l.length - (j + 1) < l.length := by omega
    rw [List.drop_eq_getElem_cons hlt]
    show stepS (runS l j) _ = stepS _ _
    rw [ih (by omega), show l.length - 1 - j = l.length - (j + 1) by omega, rd40_get l _ hlt, show l.length - (j + 1) + 1 = l.length - j by omega]
def asmR (l : List S40) : List S28 × Int :=
  if (foldR init l).bad = true then ([], 1) else if 4096 < (foldR init l).xs.length then ([], 64) else ((foldR init l).xs.reverse, 0)
theorem asm_asmR (l : List S40) : asm l = asmR l := by
  unfold asm asmR
  rw [runS_fold l l.length (Nat.le_refl _), Nat.sub_self, List.drop_zero]
def OkOp (o : S40) : Prop := inI o.f2 = true ∧ inI o.f3 = true
theorem emit_f (l : List S40) (hl : l.length ≤ 100000) (hw : ∀ o ∈ l, OkOp o) : emit_Assemble.f l = some (asmR l) := by
  unfold emit_Assemble.f
  rw [if_pos ⟨hl, List.all_eq_true.2 (fun o ho => by rw [(hw o ho).1, (hw o ho).2]; rfl)⟩, asm_asmR]
theorem alive_ok : doorwardlaw21_alive.f = some true := by
  unfold doorwardlaw21_alive.f
  rw [emit_f _ (by simp) (by intro o ho; simp at ho; subst ho; exact ⟨by decide, by decide⟩)]
  have e : asmR [(⟨8, 7, 0, 0⟩ : S40)] = ([⟨6, 0, 0, 7⟩], 0) := rfl
  rw [e]; rfl
theorem like_loop (a : List S28) (hl : a.length < 1000000) : ∀ n i : Nat, i + n = a.length → ∀ k, n < k → doorwardref10_Like.l0 k a a (a.length : Int) i = some true := by
  intro n
  induction n with
  | zero =>
    intro i hi k hk
    obtain ⟨k, rfl⟩ : ∃ m, k = m + 1 := ⟨k - 1, by omega⟩
    simp only [doorwardref10_Like.l0]
    rw [if_neg (by omega)]
  | succ n ih =>
    intro i hi k hk
    obtain ⟨k, rfl⟩ : ∃ m, k = m + 1 := ⟨k - 1, by omega⟩
    simp only [doorwardref10_Like.l0]
    rw [if_pos (by omega), if_pos (by omega), if_pos (by omega), if_pos (by omega), w64 _ (by omega) (by omega)]
    simp only [beq_self_eq_true, Bool.not_true, Bool.or_self]
    rw [if_neg (by decide)]
    exact ih (i + 1) (by omega) k (by omega)
theorem like_self (a : List S28) (hl : a.length < 1000000) (k : Nat) (hk : a.length < k) : doorwardref10_Like.f k a a = some true := by
  unfold doorwardref10_Like.f
  rw [if_pos rfl]
  exact like_loop a hl a.length 0 (by omega) k hk
/-! ### what a step does -/
theorem step_bad (s : WS) (o : S40) (h : s.bad = true) : (stepS s o).bad = true := by
  unfold stepS
  repeat' split
  all_goals simp [WS.put, WS.go, h]
theorem fold_bad (s : WS) (l : List S40) (h : s.bad = true) : (foldR s l).bad = true := by
  induction l with
  | nil => exact h
  | cons o l ih => exact step_bad _ o ih
theorem fold_len (s : WS) (l : List S40) : (foldR s l).xs.length ≤ s.xs.length + 3 * l.length ∧ s.xs.length ≤ (foldR s l).xs.length := by
  induction l with
  | nil => exact ⟨Nat.le_refl _, Nat.le_refl _⟩
  | cons o l ih =>
    have h1 := (step_len (foldR s l) o).1
    have h2 : (foldR s l).xs.length ≤ (stepS (foldR s l) o).xs.length := by
      unfold stepS
      repeat' split
      all_goals simp [WS.put, WS.go]
    refine ⟨?_, ?_⟩
    · show (stepS (foldR s l) o).xs.length ≤ _
      rw [List.length_cons]; omega
    · show _ ≤ (stepS (foldR s l) o).xs.length
      omega
theorem bad_none (s : WS) (h : s.bad = false) (b : Bool) (h2 : (s.bad || !b) = false) : b = true := by rw [h] at h2; cases b <;> simp at h2 ⊢
end Go.Proofs.Ytefkhcijgiagdaa.QEmit
