/- MeanEvals: what any checked policy answers any call, and any record, is as the document says, or refused. -/
import Derived.Test.YtoeklekjhaigoaaZMeanEvals3
section
namespace Go.Proofs.Ytoeklekjhaigoaa.QHolds
open Go.Proofs.Ytoeklekjhaigoaa.Al Go.RowKit Go.Proofs.YtoeklekjhaigoaaW.PrintWords Go.Proofs.YtoeklekjhaigoaaW.PrintLast Go.Proofs.YtoeklekjhaigoaaW.PrintMore Go.Proofs.Ytoeklekjhaigoaa.M0 Go.Proofs.Ytoeklekjhaigoaa.M1 Go.Proofs.Ytoeklekjhaigoaa.M2 Go.Proofs.Ytoeklekjhaigoaa.HMany Go.Proofs.Ytoeklekjhaigoaa.HCount Go.Proofs.Ytoeklekjhaigoaa.HMean Go.Proofs.Ytoeklekjhaigoaa.HTest Go.Proofs.Ytoeklekjhaigoaa.QCond Go.Proofs.Ytoeklekjhaigoaa.QMean Go.Proofs.Ytoeklekjhaigoaa.QOne Go.Proofs.Ytoeklekjhaigoaa.K49
set_option linter.unusedVariables false
set_option linter.unusedSimpArgs false
theorem eta46 (c : S46) : (⟨c.f0, c.f1, c.f2, c.f3, c.f4, c.f5⟩ : S46) = c := by cases c; rfl
theorem many_f (c : S46) (L : Int) (h1 : 1 ≤ L) (h2 : L ≤ 1000) : doorwardref15_Many.f c.f0 c.f1 c.f2 c.f3 c.f4 c.f5 L = some ((min (nodes c) (L.toNat + 1) : Nat) : Int) := by
  unfold doorwardref15_Many.f
  rw [if_pos ⟨h1, h2⟩, eta46]
theorem right_f (c : S46) (k : Nat) (hk : 400 ≤ k) : doorwardref16_Right.f k c.f0 c.f1 c.f2 c.f3 c.f4 c.f5 = some (rightB c) := by
  unfold doorwardref16_Right.f
  rw [many_f c 100 (by omega) (by omega), Option.bind_some]
  unfold rightB
  by_cases h : nodes c ≤ 100
  · rw [if_pos (by simp only [Int.reduceToNat]; omega), fits_f 100 (by omega) c h k (by omega), Option.bind_some, decide_eq_true h, Bool.and_true]
  · rw [if_neg (by simp only [Int.reduceToNat]; omega), decide_eq_false h, Bool.and_false]
theorem typesRight_f (c : S46) : types_Right.f c.f0 c.f1 c.f2 c.f3 c.f4 c.f5 = some (rightB c) := by
  unfold types_Right.f types_count.f
  rw [Option.bind_some, eta46]
  show some (countR c).2 = _
  unfold countR
  cases rightB c <;> rfl
theorem meanHolds_f (c : S46) (x : S49) : mean_Holds.f c.f0 c.f1 c.f2 c.f3 c.f4 c.f5 x.f0 x.f1 x.f2 x.f3.f0 x.f3.f1 x.f3.f2 x.f3.f3 x.f3.f4 x.f3.f5 = some (holdsB x c) := by
  unfold mean_Holds.f
  rw [none_f0, Option.bind_some, typesRight_f, Option.bind_some]
  unfold holdsB
  cases noneB c with
  | true => rfl
  | false =>
    rw [if_neg (by decide), Bool.false_or]
    by_cases h : rightB c = true
    · have ⟨hf, hn⟩ := right_fits h
      rw [if_pos h, h, Bool.true_and]
      unfold mean_holds.f
      rw [eta46]
      show ((if (fitsB c && decide (nodes c ≤ 1000)) = true then some (semB x c) else none).bind _) = _
      rw [if_pos (show (fitsB c && decide (nodes c ≤ 1000)) = true by rw [hf, decide_eq_true (by omega)]; rfl)]
      rfl
    · rw [if_neg h]
      have h : rightB c = false := by simpa using h
      rw [h]; rfl
theorem count_all {α : Type} (p : α → Bool) (l : List α) : (((l.countP p : Nat) : Int) == (l.length : Int)) = l.all p := by
  rw [Bool.eq_iff_iff, beq_iff_eq, List.all_eq_true, ← List.countP_eq_length]
  omega
theorem count_none {α : Type} (p : α → Bool) (l : List α) : (((l.countP p : Nat) : Int) == 0) = !l.any p := by
  rw [Bool.eq_iff_iff, beq_iff_eq, Bool.not_eq_true', List.any_eq_false]
  have := List.countP_eq_zero (p := p) (l := l)
  constructor
  · intro h a ha
    simpa using this.1 (by omega) a ha
  · intro h
    have := this.2 (fun a ha => by simpa using h a ha)
    omega
theorem count_some {α : Type} (p : α → Bool) (l : List α) : decide (((l.countP p : Nat) : Int) > 0) = l.any p := by
  have h := count_none p l
  cases ha : l.any p with
  | true => rw [ha] at h; rw [decide_eq_true_eq]; have : ¬ ((l.countP p : Nat) : Int) = 0 := by simpa using h
            omega
  | false => rw [ha] at h; rw [decide_eq_false_iff_not]; have : ((l.countP p : Nat) : Int) = 0 := by simpa using h
             omega
def RefC (x : S49) (c : S46) : Prop := ∀ k, 2 * nodes c ≤ k → doorwardref18_holds.f k c.f0 c.f1 c.f2 c.f3 c.f4 c.f5 x.f0 x.f1 x.f2 x.f3.f0 x.f3.f1 x.f3.f2 x.f3.f3 x.f3.f4 x.f3.f5 = some (semB x c)
def endV (c : S46) (n : Int) : Bool := if c.f0 = 1 then n == (c.f1.length : Int) else if c.f0 = 3 then n == 0 else decide (n > 0)
theorem ref_loop (x : S49) (c : S46) (l : List S46) (hl : l.length ≤ 1000) (h : ∀ d ∈ l, RefC x d) : ∀ (n i : Nat), l.length - i ≤ n → i ≤ l.length → ∀ (k t : Nat), t ≤ i → 2 * nodesL (l.drop i) + 1 ≤ k → doorwardref18_holds.l0 k (t : Int) l (l.length : Int) (i : Int) c.f0 c.f1 c.f2 c.f3 c.f4 c.f5 x.f0 x.f1 x.f2 x.f3.f0 x.f3.f1 x.f3.f2 x.f3.f3 x.f3.f4 x.f3.f5 = some (endV c ((t + (l.drop i).countP (semB x) : Nat) : Int)) := by
  intro n
  induction n with
  | zero =>
    intro i h1 h2 k t ht hk
    obtain ⟨k, rfl⟩ : ∃ m, k = m + 1 := ⟨k - 1, by omega⟩
    simp only [doorwardref18_holds.l0]
    rw [if_neg (by omega), List.drop_eq_nil_of_le (by omega), List.countP_nil, Nat.add_zero]
    unfold endV
    split
    · rfl
    · split <;> rfl
  | succ n ih =>
    intro i h1 h2 k t ht hk
    obtain ⟨k, rfl⟩ : ∃ m, k = m + 1 := ⟨k - 1, by omega⟩
    by_cases hlt : i < l.length
    · simp only [doorwardref18_holds.l0]
      rw [if_pos (by omega), if_pos (by omega), if_pos (by omega), rd46 l i hlt, wr_succ i (by omega)]
      rw [List.drop_eq_getElem_cons hlt] at hk ⊢
      rw [nodesL] at hk
      have hp := nodes_pos l[i]
      have hf := h l[i] (List.getElem_mem hlt) k (by omega)
      have hw : wrap64 ((t : Int) + 1) = ((t + 1 : Nat) : Int) := wr_succ t (by omega)
      have ih1 := ih (i + 1) (by omega) (by omega) k (t + 1) (by omega) (by omega)
      have ih2 := ih (i + 1) (by omega) (by omega) k t (by omega) (by omega)
      rw [hf, Option.bind_some, List.countP_cons]
      cases semB x l[i] with
      | true => rw [if_pos rfl, hw, ih1, if_pos rfl]; congr 3; omega
      | false => rw [if_neg (by decide), ih2, if_neg (by decide)]; rfl
    · simp only [doorwardref18_holds.l0]
      rw [if_neg (by omega), List.drop_eq_nil_of_le (by omega), List.countP_nil, Nat.add_zero]
      unfold endV
      split
      · rfl
      · split <;> rfl
theorem ref_holds (x : S49) : ∀ (n : Nat), n ≤ 1000 → ∀ c : S46, nodes c ≤ n → fitsB c = true → RefC x c := by
  intro n
  induction n with
  | zero => intro _ c h; have := nodes_pos c; omega
  | succ n ih =>
    intro hn c h hf k hk
    have e1 := nodes_eq c
    have e2 := len_nodes c.f1
    have ⟨ho, hL⟩ := fits_one hf
    obtain ⟨k, rfl⟩ : ∃ m, k = m + 1 := ⟨k - 1, by omega⟩
    simp only [doorwardref18_holds.f]
    rw [sem_eq]
    by_cases h4 : c.f0 = 4
    · rw [if_pos h4, if_pos h4]
      have ⟨g0, g6, gs⟩ := one_test ho h4
      unfold doorwardref18_test.f
      rw [if_pos (show (decide (0 ≤ c.f2 ∧ c.f2 < 6) && signOk c.f4) = true by rw [gs, decide_eq_true ⟨g0, g6⟩]; rfl), eta46]
      rfl
    · rw [if_neg h4, if_neg h4]
      have hl0 := ref_loop x c c.f1 (by omega) (fun d hd => ih (by omega) d (by have := nodes_mem hd; omega) (fits_mem hL hd)) c.f1.length 0 (by omega) (by omega) k 0 (by omega) (by rw [List.drop_zero]; omega)
      rw [List.drop_zero, Nat.zero_add] at hl0
      refine Eq.trans hl0 ?_
      unfold endV
      rw [count_all, count_none, count_some, semA_all, semO_any]
theorem refHolds_f (c : S46) (x : S49) (k : Nat) (hk : 400 ≤ k) : doorwardref18_Holds.f k c.f0 c.f1 c.f2 c.f3 c.f4 c.f5 x.f0 x.f1 x.f2 x.f3.f0 x.f3.f1 x.f3.f2 x.f3.f3 x.f3.f4 x.f3.f5 = some (holdsB x c) := by
  unfold doorwardref18_Holds.f
  rw [None_f0, Option.bind_some, right_f c k hk, Option.bind_some]
  unfold holdsB
  cases noneB c with
  | true => rfl
  | false =>
    rw [if_neg (by decide), Bool.false_or]
    by_cases h : rightB c = true
    · have ⟨hf, hn⟩ := right_fits h
      rw [if_pos h, h, Bool.true_and, ref_holds x 100 (by omega) c hn hf k (by omega), Option.bind_some]
    · rw [if_neg h]
      have h : rightB c = false := by simpa using h
      rw [h]; rfl
def hitB (x : S49) (r : S58) : Bool := r.f0.contains x.f0 && holdsB x r.f1
def evalR (x : S49) (d : Int) : List S58 → Int
  | [] => d
  | r :: l => if hitB x r = true then r.f2 else evalR x d l
def evalB (x : S49) (arch d : Int) (l : List S58) : Int := if x.f1 = arch then evalR x d l else 2147483648
def fewR (r : S58) : Bool := decide (r.f0.length ≤ 60) && decide (nodes r.f1 ≤ 100)
def fewB (l : List S58) : Bool := decide (l.length ≤ 30) && l.all fewR
theorem rd58 (l : List S58) (i : Nat) (h : i < l.length) : rd_T58 l (i : Int) = l[i] := by
  unfold rd_T58; simp [List.getD, h]
theorem few_loop (l : List S58) (hl : l.length ≤ 30) : ∀ (n i : Nat), l.length - i ≤ n → i ≤ l.length → ∀ k, n < k → doorwardref18_Few.l0 k l (l.length : Int) (i : Int) = some ((l.drop i).all fewR) := by
  intro n
  induction n with
  | zero =>
    intro i h1 h2 k hk
    obtain ⟨k, rfl⟩ : ∃ m, k = m + 1 := ⟨k - 1, by omega⟩
    simp only [doorwardref18_Few.l0]
    rw [if_neg (by omega), List.drop_eq_nil_of_le (by omega)]; rfl
  | succ n ih =>
    intro i h1 h2 k hk
    obtain ⟨k, rfl⟩ : ∃ m, k = m + 1 := ⟨k - 1, by omega⟩
    by_cases hlt : i < l.length
    · have ih' := ih (i + 1) (by omega) (by omega) k (by omega)
      simp only [doorwardref18_Few.l0]
      rw [if_pos (by omega), if_pos (by omega), if_pos (by omega), rd58 l i hlt, wr_succ i (by omega), many_f _ 100 (by omega) (by omega), Option.bind_some, List.drop_eq_getElem_cons hlt, List.all_cons, ih']
      unfold fewR
      by_cases g : l[i].f0.length ≤ 60
      · rw [if_neg (by omega), decide_eq_true g, Bool.true_and]
        by_cases q : nodes l[i].f1 ≤ 100
        · rw [if_neg (by simp only [Int.reduceToNat]; omega), decide_eq_true q, Bool.true_and]
        · rw [if_pos (by simp only [Int.reduceToNat]; omega), decide_eq_false q, Bool.false_and]
      · rw [if_pos (by omega), decide_eq_false g]; rfl
    · simp only [doorwardref18_Few.l0]
      rw [if_neg (by omega), List.drop_eq_nil_of_le (by omega)]; rfl
theorem few_f (a d : Int) (l : List S58) (k : Nat) (hk : 31 < k) : doorwardref18_Few.f k a d l = some (fewB l) := by
  unfold doorwardref18_Few.f fewB
  by_cases h : l.length ≤ 30
  · rw [if_neg (by omega), decide_eq_true h, Bool.true_and]
    have := few_loop l h l.length 0 (by omega) (by omega) k (by omega)
    rw [List.drop_zero] at this
    exact this
  · rw [if_pos (by omega), decide_eq_false h]; rfl
theorem idx_loop32 (v : Int) (l : List Int) (hl : l.length ≤ 1000) : ∀ (n i : Nat), l.length - i ≤ n → i ≤ l.length → ∀ k, n < k → (slices_Index_uint32_uint32.l0 k l v (l.length : Int) (i : Int)).map (fun t => decide (t ≥ 0)) = some ((l.drop i).contains v) := by
  intro n
  induction n with
  | zero =>
    intro i h1 h2 k hk
    obtain ⟨k, rfl⟩ : ∃ m, k = m + 1 := ⟨k - 1, by omega⟩
    simp only [slices_Index_uint32_uint32.l0]
    rw [if_neg (by omega), List.drop_eq_nil_of_le (by omega)]; rfl
  | succ n ih =>
    intro i h1 h2 k hk
    obtain ⟨k, rfl⟩ : ∃ m, k = m + 1 := ⟨k - 1, by omega⟩
    by_cases hlt : i < l.length
    · have ih' := ih (i + 1) (by omega) (by omega) k (by omega)
      simp only [slices_Index_uint32_uint32.l0]
      rw [if_pos (by omega), if_pos (by omega), if_pos (by omega), wr_succ i (by omega), List.drop_eq_getElem_cons hlt, List.contains_cons]
      have e : rd l (i : Int) = l[i] := by unfold rd; simp [List.getD, hlt]
      rw [e]
      by_cases q : v = l[i]
      · rw [if_pos q, ← q]; simp
      · rw [if_neg q, ih']
        have : (v == l[i]) = false := by simpa using q
        rw [this, Bool.false_or]
    · simp only [slices_Index_uint32_uint32.l0]
      rw [if_neg (by omega), List.drop_eq_nil_of_le (by omega)]; rfl
theorem contains_f (v : Int) (l : List Int) (hl : l.length ≤ 1000) (k : Nat) (hk : l.length < k) : slices_Contains_uint32_uint32.f k l v = some (l.contains v) := by
  unfold slices_Contains_uint32_uint32.f slices_Index_uint32_uint32.f
  have h := idx_loop32 v l hl l.length 0 (by omega) (by omega) k hk
  have hb : ∀ o : Option Int, (o.bind fun t => some (decide (t ≥ 0))) = o.map fun t => decide (t ≥ 0) := by intro o; cases o <;> rfl
  rw [hb]
  exact h
theorem eval_loop (x : S49) (a d : Int) (R l : List S58) (hl : l.length ≤ 40) (hr : l.all fewR = true) : ∀ (n i : Nat), l.length - i ≤ n → i ≤ l.length → ∀ k, n + 100 ≤ k → mean_Eval.l0 k l (l.length : Int) (i : Int) a d R x.f0 x.f1 x.f2 x.f3.f0 x.f3.f1 x.f3.f2 x.f3.f3 x.f3.f4 x.f3.f5 = some (evalR x d (l.drop i)) := by
  intro n
  induction n with
  | zero =>
    intro i h1 h2 k hk
    obtain ⟨k, rfl⟩ : ∃ m, k = m + 1 := ⟨k - 1, by omega⟩
    simp only [mean_Eval.l0]
    rw [if_neg (by omega), List.drop_eq_nil_of_le (by omega)]; rfl
  | succ n ih =>
    intro i h1 h2 k hk
    obtain ⟨k, rfl⟩ : ∃ m, k = m + 1 := ⟨k - 1, by omega⟩
    by_cases hlt : i < l.length
    · have ih' := ih (i + 1) (by omega) (by omega) k (by omega)
      have hf := List.all_eq_true.1 hr l[i] (List.getElem_mem hlt)
      unfold fewR at hf
      rw [Bool.and_eq_true, decide_eq_true_eq, decide_eq_true_eq] at hf
      simp only [mean_Eval.l0]
      rw [if_pos (by omega), if_pos (by omega), if_pos (by omega), rd58 l i hlt, wr_succ i (by omega), contains_f _ _ (by omega) k (by omega), Option.bind_some, meanHolds_f, Option.bind_some, ih', List.drop_eq_getElem_cons hlt]
      rw [evalR]
      unfold hitB
      cases l[i].f0.contains x.f0 with
      | true =>
        rw [if_pos rfl, Bool.true_and]
        cases holdsB x l[i].f1 <;> rfl
      | false => rfl
    · simp only [mean_Eval.l0]
      rw [if_neg (by omega), List.drop_eq_nil_of_le (by omega)]; rfl
theorem eval_f (x : S49) (a d : Int) (l : List S58) (hl : l.length ≤ 40) (hr : l.all fewR = true) (k : Nat) (hk : 200 ≤ k) : mean_Eval.f k a d l x.f0 x.f1 x.f2 x.f3.f0 x.f3.f1 x.f3.f2 x.f3.f3 x.f3.f4 x.f3.f5 = some (evalB x a d l) := by
  unfold mean_Eval.f evalB
  split
  · have := eval_loop x a d l l hl hr l.length 0 (by omega) (by omega) k (by omega)
    rw [List.drop_zero] at this
    exact this
  · rfl
theorem ref_inner (x : S49) (a d : Int) (R l : List S58) (i : Nat) (r : S58) (hr : fewR r = true) : ∀ (n j : Nat), r.f0.length - j ≤ n → j ≤ r.f0.length → ∀ k, n + 400 ≤ k → ∀ nx : Option Int,
    (∀ k', k - n - 1 ≤ k' → doorwardref18_Eval.l0 k' l (l.length : Int) (wrap64 ((i : Int) + 1)) a d R x.f0 x.f1 x.f2 x.f3.f0 x.f3.f1 x.f3.f2 x.f3.f3 x.f3.f4 x.f3.f5 = nx) →
    doorwardref18_Eval.l1 k l (l.length : Int) (i : Int) r.f0 (r.f0.length : Int) (j : Int) a d R x.f0 x.f1 x.f2 x.f3.f0 x.f3.f1 x.f3.f2 x.f3.f3 x.f3.f4 x.f3.f5 r.f0 r.f1.f0 r.f1.f1 r.f1.f2 r.f1.f3 r.f1.f4 r.f1.f5 r.f2 = if ((r.f0.drop j).contains x.f0 && holdsB x r.f1) = true then some r.f2 else nx := by
  unfold fewR at hr
  rw [Bool.and_eq_true, decide_eq_true_eq, decide_eq_true_eq] at hr
  intro n
  induction n with
  | zero =>
    intro j h1 h2 k hk nx hnx
    obtain ⟨k, rfl⟩ : ∃ m, k = m + 1 := ⟨k - 1, by omega⟩
    simp only [doorwardref18_Eval.l1]
    rw [if_neg (by omega), List.drop_eq_nil_of_le (by omega), hnx k (by omega)]; rfl
  | succ n ih =>
    intro j h1 h2 k hk nx hnx
    obtain ⟨k, rfl⟩ : ∃ m, k = m + 1 := ⟨k - 1, by omega⟩
    by_cases hlt : j < r.f0.length
    · have ih' := ih (j + 1) (by omega) (by omega) k (by omega) nx (fun k' hk' => hnx k' (by omega))
      simp only [doorwardref18_Eval.l1]
      rw [if_pos (by omega), if_pos (by omega), if_pos (by omega), wr_succ j (by omega), refHolds_f _ x k (by omega), Option.bind_some, ih', List.drop_eq_getElem_cons hlt, List.contains_cons]
      have e : rd r.f0 (j : Int) = r.f0[j] := by unfold rd; simp [List.getD, hlt]
      rw [e]
      by_cases q : r.f0[j] = x.f0
      · rw [if_pos q, q]
        have : (x.f0 == x.f0) = true := by simp
        rw [this, Bool.true_or, Bool.true_and]
        cases holdsB x r.f1 with
        | true => rfl
        | false => simp
      · rw [if_neg q]
        have : (x.f0 == r.f0[j]) = false := by simpa using fun g => q g.symm
        rw [this, Bool.false_or]
    · simp only [doorwardref18_Eval.l1]
      rw [if_neg (by omega), List.drop_eq_nil_of_le (by omega), hnx k (by omega)]; rfl
theorem ref_outer (x : S49) (a d : Int) (R l : List S58) (hl : l.length ≤ 40) (hr : l.all fewR = true) : ∀ (n i : Nat), l.length - i ≤ n → i ≤ l.length → ∀ k, 63 * n + 500 ≤ k → doorwardref18_Eval.l0 k l (l.length : Int) (i : Int) a d R x.f0 x.f1 x.f2 x.f3.f0 x.f3.f1 x.f3.f2 x.f3.f3 x.f3.f4 x.f3.f5 = some (evalR x d (l.drop i)) := by
  intro n
  induction n with
  | zero =>
    intro i h1 h2 k hk
    obtain ⟨k, rfl⟩ : ∃ m, k = m + 1 := ⟨k - 1, by omega⟩
    simp only [doorwardref18_Eval.l0]
    rw [if_neg (by omega), List.drop_eq_nil_of_le (by omega)]; rfl
  | succ n ih =>
    intro i h1 h2 k hk
    obtain ⟨k, rfl⟩ : ∃ m, k = m + 1 := ⟨k - 1, by omega⟩
    by_cases hlt : i < l.length
    · have hf := List.all_eq_true.1 hr l[i] (List.getElem_mem hlt)
      have hf2 := hf
      unfold fewR at hf2
      rw [Bool.and_eq_true, decide_eq_true_eq, decide_eq_true_eq] at hf2
      have hin := ref_inner x a d R l i l[i] hf l[i].f0.length 0 (by omega) (by omega) k (by omega) (some (evalR x d (l.drop (i + 1)))) (fun k' hk' => by
        rw [wr_succ i (by omega)]
        exact ih (i + 1) (by omega) (by omega) k' (by omega))
      rw [List.drop_zero] at hin
      simp only [doorwardref18_Eval.l0]
      rw [if_pos (by omega), if_pos (by omega), if_pos (by omega), rd58 l i hlt]
      refine Eq.trans hin ?_
      rw [List.drop_eq_getElem_cons hlt, evalR]
      unfold hitB
      cases (l[i].f0.contains x.f0 && holdsB x l[i].f1) <;> rfl
    · simp only [doorwardref18_Eval.l0]
      rw [if_neg (by omega), List.drop_eq_nil_of_le (by omega)]; rfl
theorem refEval_f (x : S49) (a d : Int) (l : List S58) (hl : l.length ≤ 40) (hr : l.all fewR = true) (k : Nat) (hk : 4000 ≤ k) : doorwardref18_Eval.f k a d l x.f0 x.f1 x.f2 x.f3.f0 x.f3.f1 x.f3.f2 x.f3.f3 x.f3.f4 x.f3.f5 = some (evalB x a d l) := by
  unfold doorwardref18_Eval.f evalB
  split
  · have := ref_outer x a d l l hl hr l.length 0 (by omega) (by omega) k (by omega)
    rw [List.drop_zero] at this
    exact this
  · rfl
theorem alive_f (k : Nat) (hk : 200 ≤ k) : doorwardlaw18_alive.f k = some true := by
  unfold doorwardlaw18_alive.f
  have h1 := eval_f ⟨0, 5, 0, ⟨0, 0, 0, 0, 0, 0⟩⟩ 5 7 [] (by simp) rfl k hk
  have h2 := meanHolds_f ⟨0, [], 0, 0, ⟨#[]⟩, 0⟩ ⟨0, 0, 0, ⟨0, 0, 0, 0, 0, 0⟩⟩
  have e1 : evalB ⟨0, 5, 0, ⟨0, 0, 0, 0, 0, 0⟩⟩ 5 7 [] = 7 := rfl
  have e2 : holdsB ⟨0, 0, 0, ⟨0, 0, 0, 0, 0, 0⟩⟩ ⟨0, [], 0, 0, ⟨#[]⟩, 0⟩ = true := by
    unfold holdsB noneB bareB
    simp [ByteArray.toList_empty]
  rw [e1] at h1
  rw [e2] at h2
  refine (congrArg (fun o : Option Int => o.bind _) h1).trans ?_
  rw [Option.bind_some, if_pos rfl]
  refine (congrArg (fun o : Option Bool => o.bind _) h2).trans ?_
  rfl
end Go.Proofs.Ytoeklekjhaigoaa.QHolds
end
section
namespace Go.Proofs.Ytoeklekjhaigoaa.Pure
open Go.Proofs.Ytoeklekjhaigoaa.Al Go.RowKit Go.Proofs.Ytoeklekjhaigoaa.StatMeanEvals Go.Proofs.YtoeklekjhaigoaaW.PrintWords Go.Proofs.YtoeklekjhaigoaaW.PrintLast Go.Proofs.YtoeklekjhaigoaaW.PrintMore Go.Proofs.Ytoeklekjhaigoaa.PMeanEvals Go.Proofs.Ytoeklekjhaigoaa.Le Go.Proofs.Ytoeklekjhaigoaa.C1 Go.Proofs.Ytoeklekjhaigoaa.C2 Go.Proofs.Ytoeklekjhaigoaa.HAct Go.Proofs.Ytoeklekjhaigoaa.W0 Go.Proofs.Ytoeklekjhaigoaa.HFrom Go.Proofs.Ytoeklekjhaigoaa.W1 Go.Proofs.Ytoeklekjhaigoaa.R01 Go.Proofs.Ytoeklekjhaigoaa.HPack Go.Proofs.Ytoeklekjhaigoaa.HUnpack Go.Proofs.Ytoeklekjhaigoaa.HRefPack Go.Proofs.Ytoeklekjhaigoaa.M0 Go.Proofs.Ytoeklekjhaigoaa.HMany Go.Proofs.Ytoeklekjhaigoaa.HCount Go.Proofs.Ytoeklekjhaigoaa.M1 Go.Proofs.Ytoeklekjhaigoaa.HMean Go.Proofs.Ytoeklekjhaigoaa.HTest Go.Proofs.Ytoeklekjhaigoaa.M2 Go.Proofs.Ytoeklekjhaigoaa.K49 Go.Proofs.Ytoeklekjhaigoaa.WCond Go.Proofs.Ytoeklekjhaigoaa.QCond Go.Proofs.Ytoeklekjhaigoaa.QMean Go.Proofs.Ytoeklekjhaigoaa.QOne Go.Proofs.Ytoeklekjhaigoaa.QHolds
set_option linter.unusedVariables false
theorem mn_range (n : Nat) : 0 ≤ mn (n : Int) 80 ∧ mn (n : Int) 80 ≤ (n : Int) ∧ mn (n : Int) 80 ≤ 80 := by
  unfold mn
  split <;> omega
theorem MeanEvals : StatMeanEvals.Stat := by
  intro t x s ht hx hs
  refine ⟨4000, ?_⟩
  unfold doorwardlaw18_MeanEvals.f
  have hm := mn_range s.size
  rw [if_pos hm.1, if_pos hm.2.1, few_f _ _ _ 4000 (by omega), Option.bind_some, alive_f 4000 (by omega)]
  by_cases h : fewB t.f2 = true
  · rw [if_pos h]
    unfold fewB at h
    rw [Bool.and_eq_true, decide_eq_true_eq] at h
    have hE := fun y : S49 => eval_f y t.f0 t.f1 t.f2 (by omega) h.2 4000 (by omega)
    have hR := fun y : S49 => refEval_f y t.f0 t.f1 t.f2 (by omega) h.2 4000 (by omega)
    have hsz : (s.extract 0 (mn (s.size : Int) 80).toNat).size ≤ 140737488355328 := by
      rw [ByteArray.size_extract]; omega
    rw [hE x, hR x]
    generalize s.extract 0 (mn (s.size : Int) 80).toNat = u at *
    obtain ⟨p, h1, h2⟩ : ∃ p : Int × Int, mean_Of.f 4000 t.f0 t.f1 t.f2 u = some p ∧ doorwardref18_Of.f 4000 t.f0 t.f1 t.f2 u = some p := by
      have hu : doorwardref13_Unpack.f u = call_Unpack.f u := rfl
      unfold mean_Of.f doorwardref18_Of.f
      rw [hu]
      obtain ⟨r, hr⟩ : ∃ r, call_Unpack.f u = some r := by
        unfold call_Unpack.f
        rw [if_pos hsz]
        cases HUnpack.unp u with
        | none => exact ⟨_, rfl⟩
        | some q => exact ⟨_, rfl⟩
      rw [hr, Option.bind_some, Option.bind_some]
      have e1 := hE ⟨r.1, r.2.1, r.2.2.1, ⟨r.2.2.2.1, r.2.2.2.2.1, r.2.2.2.2.2.1, r.2.2.2.2.2.2.1, r.2.2.2.2.2.2.2.1, r.2.2.2.2.2.2.2.2.1⟩⟩
      have e2 := hR ⟨r.1, r.2.1, r.2.2.1, ⟨r.2.2.2.1, r.2.2.2.2.1, r.2.2.2.2.2.1, r.2.2.2.2.2.2.1, r.2.2.2.2.2.2.2.1, r.2.2.2.2.2.2.2.2.1⟩⟩
      simp only at e1 e2
      rw [e1, e2]
      by_cases h0 : r.2.2.2.2.2.2.2.2.2 = 0
      · rw [if_pos h0]; exact ⟨_, rfl, rfl⟩
      · rw [if_neg h0]; exact ⟨_, rfl, rfl⟩
    rw [h1, h2]
    simp
  · rw [if_neg h]; rfl
end Go.Proofs.Ytoeklekjhaigoaa.Pure
end
section
namespace Go.Proofs.Ytoeklekjhaigoaa.meanEvals
open Go.ChangeShapes Go.WideShapes Go.ChangeAt Go.RowKit Go.Proofs.Ytoeklekjhaigoaa.Open Go.Proofs.Ytoeklekjhaigoaa.StatMeanEvals Go.Proofs.YtoeklekjhaigoaaW.PrintWords Go.Proofs.Ytoeklekjhaigoaa.PMeanEvals Go.Proofs.Ytoeklekjhaigoaa.Le Go.Proofs.Ytoeklekjhaigoaa.C1 Go.Proofs.Ytoeklekjhaigoaa.C2 Go.Proofs.Ytoeklekjhaigoaa.HAct Go.Proofs.Ytoeklekjhaigoaa.W0 Go.Proofs.Ytoeklekjhaigoaa.HFrom Go.Proofs.Ytoeklekjhaigoaa.W1 Go.Proofs.Ytoeklekjhaigoaa.R01 Go.Proofs.Ytoeklekjhaigoaa.HPack Go.Proofs.Ytoeklekjhaigoaa.HUnpack Go.Proofs.Ytoeklekjhaigoaa.HRefPack Go.Proofs.Ytoeklekjhaigoaa.M0 Go.Proofs.Ytoeklekjhaigoaa.HMany Go.Proofs.Ytoeklekjhaigoaa.HCount Go.Proofs.Ytoeklekjhaigoaa.M1 Go.Proofs.Ytoeklekjhaigoaa.HMean Go.Proofs.Ytoeklekjhaigoaa.HTest Go.Proofs.Ytoeklekjhaigoaa.M2 Go.Proofs.Ytoeklekjhaigoaa.K49 Go.Proofs.Ytoeklekjhaigoaa.WCond Go.Proofs.Ytoeklekjhaigoaa.K56
open Go.ChangeMaps (open_string shut_string)
set_option linter.unusedVariables false
open Go.Proofs.Ytoeklekjhaigoaa.Order (own laidOut)
open Go.Proofs.Ytoeklekjhaigoaa
set_option maxRecDepth 100000 in
set_option maxHeartbeats 1000000 in
theorem lifted (os : Os) (started : os.Started) (H : Type) (enc : TypeId × Value → H) :
    ReturnsInHanded {} Try.checked os 16 .any (Rows.meanEvalsSpec.pre6 enc Try.prog Try.f16 Rows.meanEvalsRow.domain false) (Rows.meanEvalsSpec.post enc Try.prog Try.f16 false true false false) := by
  refine returnsInHanded_of_change_sized (C := Try.checked) own started (by kernel_rfl) Try.func16
    (ChangeSpec.witness6 (enc := enc) (C := Try.checked) false ⟨#[], #[.agg #[(.int .u32 0), (.int .u32 0), (.slice none 0 0)], .agg #[(.int .u32 0), (.int .u32 0), (.int .u64 0), (.int .u64 0), (.int .u64 0), (.int .u64 0), (.int .u64 0), (.int .u64 0), (.int .u64 0)], .string ByteArray.empty], []⟩ 20 (by kernel_rfl) (by kernel_rfl) (by kernel_rfl) (by kernel_rfl)) ?_
  intro W base args ds gs before hval0 hW hcnd hsz0 _
  have hsz : (DataW.weightsEach Try.prog (Try.f16.params.toList ++ Rows.meanEvalsSpec.plain.varTypes Try.prog) (ds ++ gs)).all (· ≤ reachBytes) = true := hsz0
  have hval : ∀ (j : Nat) t v, Try.f16.params[j]? = some t → args[j]? = some v → Value.okWide Try.prog W .any base t v := hval0
  have hW' := hW
  obtain ⟨p, q, hA0, hV, rfl, hfz, hnd⟩ := hW
  have hA : DataW.TrodAll enc Try.prog W 0 (fun _ => true) true Try.f16.params.toList args.toList ds p := hA0
  rw [Try.params16] at hA hval hsz
  obtain ⟨v0, vs0, d0, ds0, p0, q0, hargs, rfl, rfl, h0, r0⟩ := trodAll_cons hA
  obtain ⟨v1, vs1, d1, ds1, p1, q1, rfl, rfl, rfl, h1, r1⟩ := trodAll_cons r0
  obtain ⟨v2, vs2, d2, ds2, p2, q2, rfl, rfl, rfl, h2, r2⟩ := trodAll_cons r1
  obtain ⟨rfl, rfl, rfl⟩ := trodAll_nil r2
  obtain rfl : args = #[v0, v1, v2] := by cases args; simp_all
  obtain ⟨rfl, rfl⟩ := trodVars_none hV
  have k0_ := h0
  have lt0 : ∀ x ∈ p0, x.block < W.heap.size := by obtain ⟨m, hm⟩ := k0_; exact DataW.trod_lt m _ _ _ hm
  obtain ⟨cs0, x0, rfl, hx0, hq0⟩ := agg_of Try.underlying56 (hval 0 56 v0 rfl rfl) opens56 h0
  obtain ⟨A0_2, c0_2, ho0, hl0_2, hg0_2⟩ := k56_open hx0
  obtain rfl : cs0 = #[.int .u32 x0.f0, .int .u32 x0.f1, .slice A0_2 x0.f2.length c0_2] := Array.ext' ho0
  have k1_ := h1
  have lt1 : ∀ x ∈ p1, x.block < W.heap.size := by obtain ⟨m, hm⟩ := k1_; exact DataW.trod_lt m _ _ _ hm
  obtain ⟨cs1, x1, rfl, hx1, hq1⟩ := agg_of Try.underlying49 (hval 1 49 v1 rfl rfl) opens49 h1
  obtain ho1 := k49_open hx1
  obtain rfl : cs1 = #[.int .u32 x1.f0, .int .u32 x1.f1, .int .u64 x1.f2, .int .u64 x1.f3.f0, .int .u64 x1.f3.f1, .int .u64 x1.f3.f2, .int .u64 x1.f3.f3, .int .u64 x1.f3.f4, .int .u64 x1.f3.f5] := Array.ext' ho1
  obtain ⟨x2, rfl, rfl, rfl, y2⟩ := open_string Try.underlying9 (hval 2 9 v2 rfl rfl) h2
  have w2 : x2.size ≤ 140737488351232 := by
    have z := sized_string hsz (j := 2) (t := 9) rfl rfl
    rw [Array.length_toList] at z
    exact z
  clear hA0 hval0 hsz0 hsz
  obtain ⟨k, hk⟩ := Pure.MeanEvals x0 x1 x2 hq0 hq1 w2
  refine (doorwardlaw18_MeanEvals.calls (k := k) (hr0_2 := hg0_2) (hc0_2 := hl0_2) (r := true) (w := W) (h := hk)).mono ?_
  rintro e W' ⟨rfl, bel0⟩
  have bel := bel0
  exact ⟨_, rfl, _, _, _, [], _, [], hW', trodAll_mk1 (shut_bool Try.underlying4 _), (trodAll_cons_mk (Below.trod laidOut (by kernel_rfl) (of_decide_eq_true (by kernel_rfl)) k0_ bel lt0) (trodAll_cons_mk (Below.trod laidOut (by kernel_rfl) (of_decide_eq_true (by kernel_rfl)) k1_ bel lt1) (trodAll_cons_mk (shut_string Try.underlying9 y2) trodAll_mk0))), rfl, bel.frame _, fun h => by cases h⟩
set_option maxHeartbeats 4000000 in
theorem facts : joinedFacts Try.prog 16 Try.f16 Rows.meanEvalsSpec Rows.meanEvalsRow = true := by
  unfold joinedFacts
  repeat' (with_reducible refine (Bool.and_eq_true_iff).mpr ⟨?_, ?_⟩)
  all_goals first | (with_reducible exact Order.laidOut) | (with_reducible exact Order.mapsRowed) | (with_reducible exact Order.noStops) | (with_reducible exact Order.noKnobs) | (with_reducible exact Order.enter) | (with_reducible exact Order.heard) | (rw [Order.makes]; rfl) | (rw [Order.lifts]; rfl) | (as_aux_lemma => kernel_rfl)
theorem named : Try.prog.funcNamed "doorward/doorwardlaw18.MeanEvals" = some 16 := by kernel_rfl
theorem inst : Try.f16.isInstance Try.prog Rows.meanEvalsRow.origin Rows.meanEvalsRow.targs := of_decide_eq_true (by kernel_rfl)
theorem wrap : Try.f16.isWrapper Try.prog Rows.meanEvalsRow.wrapper Rows.meanEvalsRow.mainSum := by unfold Func.isWrapper; first | (rw [if_pos (by decide +kernel)]; kernel_rfl) | (rw [if_neg (by decide +kernel)]; exact ⟨rfl, rfl⟩)
theorem over : Rows.meanEvalsRow.holds Try.pinned (OpenSpec.ofChange Rows.meanEvalsSpec) :=
  OpenClaim.holds_of_wide 16 Try.f16 rfl rfl rfl rfl rfl rfl rfl ⟨rfl, rfl, rfl, rfl, rfl⟩ rfl rfl rfl rfl rfl named Try.func16 facts inst wrap
    (fun os started H enc _ => lifted os started H enc)
theorem proved : Rows.MeanEvalsSaid := over
#print axioms proved
end Go.Proofs.Ytoeklekjhaigoaa.meanEvals
namespace Go.Proofs.Ytoeklekjhaigoaa
/-- The row, under a short name, for the claim. -/
theorem meanEvals_holds : Rows.MeanEvalsSaid := meanEvals.proved
end Go.Proofs.Ytoeklekjhaigoaa
end
