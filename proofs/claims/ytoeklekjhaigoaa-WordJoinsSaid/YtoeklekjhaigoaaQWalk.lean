/- What vm.Word and word.Walk answer, in plain words. -/
import Derived.Test.YtoeklekjhaigoaaWWalk
import Derived.Test.YtoeklekjhaigoaaHFrom
import Derived.Test.YtoeklekjhaigoaaQNum
import Derived.Test.YtoeklekjhaigoaaW1x2
import Derived.Test.YtoeklekjhaigoaaW0x3
namespace Go.Proofs.Ytoeklekjhaigoaa.QWalk
open Go.RowKit Go.Proofs.YtoeklekjhaigoaaW.PrintWords Go.Proofs.YtoeklekjhaigoaaW.PrintLast Go.Proofs.YtoeklekjhaigoaaW.PrintMore Go.Proofs.Ytoeklekjhaigoaa.Le Go.Proofs.Ytoeklekjhaigoaa.QLe Go.Proofs.Ytoeklekjhaigoaa.QNum Go.Proofs.Ytoeklekjhaigoaa.WWalk Go.Proofs.Ytoeklekjhaigoaa.HFrom Go.Proofs.Ytoeklekjhaigoaa.W0 Go.Proofs.Ytoeklekjhaigoaa.W1 Go.Proofs.Ytoeklekjhaigoaa.W0
set_option linter.unusedVariables false
set_option linter.unusedSimpArgs false
/-- A word of a record, where there is one. -/
def wdS (s : ByteArray) (k : Int) : Option Int := if 0 ≤ k ∧ k ≤ 60 ∧ k % 4 = 0 then some (num ((s.data.toList.drop k.toNat).take 4)) else none
theorem wdS_range (s : ByteArray) (k w : Int) (h : wdS s k = some w) (hs : s.size = 64) : 0 ≤ w ∧ w < 4294967296 := by
  unfold wdS at h
  split at h
  · rename_i c
    injection h with h
    have h1 := num_nonneg ((s.data.toList.drop k.toNat).take 4)
    have h2 := num_lt ((s.data.toList.drop k.toNat).take 4)
    have h3 : ((s.data.toList.drop k.toNat).take 4).length ≤ 4 := List.length_take_le ..
    have p4 : (256 : Int) ^ 4 = 4294967296 := by decide
    have h5 : (256 : Int) ^ ((s.data.toList.drop k.toNat).take 4).length ≤ 256 ^ 4 := by
      have : ∀ n : Nat, n ≤ 4 → (256 : Int) ^ n ≤ 256 ^ 4 := by decide
      exact this _ h3
    omega
  · cases h
theorem word_f (s : ByteArray) (hs : s.size = 64) (a : Int) : ∀ k, 20 ≤ k → vm_Word.f k s a = some (match wdS s a with | some w => (w, 0) | none => (0, 51)) := by
  intro k hk
  unfold vm_Word.f wdS
  rw [if_pos (by omega)]
  by_cases h0 : a < 0
  · rw [if_pos h0, if_neg (by omega)]
  · rw [if_neg h0]
    by_cases h1 : a > 60
    · rw [if_pos h1, if_neg (by omega)]
    · rw [if_neg h1, Int.tmod_eq_emod_of_nonneg (by omega)]
      by_cases h2 : a % 4 = 0
      · rw [if_pos h2, if_pos ⟨by omega, by omega, h2⟩]
        obtain ⟨n, rfl⟩ : ∃ n : Nat, a = n := ⟨a.toNat, by omega⟩
        have g := get_ok s (n : Int) 4 (by omega) (by omega) (by omega) (by omega) (by omega) k (by omega)
        have g' : le_Get.f k s (n : Int) 4 = some (leval s n 4, (n : Int) + 4, 0) := g
        rw [g']
        simp only [Option.bind_some, Int.toNat_natCast]
        have hl := leval_num s n 4 (by omega)
        have hr := leval_range s (n : Int) 4
        have p4 : (256 : Int) ^ 4 = 4294967296 := by decide
        rw [Int.emod_eq_of_lt hr.1 (by omega), hl]
      · rw [if_neg h2, if_neg (fun g => h2 g.2.2)]
theorem word_bad (s : ByteArray) (hs : s.size ≠ 64) (a : Int) (k : Nat) : vm_Word.f k s a = some (0, 52) := by
  unfold vm_Word.f
  rw [if_neg (by omega)]
theorem seek_some (wd : Int → Option Int) (lb a : Int) : ∀ (m : List S40) (j : Nat), idxN (isLab lb) m = some j → wk wd m (.seek lb a) = wk wd (m.drop j) (.run a) ∧ wk wd m (.seek lb a) = wk wd (m.drop (j + 1)) (.run a) := by
  intro m
  induction m with
  | nil => intro j h; cases h
  | cons o m ih =>
    intro j h
    unfold idxN at h
    unfold isLab at h
    by_cases h6 : o.f0 = 6 ∧ o.f2 = lb
    · rw [if_pos (by rw [decide_eq_true h6.1, beq_iff_eq.2 h6.2]; rfl)] at h
      cases h
      have e1 : wk wd (o :: m) (.run a) = wk wd m (.run a) := by
        conv => lhs; unfold wk
        rw [if_neg (by omega), if_neg (by omega), if_pos h6.1]
      have e2 : wk wd (o :: m) (.seek lb a) = wk wd m (.run a) := by
        conv => lhs; unfold wk
        rw [if_pos h6]
      exact ⟨e2.trans e1.symm, e2⟩
    · rw [if_neg (fun g => h6 (by
        rw [Bool.and_eq_true, decide_eq_true_eq, beq_iff_eq] at g
        exact g))] at h
      obtain ⟨i, hi, rfl⟩ := Option.map_eq_some_iff.1 h
      have e2 : wk wd (o :: m) (.seek lb a) = wk wd m (.seek lb a) := by
        conv => lhs; unfold wk
        rw [if_neg h6]
      rw [e2]
      exact ih i hi
theorem seek_none (wd : Int → Option Int) (lb a : Int) : ∀ (m : List S40), idxN (isLab lb) m = none → wk wd m (.seek lb a) = ⟨lb, 0, false, false⟩ := by
  intro m
  induction m with
  | nil => intro _; rfl
  | cons o m ih =>
    intro h
    unfold idxN at h
    unfold isLab at h
    by_cases h6 : o.f0 = 6 ∧ o.f2 = lb
    · rw [if_pos (by rw [decide_eq_true h6.1, beq_iff_eq.2 h6.2]; rfl)] at h
      cases h
    · rw [if_neg (fun g => h6 (by
        rw [Bool.and_eq_true, decide_eq_true_eq, beq_iff_eq] at g
        exact g))] at h
      have h' : idxN (isLab lb) m = none := by
        cases e : idxN (isLab lb) m with
        | none => rfl
        | some x => rw [show (fun o : S40 => decide (o.f0 = 6) && o.f2 == lb) = isLab lb from rfl, e] at h; cases h
      conv => lhs; unfold wk
      rw [if_neg h6]
      exact ih h'
theorem from_f (l : List S40) (hl : l.length ≤ 100000) (i : Nat) (hi : i ≤ l.length) (lb : Int) : word_from.f l (i : Int) lb = some (match idxN (isLab lb) (l.drop i) with | some j => (((i + j : Nat) : Int), true) | none => ((i : Int) - 1, false)) := by
  unfold word_from.f
  rw [if_pos ⟨by omega, by omega, by omega⟩, Int.toNat_natCast]
  unfold idxI
  cases idxN (isLab lb) (l.drop i) with
  | none => rfl
  | some j => simp
abbrev tup (e : EndR) : Int × Int × Bool × Bool := (e.lb, e.ans, e.told, e.wrong)
theorem rd40 (l : List S40) (i : Nat) (h : i < l.length) : rd_T40 l (i : Int) = l[i] := by
  unfold rd_T40; simp [List.getD, h]
theorem walk_loop (s : ByteArray) (hs : s.size = 64) (l : List S40) (hl : l.length ≤ 100000) (hk : ∀ o ∈ l, 0 ≤ o.f1 ∧ o.f1 < 4294967296) : ∀ n i : Nat, l.length - i ≤ n → i ≤ l.length → ∀ (a : Int) (k : Nat), 2 * n + 30 ≤ k → word_Walk.l0 k l s a i = some (tup (wk (wdS s) (l.drop i) (.run a))) := by
  intro n
  induction n with
  | zero =>
    intro i hi hle a k hkk
    obtain ⟨k, rfl⟩ : ∃ m, k = m + 1 := ⟨k - 1, by omega⟩
    simp only [word_Walk.l0]
    rw [if_neg (by omega), List.drop_eq_nil_of_le (by omega)]; rfl
  | succ n ih =>
    intro i hi hle a k hkk
    obtain ⟨k, rfl⟩ : ∃ m, k = m + 1 + 1 := ⟨k - 2, by omega⟩
    by_cases hlt : i < l.length
    · have next := fun b => ih (i + 1) (by omega) (by omega) b (k + 1) (by omega)
      have hw : wrap64 ((i : Int) + 1) = ((i + 1 : Nat) : Int) := by rw [w64 _ (by omega) (by omega)]; rfl
      have hok := hk l[i] (List.getElem_mem hlt)
      -- on the way to a label
      have jump : ∀ (b : Int) (t x0 x1 x2 x3 : Int) (c : Bool), t = (if c = true then x2 else x3) → word_Walk.j1 (k + 1) l s b ((i + 1 : Nat) : Int) c x0 x1 x2 x3 = some (tup (wk (wdS s) (l.drop (i + 1)) (.seek t b))) := by
        intro b t x0 x1 x2 x3 c ht
        have key : ∀ lb : Int, ((word_from.f l ((i + 1 : Nat) : Int) lb).bind fun bt => (if bt.2 = true then (word_Walk.l0 k l s b bt.1) else (some (lb, 0, false, false)))) = some (tup (wk (wdS s) (l.drop (i + 1)) (.seek lb b))) := by
          intro lb
          rw [from_f l hl (i + 1) (by omega) lb]
          cases e : idxN (isLab lb) (l.drop (i + 1)) with
          | none =>
            rw [seek_none _ _ _ _ e]; rfl
          | some j =>
            simp only [Option.bind_some, if_true]
            have hj := idxN_lt _ _ _ e
            rw [List.length_drop] at hj
            rw [ih (i + 1 + j) (by omega) (by omega) b k (by omega), (seek_some (wdS s) lb b _ j e).1, List.drop_drop]
        simp only [word_Walk.j1]
        cases c
        · rw [if_neg (by decide), key, ht]; rfl
        · rw [if_pos rfl, key, ht]; rfl
      rw [List.drop_eq_getElem_cons hlt]
      simp only [word_Walk.l0]
      rw [if_pos (by omega), if_pos (by omega), rd40 l i hlt, hw]
      generalize l[i] = o at hok ⊢
      conv => rhs; unfold wk
      by_cases h1 : o.f0 = 1
      · rw [if_pos h1, if_pos h1, w64 o.f1 (by omega) (by omega), word_f s hs o.f1 (k + 1) (by omega)]
        simp only [Option.bind_some]
        cases e : wdS s o.f1 with
        | none => rfl
        | some w => simp only [if_true]; exact next w
      · rw [if_neg h1, if_neg h1]
        by_cases h2 : o.f0 = 2
        · rw [if_pos h2, if_pos h2]; exact next _
        · rw [if_neg h2, if_neg h2]
          by_cases h6 : o.f0 = 6
          · rw [if_pos h6, if_pos h6]; exact next _
          · rw [if_neg h6, if_neg h6]
            by_cases h8 : o.f0 = 8
            · rw [if_pos h8, if_pos h8] <;> rfl
            · rw [if_neg h8, if_neg h8]
              by_cases h3 : o.f0 = 3
              · rw [if_pos h3, if_pos (Or.inl h3)]
                refine jump a _ _ _ _ _ _ ?_
                unfold tst; rw [if_pos h3]; rfl
              · rw [if_neg h3]
                by_cases h4 : o.f0 = 4
                · rw [if_pos h4, if_pos (Or.inr (Or.inl h4))]
                  refine jump a _ _ _ _ _ _ ?_
                  unfold tst; rw [if_neg h3, if_pos h4]
                · rw [if_neg h4]
                  by_cases h5 : o.f0 = 5
                  · rw [if_pos h5, if_pos (Or.inr (Or.inr (Or.inl h5)))]
                    refine jump a _ _ _ _ _ _ ?_
                    unfold tst; rw [if_neg h3, if_neg h4, if_pos h5]
                  · rw [if_neg h5]
                    by_cases h7 : o.f0 = 7
                    · rw [if_pos h7, if_pos (Or.inr (Or.inr (Or.inr h7)))]
                      refine jump a _ _ _ _ _ _ ?_
                      unfold tst; rw [if_neg h3, if_neg h4, if_neg h5]
                    · rw [if_neg h7, if_neg (by omega)] <;> rfl
    · simp only [word_Walk.l0]
      rw [if_neg (by omega), List.drop_eq_nil_of_le (by omega)]; rfl
/-- Where steps end, of a record of whatever length. -/
def walkR (l : List S40) (s : ByteArray) : EndR := if s.size = 64 then wk (wdS s) l (.run 0) else ⟨0, 0, false, true⟩
theorem walk_f (s : ByteArray) (l : List S40) (hl : l.length ≤ 100000) (hk : ∀ o ∈ l, 0 ≤ o.f1 ∧ o.f1 < 4294967296) (k : Nat) (hkk : 2 * l.length + 30 ≤ k) : word_Walk.f k l s = some (tup (walkR l s)) := by
  unfold word_Walk.f walkR
  by_cases hs : s.size = 64
  · rw [if_pos (by omega), if_pos hs]
    exact walk_loop s hs l hl hk l.length 0 (by omega) (by omega) 0 k hkk
  · rw [if_neg (by omega), if_neg hs] <;> rfl
end Go.Proofs.Ytoeklekjhaigoaa.QWalk
