/- What the reference's Word and Walk answer: what the program's do. -/
import Derived.Test.YtoeklekjhaigoaaQWalk
import Derived.Test.YtoeklekjhaigoaaQRef01
import Derived.Test.YtoeklekjhaigoaaW0x2
namespace Go.Proofs.Ytoeklekjhaigoaa.QRef19
open Go.RowKit Go.Proofs.YtoeklekjhaigoaaW.PrintWords Go.Proofs.YtoeklekjhaigoaaW.PrintLast Go.Proofs.YtoeklekjhaigoaaW.PrintMore Go.Proofs.Ytoeklekjhaigoaa.QLe Go.Proofs.Ytoeklekjhaigoaa.QNum Go.Proofs.Ytoeklekjhaigoaa.QRef01 Go.Proofs.Ytoeklekjhaigoaa.WWalk Go.Proofs.Ytoeklekjhaigoaa.HFrom Go.Proofs.Ytoeklekjhaigoaa.QWalk Go.Proofs.Ytoeklekjhaigoaa.W0
set_option linter.unusedVariables false
set_option linter.unusedSimpArgs false
theorem refWord_f (s : ByteArray) (hs : s.size = 64) (a : Int) (ha : a ≤ 9223372036854775807) : ∀ k, 20 ≤ k → doorwardref11_Word.f k s a = some (match wdS s a with | some w => (w, 0) | none => (0, 51)) := by
  intro k hk
  unfold doorwardref11_Word.f wdS
  rw [if_pos (by omega)]
  by_cases h0 : a < 0
  · rw [if_pos h0, if_neg (by omega)]
  · rw [if_neg h0]
    by_cases h1 : a > 60
    · rw [if_pos h1, if_neg (by omega)]
    · rw [if_neg h1, Int.tmod_eq_emod_of_nonneg (by omega)]
      by_cases h2 : a % 4 = 0
      · have hc : 0 ≤ a ∧ a ≤ 60 ∧ a % 4 = 0 := ⟨by omega, by omega, h2⟩
        rw [if_pos h2, if_pos hc, w64 _ (by omega) (by omega), if_pos (by omega), if_pos (by omega), if_pos (by omega)]
        obtain ⟨n, rfl⟩ : ∃ n : Nat, a = n := ⟨a.toNat, by omega⟩
        have e4 : ((n : Int) + 4).toNat = n + 4 := by omega
        rw [Int.toNat_natCast, e4]
        have hsz : (s.extract n (n + 4)).size ≤ 8 := by rw [ByteArray.size_extract]; omega
        rw [number_ok _ hsz k (by omega), ext_data, show n + 4 - n = 4 by omega]
        simp only [Option.bind_some]
        have r := wdS_range s (n : Int) (num ((s.data.toList.drop n).take 4)) (by unfold wdS; rw [if_pos ⟨by omega, by omega, h2⟩, Int.toNat_natCast]) hs
        rw [Int.emod_eq_of_lt r.1 r.2]
      · rw [if_neg h2, if_neg (fun g => h2 g.2.2)]
theorem refWord_bad (s : ByteArray) (hs : s.size ≠ 64) (a : Int) (k : Nat) : doorwardref11_Word.f k s a = some (0, 52) := by
  unfold doorwardref11_Word.f
  rw [if_neg (by omega)]
theorem on_loop (l : List S40) (hl : l.length ≤ 100000) (lb : Int) : ∀ n i : Nat, l.length - i ≤ n → i ≤ l.length → ∀ k, n < k → doorwardref19_on.l0 k l lb i = some (match idxN (isLab lb) (l.drop i) with | some j => ((i + j : Nat) : Int) | none => -1) := by
  intro n
  induction n with
  | zero =>
    intro i hi hle k hk
    obtain ⟨k, rfl⟩ : ∃ m, k = m + 1 := ⟨k - 1, by omega⟩
    simp only [doorwardref19_on.l0]
    rw [if_neg (by omega), List.drop_eq_nil_of_le (by omega)]; rfl
  | succ n ih =>
    intro i hi hle k hk
    obtain ⟨k, rfl⟩ : ∃ m, k = m + 1 := ⟨k - 1, by omega⟩
    by_cases hlt : i < l.length
    · have next := ih (i + 1) (by omega) (by omega) k (by omega)
      simp only [doorwardref19_on.l0]
      rw [if_pos (by omega), if_pos (by omega), rd40 l i hlt, List.drop_eq_getElem_cons hlt, w64 _ (by omega) (by omega)]
      unfold idxN
      have hs : isLab lb l[i] = true ↔ (l[i].f0 = 6 ∧ l[i].f2 = lb) := by unfold isLab; rw [Bool.and_eq_true, decide_eq_true_eq, beq_iff_eq]
      by_cases h6 : l[i].f0 = 6
      · by_cases h2 : l[i].f2 = lb
        · rw [if_pos h6, if_pos h2, if_pos (hs.2 ⟨h6, h2⟩)]; rfl
        · rw [if_pos h6, if_neg h2, if_neg (fun g => h2 (hs.1 g).2)]
          refine next.trans ?_
          cases e : idxN (isLab lb) (l.drop (i + 1)) with
          | none => rfl
          | some j => simp only [Option.map_some]; congr 2; omega
      · rw [if_neg h6, if_neg (fun g => h6 (hs.1 g).1)]
        refine next.trans ?_
        cases e : idxN (isLab lb) (l.drop (i + 1)) with
        | none => rfl
        | some j => simp only [Option.map_some]; congr 2; omega
    · obtain rfl : i = l.length := by omega
      simp only [doorwardref19_on.l0]
      rw [if_neg (by omega), List.drop_eq_nil_of_le (by omega)]; rfl
theorem on_f (l : List S40) (hl : l.length ≤ 100000) (lb : Int) (i : Nat) (hi : i < l.length) (k : Nat) (hk : l.length < k) : doorwardref19_on.f k l i lb = some (match idxN (isLab lb) (l.drop (i + 1)) with | some j => ((i + 1 + j : Nat) : Int) | none => -1) := by
  unfold doorwardref19_on.f
  rw [w64 _ (by omega) (by omega)]
  exact on_loop l hl lb (l.length - (i + 1)) (i + 1) (by omega) (by omega) k (by omega)
theorem refWalk_loop (s : ByteArray) (hs : s.size = 64) (l : List S40) (hl : l.length ≤ 100000) (hk : ∀ o ∈ l, 0 ≤ o.f1 ∧ o.f1 < 4294967296) : ∀ n i : Nat, l.length - i ≤ n → i ≤ l.length → ∀ (a : Int) (k : Nat), 5 * n + l.length + 40 ≤ k → doorwardref19_Walk.l0 k l s a i = some (tup (wk (wdS s) (l.drop i) (.run a))) := by
  intro n
  induction n with
  | zero =>
    intro i hi hle a k hkk
    obtain ⟨k, rfl⟩ : ∃ m, k = m + 1 := ⟨k - 1, by omega⟩
    simp only [doorwardref19_Walk.l0]
    rw [if_neg (by omega), List.drop_eq_nil_of_le (by omega)]; rfl
  | succ n ih =>
    intro i hi hle a k hkk
    obtain ⟨k, rfl⟩ : ∃ m, k = m + 1 + 1 + 1 + 1 + 1 := ⟨k - 5, by omega⟩
    by_cases hlt : i < l.length
    · have next := fun b => ih (i + 1) (by omega) (by omega) b k (by omega)
      have hw : wrap64 ((i : Int) + 1) = ((i + 1 : Nat) : Int) := by rw [w64 _ (by omega) (by omega)]; rfl
      have hok := hk l[i] (List.getElem_mem hlt)
      have key : ∀ b lb : Int, ((doorwardref19_on.f k l (i : Int) lb).bind fun t => (if t < 0 then (some (lb, 0, false, false)) else (doorwardref19_Walk.l0 k l s b (wrap64 (t + 1))))) = some (tup (wk (wdS s) (l.drop (i + 1)) (.seek lb b))) := by
        intro b lb
        rw [on_f l hl lb i hlt k (by omega)]
        cases e : idxN (isLab lb) (l.drop (i + 1)) with
        | none => rw [seek_none _ _ _ _ e]; rfl
        | some j =>
          have hj := idxN_lt _ _ _ e
          rw [List.length_drop] at hj
          simp only [Option.bind_some]
          rw [if_neg (by omega), w64 _ (by omega) (by omega)]
          have e2 := (seek_some (wdS s) lb b _ j e).2
          rw [List.drop_drop] at e2
          rw [e2]
          exact ih (i + 1 + (j + 1)) (by omega) (by omega) b k (by omega)
      rw [List.drop_eq_getElem_cons hlt]
      simp only [doorwardref19_Walk.l0]
      rw [if_pos (by omega), if_pos (by omega), rd40 l i hlt]
      generalize l[i] = o at hok ⊢
      conv => rhs; unfold wk
      by_cases hlow : o.f0 < 1
      · rw [if_pos hlow, if_neg (by omega), if_neg (by omega), if_neg (by omega), if_neg (by omega), if_neg (by omega)]
        simp [doorwardref19_Walk.j1, tup]
      · rw [if_neg hlow]
        by_cases hhigh : o.f0 > 8
        · rw [decide_eq_true hhigh, if_neg (by omega), if_neg (by omega), if_neg (by omega), if_neg (by omega), if_neg (by omega)]
          simp [doorwardref19_Walk.j1, tup]
        · rw [decide_eq_false hhigh]
          simp only [doorwardref19_Walk.j1]
          rw [if_neg (by decide)]
          by_cases h8 : o.f0 = 8
          · rw [if_pos h8, if_neg (by omega), if_neg (by omega), if_neg (by omega), if_pos h8]; rfl
          · rw [if_neg h8]
            by_cases h1 : o.f0 = 1
            · rw [if_pos h1, if_pos h1, w64 o.f1 (by omega) (by omega), refWord_f s hs o.f1 (by omega) _ (by omega)]
              simp only [Option.bind_some]
              cases e : wdS s o.f1 with
              | none => rfl
              | some w =>
                simp only [if_true, doorwardref19_Walk.j2, doorwardref19_Walk.j3, doorwardref19_Walk.j4]
                rw [if_neg (by omega), if_neg (by omega), if_neg (by omega), if_neg (by omega), beq_eq_false_iff_ne.2 (by omega), if_neg (by decide), hw]
                exact next w
            · rw [if_neg h1, if_neg h1]
              simp only [doorwardref19_Walk.j2]
              by_cases h2 : o.f0 = 2
              · rw [if_pos h2, if_pos h2]
                simp only [doorwardref19_Walk.j3, doorwardref19_Walk.j4]
                rw [if_neg (by omega), if_neg (by omega), if_neg (by omega), beq_eq_false_iff_ne.2 (by omega), if_neg (by decide), hw]
                exact next _
              · rw [if_neg h2, if_neg h2]
                simp only [doorwardref19_Walk.j3]
                by_cases h6 : o.f0 = 6
                · rw [if_neg (by omega), if_neg (by omega), if_neg (by omega), beq_eq_false_iff_ne.2 (by omega), if_pos h6]
                  simp only [doorwardref19_Walk.j4]
                  rw [if_neg (by decide), hw]
                  exact next _
                · rw [if_neg h6, if_neg h8]
                  have fin : doorwardref19_Walk.j4 (k + 1) l s a (i : Int) true o.f0 o.f1 o.f2 o.f3 = some (tup (wk (wdS s) (l.drop (i + 1)) (.seek (if tst o a = true then o.f2 else o.f3) a))) := by
                    simp only [doorwardref19_Walk.j4]
                    have ht : doorwardref19_holds.f o.f0 o.f1 o.f2 o.f3 a = some (tst o a) := by
                      unfold doorwardref19_holds.f tst
                      split
                      · rfl
                      · split
                        · rfl
                        · split <;> rfl
                    rw [if_pos trivial, ht]
                    simp only [Option.bind_some]
                    cases tst o a
                    · rw [if_neg (by decide), if_neg (by decide)]; exact key a o.f3
                    · rw [if_pos rfl, if_pos rfl]; exact key a o.f2
                  by_cases h3 : o.f0 = 3
                  · rw [if_pos h3, if_pos (Or.inl h3)]; exact fin
                  · rw [if_neg h3]
                    by_cases h4 : o.f0 = 4
                    · rw [if_pos h4, if_pos (Or.inr (Or.inl h4))]; exact fin
                    · rw [if_neg h4]
                      by_cases h5 : o.f0 = 5
                      · rw [if_pos h5, if_pos (Or.inr (Or.inr (Or.inl h5)))]; exact fin
                      · have h7 : o.f0 = 7 := by omega
                        rw [if_neg h5, beq_iff_eq.2 h7, if_pos (Or.inr (Or.inr (Or.inr h7)))]; exact fin
    · simp only [doorwardref19_Walk.l0]
      rw [if_neg (by omega), List.drop_eq_nil_of_le (by omega)]; rfl
theorem refWalk_f (s : ByteArray) (l : List S40) (hl : l.length ≤ 100000) (hk : ∀ o ∈ l, 0 ≤ o.f1 ∧ o.f1 < 4294967296) (k : Nat) (hkk : 6 * l.length + 40 ≤ k) : doorwardref19_Walk.f k l s = some (tup (walkR l s)) := by
  unfold doorwardref19_Walk.f walkR
  by_cases hs : s.size = 64
  · rw [if_pos (by omega), if_pos hs]
    exact refWalk_loop s hs l hl hk l.length 0 (by omega) (by omega) 0 k (by omega)
  · rw [if_neg (by omega), if_neg hs]; rfl
end Go.Proofs.Ytoeklekjhaigoaa.QRef19
