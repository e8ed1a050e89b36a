/- What the reference's numbers and bytes (doorwardref01) answer, in plain words. -/
import Derived.Test.YtoeklekjhaigoaaW0x1
import Derived.Test.YtoeklekjhaigoaaQNum
namespace Go.Proofs.Ytoeklekjhaigoaa.QRef01
open Go.RowKit Go.Proofs.YtoeklekjhaigoaaW.PrintWords Go.Proofs.YtoeklekjhaigoaaW.PrintLast Go.Proofs.YtoeklekjhaigoaaW.PrintMore Go.Proofs.Ytoeklekjhaigoaa.QLe Go.Proofs.Ytoeklekjhaigoaa.QNum Go.Proofs.Ytoeklekjhaigoaa.W0
set_option linter.unusedVariables false
set_option linter.unusedSimpArgs false
theorem number_loop (s : ByteArray) (h8 : s.size ≤ 8) : ∀ i : Nat, i ≤ s.size → ∀ k, i < k → doorwardref01_Number.l0 k s (num (s.data.toList.drop i)) ((i : Int) - 1) = some (num s.data.toList) := by
  intro i
  induction i with
  | zero =>
    intro hi k hk
    obtain ⟨k, rfl⟩ : ∃ m, k = m + 1 := ⟨k - 1, by omega⟩
    simp only [doorwardref01_Number.l0]
    rw [if_neg (by omega)]; rfl
  | succ i ih =>
    intro hi k hk
    obtain ⟨k, rfl⟩ : ∃ m, k = m + 1 := ⟨k - 1, by omega⟩
    have hl : i < s.data.toList.length := by rw [len_data]; omega
    simp only [doorwardref01_Number.l0]
    have e : (((i + 1 : Nat) : Int) - 1) = (i : Int) := by omega
    rw [e, if_pos (by omega), if_pos (by omega), if_pos (by omega)]
    have hn := num_nonneg (s.data.toList.drop (i + 1))
    have hlt := num_lt (s.data.toList.drop (i + 1))
    rw [List.length_drop, len_data] at hlt
    have hp := p7 (s.size - (i + 1)) (by omega)
    have hb := bt_range s i
    have hd : num (s.data.toList.drop i) = 256 * num (s.data.toList.drop (i + 1)) + bt s i := by
      rw [List.drop_eq_getElem_cons hl, num, bt_data s i (by omega)]
    rw [u64_small (256 * num (s.data.toList.drop (i + 1))) (by omega) (by omega), u64_small (bt s i) hb.1 (by omega), u64_small _ (by omega) (by omega), ← hd, w64 _ (by omega) (by omega)]
    exact ih (by omega) k (by omega)
theorem number_ok (s : ByteArray) (h8 : s.size ≤ 8) : ∀ k, 10 ≤ k → doorwardref01_Number.f k s = some (num s.data.toList) := by
  intro k hk
  unfold doorwardref01_Number.f
  have h := number_loop s h8 s.size (Nat.le_refl _) k (by omega)
  rw [List.drop_of_length_le (by rw [len_data]; exact Nat.le_refl _)] at h
  rw [w64 _ (by omega) (by omega)]
  exact h
end Go.Proofs.Ytoeklekjhaigoaa.QRef01
