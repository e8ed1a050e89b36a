import Derived.Test.YtefkhcijgiagdaaI1x3
import Derived.Test.YtefkhcijgiagdaaI1x2
import Derived.Test.YtefkhcijgiagdaaQLe
import Derived.Test.YtefkhcijgiagdaaQNum
/- What the reference's numbers and bytes (doorwardref01) answer, in plain words. -/
namespace Go.Proofs.Ytefkhcijgiagdaa.QRef01
open Go.RowKit Go.Proofs.YtefkhcijgiagdaaW.PrintWords Go.Proofs.YtefkhcijgiagdaaW.PrintLast Go.Proofs.YtefkhcijgiagdaaW.PrintMore Go.Proofs.Ytefkhcijgiagdaa.QLe Go.Proofs.Ytefkhcijgiagdaa.QNum Go.Proofs.Ytefkhcijgiagdaa.I1
set_option linter.unusedVariables false
set_option linter.unusedSimpArgs false
theorem bytes_loop (sz : Nat) (h8 : sz ≤ 8) (n0 : Int) : ∀ d i : Nat, i + d = sz → ∀ (n : Int) (k : Nat), 0 ≤ n → n < 18446744073709551616 → n = n0 / 256 ^ i → d < k → ∃ q, doorwardref01_Bytes.l0 k n sz (leB n0 i) i = some (strOfNums (leB n0 sz), q) := by
  intro d
  induction d with
  | zero =>
    intro i hi n k h0 h1 hn hk
    obtain ⟨k, rfl⟩ : ∃ m, k = m + 1 := ⟨k - 1, by omega⟩
    obtain rfl : i = sz := by omega
    refine ⟨n, ?_⟩
    simp only [doorwardref01_Bytes.l0]
    rw [if_neg (by omega)]
  | succ d ih =>
    intro i hi n k h0 h1 hn hk
    obtain ⟨k, rfl⟩ : ∃ m, k = m + 1 := ⟨k - 1, by omega⟩
    simp only [doorwardref01_Bytes.l0]
    rw [if_pos (by omega), if_pos (by rw [leB_length]; omega), Int.tdiv_eq_ediv_of_nonneg h0, Int.tmod_eq_emod_of_nonneg h0, u64_small _ (by omega) (by omega), w64 _ (by omega) (by omega)]
    have e : leB n0 i ++ [n % 256 % 256] = leB n0 (i + 1) := by
      rw [leB, leB, List.range_succ, List.map_append, List.map_singleton, ← hn, Int.emod_emod_of_dvd _ (Int.dvd_refl _)]
    rw [e]
    have e2 : n / 256 = n0 / 256 ^ (i + 1) := by
      rw [hn, Int.pow_succ, Int.ediv_ediv_of_nonneg (Int.le_of_lt (pow256 i))]
    exact ih (i + 1) (by omega) (n / 256) k (by omega) (by omega) e2 (by omega)
theorem bytes_ok (n : Int) (sz : Nat) (h8 : sz ≤ 8) (h0 : 0 ≤ n) (h1 : n < 18446744073709551616) : ∀ k, 9 ≤ k → ∃ q, doorwardref01_Bytes.f k n sz = some (strOfNums (leB n sz), q) := by
  intro k hk
  exact bytes_loop sz h8 n sz 0 (by omega) n k h0 h1 (by simp) (by omega)
theorem number_loop (s : ByteArray) (h8 : s.size ≤ 8) : ∀ i : Nat, i ≤ s.size → ∀ k, i < k → doorwardref01_Number.l0 k s (num (s.data.toList.drop i)) ((i : Int) - 1) = some (num s.data.toList) := by
  intro i
  induction i with
  | zero =>
    intro hi k hk
    obtain ⟨k, rfl⟩ : ∃ m, k = m + 1 := ⟨k - 1, by omega⟩
    simp only [doorwardref01_Number.l0]
    rw [if_neg (by omega)]; rfl
  | succ i ih =>
    intro hi k hk
    obtain ⟨k, rfl⟩ : ∃ m, k = m + 1 := ⟨k - 1, by omega⟩
    have hl : i < s.data.toList.length := by rw [len_data]; omega
    simp only [doorwardref01_Number.l0]
    have e : (((i + 1 : Nat) : Int) - 1) = (i : Int) := by omega
    rw [e, if_pos (by omega), if_pos (by omega), if_pos (by omega)]
    have hn := num_nonneg (s.data.toList.drop (i + 1))
    have hlt := num_lt (s.data.toList.drop (i + 1))
    rw [List.length_drop, len_data] at hlt
    have hp := p7 (s.size - (i + 1)) (by omega)
    have hb := bt_range s i
    have hd : num (s.data.toList.drop i) = 256 * num (s.data.toList.drop (i + 1)) + bt s i := by
      rw [List.drop_eq_getElem_cons hl, num, bt_data s i (by omega)]
    rw [u64_small (256 * num (s.data.toList.drop (i + 1))) (by omega) (by omega), u64_small (bt s i) hb.1 (by omega), u64_small _ (by omega) (by omega), ← hd, w64 _ (by omega) (by omega)]
    exact ih (by omega) k (by omega)
theorem number_ok (s : ByteArray) (h8 : s.size ≤ 8) : ∀ k, 10 ≤ k → doorwardref01_Number.f k s = some (num s.data.toList) := by
  intro k hk
  unfold doorwardref01_Number.f
  have h := number_loop s h8 s.size (Nat.le_refl _) k (by omega)
  rw [List.drop_of_length_le (by rw [len_data]; exact Nat.le_refl _)] at h
  rw [w64 _ (by omega) (by omega)]
  exact h
end Go.Proofs.Ytefkhcijgiagdaa.QRef01
