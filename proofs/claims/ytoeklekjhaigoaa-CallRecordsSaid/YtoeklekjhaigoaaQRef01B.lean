/- What the reference's numbers and bytes (doorwardref01) answer, in plain words. -/
import Derived.Test.YtoeklekjhaigoaaR01x1
import Derived.Test.YtoeklekjhaigoaaQNum
namespace Go.Proofs.Ytoeklekjhaigoaa.QRef01B
open Go.RowKit Go.Proofs.YtoeklekjhaigoaaW.PrintWords Go.Proofs.YtoeklekjhaigoaaW.PrintLast Go.Proofs.YtoeklekjhaigoaaW.PrintMore Go.Proofs.Ytoeklekjhaigoaa.QLe Go.Proofs.Ytoeklekjhaigoaa.QNum Go.Proofs.Ytoeklekjhaigoaa.R01
set_option linter.unusedVariables false
set_option linter.unusedSimpArgs false
theorem bytes_loop (sz : Nat) (h8 : sz ≤ 8) (n0 : Int) : ∀ d i : Nat, i + d = sz → ∀ (n : Int) (k : Nat), 0 ≤ n → n < 18446744073709551616 → n = n0 / 256 ^ i → d < k → ∃ q, doorwardref01_Bytes.l0 k n sz (leB n0 i) i = some (strOfNums (leB n0 sz), q) := by
  intro d
  induction d with
  | zero =>
    intro i hi n k h0 h1 hn hk
    obtain ⟨k, rfl⟩ : ∃ m, k = m + 1 := ⟨k - 1, by omega⟩
    obtain rfl : i = sz := by omega
    refine ⟨n, ?_⟩
    simp only [doorwardref01_Bytes.l0]
    rw [if_neg (by omega)]
  | succ d ih =>
    intro i hi n k h0 h1 hn hk
    obtain ⟨k, rfl⟩ : ∃ m, k = m + 1 := ⟨k - 1, by omega⟩
    simp only [doorwardref01_Bytes.l0]
    rw [if_pos (by omega), if_pos (by rw [leB_length]; omega), Int.tdiv_eq_ediv_of_nonneg h0, Int.tmod_eq_emod_of_nonneg h0, u64_small _ (by omega) (by omega), w64 _ (by omega) (by omega)]
    have e : leB n0 i ++ [n % 256 % 256] = leB n0 (i + 1) := by
      rw [leB, leB, List.range_succ, List.map_append, List.map_singleton, ← hn, Int.emod_emod_of_dvd _ (Int.dvd_refl _)]
    rw [e]
    have e2 : n / 256 = n0 / 256 ^ (i + 1) := by
      rw [hn, Int.pow_succ, Int.ediv_ediv_of_nonneg (Int.le_of_lt (pow256 i))]
    exact ih (i + 1) (by omega) (n / 256) k (by omega) (by omega) e2 (by omega)
theorem bytes_ok (n : Int) (sz : Nat) (h8 : sz ≤ 8) (h0 : 0 ≤ n) (h1 : n < 18446744073709551616) : ∀ k, 9 ≤ k → ∃ q, doorwardref01_Bytes.f k n sz = some (strOfNums (leB n sz), q) := by
  intro k hk
  exact bytes_loop sz h8 n sz 0 (by omega) n k h0 h1 (by simp) (by omega)
end Go.Proofs.Ytoeklekjhaigoaa.QRef01B
