/- What le.Put and le.Get answer, in plain words: the bytes of a number, the number of bytes. -/
import Derived.Test.YtoeklekjhaigoaaLex1
namespace Go.Proofs.Ytoeklekjhaigoaa.QLe
open Go.RowKit Go.Proofs.YtoeklekjhaigoaaW.PrintWords Go.Proofs.YtoeklekjhaigoaaW.PrintLast Go.Proofs.YtoeklekjhaigoaaW.PrintMore Go.Proofs.Ytoeklekjhaigoaa.Le
set_option linter.unusedVariables false
set_option linter.unusedSimpArgs false
def leval (s : ByteArray) (p : Int) : Nat → Int
  | 0 => 0
  | j + 1 => leval s p j + bt s (p + j) * 256 ^ j
theorem pow256 (j : Nat) : (0 : Int) < 256 ^ j := Int.pow_pos (by decide)
theorem p7 (i : Nat) (h : i < 8) : (256 : Int) ^ i ≤ 72057594037927936 := by
  match i, h with
  | 0, _ | 1, _ | 2, _ | 3, _ | 4, _ | 5, _ | 6, _ | 7, _ => decide
theorem leval_range (s : ByteArray) (p : Int) (j : Nat) : 0 ≤ leval s p j ∧ leval s p j < 256 ^ j := by
  induction j with
  | zero => simp [leval]
  | succ j ih =>
    have hb := bt_range s (p + j)
    have hp := pow256 j
    have h1 : bt s (p + j) * 256 ^ j ≤ 255 * 256 ^ j := Int.mul_le_mul_of_nonneg_right hb.2 (Int.le_of_lt hp)
    have h2 : 0 ≤ bt s (p + j) * 256 ^ j := Int.mul_nonneg hb.1 (Int.le_of_lt hp)
    have h3 : (256 : Int) ^ (j + 1) = 256 ^ j * 256 := Int.pow_succ ..
    simp only [leval]
    omega
theorem w64 (x : Int) (h : -9223372036854775808 ≤ x) (h2 : x ≤ 9223372036854775807) : wrap64 x = x := by unfold wrap64; omega
theorem u64_small (x : Int) (h0 : 0 ≤ x) (h1 : x < 18446744073709551616) : IntKind.u64.wrap x = x := by
  have e : IntKind.u64.wrap x = x % 18446744073709551616 := rfl
  rw [e]; exact Int.emod_eq_of_lt h0 h1
theorem or_low (i : Nat) (x y : Int) (hx0 : 0 ≤ x) (hx : x < 2 ^ i) (hy0 : 0 ≤ y) (hy : y % 2 ^ i = 0) (hx1 : x < 2 ^ 64) (hy1 : y < 2 ^ 64) : Go.bits .or .u64 x y = x + y := by
  have hw : ∀ n : Int, 0 ≤ n → n < 2 ^ 64 → IntKind.u64.wrap n = n := by
    intro n a b
    exact u64_small n a (by have e64 : (2 : Int) ^ 64 = 18446744073709551616 := by decide
                            omega)
  have h := Go.bits_join .u64 64 (by decide) hw i y x hy0 hy hy1 hx0 hx hx1
  have hc : Go.bits .or .u64 x y = Go.bits .or .u64 y x := by
    simp only [Go.bits]
    rw [BitVec.or_comm]
  rw [hc, h]; omega
theorem pow_shift (i : Nat) : (2 : Int) ^ (8 * i) = 256 ^ i := by rw [Int.pow_mul]; rfl
theorem shl_byte (c : Int) (i : Nat) (h0 : 0 ≤ c) (h1 : c ≤ 255) (hi : i < 8) : shl .u64 (IntKind.u64.wrap c) (wrap64 (8 * (i : Int))) = c * 256 ^ i := by
  have e : (wrap64 (8 * (i : Int))).toNat = 8 * i := by rw [w64 _ (by omega) (by omega)]; omega
  have hm : min (8 * i) 64 = 8 * i := by omega
  have hp := pow256 i
  have h8 := p7 i hi
  have h2 : c * 256 ^ i ≤ 255 * 256 ^ i := Int.mul_le_mul_of_nonneg_right h1 (Int.le_of_lt hp)
  have h3 : 0 ≤ c * 256 ^ i := Int.mul_nonneg h0 (Int.le_of_lt hp)
  unfold shl
  rw [u64_small c h0 (by omega), e, show IntKind.u64.bits = 64 from rfl, hm, pow_shift, u64_small _ h3 (by omega)]
theorem get_loop (s : ByteArray) (p : Int) (sz : Nat) (hp : 0 ≤ p) (hs : p + sz ≤ s.size) (hz : s.size ≤ 4611686018427387904) (h8 : sz ≤ 8) :
    ∀ d i : Nat, i + d = sz → ∀ k, d < k → le_Get.l0 k s p sz (leval s p i) sz i = some (leval s p sz, p + sz, 0) := by
  intro d
  induction d with
  | zero =>
    intro i hi k hk
    obtain ⟨k, rfl⟩ : ∃ m, k = m + 1 := ⟨k - 1, by omega⟩
    obtain rfl : i = sz := by omega
    simp only [le_Get.l0]
    rw [if_neg (by omega), w64 _ (by omega) (by omega)]
  | succ d ih =>
    intro i hi k hk
    obtain ⟨k, rfl⟩ : ∃ m, k = m + 1 := ⟨k - 1, by omega⟩
    have hb := bt_range s (p + i)
    have hl := leval_range s p i
    simp only [le_Get.l0]
    rw [if_pos (by omega), w64 (p + i) (by omega) (by omega), if_pos (by omega), if_pos (by omega), if_pos (by rw [w64 _ (by omega) (by omega)]; omega), shl_byte _ i hb.1 hb.2 (by omega), w64 ((i : Int) + 1) (by omega) (by omega)]
    have hpp := pow256 i
    have h7 := p7 i (by omega)
    have e64 : (2 : Int) ^ 64 = 18446744073709551616 := by decide
    have h1 : bt s (p + i) * 256 ^ i ≤ 255 * 256 ^ i := Int.mul_le_mul_of_nonneg_right hb.2 (Int.le_of_lt hpp)
    have h2 : 0 ≤ bt s (p + i) * 256 ^ i := Int.mul_nonneg hb.1 (Int.le_of_lt hpp)
    rw [or_low (8 * i) _ _ hl.1 (by rw [pow_shift]; exact hl.2) h2 (by rw [pow_shift]; exact Int.mul_emod_left ..) (by omega) (by omega)]
    have := ih (i + 1) (by omega) k (by omega)
    simpa [leval] using this
theorem get_ok (s : ByteArray) (p : Int) (sz : Nat) (h1 : 1 ≤ sz) (h8 : sz ≤ 8) (hp : 0 ≤ p) (hs : p + sz ≤ s.size) (hz : s.size ≤ 4611686018427387904) :
    ∀ k, 10 ≤ k → le_Get.f k s p sz = some (leval s p sz, p + sz, 0) := by
  intro k hk
  obtain ⟨k, rfl⟩ : ∃ m, k = m + 1 := ⟨k - 1, by omega⟩
  unfold le_Get.f
  rw [if_neg (by omega), if_neg (by omega), decide_eq_false (by omega)]
  simp only [le_Get.j0]
  rw [if_neg (by decide), if_neg (by omega), if_neg (by rw [w64 _ (by omega) (by omega)]; omega)]
  exact get_loop s p sz hp hs hz h8 sz 0 (by omega) k (by omega)
theorem get_short (s : ByteArray) (p : Int) (sz : Nat) (h1 : 1 ≤ sz) (h8 : sz ≤ 8) (hp : 0 ≤ p) (hq : p ≤ 4611686018427387904) (hs : (s.size : Int) < p + sz) (hz : s.size ≤ 4611686018427387904) :
    ∀ k, 1 ≤ k → le_Get.f k s p sz = some (0, 0, 3) := by
  intro k hk
  obtain ⟨k, rfl⟩ : ∃ m, k = m + 1 := ⟨k - 1, by omega⟩
  unfold le_Get.f
  rw [if_neg (by omega), if_neg (by omega), decide_eq_false (by omega)]
  simp only [le_Get.j0]
  rw [if_neg (by decide)]
  by_cases h : p > (s.size : Int)
  · rw [if_pos h]
  · rw [if_neg h, if_pos (by rw [w64 _ (by omega) (by omega)]; omega)]
-- Put
def leB (n : Int) (sz : Nat) : List Int := (List.range sz).map fun i => n / 256 ^ i % 256
theorem leB_length (n : Int) (sz : Nat) : (leB n sz).length = sz := by simp [leB]
def part (n : Int) (sz i : Nat) : List Int := (List.range sz).map fun j => if j < i then n / 256 ^ j % 256 else 0
theorem part_length (n : Int) (sz i : Nat) : (part n sz i).length = sz := by simp [part]
theorem part_set (n : Int) (sz i : Nat) (h : i < sz) : (part n sz i).set i (n / 256 ^ i % 256) = part n sz (i + 1) := by
  apply List.ext_getElem (by simp [part])
  intro j h1 h2
  simp only [part, List.getElem_set, List.getElem_map, List.getElem_range]
  by_cases hj : i = j
  · subst hj; simp
  · by_cases hl : j < i
    · simp [hj, hl, show j < i + 1 by omega]
    · simp [hj, hl, show ¬ j < i + 1 by omega]
theorem shr_byte (n : Int) (i : Nat) (hi : i < 8) : shr .u64 n (wrap64 (8 * (i : Int))) % 256 = n / 256 ^ i % 256 := by
  have e : (wrap64 (8 * (i : Int))).toNat = 8 * i := by rw [w64 _ (by omega) (by omega)]; omega
  unfold shr
  rw [e, show IntKind.u64.bits = 64 from rfl, show min (8 * i) 64 = 8 * i by omega, pow_shift]
theorem put_loop (n : Int) (sz : Nat) (h8 : sz ≤ 8) : ∀ d i : Nat, i + d = sz → ∀ k, d < k → le_Put.l0 k n (part n sz i) sz i = some (strOfNums (leB n sz), 0) := by
  intro d
  induction d with
  | zero =>
    intro i hi k hk
    obtain ⟨k, rfl⟩ : ∃ m, k = m + 1 := ⟨k - 1, by omega⟩
    obtain rfl : i = sz := by omega
    simp only [le_Put.l0]
    rw [if_neg (by omega)]
    have : part n i i = leB n i := by
      apply List.ext_getElem (by simp [part, leB])
      intro j h1 h2
      have : j < i := by simpa [part] using h1
      simp [part, leB, this]
    rw [this]
  | succ d ih =>
    intro i hi k hk
    obtain ⟨k, rfl⟩ : ∃ m, k = m + 1 := ⟨k - 1, by omega⟩
    simp only [le_Put.l0]
    rw [if_pos (by omega), if_pos (by rw [w64 _ (by omega) (by omega)]; omega), if_pos (by omega), if_pos (by rw [part_length]; omega), shr_byte n i (by omega), Int.toNat_natCast, part_set n sz i (by omega), w64 ((i : Int) + 1) (by omega) (by omega)]
    exact ih (i + 1) (by omega) k (by omega)
theorem part_zero (n : Int) (sz : Nat) : List.replicate sz (0 : Int) = part n sz 0 := by
  apply List.ext_getElem (by simp [part])
  intro j h1 h2
  simp [part]
theorem put_j0 (n : Int) (sz : Nat) (h8 : sz ≤ 8) : ∀ k, 10 ≤ k → le_Put.j0 k n sz false = some (strOfNums (leB n sz), 0) := by
  intro k hk
  obtain ⟨k, rfl⟩ : ∃ m, k = m + 1 := ⟨k - 1, by omega⟩
  simp only [le_Put.j0]
  rw [if_neg (by decide), if_pos (by omega), if_pos (by omega), Int.toNat_natCast, part_zero n sz]
  exact put_loop n sz h8 sz 0 (by omega) k (by omega)
theorem shr_test (n : Int) (sz : Nat) (h : sz < 8) (h0 : 0 ≤ n) : (shr .u64 n (wrap64 (8 * (sz : Int))) != 0) = !decide (n < 256 ^ sz) := by
  have e : (wrap64 (8 * (sz : Int))).toNat = 8 * sz := by rw [w64 _ (by omega) (by omega)]; omega
  unfold shr
  rw [e, show IntKind.u64.bits = 64 from rfl, show min (8 * sz) 64 = 8 * sz by omega, pow_shift]
  have hp := pow256 sz
  by_cases hlt : n < 256 ^ sz
  · rw [Int.ediv_eq_zero_of_lt h0 hlt]; simp [hlt]
  · have : 1 ≤ n / 256 ^ sz := by rw [Int.le_ediv_iff_mul_le hp]; omega
    have h2 : n / 256 ^ sz ≠ 0 := by omega
    simp [hlt, h2]
theorem put_ok (n : Int) (sz : Nat) (h1 : 1 ≤ sz) (h8 : sz ≤ 8) (h0 : 0 ≤ n) (hn : sz = 8 ∨ n < 256 ^ sz) : ∀ k, 10 ≤ k → le_Put.f k n sz = some (strOfNums (leB n sz), 0) := by
  intro k hk
  unfold le_Put.f
  rw [if_neg (by omega), if_neg (by omega)]
  by_cases hz : sz < 8
  · have hlt : n < 256 ^ sz := by omega
    rw [if_pos (by omega), if_pos (by rw [w64 _ (by omega) (by omega)]; omega), shr_test n sz hz h0, decide_eq_true hlt]
    exact put_j0 n sz h8 k hk
  · rw [if_neg (by omega)]
    exact put_j0 n sz h8 k hk
theorem put_bad (n : Int) (sz : Nat) (h1 : 1 ≤ sz) (h8 : sz < 8) (h0 : 0 ≤ n) (hn : 256 ^ sz ≤ n) : ∀ k, 1 ≤ k → le_Put.f k n sz = some ((⟨#[]⟩ : ByteArray), 1) := by
  intro k hk
  obtain ⟨k, rfl⟩ : ∃ m, k = m + 1 := ⟨k - 1, by omega⟩
  unfold le_Put.f
  rw [if_neg (by omega), if_neg (by omega), if_pos (by omega), if_pos (by rw [w64 _ (by omega) (by omega)]; omega), shr_test n sz h8 h0, decide_eq_false (by omega)]
  simp [le_Put.j0]
-- texts as rows of bytes
theorem bt_data (s : ByteArray) (i : Nat) (h : i < s.size) : bt s i = ((s.data.toList[i]'(by rw [Array.length_toList]; exact h)).toNat : Int) := by
  have := bt_at s (i : Int) (by simpa using h)
  rw [← this]; simp [ByteArray.getElem_eq_getElem_data]
theorem sON_data (xs : List Int) : (strOfNums xs).data.toList = xs.map fun n => UInt8.ofNat n.toNat := rfl
theorem sON_size (xs : List Int) : (strOfNums xs).size = xs.length := by
  show (strOfNums xs).data.size = _
  rw [← Array.length_toList, sON_data, List.length_map]
theorem ba_ext {a b : ByteArray} (h : a.data.toList = b.data.toList) : a = b := by
  cases a; cases b; congr 1; exact Array.ext' h
theorem app_data (a b : ByteArray) : (a ++ b).data.toList = a.data.toList ++ b.data.toList := by simp
theorem ext_data (a : ByteArray) (i j : Nat) : (a.extract i j).data.toList = (a.data.toList.drop i).take (j - i) := by
  rw [ByteArray.data_extract, Array.toList_extract]
theorem len_data (a : ByteArray) : a.data.toList.length = a.size := by rw [Array.length_toList]; rfl
end Go.Proofs.Ytoeklekjhaigoaa.QLe
