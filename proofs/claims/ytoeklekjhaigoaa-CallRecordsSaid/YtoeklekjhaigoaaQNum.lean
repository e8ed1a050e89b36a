/- Numbers and their bytes, the lowest one first: there and back. -/
import Derived.Test.YtoeklekjhaigoaaQLe
namespace Go.Proofs.Ytoeklekjhaigoaa.QNum
open Go.RowKit Go.Proofs.YtoeklekjhaigoaaW.PrintWords Go.Proofs.YtoeklekjhaigoaaW.PrintLast Go.Proofs.YtoeklekjhaigoaaW.PrintMore Go.Proofs.Ytoeklekjhaigoaa.QLe
set_option linter.unusedVariables false
set_option linter.unusedSimpArgs false
/-- a row of small numbers, as bytes. -/
def by8 (xs : List Int) : List UInt8 := xs.map fun n => UInt8.ofNat n.toNat
theorem by8_append (a b : List Int) : by8 (a ++ b) = by8 a ++ by8 b := by simp [by8]
theorem by8_length (a : List Int) : (by8 a).length = a.length := by simp [by8]
theorem sON_by8 (xs : List Int) : (strOfNums xs).data.toList = by8 xs := rfl
/-- the number of a row of bytes. -/
def num : List UInt8 → Int
  | [] => 0
  | c :: l => 256 * num l + (c.toNat : Int)
theorem num_nonneg : ∀ l, 0 ≤ num l
  | [] => by simp [num]
  | c :: l => by have := num_nonneg l; simp only [num]; omega
theorem num_lt : ∀ l : List UInt8, num l < 256 ^ l.length
  | [] => by simp [num]
  | c :: l => by
    have h := num_lt l
    have hc : c.toNat < 256 := c.toNat_lt
    have e : (256 : Int) ^ (c :: l).length = 256 ^ l.length * 256 := Int.pow_succ ..
    rw [e]; simp only [num]; omega
theorem leB_succ (n : Int) (sz : Nat) : leB n (sz + 1) = n % 256 :: leB (n / 256) sz := by
  unfold leB
  rw [List.range_succ_eq_map, List.map_cons, List.map_map]
  congr 1
  · simp
  · apply List.map_congr_left
    intro i _
    show n / 256 ^ (i + 1) % 256 = n / 256 / 256 ^ i % 256
    rw [Int.pow_succ, Int.mul_comm, Int.ediv_ediv_of_nonneg (by decide)]
theorem num_leB (sz : Nat) : ∀ n : Int, 0 ≤ n → n < 256 ^ sz → num (by8 (leB n sz)) = n := by
  induction sz with
  | zero => intro n h0 h1; simp [leB, by8, num]; simp at h1; omega
  | succ sz ih =>
    intro n h0 h1
    have e : (256 : Int) ^ (sz + 1) = 256 ^ sz * 256 := Int.pow_succ ..
    rw [e] at h1
    rw [leB_succ]
    have hd : n / 256 < 256 ^ sz := by omega
    have h2 := ih (n / 256) (by omega) hd
    show 256 * num (by8 (leB (n / 256) sz)) + ((UInt8.ofNat (n % 256).toNat).toNat : Int) = n
    rw [h2, UInt8.toNat_ofNat']
    omega
theorem leB_num : ∀ l : List UInt8, by8 (leB (num l) l.length) = l
  | [] => rfl
  | c :: l => by
    have hc : c.toNat < 256 := c.toNat_lt
    have h := num_nonneg l
    rw [List.length_cons, leB_succ]
    show UInt8.ofNat (num (c :: l) % 256).toNat :: by8 (leB (num (c :: l) / 256) l.length) = c :: l
    have e1 : (num (c :: l) % 256).toNat = c.toNat := by simp only [num]; omega
    have e2 : num (c :: l) / 256 = num l := by simp only [num]; omega
    rw [e1, e2, leB_num l, UInt8.ofNat_toNat]
theorem leB_num' (l : List UInt8) (sz : Nat) (h : l.length = sz) : by8 (leB (num l) sz) = l := by rw [← h, leB_num]
theorem num_inj {a b : List UInt8} (h : a.length = b.length) (e : num a = num b) : a = b := by
  rw [← leB_num a, ← leB_num b, h, e]
theorem leB_inj (sz : Nat) (n m : Int) (h0 : 0 ≤ n) (h1 : n < 256 ^ sz) (k0 : 0 ≤ m) (k1 : m < 256 ^ sz) (h : by8 (leB n sz) = by8 (leB m sz)) : n = m := by
  rw [← num_leB sz n h0 h1, ← num_leB sz m k0 k1, h]
theorem by8_leB_length (n : Int) (sz : Nat) : (by8 (leB n sz)).length = sz := by rw [by8_length, leB_length]
theorem num_append (l m : List UInt8) : num (l ++ m) = num l + num m * 256 ^ l.length := by
  induction l with
  | nil => simp [num]
  | cons c l ih =>
    have e : (256 : Int) ^ (c :: l).length = 256 ^ l.length * 256 := Int.pow_succ ..
    rw [List.cons_append, num, ih, num, e, Int.mul_add]
    have : 256 * (num m * 256 ^ l.length) = num m * (256 ^ l.length * 256) := by rw [Int.mul_comm 256, Int.mul_assoc]
    omega
theorem leval_num (s : ByteArray) (p : Nat) : ∀ j : Nat, p + j ≤ s.size → leval s p j = num ((s.data.toList.drop p).take j) := by
  intro j
  induction j with
  | zero => intro _; simp [leval, num]
  | succ j ih =>
    intro h
    have hl : j < (s.data.toList.drop p).length := by rw [List.length_drop, len_data]; omega
    rw [leval, ih (by omega), List.take_succ_eq_append_getElem hl, num_append]
    have e1 : ((p : Int) + (j : Int)) = ((p + j : Nat) : Int) := by omega
    have e2 : (List.take j (List.drop p s.data.toList)).length = j := by rw [List.length_take]; omega
    rw [e1, bt_data s (p + j) (by omega), e2, List.getElem_drop]
    simp [num]
theorem bt_get (s : ByteArray) (i : Nat) (h : i < s.size) : bt s i = ((s.data.toList.getD i 0).toNat : Int) := by
  rw [bt_data s i h, List.getD_eq_getElem?_getD, List.getElem?_eq_getElem (by rw [len_data]; exact h)]; rfl
theorem wf_i64 {x : Int} (h : (Lit.int .i64 x).wf = true) : -9223372036854775808 ≤ x ∧ x ≤ 9223372036854775807 := by
  simp [Lit.wf, IntKind.min, IntKind.max, IntKind.bits, IntKind.signed] at h; omega
theorem wf_u32 {x : Int} (h : (Lit.int .u32 x).wf = true) : 0 ≤ x ∧ x < 4294967296 := by
  simp [Lit.wf, IntKind.min, IntKind.max, IntKind.bits, IntKind.signed] at h; omega
theorem wf_u64 {x : Int} (h : (Lit.int .u64 x).wf = true) : 0 ≤ x ∧ x < 18446744073709551616 := by
  simp [Lit.wf, IntKind.min, IntKind.max, IntKind.bits, IntKind.signed] at h; omega
theorem wf_u8 {x : Int} (h : (Lit.int .u8 x).wf = true) : 0 ≤ x ∧ x < 256 := by
  simp [Lit.wf, IntKind.min, IntKind.max, IntKind.bits, IntKind.signed] at h; omega
end Go.Proofs.Ytoeklekjhaigoaa.QNum
