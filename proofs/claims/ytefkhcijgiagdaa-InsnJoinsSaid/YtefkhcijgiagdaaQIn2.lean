import Derived.Test.YtefkhcijgiagdaaQIn
import Derived.Test.YtefkhcijgiagdaaHKnown
import Derived.Test.YtefkhcijgiagdaaQLe
import Derived.Test.YtefkhcijgiagdaaLex1
import Derived.Test.YtefkhcijgiagdaaI1x3
import Derived.Test.YtefkhcijgiagdaaI1x2
import Derived.Test.YtefkhcijgiagdaaI1x4
import Derived.Test.YtefkhcijgiagdaaHPut
import Derived.Test.YtefkhcijgiagdaaQNum
import Derived.Test.YtefkhcijgiagdaaQRef01
/- What insn's functions and their references answer: codes, bytes, instructions. -/
namespace Go.Proofs.Ytefkhcijgiagdaa.QIn
open Go.RowKit Go.Proofs.YtefkhcijgiagdaaW.PrintWords Go.Proofs.YtefkhcijgiagdaaW.PrintLast Go.Proofs.YtefkhcijgiagdaaW.PrintMore Go.Proofs.Ytefkhcijgiagdaa.Le Go.Proofs.Ytefkhcijgiagdaa.QLe Go.Proofs.Ytefkhcijgiagdaa.QNum Go.Proofs.Ytefkhcijgiagdaa.QRef01 Go.Proofs.Ytefkhcijgiagdaa.HKnown Go.Proofs.Ytefkhcijgiagdaa.HPut Go.Proofs.Ytefkhcijgiagdaa.I1
set_option linter.unusedVariables false
set_option linter.unusedSimpArgs false
theorem known_f (c : Int) : insn_Known.f c = some (knownB c) := rfl
theorem refKnown256 : ∀ c : Fin 256, doorwardref10_Known.f 1 (c.1 : Int) = some (knownB (c.1 : Int)) := by decide +kernel
theorem refKnown (c : Int) : ∀ k, 1 ≤ k → doorwardref10_Known.f k c = some (knownB c) := by
  intro k hk
  by_cases h : 0 ≤ c ∧ c < 256
  · have h2 := refKnown256 ⟨c.toNat, by omega⟩
    have e : ((c.toNat : Nat) : Int) = c := by omega
    rw [show ((⟨c.toNat, by omega⟩ : Fin 256).1 : Int) = c from e] at h2
    exact at_rounds (g := fun k => doorwardref10_Known.f k c) (doorwardref10_Known.mono c) hk h2
  · obtain ⟨k, rfl⟩ : ∃ m, k = m + 1 := ⟨k - 1, by omega⟩
    have hf : knownB c = false := by unfold knownB; rw [decide_eq_false h]; rfl
    unfold doorwardref10_Known.f
    rw [hf]
    by_cases h0 : c < 0
    · rw [if_pos h0]; simp [doorwardref10_Known.j0]
    · rw [if_neg h0, decide_eq_true (by omega)]; simp [doorwardref10_Known.j0]
theorem refPut (a b c d : Int) (ha : -9223372036854775808 ≤ a ∧ a ≤ 9223372036854775807) (hb : -9223372036854775808 ≤ b ∧ b ≤ 9223372036854775807) (hc : -9223372036854775808 ≤ c ∧ c ≤ 9223372036854775807) (hd : 0 ≤ d ∧ d < 4294967296) :
    ∀ k, 20 ≤ k → doorwardref10_Put.f k a b c d = some (if putOk a b c = true then (putOut a b c d 4, 0) else (⟨#[]⟩, 1)) := by
  intro k hk
  obtain ⟨k, rfl⟩ : ∃ m, k = m + 1 := ⟨k - 1, by omega⟩
  unfold doorwardref10_Put.f
  by_cases h : putOk a b c = true
  · obtain ⟨a0, a1, b0, b1, c0, c1⟩ := (putOk_iff a b c).1 h
    rw [if_neg (show ¬ a < 0 by omega), if_neg (show ¬ a > 65535 by omega), if_neg (show ¬ b < 0 by omega), if_neg (show ¬ b > 255 by omega), if_neg (show ¬ c < 0 by omega), decide_eq_false (show ¬ c > 255 by omega), if_pos h]
    simp only [doorwardref10_Put.j0]
    obtain ⟨q1, h1⟩ := bytes_ok a 2 (by omega) a0 (by omega) k (by omega)
    obtain ⟨q2, h2⟩ := bytes_ok d 4 (by omega) hd.1 (by omega) k (by omega)
    have h1' : doorwardref01_Bytes.f k a 2 = some (strOfNums (leB a 2), q1) := h1
    have h2' : doorwardref01_Bytes.f k d 4 = some (strOfNums (leB d 4), q2) := h2
    rw [if_neg (by decide), u64_small a a0 (by omega), h1']
    simp only [Option.bind_some]
    rw [u64_small d hd.1 (by omega), h2']
    simp only [Option.bind_some]
    rw [if_pos (by rw [sON_size, sON_size, leB_length]; simp), if_pos (by rw [ByteArray.size_append, sON_size, sON_size, sON_size, leB_length, leB_length]; simp)]
    have e : ((strOfNums (leB a 2) ++ strOfNums [b % 256, c % 256]) ++ strOfNums (leB d 4)) = putOut a b c d 4 := by
      apply ba_ext
      rw [putOut_data]
      simp only [app_data, sON_by8, bytes]
      have e1 : by8 [b % 256, c % 256] = by8 (leB b 1) ++ by8 (leB c 1) := by
        simp [by8, leB, List.range_succ]
      rw [e1, ← List.append_assoc]
    rw [e]
  · have hn : ¬ (0 ≤ a ∧ a < 65536 ∧ 0 ≤ b ∧ b < 256 ∧ 0 ≤ c ∧ c < 256) := fun g => h ((putOk_iff a b c).2 g)
    rw [if_neg h]
    have e : doorwardref10_Put.j0 (k + 1) true a b c d = some ((⟨#[]⟩ : ByteArray), 1) := by simp [doorwardref10_Put.j0]
    by_cases h1 : a < 0
    · rw [if_pos h1, e]
    · rw [if_neg h1]
      by_cases h2 : a > 65535
      · rw [if_pos h2, e]
      · rw [if_neg h2]
        by_cases h3 : b < 0
        · rw [if_pos h3, e]
        · rw [if_neg h3]
          by_cases h4 : b > 255
          · rw [if_pos h4, e]
          · rw [if_neg h4]
            by_cases h5 : c < 0
            · rw [if_pos h5, e]
            · rw [if_neg h5, decide_eq_true (show c > 255 by omega), e]
/-- what eight bytes are read as. -/
def codeOf (l : List UInt8) : Int := num (l.take 2)
def getS (l : List UInt8) : Int × Int × Int × Int × Int :=
  if l.length = 8 ∧ knownB (codeOf l) = true then (codeOf l, ((l.getD 2 0).toNat : Int), ((l.getD 3 0).toNat : Int), num (l.drop 4), 0) else (0, 0, 0, 0, 50)
theorem get_ok (s : ByteArray) : ∀ k, 20 ≤ k → insn_Get.f k s = some (getS s.data.toList) := by
  intro k hk
  unfold insn_Get.f getS
  by_cases h : s.size = 8
  · have hl : s.data.toList.length = 8 := by rw [len_data, h]
    rw [if_pos (by omega)]
    have g1 : le_Get.f k s 0 2 = some (leval s 0 2, 2, 0) := QLe.get_ok s 0 2 (by omega) (by omega) (by omega) (by omega) (by omega) k (by omega)
    have g2 : le_Get.f k s 4 4 = some (leval s 4 4, 8, 0) := QLe.get_ok s 4 4 (by omega) (by omega) (by omega) (by omega) (by omega) k (by omega)
    rw [g1, g2]
    simp only [Option.bind_some]
    have v1 : leval s 0 2 = codeOf s.data.toList := by
      have := leval_num s 0 2 (by omega)
      simpa [codeOf] using this
    have v2 : leval s 4 4 = num (s.data.toList.drop 4) := by
      have := leval_num s 4 4 (by omega)
      rw [List.take_of_length_le (by rw [List.length_drop]; omega)] at this
      exact this
    have n1 := num_nonneg (s.data.toList.take 2)
    have n2 := num_lt (s.data.toList.take 2)
    have n3 := num_nonneg (s.data.toList.drop 4)
    have n4 := num_lt (s.data.toList.drop 4)
    have l1 : (s.data.toList.take 2).length = 2 := by rw [List.length_take]; omega
    have l2 : (s.data.toList.drop 4).length = 4 := by rw [List.length_drop]; omega
    rw [l1] at n2
    rw [l2] at n4
    have p2 : (256 : Int) ^ 2 = 65536 := by decide
    have p4 : (256 : Int) ^ 4 = 4294967296 := by decide
    have b2 := bt_get s 2 (by omega)
    have b3 := bt_get s 3 (by omega)
    have b2' : bt s 2 = ((s.data.toList.getD 2 0).toNat : Int) := b2
    have b3' : bt s 3 = ((s.data.toList.getD 3 0).toNat : Int) := b3
    have r2 := bt_range s 2
    have r3 := bt_range s 3
    have w1 : wrap64 (codeOf s.data.toList) = codeOf s.data.toList := w64 _ (by unfold codeOf; omega) (by unfold codeOf; omega)
    rw [if_pos (by omega), if_pos (by omega), v1, v2, w1, known_f]
    simp only [Option.bind_some]
    rw [w64 (bt s 2) (by omega) (by omega), w64 (bt s 3) (by omega) (by omega), b2', b3']
    by_cases hk2 : knownB (codeOf s.data.toList) = true
    · rw [if_pos hk2, if_pos ⟨hl, hk2⟩, Int.emod_eq_of_lt n3 (by omega)]
    · rw [if_neg hk2, if_neg (fun g => hk2 g.2)]
  · rw [if_neg (by omega), if_neg (fun g => h (by rw [← len_data]; exact g.1))]
theorem refGet (s : ByteArray) : ∀ k, 20 ≤ k → doorwardref10_Get.f k s = some (getS s.data.toList) := by
  intro k hk
  unfold doorwardref10_Get.f getS
  by_cases h : s.size = 8
  · have hl : s.data.toList.length = 8 := by rw [len_data, h]
    rw [if_pos (by omega), if_pos (by decide), if_pos (by omega)]
    have d1 : (s.extract 0 2).data.toList = s.data.toList.take 2 := by rw [ext_data]; simp
    have d2 : (s.extract 4 s.size).data.toList = s.data.toList.drop 4 := by rw [ext_data, h, List.take_of_length_le (by rw [List.length_drop]; omega)]
    have s1 : (s.extract 0 2).size ≤ 8 := by rw [ByteArray.size_extract]; omega
    have s2 : (s.extract 4 s.size).size ≤ 8 := by rw [ByteArray.size_extract]; omega
    rw [number_ok _ s1 k (by omega), number_ok _ s2 k (by omega), d1, d2]
    simp only [Option.bind_some]
    have n1 := num_nonneg (s.data.toList.take 2)
    have n2 := num_lt (s.data.toList.take 2)
    have n3 := num_nonneg (s.data.toList.drop 4)
    have n4 := num_lt (s.data.toList.drop 4)
    have l1 : (s.data.toList.take 2).length = 2 := by rw [List.length_take]; omega
    have l2 : (s.data.toList.drop 4).length = 4 := by rw [List.length_drop]; omega
    rw [l1] at n2
    rw [l2] at n4
    have p2 : (256 : Int) ^ 2 = 65536 := by decide
    have p4 : (256 : Int) ^ 4 = 4294967296 := by decide
    have b2' : bt s 2 = ((s.data.toList.getD 2 0).toNat : Int) := bt_get s 2 (by omega)
    have b3' : bt s 3 = ((s.data.toList.getD 3 0).toNat : Int) := bt_get s 3 (by omega)
    have r2 := bt_range s 2
    have r3 := bt_range s 3
    have w1 : wrap64 (num (s.data.toList.take 2)) = codeOf s.data.toList := w64 _ (by omega) (by omega)
    rw [if_pos (by omega), if_pos (by omega), if_pos (by omega), w1, refKnown _ k (by omega)]
    simp only [Option.bind_some]
    rw [w64 (bt s 2) (by omega) (by omega), w64 (bt s 3) (by omega) (by omega), b2', b3']
    by_cases hk2 : knownB (codeOf s.data.toList) = true
    · rw [if_pos hk2, if_pos ⟨hl, hk2⟩, Int.emod_eq_of_lt n3 (by omega)]
    · rw [if_neg hk2, if_neg (fun g => hk2 g.2)]
  · rw [if_neg (by omega), if_neg (fun g => h (by rw [← len_data]; exact g.1))]
end Go.Proofs.Ytefkhcijgiagdaa.QIn
