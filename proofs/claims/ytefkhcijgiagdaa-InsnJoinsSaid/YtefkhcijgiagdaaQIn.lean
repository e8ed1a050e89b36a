import Derived.Test.YtefkhcijgiagdaaI1x5
import Derived.Test.YtefkhcijgiagdaaQLe
import Derived.Test.YtefkhcijgiagdaaHPut
import Derived.Test.YtefkhcijgiagdaaQNum
/- What insn's functions answer, in plain words. -/
namespace Go.Proofs.Ytefkhcijgiagdaa.QIn
open Go.RowKit Go.Proofs.YtefkhcijgiagdaaW.PrintWords Go.Proofs.YtefkhcijgiagdaaW.PrintLast Go.Proofs.YtefkhcijgiagdaaW.PrintMore Go.Proofs.Ytefkhcijgiagdaa.Le Go.Proofs.Ytefkhcijgiagdaa.QLe Go.Proofs.Ytefkhcijgiagdaa.QNum Go.Proofs.Ytefkhcijgiagdaa.HKnown Go.Proofs.Ytefkhcijgiagdaa.HPut Go.Proofs.Ytefkhcijgiagdaa.I1
set_option linter.unusedVariables false
set_option linter.unusedSimpArgs false
theorem alive_ok : doorwardlaw10_alive.f = some true := by rfl
theorem put_f (a b c d : Int) (ha : -9223372036854775808 ≤ a ∧ a ≤ 9223372036854775807) (hb : -9223372036854775808 ≤ b ∧ b ≤ 9223372036854775807) (hc : -9223372036854775808 ≤ c ∧ c ≤ 9223372036854775807) (hd : 0 ≤ d ∧ d < 4294967296) :
    insn_Put.f a b c d = some (if putOk a b c = true then (putOut a b c d 4, 0) else (⟨#[]⟩, 1)) := by
  unfold insn_Put.f
  rw [if_pos ⟨⟨ha.1, ha.2, hb.1, hb.2⟩, hc.1, hc.2, hd.1, hd.2⟩]
def bytes (a b c d : Int) : List UInt8 := by8 (leB a 2) ++ by8 (leB b 1) ++ by8 (leB c 1) ++ by8 (leB d 4)
theorem putOut_data (a b c d : Int) : (putOut a b c d 4).data.toList = bytes a b c d := by
  have e0 : (⟨#[]⟩ : ByteArray).data.toList = [] := rfl
  simp only [putOut, app_data, sON_by8, bytes, e0, List.nil_append]
theorem bytes_length (a b c d : Int) : (bytes a b c d).length = 8 := by simp only [bytes, List.length_append, by8_leB_length]
theorem putOut_size8 (a b c d : Int) : (putOut a b c d 4).size = 8 := by rw [← len_data, putOut_data, bytes_length]
theorem putOk_iff (a b c : Int) : putOk a b c = true ↔ 0 ≤ a ∧ a < 65536 ∧ 0 ≤ b ∧ b < 256 ∧ 0 ≤ c ∧ c < 256 := by unfold putOk; exact decide_eq_true_iff
theorem bytes_inj (a b c d a' b' c' d' : Int) (h : putOk a b c = true) (h' : putOk a' b' c' = true) (hd : 0 ≤ d ∧ d < 4294967296) (hd' : 0 ≤ d' ∧ d' < 4294967296) (e : bytes a b c d = bytes a' b' c' d') : a = a' ∧ b = b' ∧ c = c' ∧ d = d' := by
  obtain ⟨a0, a1, b0, b1, c0, c1⟩ := (putOk_iff a b c).1 h
  obtain ⟨a0', a1', b0', b1', c0', c1'⟩ := (putOk_iff a' b' c').1 h'
  have p2 : (256 : Int) ^ 2 = 65536 := by decide
  have p4 : (256 : Int) ^ 4 = 4294967296 := by decide
  unfold bytes at e
  obtain ⟨e1, e4⟩ := List.append_inj e (by simp only [List.length_append, by8_leB_length])
  obtain ⟨e1, e3⟩ := List.append_inj e1 (by simp only [List.length_append, by8_leB_length])
  obtain ⟨e1, e2⟩ := List.append_inj e1 (by simp only [by8_leB_length])
  exact ⟨leB_inj 2 a a' a0 (by omega) a0' (by omega) e1, leB_inj 1 b b' b0 (by omega) b0' (by omega) e2, leB_inj 1 c c' c0 (by omega) c0' (by omega) e3, leB_inj 4 d d' hd.1 (by omega) hd'.1 (by omega) e4⟩
end Go.Proofs.Ytefkhcijgiagdaa.QIn
