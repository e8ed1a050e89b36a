/- InsnOne: two instructions that may be written have the same bytes just if they are the same; for all instructions. -/
import Derived.Test.YtefkhcijgiagdaaStatInsnOne
import Derived.Test.YtefkhcijgiagdaaQIn
namespace Go.Proofs.Ytefkhcijgiagdaa.Pure
open Go.RowKit Go.Proofs.Ytefkhcijgiagdaa.StatInsnOne Go.Proofs.YtefkhcijgiagdaaW.PrintWords Go.Proofs.Ytefkhcijgiagdaa.PInsnOne Go.Proofs.Ytefkhcijgiagdaa.QLe Go.Proofs.Ytefkhcijgiagdaa.QNum Go.Proofs.Ytefkhcijgiagdaa.QIn Go.Proofs.Ytefkhcijgiagdaa.HKnown Go.Proofs.Ytefkhcijgiagdaa.HPut Go.Proofs.Ytefkhcijgiagdaa.I1
theorem InsnOne : StatInsnOne.Stat := by
  rintro ⟨a, b, c, d⟩ ⟨a', b', c', d'⟩ ⟨ha, hb, hc, hd⟩ ⟨ha', hb', hc', hd'⟩
  refine ⟨1, ?_⟩
  unfold doorwardlaw10_InsnOne.f
  simp only
  have h1 := put_f a b c d (wf_i64 ha) (wf_i64 hb) (wf_i64 hc) (wf_u32 hd)
  have h2 := put_f a' b' c' d' (wf_i64 ha') (wf_i64 hb') (wf_i64 hc') (wf_u32 hd')
  rw [h1, h2]
  simp only [Option.bind_some, doorwardlaw10_InsnOne.j0, alive_ok]
  by_cases p : putOk a b c = true
  · by_cases q : putOk a' b' c' = true
    · rw [if_pos p, if_pos q]
      simp only [putOut_size8]
      have e : ((putOut a b c d 4).toList == (putOut a' b' c' d' 4).toList) = (a == a' && (b == b' && (c == c' && (d == d')))) := by
        rw [ByteArray.toList_eq, ByteArray.toList_eq, putOut_data, putOut_data]
        by_cases h : a = a' ∧ b = b' ∧ c = c' ∧ d = d'
        · obtain ⟨rfl, rfl, rfl, rfl⟩ := h
          simp
        · have h3 : ¬ QIn.bytes a b c d = QIn.bytes a' b' c' d' := fun e => h (bytes_inj a b c d a' b' c' d' p q (wf_u32 hd) (wf_u32 hd') e)
          rw [beq_eq_false_iff_ne.mpr h3]
          symm
          rw [Bool.eq_false_iff]
          intro h4
          simp only [Bool.and_eq_true, beq_iff_eq] at h4
          exact h h4
      rw [e]
      simp
    · rw [if_pos p, if_neg q]
      have e0 : (⟨#[]⟩ : ByteArray).toList = ([] : List UInt8) := ByteArray.toList_eq _
      simp [e0]
  · by_cases q : putOk a' b' c' = true
    · rw [if_neg p, if_pos q]
      have e0 : (⟨#[]⟩ : ByteArray).toList = ([] : List UInt8)   := ByteArray.toList_eq _
      simp [e0]
    · rw [if_neg p, if_neg q]
      have e0 : (⟨#[]⟩ : ByteArray).toList = ([] : List UInt8)   := ByteArray.toList_eq _
      simp [e0]
end Go.Proofs.Ytefkhcijgiagdaa.Pure
