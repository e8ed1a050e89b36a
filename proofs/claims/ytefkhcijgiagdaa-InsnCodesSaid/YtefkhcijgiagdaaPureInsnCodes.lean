/- InsnCodes: which codes there are, the bytes of any instruction, and what any bytes are, is as the reference says, or refused; for all codes, instructions and texts. -/
import Derived.Test.YtefkhcijgiagdaaStatInsnCodes
import Derived.Test.YtefkhcijgiagdaaQIn2
namespace Go.Proofs.Ytefkhcijgiagdaa.Pure
open Go.RowKit Go.Proofs.Ytefkhcijgiagdaa.StatInsnCodes Go.Proofs.YtefkhcijgiagdaaW.PrintWords Go.Proofs.YtefkhcijgiagdaaW.PrintMore Go.Proofs.Ytefkhcijgiagdaa.PInsnCodes Go.Proofs.Ytefkhcijgiagdaa.QLe Go.Proofs.Ytefkhcijgiagdaa.QNum Go.Proofs.Ytefkhcijgiagdaa.QIn Go.Proofs.Ytefkhcijgiagdaa.HKnown Go.Proofs.Ytefkhcijgiagdaa.HPut Go.Proofs.Ytefkhcijgiagdaa.I1
theorem codes_loop (code : Int) (s : ByteArray) (a b c d : Int) (ha : -9223372036854775808 ≤ a ∧ a ≤ 9223372036854775807) (hb : -9223372036854775808 ≤ b ∧ b ≤ 9223372036854775807) (hc : -9223372036854775808 ≤ c ∧ c ≤ 9223372036854775807) (hd : 0 ≤ d ∧ d < 4294967296) :
    ∀ n i : Nat, i + n = 300 → ∀ k, 30 + n ≤ k → doorwardlaw10_InsnCodes.l0 k code s i a b c d = some true := by
  intro n
  induction n with
  | zero =>
    intro i hi k hk
    obtain ⟨k, rfl⟩ : ∃ m, k = m + 1 := ⟨k - 1, by omega⟩
    simp only [doorwardlaw10_InsnCodes.l0]
    rw [if_neg (by omega), put_f a b c d ha hb hc hd, refPut a b c d ha hb hc hd k (by omega), QIn.get_ok s k (by omega), refGet s k (by omega), alive_ok, known_f, refKnown code k (by omega)]
    simp
  | succ n ih =>
    intro i hi k hk
    obtain ⟨k, rfl⟩ : ∃ m, k = m + 1 := ⟨k - 1, by omega⟩
    simp only [doorwardlaw10_InsnCodes.l0]
    rw [if_pos (by omega), known_f, refKnown _ k (by omega)]
    simp only [Option.bind_some]
    have e : (knownB (i : Int) != knownB (i : Int)) = false := by simp
    rw [e, if_neg (by decide), w64 _ (by omega) (by omega)]
    exact ih (i + 1) (by omega) k (by omega)
theorem InsnCodes : StatInsnCodes.Stat := by
  rintro code ⟨a, b, c, d⟩ s hcode ⟨ha, hb, hc, hd⟩ hs
  obtain ⟨K, hK⟩ : ∃ K : Nat, 400 ≤ K := ⟨400, Nat.le_refl _⟩
  refine ⟨K, ?_⟩
  unfold doorwardlaw10_InsnCodes.f
  simp only
  have e : mn (s.size : Int) 20 = ((min s.size 20 : Nat) : Int) := by unfold mn; split <;> omega
  rw [e, if_pos (by omega), if_pos (by omega)]
  exact codes_loop code _ a b c d (wf_i64 ha) (wf_i64 hb) (wf_i64 hc) (wf_u32 hd) 300 0 (by omega) K (by omega)
end Go.Proofs.Ytefkhcijgiagdaa.Pure
