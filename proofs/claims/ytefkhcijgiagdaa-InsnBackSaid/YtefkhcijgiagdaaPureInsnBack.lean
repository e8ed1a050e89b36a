/- InsnBack: a filter of known codes that is written is read again; what is read of any bytes, written, is the bytes. -/
import Derived.Test.YtefkhcijgiagdaaStatInsnBack
import Derived.Test.YtefkhcijgiagdaaPInsnBackx1
import Derived.Test.YtefkhcijgiagdaaHKnown
import Derived.Test.YtefkhcijgiagdaaQLe
import Derived.Test.YtefkhcijgiagdaaI1x0
import Derived.Test.YtefkhcijgiagdaaI1x2
import Derived.Test.YtefkhcijgiagdaaI1x5
import Derived.Test.YtefkhcijgiagdaaHAll
import Derived.Test.YtefkhcijgiagdaaQIn
import Derived.Test.YtefkhcijgiagdaaQNum
import Derived.Test.YtefkhcijgiagdaaQAll
import Derived.Test.YtefkhcijgiagdaaQIn3
import Derived.Test.YtefkhcijgiagdaaQIn2
namespace Go.Proofs.Ytefkhcijgiagdaa.Pure
open Go.RowKit Go.Proofs.Ytefkhcijgiagdaa.StatInsnBack Go.Proofs.YtefkhcijgiagdaaW.PrintWords Go.Proofs.YtefkhcijgiagdaaW.PrintMore Go.Proofs.Ytefkhcijgiagdaa.PInsnBack Go.Proofs.Ytefkhcijgiagdaa.QLe Go.Proofs.Ytefkhcijgiagdaa.QNum Go.Proofs.Ytefkhcijgiagdaa.QIn Go.Proofs.Ytefkhcijgiagdaa.QAll Go.Proofs.Ytefkhcijgiagdaa.HKnown Go.Proofs.Ytefkhcijgiagdaa.HPut Go.Proofs.Ytefkhcijgiagdaa.HAll Go.Proofs.Ytefkhcijgiagdaa.I1
set_option linter.unusedSimpArgs false
theorem rg_back {l : List S28} (h : ∀ x ∈ l, Q28 x) : ∀ i ∈ l, rgI i := fun i hi => ⟨wf_i64 (h i hi).1, wf_i64 (h i hi).2.1, wf_i64 (h i hi).2.2.1, (wf_u32 (h i hi).2.2.2).1, (wf_u32 (h i hi).2.2.2).2⟩
theorem readR_some (s : List UInt8) (h1 : s.length ≤ 32768) (h2 : s.length % 8 = 0) (m : List S28) (e : readN (s.length / 8) s = some m) : readR s = (m, 0) := by
  unfold readR; rw [if_neg (show ¬ 32768 < s.length by omega), if_neg (show ¬ s.length % 8 ≠ 0 by omega), e]
theorem readR_none (s : List UInt8) (h1 : s.length ≤ 32768) (e : s.length % 8 ≠ 0 ∨ readN (s.length / 8) s = none) : readR s = ([], 50) := by
  unfold readR; rw [if_neg (show ¬ 32768 < s.length by omega)]
  by_cases h2 : s.length % 8 = 0
  · rw [if_neg (show ¬ s.length % 8 ≠ 0 by omega), e.resolve_left (by omega)]
  · rw [if_pos h2]
theorem back_j1 (s : ByteArray) (hs : s.size ≤ 3000) (k : Nat) (hk : 5000 ≤ k) : doorwardlaw10_InsnBack.j1 (k + 1) s = some true := by
  simp only [doorwardlaw10_InsnBack.j1]
  rw [read_f s k hk]
  simp only [Option.bind_some]
  have hl : s.data.toList.length = s.size := len_data s
  have bad : readR s.data.toList = ([], 50) → (if (readR s.data.toList).2 = 0 then ((insn_All.f (readR s.data.toList).1).bind fun bt118 => ((doorwardlaw10_alive.f).bind fun t120 => (if t120 = true then (if bt118.2 = 0 then (some (bt118.1.toList == s.toList)) else (some false)) else (some false)))) else ((doorwardlaw10_alive.f).bind fun t121 => (if t121 = true then (some (((readR s.data.toList).1.length : Int) == 0)) else (some false)))) = some true := by
    intro h
    rw [h, QIn.alive_ok]; rfl
  by_cases hm : s.size % 8 = 0
  · cases e : readN (s.data.toList.length / 8) s.data.toList with
    | none => exact bad (readR_none _ (by omega) (Or.inr e))
    | some m =>
      obtain ⟨h1, h2⟩ := all_read (s.data.toList.length / 8) s.data.toList m (by omega) e
      have hlen := readN_len _ _ _ e
      rw [readR_some _ (by omega) (by omega) m e]
      simp only [if_true]
      rw [all_f m (by omega) (fun i hi => (h2 i hi).1), QIn.alive_ok]
      simp only [Option.bind_some, if_true]
      have ha : allR m = (⟨s.data.toList.toArray⟩, 0) := by unfold allR; rw [if_neg (show ¬ 4096 < m.length by omega), h1]
      have : (⟨s.data.toList.toArray⟩ : ByteArray) = s := ba_ext (by simp)
      rw [ha, this]; simp
  · exact bad (readR_none _ (by omega) (Or.inl (by omega)))
theorem back_tail (l : List S28) (hl : l.length ≤ 4096) (s : ByteArray) (hs : s.size ≤ 3000) (k : Nat) (hk : 5000 ≤ k) (x : List UInt8) (hx : x.length = 8 * l.length) (b : Bool) (hrd : readN l.length x = if b = true then some l else none) :
    (if ((⟨x.toArray⟩ : ByteArray).size : Int) = (wrap64 (8 * (l.length : Int))) then (if (b != ((readR x).2 == 0)) = true then (some false) else (if b = true then ((doorwardref10_Like.f (k + 1) l (readR x).1).bind fun t113 => (if t113 = true then (doorwardlaw10_InsnBack.j1 (k + 1) s) else (some false))) else (doorwardlaw10_InsnBack.j1 (k + 1) s))) else (some false)) = some true := by
  have hsz : (⟨x.toArray⟩ : ByteArray).size = x.length := by rw [← len_data]
  have h8 : x.length / 8 = l.length := by omega
  have hm : x.length % 8 = 0 := by omega
  have hle : x.length ≤ 32768 := by omega
  have hwx : ((x.length : Nat) : Int) = wrap64 (8 * (l.length : Int)) := by rw [w64 _ (by omega) (by omega)]; omega
  have hj := back_j1 s hs k hk
  rw [hsz, if_pos hwx]
  cases b
  · have hR := readR_none x hle (Or.inr (by rw [h8]; exact hrd))
    rw [hR]
    rw [if_neg (show ¬ (false != ((50 : Int) == 0)) = true by decide), if_neg (show ¬ (false = true) by decide)]
    exact hj
  · have hR := readR_some x hle hm l (by rw [h8]; exact hrd)
    have hlk := like_self l (by omega) (k + 1) (by omega)
    rw [hR]
    rw [if_neg (show ¬ (true != ((0 : Int) == 0)) = true by decide), if_pos (show true = true from rfl)]
    show ((doorwardref10_Like.f (k + 1) l l).bind fun t113 => (if t113 = true then (doorwardlaw10_InsnBack.j1 (k + 1) s) else (some false))) = some true
    rw [hlk, Option.bind_some, if_pos rfl]
    exact hj
theorem back_end (l : List S28) (hl : l.length ≤ 4100) (hr : ∀ i ∈ l, rgI i) (s : ByteArray) (hs : s.size ≤ 3000) (k : Nat) (hk : 5000 ≤ k) :
    ((insn_All.f l).bind fun bt107 => (if bt107.2 = 0 then ((insn_Read.f (k + 1) bt107.1).bind fun bt109 => (if (bt107.1.size : Int) = (wrap64 (8 * (l.length : Int))) then (if ((l.all fun x => knownB x.f0) != (bt109.2 == 0)) = true then (some false) else (if (l.all fun x => knownB x.f0) = true then ((doorwardref10_Like.f (k + 1) l bt109.1).bind fun t113 => (if t113 = true then (doorwardlaw10_InsnBack.j1 (k + 1) s) else (some false))) else (doorwardlaw10_InsnBack.j1 (k + 1) s))) else (some false))) else (doorwardlaw10_InsnBack.j1 (k + 1) s))) = some true := by
  have hj := back_j1 s hs k hk
  rw [all_f l (by omega) hr]
  simp only [Option.bind_some]
  by_cases hb : 4096 < l.length
  · have e : allR l = (⟨#[]⟩, 2) := by unfold allR; rw [if_pos hb]
    rw [e, if_neg (show ¬ ((2 : Int) = 0) by decide)]; exact hj
  · cases e : allB l with
    | none =>
      have e2 : allR l = (⟨#[]⟩, 1) := by unfold allR; rw [if_neg hb, e]
      rw [e2, if_neg (show ¬ ((1 : Int) = 0) by decide)]; exact hj
    | some x =>
      have e2 : allR l = (⟨x.toArray⟩, 0) := by unfold allR; rw [if_neg hb, e]
      have hx := allB_length l x e
      have hrd := read_all l x e (fun i hi => (hr i hi).2.2.2)
      have hrf := read_f (⟨x.toArray⟩ : ByteArray) (k + 1) (by omega)
      have ht := back_tail l (by omega) s hs k hk x hx _ hrd
      rw [e2, if_pos (show (0 : Int) = 0 from rfl)]
      show ((insn_Read.f (k + 1) (⟨x.toArray⟩ : ByteArray)).bind _) = some true
      rw [hrf, Option.bind_some]
      exact ht
theorem back_loop (l : List S28) (hl : l.length ≤ 4100) (hr : ∀ i ∈ l, rgI i) (s : ByteArray) (hs : s.size ≤ 3000) : ∀ n i : Nat, i + n = l.length → ∀ k, 6000 + n < k → doorwardlaw10_InsnBack.l0 k l s ((l.take i).all fun x => knownB x.f0) l (l.length : Int) i = some true := by
  intro n
  induction n with
  | zero =>
    intro i hi k hk
    obtain ⟨k, rfl⟩ : ∃ m, k = m + 1 + 1 := ⟨k - 2, by omega⟩
    have he := back_end l hl hr s hs k (by omega)
    have ht : l.take i = l := List.take_of_length_le (by omega)
    simp only [doorwardlaw10_InsnBack.l0]
    rw [if_neg (by omega), ht]
    exact he
  | succ n ih =>
    intro i hi k hk
    obtain ⟨k, rfl⟩ : ∃ m, k = m + 1 := ⟨k - 1, by omega⟩
    have hlt : i < l.length := by omega
    have next := ih (i + 1) (by omega) k (by omega)
    rw [List.take_succ_eq_append_getElem hlt, List.all_append] at next
    have hw : wrap64 ((i : Int) + 1) = ((i + 1 : Nat) : Int) := by rw [w64 _ (by omega) (by omega)]; rfl
    have hrdx := rd28 l i hlt
    simp only [doorwardlaw10_InsnBack.l0]
    rw [if_pos (by omega), if_pos (by omega), if_pos (by omega), hrdx, known_f, hw]
    simp only [Option.bind_some]
    cases hb : (l.take i).all fun x => knownB x.f0
    · rw [hb] at next
      rw [if_neg (by decide)]; simpa using next
    · rw [hb] at next
      rw [if_pos rfl]; simpa using next
theorem InsnBack : StatInsnBack.Stat := by
  intro l s _ _ hq hs
  refine ⟨20000, ?_⟩
  unfold doorwardlaw10_InsnBack.f
  obtain ⟨a, ha, hl, hm⟩ := few_f l
  have hr := rg_back hq
  have e : mn (s.size : Int) 3000 = ((min s.size 3000 : Nat) : Int) := by unfold mn; split <;> omega
  rw [ha]
  simp only [Option.bind_some]
  rw [e, if_pos (by omega), if_pos (by omega)]
  exact back_loop a hl (fun i hi => hr i (hm i hi)) _ (by rw [ByteArray.size_extract]; omega) a.length 0 (by omega) 20000 (by omega)
end Go.Proofs.Ytefkhcijgiagdaa.Pure
