/- InsnJoins: two filters one behind the other are their bytes one behind the other, as long as they are few enough. -/
import Derived.Test.YtefkhcijgiagdaaStatInsnJoins
import Derived.Test.YtefkhcijgiagdaaPInsnJoinsx1
import Derived.Test.YtefkhcijgiagdaaHKnown
import Derived.Test.YtefkhcijgiagdaaQLe
import Derived.Test.YtefkhcijgiagdaaI1x0
import Derived.Test.YtefkhcijgiagdaaHAll
import Derived.Test.YtefkhcijgiagdaaQIn
import Derived.Test.YtefkhcijgiagdaaQNum
import Derived.Test.YtefkhcijgiagdaaQAll
import Derived.Test.YtefkhcijgiagdaaQIn3
namespace Go.Proofs.Ytefkhcijgiagdaa.Pure
open Go.RowKit Go.Proofs.Ytefkhcijgiagdaa.StatInsnJoins Go.Proofs.YtefkhcijgiagdaaW.PrintWords Go.Proofs.YtefkhcijgiagdaaW.PrintMore Go.Proofs.Ytefkhcijgiagdaa.PInsnJoins Go.Proofs.Ytefkhcijgiagdaa.QLe Go.Proofs.Ytefkhcijgiagdaa.QNum Go.Proofs.Ytefkhcijgiagdaa.QIn Go.Proofs.Ytefkhcijgiagdaa.QAll Go.Proofs.Ytefkhcijgiagdaa.HKnown Go.Proofs.Ytefkhcijgiagdaa.HPut Go.Proofs.Ytefkhcijgiagdaa.HAll Go.Proofs.Ytefkhcijgiagdaa.I1
set_option linter.unusedSimpArgs false
theorem rg_joins {l : List S28} (h : ∀ x ∈ l, Q28 x) : ∀ i ∈ l, rgI i := fun i hi => ⟨wf_i64 (h i hi).1, wf_i64 (h i hi).2.1, wf_i64 (h i hi).2.2.1, (wf_u32 (h i hi).2.2.2).1, (wf_u32 (h i hi).2.2.2).2⟩
theorem readN_append : ∀ (n p : Nat) (x y : List UInt8), x.length = 8 * n → readN (n + p) (x ++ y) = (readN n x).bind fun a => (readN p y).map (a ++ ·) := by
  intro n
  induction n with
  | zero =>
    intro p x y hx
    obtain rfl : x = [] := List.eq_nil_of_length_eq_zero (by omega)
    rw [Nat.zero_add]
    simp [readN]
  | succ n ih =>
    intro p x y hx
    rw [show n + 1 + p = (n + p) + 1 by omega, readN, readN, List.take_append_of_le_length (by omega), List.drop_append_of_le_length (by omega)]
    split
    · rename_i h0
      rw [ih p (x.drop 8) y (by rw [List.length_drop]; omega)]
      cases readN n (x.drop 8) with
      | none => rfl
      | some a => cases readN p y <;> rfl
    · rfl
theorem joins_f (l m : List S28) (hl : l.length ≤ 200) (hm : m.length ≤ 200) (kl : ∀ i ∈ l, rgI i) (km : ∀ i ∈ m, rgI i) (k : Nat) (hk : 5000 ≤ k) :
    (if (allR l).2 = 0 then (doorwardlaw10_InsnJoins.j0 (k + 1) m (allR l).1 (allR m).1 (allR (l ++ m)).1 (allR (l ++ m)).2 ((allR m).2 != 0)) else (doorwardlaw10_InsnJoins.j0 (k + 1) m (allR l).1 (allR m).1 (allR (l ++ m)).1 (allR (l ++ m)).2 true)) = some true := by
  have el : allR l = match allB l with | some x => (⟨x.toArray⟩, 0) | none => (⟨#[]⟩, 1) := by unfold allR; rw [if_neg (by omega)] <;> rfl
  have em : allR m = match allB m with | some x => (⟨x.toArray⟩, 0) | none => (⟨#[]⟩, 1) := by unfold allR; rw [if_neg (by omega)] <;> rfl
  have eb : allR (l ++ m) = match allB (l ++ m) with | some x => (⟨x.toArray⟩, 0) | none => (⟨#[]⟩, 1) := by unfold allR; rw [if_neg (by rw [List.length_append]; omega)] <;> rfl
  rw [el, em, eb, allB_append]
  have bad : ∀ (x y : ByteArray), doorwardlaw10_InsnJoins.j0 (k + 1) m x y (⟨#[]⟩ : ByteArray) 1 true = some true := by
    intro x y
    simp only [doorwardlaw10_InsnJoins.j0]
    have e0 : (⟨#[]⟩ : ByteArray).toList = [] := by rw [ByteArray.toList_eq]
    rw [if_pos trivial, QIn.alive_ok]
    simp only [Option.bind_some, if_true]
    rw [e0]; rfl
  cases e1 : allB l with
  | none => simp only [Option.bind_none]; rw [if_neg (by decide)]; exact bad _ _
  | some x =>
    cases e2 : allB m with
    | none => simp only [Option.bind_some, Option.map_none]; rw [if_pos trivial]; exact bad _ _
    | some y =>
      simp only [Option.bind_some, Option.map_some]
      rw [if_pos trivial]
      simp only [doorwardlaw10_InsnJoins.j0]
      have hx := allB_length l x e1
      have hy := allB_length m y e2
      have dx : (⟨x.toArray⟩ : ByteArray).data.toList = x := by simp
      have dy : (⟨y.toArray⟩ : ByteArray).data.toList = y := by simp
      have sx : (⟨x.toArray⟩ : ByteArray).size = x.length := by rw [← len_data, dx]
      have sy : (⟨y.toArray⟩ : ByteArray).size = y.length := by rw [← len_data, dy]
      have hxy : (⟨x.toArray⟩ : ByteArray) ++ (⟨y.toArray⟩ : ByteArray) = (⟨(x ++ y).toArray⟩ : ByteArray) := ba_ext (by rw [app_data, dx, dy])
      have dxy : (⟨(x ++ y).toArray⟩ : ByteArray).data.toList = x ++ y := by simp
      have hle : (⟨x.toArray⟩ : ByteArray).size + (⟨y.toArray⟩ : ByteArray).size ≤ 9223372036854775807 := by omega
      rw [if_neg (by decide), read_f _ k hk]
      simp only [Option.bind_some]
      rw [if_pos hle, hxy, read_f _ k hk, QIn.alive_ok]
      simp only [Option.bind_some, if_true]
      have r1 := read_all l x e1 (fun i hi => (kl i hi).2.2.2)
      have r2 := read_all m y e2 (fun i hi => (km i hi).2.2.2)
      have ra := readN_append l.length m.length x y hx
      have q1 : readR x = match readN l.length x with | some l => (l, 0) | none => ([], 50) := by
        unfold readR; rw [if_neg (by omega), if_neg (by omega), show x.length / 8 = l.length by omega]; rfl
      have q2 : readR (x ++ y) = match readN (l.length + m.length) (x ++ y) with | some l => (l, 0) | none => ([], 50) := by
        unfold readR; rw [List.length_append, if_neg (by omega), if_neg (by omega), show (x.length + y.length) / 8 = l.length + m.length by omega]; rfl
      rw [q1, q2, ra, r1, r2]
      cases k1 : l.all fun i => knownB i.f0
      · simp
      · cases k2 : m.all fun i => knownB i.f0
        · simp
        · simp only [if_true, Option.bind_some, Option.map_some]
          rw [w64 _ (by omega) (by omega), if_pos (by rw [List.length_append]; omega), if_pos (by omega), if_pos (by rw [List.length_append]; omega), Int.toNat_natCast, List.take_left, like_self l (by omega) k (by omega)]
          rfl
theorem InsnJoins : StatInsnJoins.Stat := by
  intro l m _ _ hl _ _ hm
  obtain ⟨K, hK⟩ : ∃ K : Nat, 6000 ≤ K := ⟨6000, Nat.le_refl _⟩
  refine ⟨K + 1, ?_⟩
  unfold doorwardlaw10_InsnJoins.f
  have e1 : mn (l.length : Int) 200 = ((min l.length 200 : Nat) : Int) := by unfold mn; split <;> omega
  have e2 : mn (m.length : Int) 200 = ((min m.length 200 : Nat) : Int) := by unfold mn; split <;> omega
  rw [e1, if_pos (by omega), if_pos (by omega)]
  simp only [Option.bind_some]
  rw [e2, if_pos (by omega), if_pos (by omega)]
  simp only [Int.toNat_natCast]
  have rl := rg_joins hl
  have rm := rg_joins hm
  have q1 : ∀ i ∈ l.take (min l.length 200), rgI i := fun o ho => rl o (List.mem_of_mem_take ho)
  have q2 : ∀ i ∈ m.take (min m.length 200), rgI i := fun o ho => rm o (List.mem_of_mem_take ho)
  have z1 : (l.take (min l.length 200)).length ≤ 200 := by rw [List.length_take]; omega
  have z2 : (m.take (min m.length 200)).length ≤ 200 := by rw [List.length_take]; omega
  generalize l.take (min l.length 200) = a at *
  generalize m.take (min m.length 200) = b at *
  rw [all_f a (by omega) q1, all_f b (by omega) q2]
  simp only [Option.bind_some, List.nil_append, List.length_nil, Nat.zero_add]
  rw [if_pos (by omega), if_pos (by omega), all_f (a ++ b) (by rw [List.length_append]; omega) (fun i hi => (List.mem_append.1 hi).elim (q1 i) (q2 i))]
  simp only [Option.bind_some]
  exact joins_f a b z1 z2 q1 q2 K (by omega)
end Go.Proofs.Ytefkhcijgiagdaa.Pure
