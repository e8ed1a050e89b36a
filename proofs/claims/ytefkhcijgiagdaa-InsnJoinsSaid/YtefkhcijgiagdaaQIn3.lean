import Derived.Test.YtefkhcijgiagdaaQIn2
import Derived.Test.YtefkhcijgiagdaaQIn
import Derived.Test.YtefkhcijgiagdaaI1x0
import Derived.Test.YtefkhcijgiagdaaHKnown
import Derived.Test.YtefkhcijgiagdaaQLe
import Derived.Test.YtefkhcijgiagdaaHPut
import Derived.Test.YtefkhcijgiagdaaQNum
import Derived.Test.YtefkhcijgiagdaaHAll
/- Filters as bytes, there and back: plain. -/
namespace Go.Proofs.Ytefkhcijgiagdaa.QIn
open Go.RowKit Go.Proofs.YtefkhcijgiagdaaW.PrintWords Go.Proofs.YtefkhcijgiagdaaW.PrintLast Go.Proofs.YtefkhcijgiagdaaW.PrintMore Go.Proofs.Ytefkhcijgiagdaa.Le Go.Proofs.Ytefkhcijgiagdaa.QLe Go.Proofs.Ytefkhcijgiagdaa.QNum Go.Proofs.Ytefkhcijgiagdaa.QRef01 Go.Proofs.Ytefkhcijgiagdaa.HKnown Go.Proofs.Ytefkhcijgiagdaa.HPut Go.Proofs.Ytefkhcijgiagdaa.HAll Go.Proofs.Ytefkhcijgiagdaa.I1
set_option linter.unusedVariables false
set_option linter.unusedSimpArgs false
theorem by8_one (b : Int) : by8 (leB b 1) = [UInt8.ofNat (b % 256).toNat] := by
  simp [by8, leB, List.range_succ]
theorem get_bytes (a b c d : Int) (h : putOk a b c = true) (hd : 0 ≤ d ∧ d < 4294967296) : getS (bytes a b c d) = if knownB a = true then (a, b, c, d, 0) else (0, 0, 0, 0, 50) := by
  obtain ⟨a0, a1, b0, b1, c0, c1⟩ := (putOk_iff a b c).1 h
  have p2 : (256 : Int) ^ 2 = 65536 := by decide
  have p4 : (256 : Int) ^ 4 = 4294967296 := by decide
  have l2 : (by8 (leB a 2)).length = 2 := by8_leB_length a 2
  have l4 : (by8 (leB d 4)).length = 4 := by8_leB_length d 4
  have e : bytes a b c d = by8 (leB a 2) ++ (UInt8.ofNat (b % 256).toNat :: UInt8.ofNat (c % 256).toNat :: by8 (leB d 4)) := by
    unfold bytes; rw [by8_one, by8_one]; simp
  have ec : codeOf (bytes a b c d) = a := by
    unfold codeOf
    rw [e, List.take_append_of_le_length (by omega), List.take_of_length_le (by omega)]
    exact num_leB 2 a a0 (by omega)
  have ed : (bytes a b c d).drop 4 = by8 (leB d 4) := by
    rw [e, List.drop_append, List.drop_eq_nil_of_le (by omega), l2]; rfl
  have e2 : (bytes a b c d).getD 2 0 = UInt8.ofNat (b % 256).toNat := by
    rw [e, List.getD_eq_getElem?_getD, List.getElem?_append_right (by omega), l2]; rfl
  have e3 : (bytes a b c d).getD 3 0 = UInt8.ofNat (c % 256).toNat := by
    rw [e, List.getD_eq_getElem?_getD, List.getElem?_append_right (by omega), l2]; rfl
  unfold getS
  rw [ec, ed, e2, e3, num_leB 4 d hd.1 (by omega), UInt8.toNat_ofNat', UInt8.toNat_ofNat']
  by_cases hk : knownB a = true
  · rw [if_pos ⟨bytes_length a b c d, hk⟩, if_pos hk]
    rw [show (((b % 256).toNat % 2 ^ 8 : Nat) : Int) = b by omega, show (((c % 256).toNat % 2 ^ 8 : Nat) : Int) = c by omega]
  · rw [if_neg (fun x => hk x.2), if_neg hk]
theorem eight (l : List UInt8) (h : l.length = 8) : ∃ x0 x1 x2 x3 x4 x5 x6 x7, l = [x0, x1, x2, x3, x4, x5, x6, x7] := by
  match l, h with
  | [x0, x1, x2, x3, x4, x5, x6, x7], _ => exact ⟨_, _, _, _, _, _, _, _, rfl⟩
theorem bytes_get (l : List UInt8) (h : l.length = 8) : putOk (codeOf l) ((l.getD 2 0).toNat : Int) ((l.getD 3 0).toNat : Int) = true ∧ (0 ≤ num (l.drop 4) ∧ num (l.drop 4) < 4294967296) ∧
    bytes (codeOf l) ((l.getD 2 0).toNat : Int) ((l.getD 3 0).toNat : Int) (num (l.drop 4)) = l := by
  obtain ⟨x0, x1, x2, x3, x4, x5, x6, x7, rfl⟩ := eight l h
  have p2 : (256 : Int) ^ 2 = 65536 := by decide
  have p4 : (256 : Int) ^ 4 = 4294967296 := by decide
  have n1 := num_nonneg [x0, x1]
  have n2 := num_lt [x0, x1]
  have n3 := num_nonneg [x4, x5, x6, x7]
  have n4 := num_lt [x4, x5, x6, x7]
  have q2 : ([x0, x1] : List UInt8).length = 2 := rfl
  have q4 : ([x4, x5, x6, x7] : List UInt8).length = 4 := rfl
  rw [q2] at n2
  rw [q4] at n4
  have t2 := x2.toNat_lt
  have t3 := x3.toNat_lt
  have ec : codeOf [x0, x1, x2, x3, x4, x5, x6, x7] = num [x0, x1] := rfl
  have g2 : ([x0, x1, x2, x3, x4, x5, x6, x7] : List UInt8).getD 2 0 = x2 := rfl
  have g3 : ([x0, x1, x2, x3, x4, x5, x6, x7] : List UInt8).getD 3 0 = x3 := rfl
  have gd : ([x0, x1, x2, x3, x4, x5, x6, x7] : List UInt8).drop 4 = [x4, x5, x6, x7] := rfl
  rw [ec, g2, g3, gd]
  refine ⟨(putOk_iff _ _ _).2 ⟨n1, by omega, by omega, by omega, by omega, by omega⟩, ⟨n3, by omega⟩, ?_⟩
  unfold bytes
  rw [leB_num' [x0, x1] 2 rfl, leB_num' [x4, x5, x6, x7] 4 rfl, by8_one, by8_one]
  have u2 : UInt8.ofNat (((x2.toNat : Int) % 256).toNat) = x2 := by
    rw [show (((x2.toNat : Int) % 256).toNat) = x2.toNat by omega, UInt8.ofNat_toNat]
  have u3 : UInt8.ofNat (((x3.toNat : Int) % 256).toNat) = x3 := by
    rw [show (((x3.toNat : Int) % 256).toNat) = x3.toNat by omega, UInt8.ofNat_toNat]
  rw [u2, u3]; rfl
/-- Bytes as a filter, eight by eight. -/
def readN : Nat → List UInt8 → Option (List S28)
  | 0, _ => some []
  | n + 1, l => let g := getS (l.take 8); if g.2.2.2.2 = 0 then (readN n (l.drop 8)).map (⟨g.1, g.2.1, g.2.2.1, g.2.2.2.1⟩ :: ·) else none
def readR (s : List UInt8) : List S28 × Int := if 32768 < s.length then ([], 2) else if s.length % 8 ≠ 0 then ([], 50) else match readN (s.length / 8) s with | some l => (l, 0) | none => ([], 50)
theorem getS_err (l : List UInt8) : (getS l).2.2.2.2 = 0 ∨ (getS l).2.2.2.2 = 50 := by
  unfold getS; split
  · exact Or.inl rfl
  · exact Or.inr rfl
theorem getS_ok (l : List UInt8) : (getS l).2.2.2.2 = 0 ↔ l.length = 8 ∧ knownB (codeOf l) = true := by
  unfold getS; split
  · rename_i h; simp only [true_iff]; exact h
  · rename_i h; simp only [Int.reduceEq, false_iff]; exact h
theorem readN_len : ∀ (n : Nat) (l : List UInt8) (m : List S28), readN n l = some m → m.length = n := by
  intro n
  induction n with
  | zero => intro l m h; cases h; rfl
  | succ n ih =>
    intro l m h
    rw [readN] at h
    split at h
    · obtain ⟨y, hy, rfl⟩ := Option.map_eq_some_iff.1 h
      rw [List.length_cons, ih _ _ hy]
    · cases h
/-- What is read, written, is the bytes. -/
theorem all_read : ∀ (n : Nat) (l : List UInt8) (m : List S28), l.length = 8 * n → readN n l = some m → allB m = some l ∧ (∀ i ∈ m, rgI i ∧ okI i = true ∧ knownB i.f0 = true) := by
  intro n
  induction n with
  | zero =>
    intro l m hl h
    cases h
    obtain rfl : l = [] := List.eq_nil_of_length_eq_zero (by omega)
    exact ⟨rfl, fun i hi => absurd hi (List.not_mem_nil)⟩
  | succ n ih =>
    intro l m hl h
    rw [readN] at h
    split at h
    · rename_i h0
      obtain ⟨y, hy, rfl⟩ := Option.map_eq_some_iff.1 h
      obtain ⟨i1, i2⟩ := ih (l.drop 8) y (by rw [List.length_drop]; omega) hy
      obtain ⟨k1, k2⟩ := (getS_ok _).1 h0
      obtain ⟨b1, b2, b3⟩ := bytes_get (l.take 8) k1
      have e : getS (l.take 8) = (codeOf (l.take 8), (((l.take 8).getD 2 0).toNat : Int), (((l.take 8).getD 3 0).toNat : Int), num ((l.take 8).drop 4), 0) := by
        unfold getS; rw [if_pos ⟨k1, k2⟩]
      rw [e]
      simp only
      obtain ⟨q0, q1, q2, q3, q4, q5⟩ := (putOk_iff _ _ _).1 b1
      have ok : okI ⟨codeOf (l.take 8), (((l.take 8).getD 2 0).toNat : Int), (((l.take 8).getD 3 0).toNat : Int), num ((l.take 8).drop 4)⟩ = true := b1
      refine ⟨?_, ?_⟩
      · rw [allB, if_pos ok, i1]
        show some (bytes _ _ _ _ ++ l.drop 8) = some l
        rw [b3, List.take_append_drop]
      · intro i hi
        rcases List.mem_cons.1 hi with rfl | hi
        · exact ⟨⟨by simp only; omega, by simp only; omega, by simp only; omega, b2⟩, ok, k2⟩
        · exact i2 i hi
    · cases h
/-- What is written is read again just if all codes are known. -/
theorem read_all : ∀ (l : List S28) (x : List UInt8), allB l = some x → (∀ i ∈ l, 0 ≤ i.f3 ∧ i.f3 < 4294967296) → readN l.length x = if l.all (fun i => knownB i.f0) = true then some l else none := by
  intro l
  induction l with
  | nil => intro x h _; rfl
  | cons i l ih =>
    intro x h hr
    rw [allB] at h
    split at h
    · rename_i ho
      obtain ⟨y, hy, rfl⟩ := Option.map_eq_some_iff.1 h
      have hi := ih y hy (fun j hj => hr j (List.mem_cons_of_mem _ hj))
      have h3 := hr i (List.mem_cons_self ..)
      have hb := get_bytes i.f0 i.f1 i.f2 i.f3 ho h3
      have t8 : (byI i ++ y).take 8 = byI i := by rw [List.take_append_of_le_length (by rw [byI_length]; omega), List.take_of_length_le (by rw [byI_length]; omega)]
      have d8 : (byI i ++ y).drop 8 = y := by rw [List.drop_append, List.drop_eq_nil_of_le (by rw [byI_length]; omega), byI_length]; rfl
      rw [List.length_cons, readN, t8, d8, hi]
      unfold byI
      rw [hb, List.all_cons]
      by_cases hk : knownB i.f0 = true
      · rw [if_pos hk, hk]
        simp only [if_true, Bool.true_and]
        split <;> rfl
      · rw [if_neg hk]
        have : knownB i.f0 = false := by simpa using hk
        rw [this]
        simp
    · cases h
end Go.Proofs.Ytefkhcijgiagdaa.QIn
