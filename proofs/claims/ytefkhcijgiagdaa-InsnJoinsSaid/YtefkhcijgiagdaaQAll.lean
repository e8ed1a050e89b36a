import Derived.Test.YtefkhcijgiagdaaQIn3
import Derived.Test.YtefkhcijgiagdaaQIn2
import Derived.Test.YtefkhcijgiagdaaQIn
import Derived.Test.YtefkhcijgiagdaaI1x5
import Derived.Test.YtefkhcijgiagdaaI1x0
import Derived.Test.YtefkhcijgiagdaaQLe
import Derived.Test.YtefkhcijgiagdaaI1x2
import Derived.Test.YtefkhcijgiagdaaHPut
import Derived.Test.YtefkhcijgiagdaaHAll
/- What insn.All, insn.Read and their references answer: filters as bytes. -/
namespace Go.Proofs.Ytefkhcijgiagdaa.QAll
open Go.RowKit Go.Proofs.YtefkhcijgiagdaaW.PrintWords Go.Proofs.YtefkhcijgiagdaaW.PrintLast Go.Proofs.YtefkhcijgiagdaaW.PrintMore Go.Proofs.Ytefkhcijgiagdaa.Le Go.Proofs.Ytefkhcijgiagdaa.QLe Go.Proofs.Ytefkhcijgiagdaa.QNum Go.Proofs.Ytefkhcijgiagdaa.QIn Go.Proofs.Ytefkhcijgiagdaa.HKnown Go.Proofs.Ytefkhcijgiagdaa.HPut Go.Proofs.Ytefkhcijgiagdaa.HAll Go.Proofs.Ytefkhcijgiagdaa.I1
set_option linter.unusedVariables false
set_option linter.unusedSimpArgs false
theorem all_f (l : List S28) (hl : l.length ≤ 1000000) (hr : ∀ i ∈ l, rgI i) : insn_All.f l = some (allR l) := by
  unfold insn_All.f
  rw [if_pos ⟨hl, List.all_eq_true.2 (fun i hi => by unfold rgB; exact decide_eq_true (hr i hi))⟩]
theorem empty_iff (s : ByteArray) : s.toList = [] ↔ s.size = 0 := by
  rw [ByteArray.toList_eq]
  constructor
  · intro h; rw [← len_data, h]; rfl
  · intro h; exact List.eq_nil_of_length_eq_zero (by rw [len_data, h])
theorem read_loop : ∀ (n : Nat) (s : ByteArray) (acc : List S28) (k : Nat), s.size = 8 * n → acc.length + n ≤ 10000 → n + 25 < k → insn_Read.l0 k s acc = some (match readN n s.data.toList with | some m => (acc ++ m, 0) | none => ([], 50)) := by
  intro n
  induction n with
  | zero =>
    intro s acc k hs ha hk
    obtain ⟨k, rfl⟩ : ∃ m, k = m + 1 := ⟨k - 1, by omega⟩
    simp only [insn_Read.l0]
    rw [if_pos ((empty_iff s).2 hs)]
    simp [readN]
  | succ n ih =>
    intro s acc k hs ha hk
    obtain ⟨k, rfl⟩ : ∃ m, k = m + 1 := ⟨k - 1, by omega⟩
    simp only [insn_Read.l0]
    have hd8 : (s.extract 0 8).data.toList = s.data.toList.take 8 := by rw [ext_data]; simp
    have hdr : (s.extract 8 s.size).data.toList = s.data.toList.drop 8 := by rw [ext_data, List.take_of_length_le (by rw [List.length_drop, len_data]; exact Nat.le_refl _)]
    rw [if_neg (fun h => by have := (empty_iff s).1 h; omega), if_pos (by decide), if_pos (by omega), QIn.get_ok (s.extract 0 8) k (by omega), hd8]
    simp only [Option.bind_some, readN]
    rcases getS_err (s.data.toList.take 8) with h0 | h50
    · rw [h0, if_pos rfl, if_pos (by omega), if_pos rfl, ih (s.extract 8 s.size) _ k (by rw [ByteArray.size_extract]; omega) (by rw [List.length_append]; simp; omega) (by omega), hdr]
      cases readN n (s.data.toList.drop 8) with
      | none => rfl
      | some m => simp
    · rw [h50, if_neg (by decide), if_neg (by decide)]
theorem read_f (s : ByteArray) (k : Nat) (hk : 5000 ≤ k) : insn_Read.f k s = some (readR s.data.toList) := by
  unfold insn_Read.f readR
  rw [len_data]
  by_cases hb : 32768 < s.size
  · rw [if_pos (by omega), if_pos hb]
  · rw [if_neg (by omega), if_neg hb]
    by_cases hm : s.size % 8 = 0
    · rw [if_pos (by omega), if_neg (by omega), read_loop (s.size / 8) s [] k (by omega) (by simp; omega) (by omega)]
      cases readN (s.size / 8) s.data.toList <;> simp
    · rw [if_neg (by omega), if_pos hm]
theorem refAll_loop (l : List S28) (hl : l.length ≤ 10000) (hr : ∀ i ∈ l, rgI i) : ∀ n i : Nat, i + n = l.length → ∀ (k : Nat) (out : ByteArray), n + 25 < k → out.size ≤ 8 * i → doorwardref10_All.l0 k out l (l.length : Int) i = some (match allB (l.drop i) with | some x => (out ++ ⟨x.toArray⟩, 0) | none => (⟨#[]⟩, 1)) := by
  intro n
  induction n with
  | zero =>
    intro i hi k out hk ho
    obtain ⟨k, rfl⟩ : ∃ m, k = m + 1 := ⟨k - 1, by omega⟩
    simp only [doorwardref10_All.l0]
    rw [if_neg (by omega), List.drop_eq_nil_of_le (by omega)]
    have : out ++ (⟨([] : List UInt8).toArray⟩ : ByteArray) = out := ba_ext (by rw [app_data]; simp)
    simp only [allB]
    rw [this]
  | succ n ih =>
    intro i hi k out hk ho
    obtain ⟨k, rfl⟩ : ∃ m, k = m + 1 := ⟨k - 1, by omega⟩
    have hlt : i < l.length := by omega
    simp only [doorwardref10_All.l0]
    obtain ⟨g0, g1, g2, g3⟩ := hr l[i] (List.getElem_mem hlt)
    have next := fun o h => ih (i + 1) (by omega) k o (by omega) h
    rw [if_pos (by omega), if_pos (by omega), if_pos (by omega), rd28 l i hlt, refPut _ _ _ _ g0 g1 g2 g3 k (by omega), List.drop_eq_getElem_cons hlt, w64 _ (by omega) (by omega)]
    simp only [allB]
    by_cases hok : putOk l[i].f0 l[i].f1 l[i].f2 = true
    · have hok' : okI l[i] = true := hok
      have hs := putOut_size8 l[i].f0 l[i].f1 l[i].f2 l[i].f3
      rw [if_pos hok, if_pos hok']
      simp only [Option.bind_some, if_true]
      rw [if_pos (by omega)]
      refine (next _ (by rw [ByteArray.size_append]; omega)).trans ?_
      cases allB (l.drop (i + 1)) with
      | none => rfl
      | some x =>
        simp only [Option.map_some]
        have : out ++ putOut l[i].f0 l[i].f1 l[i].f2 l[i].f3 4 ++ (⟨x.toArray⟩ : ByteArray) = out ++ (⟨(byI l[i] ++ x).toArray⟩ : ByteArray) := ba_ext (by simp only [app_data, putOut_data]; simp [byI])
        rw [this]
    · have hok' : ¬ okI l[i] = true := hok
      rw [if_neg hok, if_neg hok']
      simp
theorem refAll_f (l : List S28) (hr : ∀ i ∈ l, rgI i) (k : Nat) (hk : 5000 ≤ k) : doorwardref10_All.f k l = some (allR l) := by
  unfold doorwardref10_All.f allR
  by_cases hb : 4096 < l.length
  · rw [if_pos (by omega), if_pos hb]
  · rw [if_neg (by omega), if_neg hb, show (0 : Int) = ((0 : Nat) : Int) from rfl, refAll_loop l (by omega) hr l.length 0 (by omega) k _ (by omega) (by exact Nat.le_refl _), List.drop_zero]
    cases allB l with
    | none => rfl
    | some x =>
      have : (⟨#[]⟩ : ByteArray) ++ (⟨x.toArray⟩ : ByteArray) = (⟨x.toArray⟩ : ByteArray) := ba_ext (by rw [app_data]; simp)
      simp only [this]
      rfl
theorem refRead_loop (s : ByteArray) (hs : s.size ≤ 32768) : ∀ (n i : Nat) (acc : List S28) (k : Nat), s.size - i ≤ 8 * n → i ≤ s.size → acc.length + n ≤ 10000 → n + 25 < k →
    doorwardref10_Read.l0 k s acc i = some (if (s.size - i) % 8 = 0 then (match readN ((s.size - i) / 8) (s.data.toList.drop i) with | some m => (acc ++ m, (0 : Int)) | none => ([], 50)) else ([], 50)) := by
  intro n
  induction n with
  | zero =>
    intro i acc k hi hle ha hk
    obtain ⟨k, rfl⟩ : ∃ m, k = m + 1 := ⟨k - 1, by omega⟩
    obtain rfl : i = s.size := by omega
    simp only [doorwardref10_Read.l0]
    rw [if_neg (by omega), Nat.sub_self]
    simp [readN]
  | succ n ih =>
    intro i acc k hi hle ha hk
    obtain ⟨k, rfl⟩ : ∃ m, k = m + 1 := ⟨k - 1, by omega⟩
    simp only [doorwardref10_Read.l0]
    by_cases he : i = s.size
    · subst he
      rw [if_neg (by omega), Nat.sub_self]
      simp [readN]
    · rw [if_pos (by omega), w64 _ (by omega) (by omega)]
      by_cases h8 : s.size < i + 8
      · rw [if_pos (by omega), if_neg (by omega)]
      · have e1 : ((i : Int) + 8).toNat = i + 8 := by omega
        have hd : (s.extract i (i + 8)).data.toList = (s.data.toList.drop i).take 8 := by rw [ext_data, show i + 8 - i = 8 by omega]
        rw [if_neg (by omega), if_pos (by omega), if_pos (by omega), if_pos (by omega), Int.toNat_natCast, e1, refGet (s.extract i (i + 8)) k (by omega), hd]
        simp only [Option.bind_some]
        have hq : (s.size - i) / 8 = (s.size - (i + 8)) / 8 + 1 := by omega
        have hm : (s.size - i) % 8 = (s.size - (i + 8)) % 8 := by omega
        rw [hq, hm]
        simp only [readN]
        rcases getS_err ((s.data.toList.drop i).take 8) with h0 | h50
        · rw [h0, if_pos rfl, if_pos (by omega), if_pos rfl, List.drop_drop]
          refine (ih (i + 8) _ k (by omega) (by omega) (by rw [List.length_append]; simp; omega) (by omega)).trans ?_
          split
          · cases readN ((s.size - (i + 8)) / 8) (s.data.toList.drop (i + 8)) with
            | none => rfl
            | some m => simp
          · rfl
        · rw [h50]
          have e5 : ¬ ((50 : Int) = 0) := by decide
          simp only [if_neg e5]
          split <;> rfl
theorem refRead_f (s : ByteArray) (k : Nat) (hk : 5000 ≤ k) : doorwardref10_Read.f k s = some (readR s.data.toList) := by
  unfold doorwardref10_Read.f readR
  rw [len_data]
  by_cases hb : 32768 < s.size
  · rw [if_pos (by omega), if_pos hb]
  · rw [if_neg (by omega), if_neg hb, show (0 : Int) = ((0 : Nat) : Int) from rfl, refRead_loop s (by omega) 4100 0 [] k (by omega) (by omega) (by simp) (by omega), Nat.sub_zero, List.drop_zero]
    by_cases hm : s.size % 8 = 0
    · rw [if_pos hm, if_neg (by omega)]
      cases readN (s.size / 8) s.data.toList <;> simp
    · rw [if_neg hm, if_pos hm]
theorem few_f (l : List S28) : ∃ a : List S28, doorwardlaw10_few.f l = some a ∧ a.length ≤ 4100 ∧ ∀ x ∈ a, x ∈ l := by
  unfold doorwardlaw10_few.f
  have e1 : mn (l.length : Int) 4100 = ((min l.length 4100 : Nat) : Int) := by unfold mn; split <;> omega
  rw [e1, if_pos (show (0 : Int) ≤ ((min l.length 4100 : Nat) : Int) by omega), if_pos (show ((min l.length 4100 : Nat) : Int) ≤ (l.length : Int) by omega)]
  have B : ∃ a : List S28, some (l.take (((min l.length 4100 : Nat) : Int)).toNat) = some a ∧ a.length ≤ 4100 ∧ ∀ x ∈ a, x ∈ l :=
    ⟨_, rfl, by rw [List.length_take]; omega, fun x hx => List.mem_of_mem_take hx⟩
  split
  · split
    · rw [if_pos (by omega)]
      exact ⟨_, rfl, by rw [List.length_take]; omega, fun x hx => List.mem_of_mem_take hx⟩
    · exact B
  · exact B
theorem like_loop (a : List S28) (hl : a.length < 1000000) : ∀ n i : Nat, i + n = a.length → ∀ k, n < k → doorwardref10_Like.l0 k a a (a.length : Int) i = some true := by
  intro n
  induction n with
  | zero =>
    intro i hi k hk
    obtain ⟨k, rfl⟩ : ∃ m, k = m + 1 := ⟨k - 1, by omega⟩
    simp only [doorwardref10_Like.l0]
    rw [if_neg (by omega)]
  | succ n ih =>
    intro i hi k hk
    obtain ⟨k, rfl⟩ : ∃ m, k = m + 1 := ⟨k - 1, by omega⟩
    simp only [doorwardref10_Like.l0]
    rw [if_pos (by omega), if_pos (by omega), if_pos (by omega), if_pos (by omega), w64 _ (by omega) (by omega)]
    simp only [beq_self_eq_true, Bool.not_true, Bool.or_self]
    rw [if_neg (by decide)]
    exact ih (i + 1) (by omega) k (by omega)
theorem like_self (a : List S28) (hl : a.length < 1000000) (k : Nat) (hk : a.length < k) : doorwardref10_Like.f k a a = some true := by
  unfold doorwardref10_Like.f
  rw [if_pos rfl]
  exact like_loop a hl a.length 0 (by omega) k hk
theorem readR_len (s : List UInt8) : (readR s).1.length ≤ 4096 := by
  unfold readR
  split
  · simp
  · split
    · simp
    · cases e : readN (s.length / 8) s with
      | none => simp
      | some m => have := readN_len _ _ _ e; simp only; omega
end Go.Proofs.Ytefkhcijgiagdaa.QAll
