/- CrcTurned: what is sealed is opened; with bits turned, all within 32 that stand one behind the other, it is refused; for all texts, places and patterns. -/
import Derived.Test.YtdiihhddcodabaaPCrcTurnedx1
import Derived.Test.YtdiihhddcodabaaQCrc
namespace Go.Proofs.Ytdiihhddcodabaa.Pure
open Go.RowKit Go.Proofs.Ytdiihhddcodabaa.PCrcTurned Go.Proofs.YtdiihhddcodabaaW.PrintWords Go.Proofs.YtdiihhddcodabaaW.PrintLast Go.Proofs.YtdiihhddcodabaaW.PrintMore Go.Proofs.Ytdiihhddcodabaa.QCrc Go.Proofs.Ytdiihhddcodabaa.QLe Go.Proofs.Ytdiihhddcodabaa.B Go.Proofs.Ytdiihhddcodabaa.HTurned
theorem opened_sealed (s : ByteArray) : opened (sealed s) = (s, 0) := by
  have hz := sealed_size s
  unfold opened
  rw [if_neg (by omega)]
  have hd : (sealed s).size - 4 = s.data.toList.length := by rw [hz, len_data]; omega
  have hg : good (sealed s) = true := by
    unfold good
    rw [sealed_data, hd, List.drop_left, List.take_left, wd_le4]
    simp [C]
  rw [if_pos hg, hd]
  congr 1
  apply ba_ext
  rw [ext_data, sealed_data]
  simp
/-- a row of small numbers, as bytes. -/
def by8 (xs : List Int) : List UInt8 := xs.map fun n => UInt8.ofNat n.toNat
/-- which bits the turning turns, up to k. -/
def turns (fr : Nat) (pat : Int) (n k : Nat) : List Bool := (List.range n).map fun p => decide (fr ≤ p ∧ p < fr + k) && decide (pat / 2 ^ (p - fr) % 2 = 1)
def small (xs : List Int) : Prop := ∀ x ∈ xs, 0 ≤ x ∧ x < 256
theorem bits_flip (c : UInt8) (j : Nat) (hj : j < 8) : MCrc.bitsC (UInt8.ofNat (Go.bits .xor .u8 (c.toNat : Int) (2 ^ j % 256)).toNat) = (MCrc.bitsC c).set j (!c.toNat.testBit j) := by
  have hc : c.toNat < 256 := c.toNat_lt
  have h2 : (2 : Nat) ^ j < 2 ^ 8 := Nat.pow_lt_pow_right (by decide) hj
  have e : Go.bits .xor .u8 (c.toNat : Int) (2 ^ j % 256) = ((c.toNat ^^^ 2 ^ j : Nat) : Int) := by
    have e1 : ((2 : Int) ^ j % 256) = ((2 ^ j : Nat) : Int) := by
      match j, hj with
      | 0, _ | 1, _ | 2, _ | 3, _ | 4, _ | 5, _ | 6, _ | 7, _ => rfl
    rw [e1]
    have e : Go.bits .xor .u8 (c.toNat : Int) ((2 ^ j : Nat) : Int) = IntKind.u8.wrap ((BitVec.ofInt 8 (c.toNat : Int) ^^^ BitVec.ofInt 8 ((2 ^ j : Nat) : Int)).toNat : Int) := rfl
    have h3 : c.toNat ^^^ 2 ^ j < 2 ^ 8 := Nat.xor_lt_two_pow hc h2
    rw [e, BitVec.ofInt_natCast, BitVec.ofInt_natCast, BitVec.toNat_xor, BitVec.toNat_ofNat, BitVec.toNat_ofNat, Nat.mod_eq_of_lt (by omega : c.toNat < 2 ^ 8), Nat.mod_eq_of_lt h2, Go.IntKind.wrap_u8]
    omega
  have h3 : c.toNat ^^^ 2 ^ j < 2 ^ 8 := Nat.xor_lt_two_pow hc h2
  rw [e, Int.toNat_natCast]
  apply List.ext_getElem (by simp [MCrc.bitsC])
  intro i h1 h4
  have hi : i < 8 := by simpa [MCrc.bitsC] using h1
  simp only [MCrc.bitsC, List.getElem_map, List.getElem_range, List.getElem_set, UInt8.toNat_ofNat']
  rw [Nat.mod_eq_of_lt h3, Nat.testBit_xor, Nat.testBit_two_pow]
  by_cases hij : j = i
  · subst hij; simp
  · simp [hij]
theorem bitsL_set : ∀ (l : List UInt8) (q : Nat) (c : UInt8) (j : Nat), q < l.length → j < 8 → MCrc.bitsC c = (MCrc.bitsC (l.getD q 0)).set j (!(l.getD q 0).toNat.testBit j) →
    MCrc.bitsL (l.set q c) = (MCrc.bitsL l).set (8 * q + j) (!((MCrc.bitsL l).getD (8 * q + j) false)) := by
  intro l
  induction l with
  | nil => intro q c j hq; simp at hq
  | cons d l ih =>
    intro q c j hq hj hc
    have hd : (MCrc.bitsC d).length = 8 := MCrc.bitsC_length d
    have hb : ∀ m, MCrc.bitsL (d :: m) = MCrc.bitsC d ++ MCrc.bitsL m := fun m => rfl
    cases q with
    | zero =>
      simp only [List.set_cons_zero, Nat.mul_zero, Nat.zero_add]
      rw [show MCrc.bitsL (c :: l) = MCrc.bitsC c ++ MCrc.bitsL l from rfl, hb, hc, List.set_append_left _ _ (by omega)]
      congr 2
      have hg : (MCrc.bitsC d ++ MCrc.bitsL l).getD j false = d.toNat.testBit j := by
        rw [List.getD_eq_getElem?_getD, List.getElem?_append_left (by omega)]
        simp [MCrc.bitsC, hj]
      rw [hg]; rfl
    | succ q =>
      simp only [List.set_cons_succ]
      rw [hb, hb, List.set_append_right _ _ (by omega)]
      have e : 8 * (q + 1) + j - (MCrc.bitsC d).length = 8 * q + j := by omega
      rw [e, ih q c j (by simpa using hq) hj (by simpa using hc)]
      congr 3
      rw [List.getD_eq_getElem?_getD, List.getD_eq_getElem?_getD, List.getElem?_append_right (by omega), e]
theorem turn_bits (fr : Nat) (pat : Int) (xs : List Int) (hs : small xs) : ∀ k, small (turnN fr pat xs k) ∧
    MCrc.bitsL (by8 (turnN fr pat xs k)) = List.zipWith (· ^^ ·) (MCrc.bitsL (by8 xs)) (turns fr pat (8 * xs.length) k) := by
  intro k
  induction k with
  | zero =>
    refine ⟨hs, ?_⟩
    apply List.ext_getElem
    · simp [MCrc.bitsL_length, by8, turns, turnN]
    · intro i h1 h2
      have hz : ¬ (fr ≤ i ∧ i < fr + 0) := by omega
      simp only [turnN, turns, List.getElem_zipWith, List.getElem_map, List.getElem_range, decide_eq_false hz, Bool.false_and, Bool.xor_false]
  | succ k ih =>
    obtain ⟨hsm, ihb⟩ := ih
    have hlen := turnN_length fr pat xs k
    simp only [turnN, tstep]
    by_cases hc : ((fr : Int) + k < 8 * ((turnN fr pat xs k).length : Int)) ∧ pat / 2 ^ k % 2 = 1
    · rw [if_pos hc]
      obtain ⟨h1, h2⟩ := hc
      have eq : (((fr : Int) + k) / 8).toNat = (fr + k) / 8 := by omega
      have er : (((fr : Int) + k) % 8).toNat = (fr + k) % 8 := by omega
      have hq : (fr + k) / 8 < (turnN fr pat xs k).length := by omega
      have hget : rd (turnN fr pat xs k) (((fr : Int) + k) / 8) = (turnN fr pat xs k)[(fr + k) / 8] := by
        unfold rd
        rw [eq, List.getD_eq_getElem?_getD, List.getElem?_eq_getElem hq]; rfl
      have hx := hsm _ (List.getElem_mem hq)
      have hbyte : (((by8 (turnN fr pat xs k)).getD ((fr + k) / 8) 0).toNat : Int) = (turnN fr pat xs k)[(fr + k) / 8] := by
        rw [List.getD_eq_getElem?_getD, by8, List.getElem?_map, List.getElem?_eq_getElem hq]
        simp
        omega
      rw [eq, er, hget]
      constructor
      · intro x hxm
        rcases List.mem_or_eq_of_mem_set hxm with hm | rfl
        · exact hsm x hm
        · rw [← hbyte]
          have e : ∀ y : Int, Go.bits .xor .u8 (((by8 (turnN fr pat xs k)).getD ((fr + k) / 8) 0).toNat : Int) y = IntKind.u8.wrap ((BitVec.ofInt 8 (((by8 (turnN fr pat xs k)).getD ((fr + k) / 8) 0).toNat : Int) ^^^ BitVec.ofInt 8 y).toNat : Int) := fun y => rfl
          rw [e, Go.IntKind.wrap_u8]
          omega
      · have e : by8 ((turnN fr pat xs k).set ((fr + k) / 8) (Go.bits .xor .u8 ((turnN fr pat xs k)[(fr + k) / 8]) (2 ^ ((fr + k) % 8) % 256))) =
            (by8 (turnN fr pat xs k)).set ((fr + k) / 8) (UInt8.ofNat (Go.bits .xor .u8 ((turnN fr pat xs k)[(fr + k) / 8]) (2 ^ ((fr + k) % 8) % 256)).toNat) := by
          simp [by8, List.map_set]
        have hl8 : (by8 (turnN fr pat xs k)).length = (turnN fr pat xs k).length := by simp [by8]
        rw [e, ← hbyte, bitsL_set _ _ _ ((fr + k) % 8) (by rw [hl8]; exact hq) (by omega) (bits_flip _ _ (by omega))]
        have e8 : 8 * ((fr + k) / 8) + (fr + k) % 8 = fr + k := by omega
        rw [e8, ihb]
        apply List.ext_getElem
        · simp [MCrc.bitsL_length, by8, turns]
        · intro i h3 h4
          have hi : i < 8 * xs.length := by simp [MCrc.bitsL_length, by8, turns] at h3; omega
          have hb : i < (MCrc.bitsL (by8 xs)).length := by rw [MCrc.bitsL_length]; simp [by8]; omega
          rw [List.getElem_set]
          by_cases hik : fr + k = i
          · subst hik
            rw [if_pos rfl]
            have hz : fr + k < (List.zipWith (· ^^ ·) (MCrc.bitsL (by8 xs)) (turns fr pat (8 * xs.length) k)).length := by simp [MCrc.bitsL_length, by8, turns]; omega
            rw [List.getD_eq_getElem?_getD, List.getElem?_eq_getElem hz]
            simp [turns, h2]
          · rw [if_neg hik]
            simp only [List.getElem_zipWith, turns, List.getElem_map, List.getElem_range]
            congr 2
            rw [decide_eq_decide]
            omega
    · rw [if_neg hc]
      refine ⟨hsm, ?_⟩
      rw [ihb]
      congr 1
      apply List.ext_getElem (by simp [turns])
      intro i h1 h2
      have hi : i < 8 * xs.length := by simpa [turns] using h1
      simp only [turns, List.getElem_map, List.getElem_range]
      by_cases hik : i = fr + k
      · subst hik
        have h3 : ¬ pat / 2 ^ k % 2 = 1 := fun h => hc ⟨by omega, h⟩
        simp [h3]
      · congr 1
        rw [decide_eq_decide]
        omega
theorem by8_bytesOf (s : ByteArray) : by8 (bytesOf s) = s.data.toList := by
  unfold by8 bytesOf
  rw [List.map_map]
  have : ((fun n : Int => UInt8.ofNat n.toNat) ∘ fun b : UInt8 => (b.toNat : Int)) = id := by
    funext b
    simp
  rw [this, List.map_id]
theorem small_bytesOf (s : ByteArray) : small (bytesOf s) := by
  intro x hx
  unfold bytesOf at hx
  obtain ⟨b, _, rfl⟩ := List.mem_map.1 hx
  have : b.toNat < 256 := b.toNat_lt
  omega
theorem good_reg (t : ByteArray) (h : 4 ≤ t.size) : good t = true ↔ MCrc.reg (BitVec.allOnes 32) t.data.toList = MCrc.stpN 32 (BitVec.allOnes 32) := by
  have hl : (t.data.toList.drop (t.size - 4)).length = 4 := by rw [List.length_drop, len_data]; omega
  have := MCrc.sealed_iff (t.data.toList.take (t.size - 4)) (t.data.toList.drop (t.size - 4)) hl
  rw [List.take_append_drop] at this
  unfold good
  rw [beq_iff_eq]
  exact this
theorem CrcTurned : doorwardlaw02_CrcTurned.Pure := by
  intro s0 fr0 pat hs hfr hpat
  obtain ⟨hf1, hf2⟩ : -9223372036854775808 ≤ fr0 ∧ fr0 ≤ 9223372036854775807 := by
    simp [Lit.wf, IntKind.min, IntKind.max, IntKind.bits, IntKind.signed] at hfr; omega
  obtain ⟨hp1, hp2⟩ : 0 ≤ pat ∧ pat < 4294967296 := by
    simp [Lit.wf, IntKind.min, IntKind.max, IntKind.bits, IntKind.signed] at hpat; omega
  have h1 := shortS_size s0
  generalize hsd : shortS s0 = s at *
  have h2 := sealed_size s
  obtain ⟨K, hK⟩ : ∃ K : Nat, 50000 ≤ K := ⟨50000, Nat.le_refl _⟩
  refine ⟨K + 1, ?_⟩
  unfold doorwardlaw02_CrcTurned.f
  rw [short_ok, hsd]
  simp only [Option.bind_some]
  rw [seal_ok _ (by omega) _ (by omega)]
  simp only [Option.bind_some]
  rw [open_ok _ (by omega) _ (by omega), opened_sealed]
  simp only [Option.bind_some]
  simp only [if_true]
  have e0 : (((sealed s).size : Int) != wrap64 ((s.size : Int) + 4)) = false := by
    rw [w64 _ (by omega) (by omega), h2]; simp
  rw [e0]
  simp only [doorwardlaw02_CrcTurned.j0]
  generalize hA : sealed s = A at *
  have hop : opened A = (s, 0) := by rw [← hA]; exact opened_sealed s
  have hw : wrap64 (8 * (A.size : Int)) = 8 * (A.size : Int) := w64 _ (by omega) (by omega)
  rw [if_neg (by decide), hw, if_neg (by omega)]
  obtain ⟨fr, hfrd⟩ : ∃ fr : Nat, Int.tmod (wrap64 (Int.tmod fr0 (8 * (A.size : Int)) + 8 * (A.size : Int))) (8 * (A.size : Int)) = (fr : Int) ∧ fr < 8 * A.size := by
    have hpos : (0 : Int) < 8 * (A.size : Int) := by omega
    have h5 := Int.tmod_lt_of_pos fr0 hpos
    have h6 : -(8 * (A.size : Int)) < Int.tmod fr0 (8 * (A.size : Int)) := Int.lt_tmod_of_pos fr0 hpos
    rw [w64 _ (by omega) (by omega), Int.tmod_eq_emod_of_nonneg (by omega)]
    have h7 := Int.emod_nonneg (Int.tmod fr0 (8 * (A.size : Int)) + 8 * (A.size : Int)) (by omega : (8 * (A.size : Int)) ≠ 0)
    have h8 := Int.emod_lt_of_pos (Int.tmod fr0 (8 * (A.size : Int)) + 8 * (A.size : Int)) hpos
    generalize (Int.tmod fr0 (8 * (A.size : Int)) + 8 * (A.size : Int)) % (8 * (A.size : Int)) = z at h7 h8 ⊢
    exact ⟨z.toNat, (Int.toNat_of_nonneg h7).symm, by omega⟩
  obtain ⟨hfrd, hfrl⟩ := hfrd
  rw [hfrd]
  have hT : doorwardref02_Turned.f A fr pat = some (strOfNums (turnN fr pat (bytesOf A) 32)) := by
    unfold doorwardref02_Turned.f
    rw [if_pos ⟨by omega, by omega, by omega, hp1, hp2⟩]
  obtain ⟨hsm, hbits⟩ := turn_bits fr pat (bytesOf A) (small_bytesOf A) 32
  rw [hT]
  simp only [Option.bind_some]
  generalize hB : strOfNums (turnN fr pat (bytesOf A) 32) = Bt at *
  have hBd : Bt.data.toList = by8 (turnN fr pat (bytesOf A) 32) := by rw [← hB]; exact sON_data _
  have hBs : Bt.size = A.size := by rw [← hB, sON_size, turnN_length, bytesOf_length]
  rw [open_ok _ (by omega) _ (by omega), alive_ok]
  simp only [Option.bind_some, if_true]
  rw [ByteArray.toList_eq, ByteArray.toList_eq]
  have hgA : good A = true := by
    have : opened A = (s, 0) := hop
    unfold opened at this
    rw [if_neg (by omega)] at this
    by_cases hg : good A = true
    · exact hg
    · rw [if_neg hg] at this
      simp at this
  rw [by8_bytesOf] at hbits
  have key : good Bt = true ↔ Bt.data.toList = A.data.toList := by
    constructor
    · intro hg
      have r1 := (good_reg Bt (by omega)).1 hg
      have r2 := (good_reg A (by omega)).1 hgA
      rw [hBd, MCrc.reg_bits, hbits] at r1
      rw [MCrc.reg_bits] at r2
      have hne := MCrc.turned_ne (BitVec.allOnes 32) (MCrc.bitsL A.data.toList) (turns fr pat (8 * (bytesOf A).length) 32) (by rw [MCrc.bitsL_length, len_data, turns, List.length_map, List.length_range, bytesOf_length]) fr
        (by
          intro p hp h
          have hp2 : p < 8 * (bytesOf A).length := by simpa [turns] using hp
          simp [turns, List.getD_eq_getElem?_getD, hp2] at h
          omega)
        (r1.trans r2.symm)
      apply MCrc.bitsL_inj
      rw [hBd, hbits]
      apply List.ext_getElem
      · rw [List.length_zipWith, MCrc.bitsL_length, len_data, turns, List.length_map, List.length_range, bytesOf_length]; omega
      · intro i h3 h4
        rw [List.getElem_zipWith]
        have := hne _ (List.getElem_mem (by rw [List.length_zipWith] at h3; omega : i < (turns fr pat (8 * (bytesOf A).length) 32).length))
        rw [this]; simp
    · intro h
      rw [ba_ext h]; exact hgA
  have ho : opened Bt = if good Bt = true then (Bt.extract 0 (Bt.size - 4), 0) else (⟨#[]⟩, 4) := by
    unfold opened
    rw [if_neg (by omega)]
  rw [ho]
  by_cases hg : good Bt = true
  · rw [if_pos hg]
    have e := key.1 hg
    simp [e]
  · rw [if_neg hg]
    have e : (Bt.data.toList == A.data.toList) = false := beq_eq_false_iff_ne.mpr (fun h => hg (key.2 h))
    rw [e]
    simp
end Go.Proofs.Ytdiihhddcodabaa.Pure
