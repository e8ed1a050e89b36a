/- The sum's plain laws, on words of 32 bits: no program in sight. -/
import Derived.Laws.BitsLemmas
namespace Go.Proofs.Ytdiihhddcodabaa.MCrc
abbrev W := BitVec 32
def poly : W := 3988292384#32
def stp (b : W) : W := (b >>> 1) ^^^ (if b.getLsbD 0 then poly else 0#32)
def stpN : Nat → W → W
  | 0, b => b
  | k + 1, b => stp (stpN k b)
theorem stp_zero : stp 0#32 = 0#32 := by decide
theorem xlc (a b c : W) : a ^^^ (b ^^^ c) = b ^^^ (a ^^^ c) := by rw [← BitVec.xor_assoc, BitVec.xor_comm a b, BitVec.xor_assoc]
theorem xcc (a b : W) : a ^^^ (a ^^^ b) = b := by rw [← BitVec.xor_assoc, BitVec.xor_self, BitVec.zero_xor]
theorem stp_xor (a b : W) : stp (a ^^^ b) = stp a ^^^ stp b := by
  unfold stp
  rw [BitVec.ushiftRight_xor_distrib, BitVec.getLsbD_xor]
  cases a.getLsbD 0 <;> cases b.getLsbD 0 <;> simp [BitVec.xor_assoc, BitVec.xor_comm, xlc, xcc]
theorem stpN_xor (k : Nat) (a b : W) : stpN k (a ^^^ b) = stpN k a ^^^ stpN k b := by
  induction k with
  | zero => rfl
  | succ k ih => simp only [stpN, ih, stp_xor]
theorem stpN_zero (k : Nat) : stpN k 0#32 = 0#32 := by
  induction k with
  | zero => rfl
  | succ k ih => simp only [stpN, ih, stp_zero]
theorem stpN_add (j k : Nat) (b : W) : stpN (j + k) b = stpN j (stpN k b) := by
  induction j with
  | zero => simp [stpN]
  | succ j ih => rw [Nat.succ_add]; simp only [stpN, ih]
theorem stpN_succ' (k : Nat) (b : W) : stpN (k + 1) b = stpN k (stp b) := stpN_add k 1 b
/-- what has its low bits clear goes down. -/
theorem stp_even (b : W) (h : b.getLsbD 0 = false) : stp b = b >>> 1 := by unfold stp; rw [h]; simp
theorem stpN_shift (k : Nat) (b : W) (h : ∀ i, i < k → b.getLsbD i = false) : stpN k b = b >>> k := by
  induction k generalizing b with
  | zero => simp [stpN]
  | succ k ih =>
    rw [stpN_succ', stp_even b (h 0 (by omega)), ih]
    · rw [← BitVec.shiftRight_add, Nat.add_comm]
    · intro i hi
      rw [BitVec.getLsbD_ushiftRight]
      exact h _ (by omega)
theorem bits_split (b : W) (k : Nat) : b = ((b >>> k) <<< k) ^^^ (b % BitVec.ofNat 32 (2 ^ k)) ∨ 32 ≤ k := by
  by_cases hk : 32 ≤ k
  · exact .inr hk
  · left
    apply BitVec.eq_of_getLsbD_eq
    intro i hi
    have e : b % BitVec.ofNat 32 (2 ^ k) = BitVec.ofNat 32 (b.toNat % 2 ^ k) := by
      apply BitVec.eq_of_toNat_eq
      have h2 : 2 ^ k < 2 ^ 32 := Nat.pow_lt_pow_right (by decide) (by omega)
      have h3 : b.toNat % 2 ^ k < 2 ^ k := Nat.mod_lt _ (Nat.two_pow_pos k)
      rw [BitVec.toNat_umod, BitVec.toNat_ofNat, BitVec.toNat_ofNat, Nat.mod_eq_of_lt h2, Nat.mod_eq_of_lt (Nat.lt_trans h3 h2)]
    rw [BitVec.getLsbD_xor, BitVec.getLsbD_shiftLeft, BitVec.getLsbD_ushiftRight, e, BitVec.getLsbD_ofNat]
    by_cases hik : i < k
    · simp [hik, hi, Nat.testBit_mod_two_pow, BitVec.getLsbD]
    · simp [hik, hi, Nat.testBit_mod_two_pow, BitVec.getLsbD, show k + (i - k) = i by omega]
/-- what the table does: k steps at once. -/
theorem half_eq (b : W) : (b >>> 4) ^^^ stpN 4 (b % 16#32) = stpN 4 b := by
  have h := (bits_split b 4).resolve_right (by decide)
  have e : stpN 4 ((b >>> 4) <<< 4) = b >>> 4 := by
    rw [stpN_shift]
    · apply BitVec.eq_of_getLsbD_eq
      intro i hi
      simp only [BitVec.getLsbD_ushiftRight, BitVec.getLsbD_shiftLeft]
      by_cases h28 : 4 + i < 32
      · simp [h28]
      · simp [h28]
        exact (BitVec.getLsbD_of_ge b (4 + i) (by omega)).symm ▸ rfl
    · intro i hi
      simp [hi]
  rw [show (16#32 : W) = BitVec.ofNat 32 (2 ^ 4) from rfl]
  conv => rhs; rw [h]
  rw [stpN_xor, e]
end Go.Proofs.Ytdiihhddcodabaa.MCrc
namespace Go.Proofs.Ytdiihhddcodabaa.MCrc
/-- a step undoes: what it makes 0 is 0. -/
theorem stp_inj0 (b : W) (h : stp b = 0#32) : b = 0#32 := by
  unfold stp at h
  by_cases hb : b.getLsbD 0 = true
  · rw [hb, if_pos rfl] at h
    have e := congrArg (fun z : W => z.getLsbD 31) h
    simp only [BitVec.getLsbD_xor, BitVec.getLsbD_ushiftRight] at e
    rw [BitVec.getLsbD_of_ge b (1 + 31) (by decide)] at e
    exact absurd e (by decide)
  · rw [if_neg hb, BitVec.xor_zero] at h
    apply BitVec.eq_of_getLsbD_eq
    intro i hi
    rw [BitVec.getLsbD_zero]
    cases i with
    | zero => simpa using hb
    | succ i =>
      have e := congrArg (fun z : W => z.getLsbD i) h
      simpa [BitVec.getLsbD_ushiftRight, Nat.add_comm] using e
theorem stpN_inj0 (k : Nat) (b : W) (h : stpN k b = 0#32) : b = 0#32 := by
  induction k with
  | zero => exact h
  | succ k ih => exact ih (stp_inj0 _ h)
theorem xor_eq0 (a b : W) : a ^^^ b = 0#32 ↔ a = b := by
  constructor
  · intro h
    have := congrArg (fun z => z ^^^ b) h
    simpa [BitVec.xor_assoc] using this
  · rintro rfl; simp
theorem stpN_inj (k : Nat) (a b : W) : stpN k a = stpN k b ↔ a = b := by
  constructor
  · intro h
    rw [← xor_eq0, ← stpN_xor] at h
    exact (xor_eq0 _ _).1 (stpN_inj0 k _ h)
  · rintro rfl; rfl
-- bit by bit
def bw (t : Bool) : W := if t then 1#32 else 0#32
def regB (b : W) (l : List Bool) : W := l.foldl (fun b t => stp (b ^^^ bw t)) b
theorem regB_append (b : W) (l m : List Bool) : regB b (l ++ m) = regB (regB b l) m := by simp [regB]
theorem regB_xor (a b : W) : ∀ (l m : List Bool), l.length = m.length → regB (a ^^^ b) (List.zipWith (· ^^ ·) l m) = regB a l ^^^ regB b m := by
  intro l
  induction l generalizing a b with
  | nil => intro m h; cases m with
    | nil => rfl
    | cons _ _ => simp at h
  | cons x l ih =>
    intro m h
    cases m with
    | nil => simp at h
    | cons y m =>
      simp only [List.zipWith_cons_cons, regB, List.foldl_cons]
      have e : stp (a ^^^ b ^^^ bw (x ^^ y)) = stp (a ^^^ bw x) ^^^ stp (b ^^^ bw y) := by
        rw [← stp_xor]
        congr 1
        cases x <;> cases y <;> simp [bw, BitVec.xor_assoc, BitVec.xor_comm, xlc]
      rw [e]
      exact ih _ _ m (by simpa using h)
theorem regB_falses (n : Nat) : regB 0#32 (List.replicate n false) = 0#32 := by
  induction n with
  | zero => rfl
  | succ n ih => simp only [List.replicate_succ, regB, List.foldl_cons]; exact ih
theorem regB_falses' (b : W) (n : Nat) : regB b (List.replicate n false) = stpN n b := by
  induction n generalizing b with
  | zero => rfl
  | succ n ih =>
    simp only [List.replicate_succ, regB, List.foldl_cons]
    rw [stpN_succ', show stp (b ^^^ bw false) = stp b by simp [bw]]
    exact ih _
/-- the word of a row of bits, the first the lowest. -/
def wd : List Bool → W
  | [] => 0#32
  | t :: l => bw t ^^^ (wd l <<< 1)
theorem stp_shl (b : W) (h : b.getLsbD 31 = false) : stp (b <<< 1) = b := by
  rw [stp_even _ (by simp)]
  apply BitVec.eq_of_getLsbD_eq
  intro i hi
  simp only [BitVec.getLsbD_ushiftRight, BitVec.getLsbD_shiftLeft]
  by_cases h31 : i = 31
  · subst h31; simpa using h
  · simp [show 1 + i < 32 by omega]
theorem wd_high : ∀ (l : List Bool) (i : Nat), l.length ≤ i → (wd l).getLsbD i = false := by
  intro l
  induction l with
  | nil => intro i _; simp [wd]
  | cons t l ih =>
    intro i hi
    simp only [List.length_cons] at hi
    simp only [wd, BitVec.getLsbD_xor, BitVec.getLsbD_shiftLeft]
    have e : (bw t).getLsbD i = false := by
      obtain ⟨j, rfl⟩ : ∃ j, i = j + 1 := ⟨i - 1, by omega⟩
      cases t <;> simp [bw, BitVec.getLsbD_one]
    rw [e, ih (i - 1) (by omega)]; simp
theorem regB_wd : ∀ (l : List Bool) (b : W), l.length ≤ 32 → regB b l = stpN l.length (b ^^^ wd l) := by
  intro l
  induction l with
  | nil => intro b _; simp [regB, wd, stpN]
  | cons t l ih =>
    intro b h
    simp only [List.length_cons] at h
    rw [List.length_cons, stpN_succ']
    have e : stp (b ^^^ wd (t :: l)) = stp (b ^^^ bw t) ^^^ wd l := by
      rw [wd, ← BitVec.xor_assoc, stp_xor, stp_shl _ (wd_high l 31 (by omega))]
    rw [e, ← ih _ (by omega)]
    rfl
theorem wd_get : ∀ (l : List Bool) (i : Nat), l.length ≤ 32 → i < 32 → (wd l).getLsbD i = l.getD i false := by
  intro l
  induction l with
  | nil => intro i _ _; simp [wd]
  | cons t l ih =>
    intro i h hi
    simp only [List.length_cons] at h
    simp only [wd, BitVec.getLsbD_xor, BitVec.getLsbD_shiftLeft]
    cases i with
    | zero => cases t <;> simp [bw]
    | succ i =>
      have e : (bw t).getLsbD (i + 1) = false := by cases t <;> simp [bw, BitVec.getLsbD_one]
      rw [e]
      simp [hi, ih i (by omega) (by omega)]
theorem wd_zero (l : List Bool) (h : l.length ≤ 32) (hz : wd l = 0#32) : ∀ t ∈ l, t = false := by
  intro t ht
  obtain ⟨i, hi, rfl⟩ := List.getElem_of_mem ht
  have := wd_get l i h (by omega)
  rw [hz] at this
  simpa [hi] using this.symm
/-- a burst of at most 32 bits is seen. -/
theorem burst (m : List Bool) (n : Nat) (k : Nat) (hm : m.length ≤ 32) (h : regB 0#32 (List.replicate n false ++ m ++ List.replicate k false) = 0#32) : ∀ t ∈ m, t = false := by
  rw [regB_append, regB_append, regB_falses, regB_falses', regB_wd m _ hm] at h
  have h2 := stpN_inj0 _ _ (stpN_inj0 _ _ h)
  rw [BitVec.zero_xor] at h2
  exact wd_zero m hm h2
end Go.Proofs.Ytdiihhddcodabaa.MCrc

namespace Go.Proofs.Ytdiihhddcodabaa.MCrc
/-- a byte as a word; a row of bytes, bit by bit. -/
def cw (c : UInt8) : W := BitVec.ofNat 32 c.toNat
def bitsC (c : UInt8) : List Bool := (List.range 8).map c.toNat.testBit
def bitsL (l : List UInt8) : List Bool := l.flatMap bitsC
theorem bitsC_length (c : UInt8) : (bitsC c).length = 8 := by simp [bitsC]
theorem bitsL_length (l : List UInt8) : (bitsL l).length = 8 * l.length := by
  induction l with
  | nil => rfl
  | cons c l ih => simp only [bitsL, List.flatMap_cons, List.length_append, bitsC_length, List.length_cons] at ih ⊢; omega
theorem bitsL_append (l m : List UInt8) : bitsL (l ++ m) = bitsL l ++ bitsL m := by simp [bitsL]
theorem wd_bitsC (c : UInt8) : wd (bitsC c) = cw c := by
  apply BitVec.eq_of_getLsbD_eq
  intro i hi
  rw [wd_get _ _ (by simp [bitsC]) hi, cw, BitVec.getLsbD_ofNat]
  have hc : c.toNat < 2 ^ 8 := c.toNat_lt
  by_cases h8 : i < 8
  · simp [bitsC, h8, hi, List.getD_eq_getElem?_getD]
  · have : c.toNat.testBit i = false := Nat.testBit_lt_two_pow (Nat.lt_of_lt_of_le hc (Nat.pow_le_pow_right (by decide) (by omega)))
    simp [bitsC, h8, this, List.getD_eq_getElem?_getD]
/-- the register behind a row of bytes. -/
def reg (b : W) (l : List UInt8) : W := l.foldl (fun b c => stpN 8 (b ^^^ cw c)) b
theorem reg_append (b : W) (l m : List UInt8) : reg b (l ++ m) = reg (reg b l) m := by simp [reg]
theorem reg_bits (b : W) (l : List UInt8) : reg b l = regB b (bitsL l) := by
  induction l generalizing b with
  | nil => rfl
  | cons c l ih =>
    rw [show bitsL (c :: l) = bitsC c ++ bitsL l from rfl, regB_append, regB_wd (bitsC c) b (by simp [bitsC]), wd_bitsC, bitsC_length, ← ih]
    rfl
theorem reg_wd (b : W) (l : List UInt8) (h : l.length ≤ 4) : reg b l = stpN (8 * l.length) (b ^^^ wd (bitsL l)) := by
  rw [reg_bits, regB_wd _ _ (by rw [bitsL_length]; omega), bitsL_length]
def sum (l : List UInt8) : W := ~~~ reg (BitVec.allOnes 32) l
-- a byte out of its bits
theorem bitsC_inj (c d : UInt8) (h : bitsC c = bitsC d) : c = d := by
  have e : cw c = cw d := by rw [← wd_bitsC, ← wd_bitsC, h]
  have e2 := congrArg BitVec.toNat e
  have hc : c.toNat < 256 := c.toNat_lt
  have hd : d.toNat < 256 := d.toNat_lt
  simp only [cw, BitVec.toNat_ofNat] at e2
  rw [Nat.mod_eq_of_lt (by omega), Nat.mod_eq_of_lt (by omega)] at e2
  exact UInt8.toNat_inj.1 e2
theorem bitsL_inj : ∀ (l m : List UInt8), bitsL l = bitsL m → l = m := by
  intro l
  induction l with
  | nil => intro m h; cases m with
    | nil => rfl
    | cons d m => have := congrArg List.length h; rw [bitsL_length, bitsL_length] at this; simp at this
  | cons c l ih =>
    intro m h
    cases m with
    | nil => have := congrArg List.length h; rw [bitsL_length, bitsL_length] at this; simp at this
    | cons d m =>
      have h2 : bitsC c ++ bitsL l = bitsC d ++ bitsL m := h
      obtain ⟨h3, h4⟩ := List.append_inj h2 (by rw [bitsC_length, bitsC_length])
      rw [bitsC_inj c d h3, ih m h4]
theorem wd_inj (l m : List Bool) (hl : l.length ≤ 32) (hm : l.length = m.length) (h : wd l = wd m) : l = m := by
  apply List.ext_getElem hm
  intro i h1 h2
  have a := wd_get l i hl (by omega)
  have b := wd_get m i (by omega) (by omega)
  rw [h] at a
  rw [b] at a
  simpa [h1, h2] using a.symm
/-- what is refused: a text of which the last four bytes are not its sum, by the register behind all of it. -/
theorem sealed_iff (u v : List UInt8) (hv : v.length = 4) : wd (bitsL v) = sum u ↔ reg (BitVec.allOnes 32) (u ++ v) = stpN 32 (BitVec.allOnes 32) := by
  rw [reg_append, reg_wd _ v (by omega), hv, stpN_inj]
  have hn : ∀ x : W, ~~~ x = x ^^^ BitVec.allOnes 32 := fun x => BitVec.xor_allOnes.symm
  rw [sum, hn]
  generalize reg (BitVec.allOnes 32) u = r
  generalize BitVec.allOnes 32 = o
  constructor
  · intro h; rw [h, xcc]
  · intro h; rw [← h, xcc]
theorem regB_xor' (b : W) (l d : List Bool) (h : l.length = d.length) : regB b (List.zipWith (· ^^ ·) l d) = regB b l ^^^ regB 0#32 d := by
  have := regB_xor b 0#32 l d h
  rwa [BitVec.xor_zero] at this
theorem split3 (d : List Bool) (n : Nat) (hd : ∀ p, p < d.length → d.getD p false = true → n ≤ p ∧ p < n + 32) :
    d = List.replicate (min n d.length) false ++ (d.drop n).take 32 ++ List.replicate ((d.drop n).drop 32).length false := by
  have h1 : d.take n = List.replicate (min n d.length) false := by
    apply List.ext_getElem (by simp)
    intro i a b
    have hi : i < d.length := by simp at a; omega
    have hn : i < n := by simp at a; omega
    have := hd i hi
    cases hq : d[i] with
    | true => exact absurd (this (by simp [hi, hq])).1 (by omega)
    | false => simp [hq]
  have h2 : (d.drop n).drop 32 = List.replicate ((d.drop n).drop 32).length false := by
    apply List.ext_getElem (by simp)
    intro i a b
    have hi : n + 32 + i < d.length := by simp at a; omega
    have := hd (n + 32 + i) hi
    cases hq : d[n + 32 + i] with
    | true => exact absurd (this (by simp [hi, hq])).2 (by omega)
    | false => simp [hq]
  rw [← h1, ← h2, List.append_assoc, List.take_append_drop, List.take_append_drop]
/-- bits turned within 32 leave what has another register. -/
theorem turned_ne (b : W) (l d : List Bool) (h : l.length = d.length) (n : Nat) (hd : ∀ p, p < d.length → d.getD p false = true → n ≤ p ∧ p < n + 32)
    (he : regB b (List.zipWith (· ^^ ·) l d) = regB b l) : ∀ t ∈ d, t = false := by
  rw [regB_xor' b l d h] at he
  have h0 : regB 0#32 d = 0#32 := by
    have := congrArg (fun z => regB b l ^^^ z) he
    simpa [xcc] using this
  rw [split3 d n hd] at h0 ⊢
  have hb := burst _ _ _ (by simp; omega) h0
  intro t ht
  rw [List.mem_append, List.mem_append] at ht
  rcases ht with (ht | ht) | ht
  · exact (List.mem_replicate.1 ht).2
  · exact hb t ht
  · exact (List.mem_replicate.1 ht).2
theorem reg3 (a b c : W) : ∀ (l m n : List UInt8), l.length = m.length → l.length = n.length →
    reg (a ^^^ b ^^^ c) (List.zipWith (· ^^^ ·) (List.zipWith (· ^^^ ·) l m) n) = reg a l ^^^ reg b m ^^^ reg c n := by
  intro l
  induction l generalizing a b c with
  | nil => intro m n h1 h2; cases m <;> cases n <;> simp_all [reg]
  | cons x l ih =>
    intro m n h1 h2
    cases m with
    | nil => simp at h1
    | cons y m =>
      cases n with
      | nil => simp at h2
      | cons z n =>
        simp only [List.zipWith_cons_cons, reg, List.foldl_cons]
        have hc : cw (x ^^^ y ^^^ z) = cw x ^^^ cw y ^^^ cw z := by
          apply BitVec.eq_of_toNat_eq
          have hx : x.toNat < 256 := x.toNat_lt
          have hy : y.toNat < 256 := y.toNat_lt
          have hz : z.toNat < 256 := z.toNat_lt
          have h3 : (x.toNat ^^^ y.toNat) ^^^ z.toNat < 2 ^ 8 := Nat.xor_lt_two_pow (Nat.xor_lt_two_pow hx hy) hz
          simp only [cw, BitVec.toNat_xor, BitVec.toNat_ofNat, UInt8.toNat_xor]
          rw [Nat.mod_eq_of_lt (by omega : x.toNat < 2 ^ 32), Nat.mod_eq_of_lt (by omega : y.toNat < 2 ^ 32), Nat.mod_eq_of_lt (by omega : z.toNat < 2 ^ 32), Nat.mod_eq_of_lt (by omega)]
        have e : stpN 8 (a ^^^ b ^^^ c ^^^ cw (x ^^^ y ^^^ z)) = stpN 8 (a ^^^ cw x) ^^^ stpN 8 (b ^^^ cw y) ^^^ stpN 8 (c ^^^ cw z) := by
          rw [← stpN_xor, ← stpN_xor, hc]
          congr 1
          simp [BitVec.xor_assoc, BitVec.xor_comm, xlc]
        rw [e]
        exact ih _ _ _ m n (by simpa using h1) (by simpa using h2)
end Go.Proofs.Ytdiihhddcodabaa.MCrc
