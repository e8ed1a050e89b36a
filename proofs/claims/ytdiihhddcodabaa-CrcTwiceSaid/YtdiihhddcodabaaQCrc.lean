/- What the sum's functions answer, in plain words: the register of 32 bits behind a row of bytes. -/
import Derived.Test.YtdiihhddcodabaaQLe
import Derived.Test.YtdiihhddcodabaaMCrc
namespace Go.Proofs.Ytdiihhddcodabaa.QCrc
open Go.RowKit Go.Proofs.YtdiihhddcodabaaW.PrintWords Go.Proofs.YtdiihhddcodabaaW.PrintLast Go.Proofs.YtdiihhddcodabaaW.PrintMore Go.Proofs.Ytdiihhddcodabaa.B Go.Proofs.Ytdiihhddcodabaa.HCrc Go.Proofs.Ytdiihhddcodabaa.QLe
set_option linter.unusedVariables false
set_option linter.unusedSimpArgs false
abbrev W := BitVec 32
def I (b : W) : Int := (b.toNat : Int)
theorem I_range (b : W) : 0 ≤ I b ∧ I b < 4294967296 := by
  have := b.isLt
  unfold I
  omega
theorem I_inj {a b : W} (h : I a = I b) : a = b := by
  apply BitVec.eq_of_toNat_eq
  unfold I at h
  omega
theorem ofInt_I (b : W) : BitVec.ofInt 32 (I b) = b := by
  unfold I
  rw [BitVec.ofInt_natCast, BitVec.ofNat_toNat, BitVec.setWidth_eq]
theorem wrap_I (b : W) : IntKind.u32.wrap (I b) = I b := by
  have := I_range b
  rw [Go.IntKind.wrap_u32]
  omega
theorem xor_I (a b : W) : Go.bits .xor .u32 (I a) (I b) = I (a ^^^ b) := by
  have e : Go.bits .xor .u32 (I a) (I b) = IntKind.u32.wrap ((BitVec.ofInt 32 (I a) ^^^ BitVec.ofInt 32 (I b)).toNat : Int) := rfl
  rw [e, ofInt_I, ofInt_I]
  exact wrap_I _
theorem and_I (a b : W) : Go.bits .and .u32 (I a) (I b) = I (a &&& b) := by
  have e : Go.bits .and .u32 (I a) (I b) = IntKind.u32.wrap ((BitVec.ofInt 32 (I a) &&& BitVec.ofInt 32 (I b)).toNat : Int) := rfl
  rw [e, ofInt_I, ofInt_I]
  exact wrap_I _
theorem shr_I (b : W) (k : Nat) : I b / 2 ^ k = I (b >>> k) := by
  unfold I
  rw [BitVec.toNat_ushiftRight, Nat.shiftRight_eq_div_pow]
  simp
theorem lsb_I (b : W) : Go.bits .and .u32 (I b) 1 = 1 ↔ b.getLsbD 0 = true := by
  rw [show (1 : Int) = I 1#32 from rfl, and_I]
  constructor
  · intro h
    have := I_inj h
    have e := congrArg (fun z : W => z.getLsbD 0) this
    simpa using e
  · intro h
    congr 1
    apply BitVec.eq_of_getLsbD_eq
    intro i hi
    rw [BitVec.getLsbD_and, BitVec.getLsbD_one]
    by_cases h0 : i = 0
    · subst h0; simp [h]
    · simp [h0]
theorem stp_I (b : W) : HCrc.stp (I b) = I (MCrc.stp b) := by
  unfold HCrc.stp MCrc.stp
  have e := shr_I b 1
  rw [Int.pow_one] at e
  by_cases h : b.getLsbD 0 = true
  · rw [if_pos ((lsb_I b).2 h), if_pos h, e, show (3988292384 : Int) = I MCrc.poly from rfl, xor_I]
  · rw [if_neg (fun g => h ((lsb_I b).1 g)), if_neg h, e, BitVec.xor_zero]
theorem stpN_I (k : Nat) (b : W) : HCrc.stpN k (I b) = I (MCrc.stpN k b) := by
  induction k with
  | zero => rfl
  | succ k ih => simp only [HCrc.stpN, MCrc.stpN, ih, stp_I]
theorem and15_mod (b : W) : b &&& 15#32 = b % 16#32 := by
  apply BitVec.eq_of_toNat_eq
  rw [BitVec.toNat_and, BitVec.toNat_umod, show (15#32 : W).toNat = 2 ^ 4 - 1 from rfl, show (16#32 : W).toNat = 2 ^ 4 from rfl, Nat.and_two_pow_sub_one_eq_mod]
theorem half_I (b : W) : HCrc.half (I b) = I (MCrc.stpN 4 b) := by
  unfold HCrc.half HCrc.tab
  have e : I b / (16 : Int) = I (b >>> 4) := shr_I b 4
  rw [show (15 : Int) = I 15#32 from rfl, and_I, stpN_I, e, xor_I, and15_mod, MCrc.half_eq]
theorem byte_I (b : W) (c : UInt8) : HCrc.byteStep (I b) (c.toNat : Int) = I (MCrc.stpN 8 (b ^^^ MCrc.cw c)) := by
  have hc : (c.toNat : Int) = I (MCrc.cw c) := by
    unfold I MCrc.cw
    have : c.toNat < 256 := c.toNat_lt
    rw [BitVec.toNat_ofNat, Nat.mod_eq_of_lt (by omega)]
  unfold HCrc.byteStep
  rw [hc, xor_I, half_I, half_I, ← MCrc.stpN_add]
theorem sumN_I (s : ByteArray) (k : Nat) (h : k ≤ s.size) : HCrc.sumN s k = I (MCrc.reg (BitVec.allOnes 32) (s.data.toList.take k)) := by
  induction k with
  | zero => rfl
  | succ k ih =>
    rw [List.take_succ_eq_append_getElem (by rw [len_data]; omega), MCrc.reg_append]
    simp only [HCrc.sumN]
    rw [ih (by omega), bt_data s k (by omega), byte_I]
    rfl
theorem crcOf_I (s : ByteArray) : HCrc.crcOf s = I (MCrc.sum s.data.toList) := by
  unfold HCrc.crcOf MCrc.sum
  rw [sumN_I s _ (Nat.le_refl _), List.take_of_length_le (by rw [len_data]; exact Nat.le_refl _), show (4294967295 : Int) = I (BitVec.allOnes 32) from rfl, xor_I, BitVec.xor_comm, BitVec.xor_allOnes]
def C (s : ByteArray) : W := MCrc.sum s.data.toList
theorem of_ok (s : ByteArray) (h : s.size ≤ 9223372036854775807) : crc_Of.f s = some (I (C s)) := by
  unfold crc_Of.f
  rw [if_pos h, crcOf_I]; rfl
-- the reference's sum, bit by bit
theorem refbit (b : W) (t : Bool) : (if b.getLsbD 0 = t then b >>> 1 else (b >>> 1) ^^^ MCrc.poly) = MCrc.stp (b ^^^ MCrc.bw t) := by
  rw [MCrc.stp_xor]
  unfold MCrc.stp
  cases h : b.getLsbD 0 <;> cases t <;> simp [MCrc.bw, MCrc.poly, BitVec.xor_assoc]
theorem tmod2 (b : W) : Int.tmod (I b) 2 = if b.getLsbD 0 = true then 1 else 0 := by
  have h := I_range b
  rw [Int.tmod_eq_emod_of_nonneg h.1]
  have e : b.getLsbD 0 = decide (b.toNat % 2 = 1) := by
    rw [BitVec.getLsbD, Nat.testBit_zero]
  rw [e]
  unfold I
  by_cases h2 : b.toNat % 2 = 1
  · simp [h2]; omega
  · simp [h2]; omega
theorem bit_of (c : UInt8) (i : Nat) (hi : i < 8) : shr .u32 ((c.toNat : Int) % 4294967296) (IntKind.u64.wrap (i : Int)) % 2 = if c.toNat.testBit i = true then 1 else 0 := by
  have hc : c.toNat < 256 := c.toNat_lt
  rw [u64_small _ (by omega) (by omega)]
  unfold shr
  rw [show IntKind.u32.bits = 32 from rfl, Int.toNat_natCast, show min i 32 = i by omega, Int.emod_eq_of_lt (a := (c.toNat : Int)) (b := (4294967296 : Int)) (by omega) (by omega), Nat.testBit_eq_decide_div_mod_eq]
  have e : ((c.toNat : Int) / 2 ^ i) % 2 = ((c.toNat / 2 ^ i % 2 : Nat) : Int) := by simp
  rw [e]
  by_cases h : c.toNat / 2 ^ i % 2 = 1
  · simp [h]
  · have : c.toNat / 2 ^ i % 2 = 0 := by omega
    simp [this]
theorem tdiv2 (b : W) : Int.tdiv (I b) 2 % (4294967296 : Int) = I (b >>> 1) := by
  have h := I_range b
  have e := shr_I b 1
  rw [Int.pow_one] at e
  rw [Int.tdiv_eq_ediv_of_nonneg h.1, e, Int.emod_eq_of_lt (I_range _).1 (I_range _).2]
theorem ref_l0 (s : ByteArray) (hz : s.size ≤ 4611686018427387904) : ∀ d j : Nat, j + d = s.size → ∀ (b : W) k, 20 + 20 * d ≤ k →
    doorwardref02_Of.l0 k s (I b) j = some (I (~~~ MCrc.reg b (s.data.toList.drop j))) := by
  intro d
  induction d with
  | zero =>
    intro j hj b k hk
    obtain ⟨k, rfl⟩ : ∃ m, k = m + 1 := ⟨k - 1, by omega⟩
    simp only [doorwardref02_Of.l0]
    rw [if_neg (by omega), List.drop_of_length_le (by rw [len_data]; omega)]
    have h := I_range b
    have e : (4294967295 - I b) % (4294967296 : Int) = I (~~~ b) := by
      rw [Int.emod_eq_of_lt (by omega) (by omega)]
      unfold I
      rw [BitVec.toNat_not]
      have := b.isLt
      omega
    rw [e]; rfl
  | succ d ih =>
    intro j hj b k hk
    obtain ⟨k, rfl⟩ : ∃ m, k = m + 1 := ⟨k - 1, by omega⟩
    have hjs : j < s.data.toList.length := by rw [len_data]; omega
    simp only [doorwardref02_Of.l0]
    rw [if_pos (by omega)]
    have hget : s.data.toList[j]! = s.data.toList[j] := getElem!_pos ..
    have e : MCrc.reg b (s.data.toList.drop j) = MCrc.reg (MCrc.regB b (MCrc.bitsC s.data.toList[j]!)) (s.data.toList.drop (j + 1)) := by
      rw [List.drop_eq_getElem_cons hjs, MCrc.reg_bits, MCrc.reg_bits, hget]
      show MCrc.regB b (MCrc.bitsC _ ++ MCrc.bitsL _) = _
      rw [MCrc.regB_append]
    rw [e]
    have key : ∀ i k, i + k = 8 → ∀ m, 20 + 20 * d + k + 1 ≤ m → doorwardref02_Of.l1 m s (I (MCrc.regB b ((MCrc.bitsC s.data.toList[j]!).take i))) j i =
        some (I (~~~ MCrc.reg (MCrc.regB b (MCrc.bitsC s.data.toList[j]!)) (s.data.toList.drop (j + 1)))) := by
      intro i k
      induction k generalizing i with
      | zero =>
        intro hi m hm
        obtain ⟨m, rfl⟩ : ∃ z, m = z + 1 := ⟨m - 1, by omega⟩
        obtain rfl : i = 8 := by omega
        simp only [doorwardref02_Of.l1]
        rw [if_neg (by omega), w64 _ (by omega) (by omega), List.take_of_length_le (by simp [MCrc.bitsC])]
        exact ih (j + 1) (by omega) _ m (by omega)
      | succ q ihq =>
        intro hi m hm
        obtain ⟨m, rfl⟩ : ∃ z, m = z + 1 := ⟨m - 1, by omega⟩
        have hn := ihq (i + 1) (by omega) m (by omega)
        have hlen : i < (MCrc.bitsC s.data.toList[j]!).length := by simp [MCrc.bitsC]; omega
        rw [List.take_succ_eq_append_getElem hlen, MCrc.regB_append] at hn
        have hbit : (MCrc.bitsC s.data.toList[j]!)[i] = (s.data.toList[j]!).toNat.testBit i := by simp [MCrc.bitsC]
        rw [hbit] at hn
        generalize MCrc.reg (MCrc.regB b (MCrc.bitsC s.data.toList[j]!)) (s.data.toList.drop (j + 1)) = RR at hn ⊢
        generalize MCrc.regB b ((MCrc.bitsC s.data.toList[j]!).take i) = b2 at hn ⊢
        have hn2 : doorwardref02_Of.l1 m s (I (MCrc.stp (b2 ^^^ MCrc.bw ((s.data.toList[j]!).toNat.testBit i)))) j ((i + 1 : Nat) : Int) = some (I (~~~ RR)) := hn
        rw [← refbit] at hn2
        simp only [doorwardref02_Of.l1]
        rw [if_pos (by omega), if_pos (by omega), if_pos (by omega), if_pos (by rw [u64_small _ (by omega) (by omega)]; omega), bt_data s j (by omega), ← hget, bit_of _ i (by omega), tmod2, tdiv2, show (3988292384 : Int) = I MCrc.poly from rfl, xor_I, w64 ((i : Int) + 1) (by omega) (by omega)]
        clear hn hbit hget ihq ih
        generalize b2.getLsbD 0 = x at hn2 ⊢
        generalize (s.data.toList[j]!).toNat.testBit i = y at hn2 ⊢
        cases x <;> cases y <;> simpa using hn2
    exact key 0 8 (by omega) k (by omega)
theorem refOf_ok (s : ByteArray) (hz : s.size ≤ 4611686018427387904) : ∀ k, 20 + 20 * s.size ≤ k → doorwardref02_Of.f k s = some (I (C s)) := by
  intro k hk
  unfold doorwardref02_Of.f
  have := ref_l0 s hz s.size 0 (by omega) (BitVec.allOnes 32) k hk
  exact this
-- four bytes of a word
def val : List UInt8 → Nat
  | [] => 0
  | c :: l => 256 * val l + c.toNat
theorem val_bits : ∀ (l : List UInt8) (i : Nat), (MCrc.bitsL l).getD i false = (val l).testBit i := by
  intro l
  induction l with
  | nil => intro i; simp [MCrc.bitsL, val]
  | cons c l ih =>
    intro i
    have hc : c.toNat < 2 ^ 8 := c.toNat_lt
    rw [val, show 256 = 2 ^ 8 from rfl, Nat.testBit_two_pow_mul_add _ hc, show MCrc.bitsL (c :: l) = MCrc.bitsC c ++ MCrc.bitsL l from rfl, List.getD_eq_getElem?_getD, List.getElem?_append, MCrc.bitsC_length]
    by_cases h : i < 8
    · simp [h, MCrc.bitsC]
    · rw [if_neg h, if_neg h, ← List.getD_eq_getElem?_getD, ih]
theorem val_lt : ∀ (l : List UInt8), val l < 256 ^ l.length := by
  intro l
  induction l with
  | nil => simp [val]
  | cons c l ih =>
    have hc : c.toNat < 256 := c.toNat_lt
    rw [val, List.length_cons, Nat.pow_succ]
    omega
theorem wd_val (l : List UInt8) (h : l.length ≤ 4) : MCrc.wd (MCrc.bitsL l) = BitVec.ofNat 32 (val l) := by
  apply BitVec.eq_of_getLsbD_eq
  intro i hi
  rw [MCrc.wd_get _ _ (by rw [MCrc.bitsL_length]; omega) hi, val_bits, BitVec.getLsbD_ofNat]
  simp [hi]
theorem leval_val (s : ByteArray) (p : Nat) : ∀ j : Nat, p + j ≤ s.size → leval s p j = (val ((s.data.toList.drop p).take j) : Int) := by
  intro j
  induction j with
  | zero => intro _; simp [leval, val]
  | succ j ih =>
    intro h
    have hv : ∀ (l : List UInt8) (c : UInt8), val (l ++ [c]) = val l + c.toNat * 256 ^ l.length := by
      intro l c
      induction l with
      | nil => simp [val]
      | cons d l ih2 =>
        rw [List.cons_append, val, ih2, val, List.length_cons, Nat.pow_succ, Nat.mul_add]
        have : 256 * (c.toNat * 256 ^ l.length) = c.toNat * (256 ^ l.length * 256) := by rw [Nat.mul_comm (256 ^ l.length), ← Nat.mul_assoc, ← Nat.mul_assoc, Nat.mul_comm 256]
        omega
    have hl : j < (s.data.toList.drop p).length := by rw [List.length_drop, len_data]; omega
    rw [leval, ih (by omega), List.take_succ_eq_append_getElem hl, hv]
    have e1 : ((p : Int) + (j : Int)) = ((p + j : Nat) : Int) := by omega
    have e2 : (List.take j (List.drop p s.data.toList)).length = j := by rw [List.length_take]; omega
    rw [e1, bt_data s (p + j) (by omega), e2, List.getElem_drop]
    simp
-- sealing, opening
def le4 (b : W) : List UInt8 := (leB (I b) 4).map fun n => UInt8.ofNat n.toNat
theorem le4_length (b : W) : (le4 b).length = 4 := by simp [le4, leB]
theorem val_le4 (b : W) : val (le4 b) = b.toNat := by
  have hb := b.isLt
  have h : ∀ i : Nat, (UInt8.ofNat (I b / 256 ^ i % 256).toNat).toNat = b.toNat / 256 ^ i % 256 := by
    intro i
    have e : I b / 256 ^ i % 256 = ((b.toNat / 256 ^ i % 256 : Nat) : Int) := by unfold I; simp
    rw [e, Int.toNat_natCast, UInt8.toNat_ofNat', Nat.mod_mod]
  have e : le4 b = [UInt8.ofNat (I b / 256 ^ 0 % 256).toNat, UInt8.ofNat (I b / 256 ^ 1 % 256).toNat, UInt8.ofNat (I b / 256 ^ 2 % 256).toNat, UInt8.ofNat (I b / 256 ^ 3 % 256).toNat] := rfl
  rw [e]
  simp only [val]
  rw [h, h, h, h]
  omega
theorem wd_le4 (b : W) : MCrc.wd (MCrc.bitsL (le4 b)) = b := by
  rw [wd_val _ (by rw [le4_length]; omega), val_le4, BitVec.ofNat_toNat, BitVec.setWidth_eq]
theorem le4_wd (l : List UInt8) (h : l.length = 4) : le4 (MCrc.wd (MCrc.bitsL l)) = l := by
  apply MCrc.bitsL_inj
  apply MCrc.wd_inj
  · rw [MCrc.bitsL_length, le4_length]; omega
  · rw [MCrc.bitsL_length, MCrc.bitsL_length, le4_length, h]
  · rw [wd_le4]
def sealed (s : ByteArray) : ByteArray := ⟨(s.data.toList ++ le4 (C s)).toArray⟩
theorem sealed_data (s : ByteArray) : (sealed s).data.toList = s.data.toList ++ le4 (C s) := rfl
theorem sealed_size (s : ByteArray) : (sealed s).size = s.size + 4 := by
  rw [← len_data, sealed_data, List.length_append, le4_length, len_data]
theorem app_leB (s : ByteArray) : s ++ strOfNums (leB (I (C s)) 4) = sealed s := by
  apply ba_ext
  rw [app_data, sON_data, sealed_data]; rfl
theorem u64_I (b : W) : IntKind.u64.wrap (I b) = I b := by
  have := I_range b
  exact u64_small _ this.1 (by omega)
theorem seal_ok (s : ByteArray) (hz : s.size ≤ 4611686018427387904) : ∀ k, 20 ≤ k → crc_Seal.f k s = some (sealed s) := by
  intro k hk
  have hr := I_range (C s)
  unfold crc_Seal.f
  rw [of_ok s (by omega)]
  simp only [Option.bind_some]
  rw [u64_I, show (4 : Int) = ((4 : Nat) : Int) from rfl, put_ok _ 4 (by omega) (by omega) hr.1 (.inr (by rw [show (256 : Int) ^ 4 = 4294967296 from rfl]; exact hr.2)) k (by omega)]
  simp only [Option.bind_some]
  rw [if_pos (by rw [sON_size, leB_length]; omega), app_leB]
theorem bytes_loop (n0 : Int) : ∀ d i : Nat, i + d = 4 → ∀ (n : Int) (k : Nat), 0 ≤ n → n < 4294967296 → n = n0 / 256 ^ i → d < k → ∃ q, doorwardref01_Bytes.l0 k n 4 (leB n0 i) i = some (strOfNums (leB n0 4), q) := by
  intro d
  induction d with
  | zero =>
    intro i hi n k h0 h1 hn hk
    obtain ⟨k, rfl⟩ : ∃ m, k = m + 1 := ⟨k - 1, by omega⟩
    obtain rfl : i = 4 := by omega
    refine ⟨n, ?_⟩
    simp only [doorwardref01_Bytes.l0]
    rw [if_neg (by omega)]
  | succ d ih =>
    intro i hi n k h0 h1 hn hk
    obtain ⟨k, rfl⟩ : ∃ m, k = m + 1 := ⟨k - 1, by omega⟩
    simp only [doorwardref01_Bytes.l0]
    rw [if_pos (by omega), if_pos (by rw [leB_length]; omega), Int.tdiv_eq_ediv_of_nonneg h0, Int.tmod_eq_emod_of_nonneg h0, u64_small _ (by omega) (by omega), w64 _ (by omega) (by omega)]
    have e : leB n0 i ++ [n % 256 % 256] = leB n0 (i + 1) := by
      rw [leB, leB, List.range_succ, List.map_append, List.map_singleton, ← hn, Int.emod_emod_of_dvd _ (Int.dvd_refl _)]
    rw [e]
    have e2 : n / 256 = n0 / 256 ^ (i + 1) := by
      rw [hn, Int.pow_succ, Int.ediv_ediv_of_nonneg (Int.le_of_lt (pow256 i))]
    exact ih (i + 1) (by omega) (n / 256) k (by omega) (by omega) e2 (by omega)
theorem bytes_ok (b : W) : ∀ k, 20 ≤ k → ∃ q, doorwardref01_Bytes.f k (I b) 4 = some (strOfNums (leB (I b) 4), q) := by
  intro k hk
  have h := I_range b
  exact bytes_loop (I b) 4 0 (by omega) (I b) k h.1 h.2 (by simp) (by omega)
theorem refSeal_ok (s : ByteArray) (hz : s.size ≤ 4611686018427387904) : ∀ k, 20 + 20 * s.size ≤ k → doorwardref02_Seal.f k s = some (sealed s) := by
  intro k hk
  unfold doorwardref02_Seal.f
  rw [refOf_ok s hz k hk]
  simp only [Option.bind_some]
  obtain ⟨q, hq⟩ := bytes_ok (C s) k (by omega)
  rw [u64_I, hq]
  simp only [Option.bind_some]
  rw [if_pos (by rw [sON_size, leB_length]; omega), app_leB]
/-- what any bytes are opened to. -/
def good (t : ByteArray) : Bool := MCrc.wd (MCrc.bitsL (t.data.toList.drop (t.size - 4))) == MCrc.sum (t.data.toList.take (t.size - 4))
def opened (t : ByteArray) : ByteArray × Int := if t.size < 4 then (⟨#[]⟩, 3) else if good t = true then (t.extract 0 (t.size - 4), 0) else (⟨#[]⟩, 4)
theorem take_C (t : ByteArray) (n : Nat) (h : n ≤ t.size) : C (t.extract 0 n) = MCrc.sum (t.data.toList.take n) := by
  unfold C
  rw [ext_data]; simp
theorem ext_size (t : ByteArray) (n : Nat) (h : n ≤ t.size) : (t.extract 0 n).size = n := by
  rw [ByteArray.size_extract]; omega
theorem open_ok (t : ByteArray) (hz : t.size ≤ 4611686018427387900) : ∀ k, 20 ≤ k → crc_Open.f k t = some (opened t) := by
  intro k hk
  unfold crc_Open.f opened
  by_cases h4 : t.size < 4
  · rw [if_pos (by rw [w64 _ (by omega) (by omega)]; omega), if_pos h4]
  · rw [if_neg (by rw [w64 _ (by omega) (by omega)]; omega), if_neg h4]
    have e : wrap64 ((t.size : Int) - 4) = ((t.size - 4 : Nat) : Int) := by rw [w64 _ (by omega) (by omega)]; omega
    rw [e, show (4 : Int) = ((4 : Nat) : Int) from rfl, get_ok t _ 4 (by omega) (by omega) (by omega) (by omega) (by omega) k (by omega)]
    simp only [Option.bind_some]
    rw [if_pos (by omega), if_pos (by omega), Int.toNat_natCast, of_ok _ (by rw [ext_size _ _ (by omega)]; omega)]
    simp only [Option.bind_some]
    have hl := leval_val t (t.size - 4) 4 (by omega)
    have htk : (t.data.toList.drop (t.size - 4)).take 4 = t.data.toList.drop (t.size - 4) := List.take_of_length_le (by rw [List.length_drop, len_data]; omega)
    rw [htk] at hl
    have hv := val_lt (t.data.toList.drop (t.size - 4))
    have hlen : (t.data.toList.drop (t.size - 4)).length = 4 := by rw [List.length_drop, len_data]; omega
    rw [hlen] at hv
    have hm : leval t ((t.size - 4 : Nat) : Int) 4 % 4294967296 = I (MCrc.wd (MCrc.bitsL (t.data.toList.drop (t.size - 4)))) := by
      rw [hl, wd_val _ (by omega)]
      unfold I
      rw [BitVec.toNat_ofNat]; simp
    rw [hm, take_C _ _ (by omega)]
    by_cases hg : good t = true
    · have : MCrc.wd (MCrc.bitsL (t.data.toList.drop (t.size - 4))) = MCrc.sum (t.data.toList.take (t.size - 4)) := by simpa [good] using hg
      rw [if_pos (by rw [this]), if_pos hg]
    · have : ¬ MCrc.wd (MCrc.bitsL (t.data.toList.drop (t.size - 4))) = MCrc.sum (t.data.toList.take (t.size - 4)) := by simpa [good] using hg
      rw [if_neg (fun h => this (I_inj h)), if_neg hg]
theorem refOpen_ok (t : ByteArray) (hz : t.size ≤ 4611686018427387900) : ∀ k, 20 + 20 * t.size ≤ k → doorwardref02_Open.f k t = some (opened t) := by
  intro k hk
  unfold doorwardref02_Open.f opened
  by_cases h4 : t.size < 4
  · rw [if_pos (by rw [w64 _ (by omega) (by omega)]; omega), if_pos h4]
  · rw [if_neg (by rw [w64 _ (by omega) (by omega)]; omega), if_neg h4]
    have e : wrap64 ((t.size : Int) - 4) = ((t.size - 4 : Nat) : Int) := by rw [w64 _ (by omega) (by omega)]; omega
    rw [e, if_pos (by omega), if_pos (by omega), Int.toNat_natCast, refSeal_ok _ (by rw [ext_size _ _ (by omega)]; omega) k (by rw [ext_size _ _ (by omega)]; omega)]
    simp only [Option.bind_some]
    have hlen : (t.data.toList.drop (t.size - 4)).length = 4 := by rw [List.length_drop, len_data]; omega
    have key : (sealed (t.extract 0 (t.size - 4))).toList = t.toList ↔ good t = true := by
      rw [ByteArray.toList_eq, ByteArray.toList_eq, sealed_data, take_C _ _ (by omega), ext_data]
      simp only [good, beq_iff_eq, List.drop_zero, Nat.sub_zero]
      constructor
      · intro h
        have h2 : t.data.toList = t.data.toList.take (t.size - 4) ++ t.data.toList.drop (t.size - 4) := (List.take_append_drop _ _).symm
        have h3 := List.append_cancel_left (h.trans h2)
        rw [← h3, wd_le4]
      · intro h
        rw [← h, le4_wd _ hlen, List.take_append_drop]
    by_cases hg : good t = true
    · rw [if_pos (key.2 hg), if_pos hg]
    · rw [if_neg (fun h => hg (key.1 h)), if_neg hg]
theorem alive_ok : doorwardlaw02_alive.f = some true := by
  unfold doorwardlaw02_alive.f
  rw [of_ok _ (by decide)]
  decide +kernel
def shortS (s : ByteArray) : ByteArray := s.extract 0 (min s.size 4000)
theorem short_ok (s : ByteArray) : doorwardlaw02_short.f s = some (shortS s) := by
  have e : mn (s.size : Int) 4000 = ((min s.size 4000 : Nat) : Int) := by unfold mn; split <;> omega
  unfold doorwardlaw02_short.f
  rw [e, if_pos (by omega), if_pos (by omega), Int.toNat_natCast]; rfl
theorem shortS_size (s : ByteArray) : (shortS s).size ≤ 4000 := by unfold shortS; rw [ByteArray.size_extract]; omega
end Go.Proofs.Ytdiihhddcodabaa.QCrc
