/- CrcThree: the sums of three texts of one length make that of the bits that are 1 in just one or all three of them; for all texts. -/
import Derived.Test.YtdiihhddcodabaaPCrcThreex1
import Derived.Test.YtdiihhddcodabaaQCrc
namespace Go.Proofs.Ytdiihhddcodabaa.Pure
open Go.RowKit Go.Proofs.Ytdiihhddcodabaa.PCrcThree Go.Proofs.YtdiihhddcodabaaW.PrintWords Go.Proofs.YtdiihhddcodabaaW.PrintLast Go.Proofs.YtdiihhddcodabaaW.PrintMore Go.Proofs.Ytdiihhddcodabaa.QCrc Go.Proofs.Ytdiihhddcodabaa.QLe Go.Proofs.Ytdiihhddcodabaa.B
def x3 (a b c : ByteArray) (i : Nat) : Int := Go.bits .xor .u8 (Go.bits .xor .u8 (bt a i) (bt b i)) (bt c i)
def row3 (a b c : ByteArray) (n i : Nat) : List Int := (List.range n).map fun j => if j < i then x3 a b c j else 0
theorem row3_set (a b c : ByteArray) (n i : Nat) (h : i < n) : (row3 a b c n i).set i (x3 a b c i) = row3 a b c n (i + 1) := by
  apply List.ext_getElem (by simp [row3])
  intro j h1 h2
  simp only [row3, List.getElem_set, List.getElem_map, List.getElem_range]
  by_cases hj : i = j
  · subst hj; simp
  · by_cases hl : j < i
    · simp [hj, hl, show j < i + 1 by omega]
    · simp [hj, hl, show ¬ j < i + 1 by omega]
theorem row3_length (a b c : ByteArray) (n i : Nat) : (row3 a b c n i).length = n := by simp [row3]
theorem xor8 (x y : UInt8) : Go.bits .xor .u8 (x.toNat : Int) (y.toNat : Int) = ((x ^^^ y).toNat : Int) := by
  have hx : x.toNat < 256 := x.toNat_lt
  have hy : y.toNat < 256 := y.toNat_lt
  have e : Go.bits .xor .u8 (x.toNat : Int) (y.toNat : Int) = IntKind.u8.wrap ((BitVec.ofInt 8 (x.toNat : Int) ^^^ BitVec.ofInt 8 (y.toNat : Int)).toNat : Int) := rfl
  have h3 : x.toNat ^^^ y.toNat < 2 ^ 8 := Nat.xor_lt_two_pow hx hy
  rw [e, BitVec.ofInt_natCast, BitVec.ofInt_natCast, BitVec.toNat_xor, BitVec.toNat_ofNat, BitVec.toNat_ofNat, Nat.mod_eq_of_lt (by omega : x.toNat < 2 ^ 8), Nat.mod_eq_of_lt (by omega : y.toNat < 2 ^ 8), Go.IntKind.wrap_u8, UInt8.toNat_xor]
  omega
theorem row3_data (a b c : ByteArray) (n : Nat) (ha : n ≤ a.size) (hb : n ≤ b.size) (hc : n ≤ c.size) :
    (strOfNums (row3 a b c n n)).data.toList = List.zipWith (· ^^^ ·) (List.zipWith (· ^^^ ·) (a.data.toList.take n) (b.data.toList.take n)) (c.data.toList.take n) := by
  rw [sON_data]
  apply List.ext_getElem
  · simp [row3, len_data]; omega
  · intro j h1 h2
    have hj : j < n := by simpa [row3] using h1
    simp only [List.getElem_map, row3, List.getElem_range, List.getElem_zipWith, List.getElem_take]
    rw [if_pos hj, x3, bt_data a j (by omega), bt_data b j (by omega), bt_data c j (by omega), xor8, xor8, Int.toNat_natCast]
    simp
theorem loop3 (a b c : ByteArray) (n : Nat) (ha : n ≤ a.size) (hb : n ≤ b.size) (hc : n ≤ c.size) (h4 : n ≤ 4000) :
    ∀ d i : Nat, i + d = n → ∀ k, d < k → doorwardlaw02_CrcThree.l0 k a b c n (row3 a b c n i) n i = some true := by
  intro d
  induction d with
  | zero =>
    intro i hi k hk
    obtain ⟨k, rfl⟩ : ∃ m, k = m + 1 := ⟨k - 1, by omega⟩
    obtain rfl : i = n := by omega
    simp only [doorwardlaw02_CrcThree.l0]
    rw [if_neg (by omega), alive_ok]
    simp only [Option.bind_some, if_true]
    rw [of_ok _ (by rw [sON_size, row3_length]; omega)]
    simp only [Option.bind_some]
    rw [if_pos (by omega), if_pos (by omega), Int.toNat_natCast, of_ok _ (by rw [ext_size _ _ ha]; omega)]
    simp only [Option.bind_some]
    rw [if_pos (by omega), of_ok _ (by rw [ext_size _ _ hb]; omega)]
    simp only [Option.bind_some]
    rw [if_pos (by omega), of_ok _ (by rw [ext_size _ _ hc]; omega)]
    simp only [Option.bind_some]
    have key : C (strOfNums (row3 a b c i i)) = C (a.extract 0 i) ^^^ C (b.extract 0 i) ^^^ C (c.extract 0 i) := by
      have hn : ∀ x : W, ~~~ x = x ^^^ BitVec.allOnes 32 := fun x => BitVec.xor_allOnes.symm
      rw [take_C _ _ ha, take_C _ _ hb, take_C _ _ hc, C, row3_data a b c i ha hb hc]
      have h := MCrc.reg3 (BitVec.allOnes 32) (BitVec.allOnes 32) (BitVec.allOnes 32) (a.data.toList.take i) (b.data.toList.take i) (c.data.toList.take i) (by simp [len_data]; omega) (by simp [len_data]; omega)
      rw [BitVec.xor_self, BitVec.zero_xor] at h
      simp only [MCrc.sum, hn]
      rw [h]
      generalize BitVec.allOnes 32 = o
      simp [BitVec.xor_assoc, BitVec.xor_comm, MCrc.xlc, MCrc.xcc]
    rw [key, xor_I, xor_I]
    simp
  | succ d ih =>
    intro i hi k hk
    obtain ⟨k, rfl⟩ : ∃ m, k = m + 1 := ⟨k - 1, by omega⟩
    simp only [doorwardlaw02_CrcThree.l0]
    rw [if_pos (by omega), if_pos (by omega), if_pos (by omega), if_pos (by omega), if_pos (by omega), if_pos (by rw [row3_length]; omega), Int.toNat_natCast, w64 _ (by omega) (by omega)]
    have e : Go.bits .xor .u8 (Go.bits .xor .u8 (bt a i) (bt b i)) (bt c i) = x3 a b c i := rfl
    rw [e, row3_set _ _ _ _ _ (by omega)]
    exact ih (i + 1) (by omega) k (by omega)
theorem CrcThree : doorwardlaw02_CrcThree.Pure := by
  intro a b c ha hb hc
  obtain ⟨K, hK⟩ : ∃ K : Nat, 4001 ≤ K := ⟨4001, Nat.le_refl _⟩
  refine ⟨K, ?_⟩
  obtain ⟨n, hn⟩ : ∃ n : Nat, n = min (min (min a.size b.size) c.size) 4000 := ⟨_, rfl⟩
  have e : mn (mn (mn (a.size : Int) (b.size : Int)) (c.size : Int)) 4000 = (n : Int) := by
    subst hn
    unfold mn
    split <;> split <;> split <;> omega
  unfold doorwardlaw02_CrcThree.f
  rw [e, if_pos (by omega), if_pos (by omega)]
  simp only [Option.bind_some, Int.toNat_natCast]
  have h0 : List.replicate n (0 : Int) = row3 a b c n 0 := by
    apply List.ext_getElem (by simp [row3])
    intro j h1 h2
    simp [row3]
  rw [h0, row3_length]
  exact loop3 a b c n (by omega) (by omega) (by omega) (by omega) n 0 (by omega) K (by omega)
end Go.Proofs.Ytdiihhddcodabaa.Pure
