/- CrcTwice: what is sealed twice is opened twice; two unlike texts of at most four bytes, of one length, behind one text, have unlike sums; for all texts. -/
import Derived.Test.YtdiihhddcodabaaPCrcTwicex1
import Derived.Test.YtdiihhddcodabaaQCrc
namespace Go.Proofs.Ytdiihhddcodabaa.Pure
open Go.RowKit Go.Proofs.Ytdiihhddcodabaa.PCrcTwice Go.Proofs.YtdiihhddcodabaaW.PrintWords Go.Proofs.YtdiihhddcodabaaW.PrintLast Go.Proofs.YtdiihhddcodabaaW.PrintMore Go.Proofs.Ytdiihhddcodabaa.QCrc Go.Proofs.Ytdiihhddcodabaa.QLe Go.Proofs.Ytdiihhddcodabaa.B
theorem opened_sealed (s : ByteArray) : opened (sealed s) = (s, 0) := by
  have hz := sealed_size s
  unfold opened
  rw [if_neg (by omega)]
  have hd : (sealed s).size - 4 = s.data.toList.length := by rw [hz, len_data]; omega
  have hg : good (sealed s) = true := by
    unfold good
    rw [sealed_data, hd, List.drop_left, List.take_left, wd_le4]
    simp [C]
  rw [if_pos hg, hd]
  congr 1
  apply ba_ext
  rw [ext_data, sealed_data]
  simp
theorem sum_append_iff (s a b : List UInt8) (h : a.length = b.length) (h4 : a.length ≤ 4) : MCrc.sum (s ++ a) = MCrc.sum (s ++ b) ↔ a = b := by
  constructor
  · intro e
    have hn : ∀ x : W, ~~~ x = x ^^^ BitVec.allOnes 32 := fun x => BitVec.xor_allOnes.symm
    have e2 : MCrc.reg (BitVec.allOnes 32) (s ++ a) = MCrc.reg (BitVec.allOnes 32) (s ++ b) := by
      have := congrArg (fun z => ~~~ z) e
      simpa [MCrc.sum] using this
    rw [MCrc.reg_append, MCrc.reg_append, MCrc.reg_wd _ a h4, MCrc.reg_wd _ b (by omega), h, MCrc.stpN_inj] at e2
    have e3 : MCrc.wd (MCrc.bitsL a) = MCrc.wd (MCrc.bitsL b) := by
      have := congrArg (fun z => MCrc.reg (BitVec.allOnes 32) s ^^^ z) e2
      simpa [MCrc.xcc] using this
    exact MCrc.bitsL_inj _ _ (MCrc.wd_inj _ _ (by rw [MCrc.bitsL_length]; omega) (by rw [MCrc.bitsL_length, MCrc.bitsL_length, h]) e3)
  · rintro rfl; rfl
theorem CrcTwice : doorwardlaw02_CrcTwice.Pure := by
  intro s a b hs ha hb
  have h1 := shortS_size s
  have h2 := sealed_size (shortS s)
  have h3 := sealed_size (sealed (shortS s))
  refine ⟨100000, ?_⟩
  obtain ⟨n, hn⟩ : ∃ n : Nat, n = min (min a.size b.size) 4 := ⟨_, rfl⟩
  have e : mn (mn (a.size : Int) (b.size : Int)) 4 = (n : Int) := by
    subst hn
    unfold mn
    split <;> split <;> omega
  unfold doorwardlaw02_CrcTwice.f
  rw [short_ok]
  simp only [Option.bind_some]
  rw [seal_ok _ (by omega) _ (by omega)]
  simp only [Option.bind_some]
  rw [seal_ok _ (by omega) _ (by omega)]
  simp only [Option.bind_some]
  rw [open_ok _ (by omega) _ (by omega), opened_sealed]
  simp only [Option.bind_some]
  rw [open_ok _ (by omega) _ (by omega), opened_sealed, alive_ok]
  simp only [Option.bind_some, if_true]
  rw [e, if_pos (by omega), if_pos (by omega), Int.toNat_natCast, if_pos (by rw [ext_size _ _ (by omega)]; omega), of_ok _ (by rw [ByteArray.size_append, ext_size _ _ (by omega)]; omega)]
  simp only [Option.bind_some]
  rw [if_pos (by omega), if_pos (by rw [ext_size _ _ (by omega)]; omega), of_ok _ (by rw [ByteArray.size_append, ext_size _ _ (by omega)]; omega)]
  simp only [Option.bind_some]
  congr 1
  rw [ByteArray.toList_eq, ByteArray.toList_eq]
  have key := sum_append_iff (shortS s).data.toList (a.extract 0 n).data.toList (b.extract 0 n).data.toList (by rw [len_data, len_data, ext_size _ _ (by omega), ext_size _ _ (by omega)]) (by rw [len_data, ext_size _ _ (by omega)]; omega)
  unfold C
  rw [app_data, app_data]
  by_cases h : (a.extract 0 n).data.toList = (b.extract 0 n).data.toList
  · rw [h]; simp
  · have h5 : ¬ I (MCrc.sum ((shortS s).data.toList ++ (a.extract 0 n).data.toList)) = I (MCrc.sum ((shortS s).data.toList ++ (b.extract 0 n).data.toList)) := fun g => h (key.1 (I_inj g))
    have h6 := beq_eq_false_iff_ne.mpr h5
    have h7 := beq_eq_false_iff_ne.mpr h
    rw [h6, h7]; rfl
end Go.Proofs.Ytdiihhddcodabaa.Pure
