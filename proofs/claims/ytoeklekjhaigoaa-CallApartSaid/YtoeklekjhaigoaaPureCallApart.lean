/- CallApart: two unlike names of one architecture have unlike numbers, two unlike numbers unlike names. -/
import Derived.Test.YtoeklekjhaigoaaStatCallApart
import Derived.Test.YtoeklekjhaigoaaQCall
namespace Go.Proofs.Ytoeklekjhaigoaa.Pure
open Go.RowKit Go.Proofs.Ytoeklekjhaigoaa.StatCallApart Go.Proofs.YtoeklekjhaigoaaW.PrintWords Go.Proofs.YtoeklekjhaigoaaW.PrintLast Go.Proofs.YtoeklekjhaigoaaW.PrintMore Go.Proofs.Ytoeklekjhaigoaa.PCallApart Go.Proofs.Ytoeklekjhaigoaa.QLe Go.Proofs.Ytoeklekjhaigoaa.C1 Go.Proofs.Ytoeklekjhaigoaa.QCall
theorem bne_false {α β : Type} [BEq α] [LawfulBEq α] [BEq β] [LawfulBEq β] (a b : α) (c d : β) (h : a = b ↔ c = d) : ((a == b) != (c == d)) = false := by
  rcases Classical.em (c = d) with e | e
  · rw [beq_iff_eq.2 e, beq_iff_eq.2 (h.2 e)]; rfl
  · rw [beq_eq_false_iff_ne.2 e, beq_eq_false_iff_ne.2 (fun x => e (h.1 x))]; rfl
theorem nrs (a : Int) (ha : a = 3221225534 ∨ a = 3221225655) (x y : List UInt8) (hx : (findNr a x tbl).2 = true) (hy : (findNr a y tbl).2 = true) : ((findNr a x tbl).1 = (findNr a y tbl).1) ↔ x = y := by
  obtain ⟨r, hr, r1, r2⟩ := findNr_mem a x tbl hx
  obtain ⟨q, hq, q1, q2⟩ := findNr_mem a y tbl hy
  have := apart a ha r hr q hq (by rw [r2]) (by rw [q2])
  rw [r1, q1, r2, q2] at this
  exact this.symm
theorem nms (a : Int) (ha : a = 3221225534 ∨ a = 3221225655) (x y : Int) (hx : (findName a x tbl).2 = true) (hy : (findName a y tbl).2 = true) : ((findName a x tbl).1.toList = (findName a y tbl).1.toList) ↔ x = y := by
  obtain ⟨r, hr, r1, r2⟩ := findName_mem a x tbl hx
  obtain ⟨q, hq, q1, q2⟩ := findName_mem a y tbl hy
  have := apart a ha r hr q hq (by rw [r2]) (by rw [q2])
  rw [r1, q1, r2, q2] at this
  exact this
theorem step (a : Int) (ha : a = 3221225534 ∨ a = 3221225655) (k : Nat) (hk : 40 ≤ k) (s t : ByteArray) (n m : Int) (xs : List Int) (len : Int) (i : Int) (hi : 0 ≤ i) (h1 : i < len) (h2 : i < (xs.length : Int)) (h3 : rd xs i = a) :
    doorwardlaw13_CallApart.l0 (k + 2) s t n m xs len i = doorwardlaw13_CallApart.l0 k s t n m xs len (wrap64 (i + 1)) := by
  have J : doorwardlaw13_CallApart.j1 (k + 1) s t n m a xs len i false = doorwardlaw13_CallApart.l0 k s t n m xs len (wrap64 (i + 1)) := by
    simp only [doorwardlaw13_CallApart.j1]
    rw [if_neg (by decide), name_f a n k (by omega), name_f a m k (by omega)]
    simp only [Option.bind_some]
    by_cases hx : (findName a n tbl).2 = true
    · by_cases hy : (findName a m tbl).2 = true
      · rw [if_pos hx, if_pos hy]
        have := nms a ha n m hx hy
        have e : (((findName a n tbl).1.toList == (findName a m tbl).1.toList) != (n == m)) = false := by
          exact bne_false _ _ _ _ this
        rw [e, if_neg (by decide)]
      · rw [if_pos hx, if_neg hy]
    · rw [if_neg hx]
  show doorwardlaw13_CallApart.l0 (k + 1 + 1) s t n m xs len i = _
  simp only [doorwardlaw13_CallApart.l0]
  rw [if_pos h1, if_pos hi, if_pos h2, h3, nr_f a s (k + 1) (by omega), nr_f a t (k + 1) (by omega)]
  simp only [Option.bind_some]
  by_cases hx : (findNr a s.toList tbl).2 = true
  · by_cases hy : (findNr a t.toList tbl).2 = true
    · rw [if_pos hx, if_pos hy]
      have := nrs a ha s.toList t.toList hx hy
      have e : (((findNr a s.toList tbl).1 == (findNr a t.toList tbl).1) != (s.toList == t.toList)) = false := by
        exact bne_false _ _ _ _ this
      rw [e]; exact J
    · rw [if_pos hx, if_neg hy]; exact J
  · rw [if_neg hx]; exact J
theorem CallApart : StatCallApart.Stat := by
  intro s t n m hs ht hn hm
  refine ⟨60, ?_⟩
  unfold doorwardlaw13_CallApart.f
  simp only [Option.bind_some]
  have s0 := step 3221225534 (Or.inl rfl) 58 (by omega) s t n m [3221225534, 3221225655] 2 0 (by omega) (by omega) (by decide) rfl
  have s1 := step 3221225655 (Or.inr rfl) 56 (by omega) s t n m [3221225534, 3221225655] 2 1 (by omega) (by omega) (by decide) rfl
  have w0 : wrap64 (0 + 1) = 1 := w64 _ (by omega) (by omega)
  have w1 : wrap64 (1 + 1) = 2 := w64 _ (by omega) (by omega)
  rw [w0] at s0; rw [w1] at s1
  show doorwardlaw13_CallApart.l0 60 s t n m [3221225534, 3221225655] 2 0 = _
  rw [s0, s1]
  show doorwardlaw13_CallApart.l0 (55 + 1) s t n m [3221225534, 3221225655] 2 2 = _
  simp only [doorwardlaw13_CallApart.l0]
  rw [if_neg (by omega), alive_ok _ (by omega)]; rfl
end Go.Proofs.Ytoeklekjhaigoaa.Pure
