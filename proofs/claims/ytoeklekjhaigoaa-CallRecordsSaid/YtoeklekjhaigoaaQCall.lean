/- What call.Nr and call.Name answer, in plain words: the table's rows, gone through one by one. -/
import Derived.Test.YtoeklekjhaigoaaC1x1
import Derived.Test.YtoeklekjhaigoaaQLe
import Derived.Test.YtoeklekjhaigoaaQNum
import Derived.KernelRfl
namespace Go.Proofs.Ytoeklekjhaigoaa.QCall
open Go.RowKit Go.Proofs.YtoeklekjhaigoaaW.PrintWords Go.Proofs.YtoeklekjhaigoaaW.PrintLast Go.Proofs.YtoeklekjhaigoaaW.PrintMore Go.Proofs.Ytoeklekjhaigoaa.Le Go.Proofs.Ytoeklekjhaigoaa.C1 Go.Proofs.Ytoeklekjhaigoaa.QNum Go.Proofs.Ytoeklekjhaigoaa.QLe
set_option linter.unusedVariables false
set_option linter.unusedSimpArgs false
set_option maxRecDepth 100000
def tbl : List S112 := call_table.f.getD []
theorem tbl_f : call_table.f = some tbl := rfl
theorem tbl_len : tbl.length = 35 := by decide +kernel
/-- A row's number. -/
def num (r : S112) (a : Int) : Int × Bool := if a = 3221225534 then (mx r.f1 0 % 4294967296, decide (r.f1 ≥ 0)) else if a = 3221225655 then (mx r.f2 0 % 4294967296, decide (r.f2 ≥ 0)) else (0, false)
theorem num_f (r : S112) (a : Int) : call_row_number.f r.f0 r.f1 r.f2 a = some (num r a) := by
  unfold call_row_number.f num
  split
  · rfl
  · split
    · rfl
    · simp [mx]
def findNr (a : Int) (nm : List UInt8) : List S112 → Int × Bool
  | [] => (0, false)
  | r :: t => if r.f0.toList = nm then num r a else findNr a nm t
def findName (a n : Int) : List S112 → ByteArray × Bool
  | [] => (⟨#[]⟩, false)
  | r :: t => if (num r a).2 = true ∧ (num r a).1 = n then (r.f0, true) else findName a n t
theorem rd_get (xs : List S112) (i : Nat) (h : i < xs.length) : rd_T112 xs i = xs[i] := by
  unfold rd_T112; simp [List.getD, h]
theorem nr_loop (a : Int) (nm : ByteArray) (xs : List S112) (hl : xs.length < 1000000) : ∀ n i : Nat, i + n = xs.length → ∀ k, n < k → call_Nr.l0 k a nm xs (xs.length : Int) i = some (findNr a nm.toList (xs.drop i)) := by
  intro n
  induction n with
  | zero =>
    intro i hi k hk
    obtain ⟨k, rfl⟩ : ∃ m, k = m + 1 := ⟨k - 1, by omega⟩
    simp only [call_Nr.l0]
    rw [if_neg (by omega), List.drop_eq_nil_of_le (by omega)]; rfl
  | succ n ih =>
    intro i hi k hk
    obtain ⟨k, rfl⟩ : ∃ m, k = m + 1 := ⟨k - 1, by omega⟩
    simp only [call_Nr.l0]
    have hlt : i < xs.length := by omega
    rw [if_pos (by omega), if_pos (by omega), if_pos (by omega), rd_get xs i hlt, List.drop_eq_getElem_cons hlt, w64 _ (by omega) (by omega), num_f]
    simp only [findNr, Option.bind_some]
    split
    · rfl
    · exact ih (i + 1) (by omega) k (by omega)
theorem nr_f (a : Int) (nm : ByteArray) (k : Nat) (hk : 36 ≤ k) : call_Nr.f k a nm = some (findNr a nm.toList tbl) := by
  unfold call_Nr.f
  rw [tbl_f]
  simp only [Option.bind_some]
  exact nr_loop a nm tbl (by rw [tbl_len]; omega) tbl.length 0 (by omega) k (by rw [tbl_len]; omega)
theorem name_loop (a m : Int) (xs : List S112) (hl : xs.length < 1000000) : ∀ n i : Nat, i + n = xs.length → ∀ k, n < k → call_Name.l0 k a m xs (xs.length : Int) i = some (findName a m (xs.drop i)) := by
  intro n
  induction n with
  | zero =>
    intro i hi k hk
    obtain ⟨k, rfl⟩ : ∃ m, k = m + 1 := ⟨k - 1, by omega⟩
    simp only [call_Name.l0]
    rw [if_neg (by omega), List.drop_eq_nil_of_le (by omega)]; rfl
  | succ n ih =>
    intro i hi k hk
    obtain ⟨k, rfl⟩ : ∃ m, k = m + 1 := ⟨k - 1, by omega⟩
    simp only [call_Name.l0]
    have hlt : i < xs.length := by omega
    rw [if_pos (by omega), if_pos (by omega), if_pos (by omega), rd_get xs i hlt, List.drop_eq_getElem_cons hlt, w64 _ (by omega) (by omega), num_f]
    simp only [findName, Option.bind_some]
    have := ih (i + 1) (by omega) k (by omega)
    by_cases h1 : (num xs[i] a).2 = true
    · by_cases h2 : (num xs[i] a).1 = m
      · rw [if_pos h1, if_pos h2, if_pos ⟨h1, h2⟩]
      · rw [if_pos h1, if_neg h2, if_neg (fun h => h2 h.2)]; exact this
    · rw [if_neg h1, if_neg (fun h => h1 h.1)]; exact this
theorem name_f (a m : Int) (k : Nat) (hk : 36 ≤ k) : call_Name.f k a m = some (findName a m tbl) := by
  unfold call_Name.f
  rw [tbl_f]
  simp only [Option.bind_some]
  exact name_loop a m tbl (by rw [tbl_len]; omega) tbl.length 0 (by omega) k (by rw [tbl_len]; omega)
theorem alive_ok (k : Nat) (hk : 36 ≤ k) : doorwardlaw13_alive.f k = some true := by
  unfold doorwardlaw13_alive.f
  rw [nr_f _ _ k hk]
  have : findNr 3221225534 (⟨#[111, 112, 101, 110, 97, 116]⟩ : ByteArray).toList tbl = (257, true) := by decide +kernel
  rw [this]; rfl
theorem findNr_mem (a : Int) (nm : List UInt8) : ∀ xs : List S112, (findNr a nm xs).2 = true → ∃ r ∈ xs, r.f0.toList = nm ∧ num r a = ((findNr a nm xs).1, true) := by
  intro xs
  induction xs with
  | nil => intro h; cases h
  | cons r t ih =>
    intro h
    unfold findNr at h ⊢
    split at h
    · rename_i e
      rw [if_pos e]
      exact ⟨r, List.mem_cons_self .., e, Prod.ext rfl h⟩
    · rename_i e
      rw [if_neg e]
      obtain ⟨q, hq, h1, h2⟩ := ih h
      exact ⟨q, List.mem_cons_of_mem _ hq, h1, h2⟩
theorem findName_mem (a n : Int) : ∀ xs : List S112, (findName a n xs).2 = true → ∃ r ∈ xs, r.f0 = (findName a n xs).1 ∧ num r a = (n, true) := by
  intro xs
  induction xs with
  | nil => intro h; cases h
  | cons r t ih =>
    intro h
    unfold findName at h ⊢
    split at h
    · rename_i e
      rw [if_pos e]
      exact ⟨r, List.mem_cons_self .., rfl, Prod.ext e.2 e.1⟩
    · rename_i e
      rw [if_neg e]
      obtain ⟨q, hq, h1, h2⟩ := ih h
      exact ⟨q, List.mem_cons_of_mem _ hq, h1, h2⟩
/-- Rows of one architecture: one name just if one number. -/
theorem apart (a : Int) (ha : a = 3221225534 ∨ a = 3221225655) : ∀ r ∈ tbl, ∀ q ∈ tbl, (num r a).2 = true → (num q a).2 = true → (r.f0.toList = q.f0.toList ↔ (num r a).1 = (num q a).1) := by
  rcases ha with rfl | rfl
  · have : (tbl.all fun r => tbl.all fun q => !(num r 3221225534).2 || !(num q 3221225534).2 || (decide (r.f0.toList = q.f0.toList) == decide ((num r 3221225534).1 = (num q 3221225534).1))) = true := by decide +kernel
    intro r hr q hq h1 h2
    have := List.all_eq_true.1 (List.all_eq_true.1 this r hr) q hq
    rw [h1, h2] at this
    simpa using this
  · have : (tbl.all fun r => tbl.all fun q => !(num r 3221225655).2 || !(num q 3221225655).2 || (decide (r.f0.toList = q.f0.toList) == decide ((num r 3221225655).1 = (num q 3221225655).1))) = true := by decide +kernel
    intro r hr q hq h1 h2
    have := List.all_eq_true.1 (List.all_eq_true.1 this r hr) q hq
    rw [h1, h2] at this
    simpa using this
theorem found (a : Int) (ha : a = 3221225534 ∨ a = 3221225655) : ∀ r ∈ tbl, findNr a r.f0.toList tbl = num r a ∧ ((num r a).2 = true → findName a (num r a).1 tbl = (r.f0, true)) := by
  have key : (tbl.all fun r => decide (findNr a r.f0.toList tbl = num r a) && (!(num r a).2 || (decide ((findName a (num r a).1 tbl).1.toList = r.f0.toList) && (findName a (num r a).1 tbl).2))) = true := by
    rcases ha with rfl | rfl <;> decide +kernel
  intro r hr
  have := List.all_eq_true.1 key r hr
  simp only [Bool.and_eq_true, decide_eq_true_eq, Bool.or_eq_true, Bool.not_eq_true'] at this
  refine ⟨this.1, fun h => ?_⟩
  rcases this.2 with h' | h'
  · rw [h] at h'; cases h'
  · exact Prod.ext (ByteArray.ext (Array.ext' (by simpa [ByteArray.toList_eq] using h'.1))) h'.2
end Go.Proofs.Ytoeklekjhaigoaa.QCall
