/- CheckTells: which filters may be, and where one may not, and which cells are written on each way to each instruction, is as the document says. -/
import Derived.Test.YtefkhcijgiagdaaZCheckTells1
section
namespace Go.Proofs.Ytefkhcijgiagdaa.QRef12
open Go.RowKit Go.Proofs.YtefkhcijgiagdaaW.PrintWords Go.Proofs.YtefkhcijgiagdaaW.PrintLast Go.Proofs.YtefkhcijgiagdaaW.PrintMore Go.Proofs.Ytefkhcijgiagdaa.HKnown Go.Proofs.Ytefkhcijgiagdaa.I1 Go.Proofs.Ytefkhcijgiagdaa.K0 Go.Proofs.Ytefkhcijgiagdaa.K1 Go.Proofs.Ytefkhcijgiagdaa.QVm Go.Proofs.Ytefkhcijgiagdaa.QLe Go.Proofs.Ytefkhcijgiagdaa.QNum Go.Proofs.Ytefkhcijgiagdaa.QCheck Go.Proofs.Ytefkhcijgiagdaa.HCk Go.Proofs.Ytefkhcijgiagdaa.HRch Go.Proofs.Ytefkhcijgiagdaa.QCk
set_option linter.unusedVariables false
set_option linter.unusedSimpArgs false
abbrev LF (at_ n : Nat) : Int := (n : Int) - 1 - (at_ : Int)
theorem returns_f (i : S28) : doorwardref12_returns.f i.f0 i.f1 i.f2 i.f3 = some (retB i.f0) := by
  unfold doorwardref12_returns.f retB
  by_cases h : i.f0 = 6
  · rw [if_pos h, decide_eq_true (.inl h)]
  · rw [if_neg h]
    congr 1
    rw [Bool.eq_iff_iff, beq_iff_eq, decide_eq_true_eq]; omega
section
variable (i : S28) (p n : Nat) (hp : p < n) (hn : n ≤ 100000) (kn : knownB i.f0 = true) (h1 : 0 ≤ i.f1 ∧ i.f1 ≤ 255) (h2 : 0 ≤ i.f2 ∧ i.f2 ≤ 255) (h3 : U i.f3)
include hp hn kn h1 h2 h3
theorem j3_f (k : Nat) (b : Bool) : doorwardref12_Well.j3 (k + 1) (p : Int) (n : Int) i.f0 b i.f0 i.f1 i.f2 i.f3 = some (if b = true then decide (i.f3 < 32) else if i.f0 = 5 then decide (i.f3 < LF p n) else if i.f0 % 8 = 5 then decide (i.f1 < LF p n ∧ i.f2 < LF p n) else true) := by
  obtain ⟨k0, k1⟩ := known_range kn
  have hL : LF p n = (n : Int) - 1 - (p : Int) := rfl
  have a1 : wrap64 ((p : Int) + 1) = (p : Int) + 1 := by unfold wrap64; omega
  have a2 : wrap64 i.f3 = i.f3 := by unfold wrap64; omega
  have a3 : wrap64 ((p : Int) + 1 + i.f3) = (p : Int) + 1 + i.f3 := by unfold wrap64; omega
  have a4 : wrap64 ((p : Int) + 1 + i.f1) = (p : Int) + 1 + i.f1 := by unfold wrap64; omega
  have a5 : wrap64 ((p : Int) + 1 + i.f2) = (p : Int) + 1 + i.f2 := by unfold wrap64; omega
  simp only [doorwardref12_Well.j3]
  rw [a1, a2, a3, a4, a5]
  clear a1 a2 a3 a4 a5
  cases b with
  | true =>
    rw [if_pos rfl, if_pos rfl]
    congr 1
    rw [Bool.eq_iff_iff, decide_eq_true_eq, decide_eq_true_eq]; omega
  | false =>
    rw [if_neg (show ¬ (false = true) by decide), if_neg (show ¬ (false = true) by decide)]
    by_cases e5 : i.f0 = 5
    · rw [if_pos e5, if_pos e5]
      congr 1
      rw [Bool.eq_iff_iff, decide_eq_true_eq, decide_eq_true_eq]; omega
    · rw [if_neg e5, if_neg e5]
      unfold doorwardref12_jumps.f
      rw [Int.tmod_eq_emod_of_nonneg k0]
      by_cases e8 : i.f0 % 8 = 5
      · rw [if_pos e8, if_pos e8]
        have : (i.f0 != 5) = true := bne_iff_ne.2 e5
        simp only [Option.bind_some, this, if_true]
        by_cases g : (p : Int) + 1 + i.f1 < (n : Int)
        · rw [if_pos g]
          congr 1
          rw [Bool.eq_iff_iff, decide_eq_true_eq, decide_eq_true_eq]; omega
        · rw [if_neg g, decide_eq_false (by omega)]
      · rw [if_neg e8, if_neg e8]; rfl
theorem j1_f (k : Nat) : doorwardref12_Well.j1 (k + 3) (p : Int) (n : Int) false i.f0 i.f1 i.f2 i.f3 = some (fitB i (LF p n)) := by
  have J3 := j3_f i p n hp hn kn h1 h2 h3 k
  have J2 : ∀ b : Bool, doorwardref12_Well.j2 (k + 2) (p : Int) (n : Int) i.f0 b i.f0 i.f1 i.f2 i.f3 = some (if b = true then decide (i.f3 < 16) else if i.f0 = 52 then decide (i.f3 ≠ 0) else if i.f0 = 100 ∨ i.f0 = 116 then decide (i.f3 < 32) else if i.f0 = 5 then decide (i.f3 < LF p n) else if i.f0 % 8 = 5 then decide (i.f1 < LF p n ∧ i.f2 < LF p n) else true) := by
    intro b
    simp only [doorwardref12_Well.j2]
    cases b with
    | true =>
      rw [if_pos rfl, if_pos rfl]
      congr 1
      rw [Bool.eq_iff_iff, decide_eq_true_eq, decide_eq_true_eq]; omega
    | false =>
      rw [if_neg (show ¬ (false = true) by decide), if_neg (show ¬ (false = true) by decide)]
      by_cases e52 : i.f0 = 52
      · rw [if_pos e52, if_pos e52]
        congr 1
        rw [Bool.eq_iff_iff, decide_eq_true_eq, decide_eq_true_eq]; omega
      · rw [if_neg e52, if_neg e52]
        by_cases e100 : i.f0 = 100
        · have : (i.f0 == 100) = true := beq_iff_eq.2 e100
          rw [if_pos e100, if_pos (.inl e100), this, J3, if_pos rfl]
        · rw [if_neg e100, J3]
          by_cases e116 : i.f0 = 116
          · have : (i.f0 == 116) = true := beq_iff_eq.2 e116
            rw [this, if_pos rfl, if_pos (show i.f0 = 100 ∨ i.f0 = 116 from .inr e116)]
          · have : (i.f0 == 116) = false := beq_eq_false_iff_ne.2 e116
            rw [this, if_neg (show ¬ (false = true) by decide), if_neg (show ¬ (i.f0 = 100 ∨ i.f0 = 116) by omega)]
  simp only [doorwardref12_Well.j1]
  rw [if_neg (by decide)]
  unfold fitB
  by_cases e32 : i.f0 = 32
  · rw [if_pos e32, if_pos e32, Int.tmod_eq_emod_of_nonneg h3.1]
    by_cases g : i.f3 % 4 = 0
    · rw [if_pos g]
      congr 1
      rw [Bool.eq_iff_iff, decide_eq_true_eq, decide_eq_true_eq]; omega
    · rw [if_neg g, decide_eq_false (fun x => g x.1)]
  rw [if_neg e32, if_neg e32]
  by_cases e96 : i.f0 = 96
  · rw [if_pos e96, show (i.f0 == 96) = true from beq_iff_eq.2 e96, J2, if_pos rfl, if_pos (show i.f0 = 96 ∨ i.f0 = 97 ∨ i.f0 = 2 ∨ i.f0 = 3 from .inl e96)]
  rw [if_neg e96]
  by_cases e97 : i.f0 = 97
  · rw [if_pos e97, show (i.f0 == 97) = true from beq_iff_eq.2 e97, J2, if_pos rfl, if_pos (show i.f0 = 96 ∨ i.f0 = 97 ∨ i.f0 = 2 ∨ i.f0 = 3 from .inr (.inl e97))]
  rw [if_neg e97]
  by_cases e2 : i.f0 = 2
  · rw [if_pos e2, show (i.f0 == 2) = true from beq_iff_eq.2 e2, J2, if_pos rfl, if_pos (show i.f0 = 96 ∨ i.f0 = 97 ∨ i.f0 = 2 ∨ i.f0 = 3 from .inr (.inr (.inl e2)))]
  rw [if_neg e2, J2]
  by_cases e3 : i.f0 = 3
  · have h3' : (i.f0 == 3) = true := beq_iff_eq.2 e3
    rw [h3', if_pos rfl, if_pos (show i.f0 = 96 ∨ i.f0 = 97 ∨ i.f0 = 2 ∨ i.f0 = 3 from .inr (.inr (.inr e3)))]
  have h3' : (i.f0 == 3) = false := beq_eq_false_iff_ne.2 e3
  rw [h3', if_neg (show ¬ (false = true) by decide), if_neg (show ¬ (i.f0 = 96 ∨ i.f0 = 97 ∨ i.f0 = 2 ∨ i.f0 = 3) by omega)]
  congr 1
  by_cases e52 : i.f0 = 52
  · rw [if_pos e52, if_pos e52]
  rw [if_neg e52, if_neg e52]
  by_cases e1 : i.f0 = 100 ∨ i.f0 = 116
  · rw [if_pos e1, if_pos e1]
  rw [if_neg e1, if_neg e1]
  by_cases e5 : i.f0 = 5
  · rw [if_pos e5, if_pos e5]
  rw [if_neg e5, if_neg e5]
  by_cases e8 : i.f0 % 8 = 5
  · have := known_jump kn e8
    rw [if_pos e8, if_pos (by omega)]
  · rw [if_neg e8, if_neg (by omega)]
end
theorem well_f (i : S28) (p n : Nat) (hp : p < n) (hn : n ≤ 100000) (h3 : U i.f3) : ∀ k, 5 ≤ k → doorwardref12_Well.f k i.f0 i.f1 i.f2 i.f3 (p : Int) (n : Int) = some (wellB i (LF p n)) := by
  intro k hk
  obtain ⟨m, rfl⟩ : ∃ m, k = m + 4 := ⟨k - 4, by omega⟩
  unfold doorwardref12_Well.f
  rw [QIn.refKnown i.f0 (m + 4) (by omega)]
  simp only [Option.bind_some]
  have jt : doorwardref12_Well.j0 (m + 4) (p : Int) (n : Int) true i.f0 i.f1 i.f2 i.f3 = some false := by simp only [doorwardref12_Well.j0, if_true]
  by_cases kn : knownB i.f0 = true
  · rw [if_pos kn]
    by_cases g1 : i.f1 < 0
    · rw [if_pos g1, jt, well_false (fun w => by have := w.t0; omega)]
    rw [if_neg g1]
    by_cases g2 : i.f1 > 255
    · rw [if_pos g2, jt, well_false (fun w => by have := w.t1; omega)]
    rw [if_neg g2]
    by_cases g3 : i.f2 < 0
    · rw [if_pos g3, jt, well_false (fun w => by have := w.f0; omega)]
    rw [if_neg g3]
    by_cases g4 : i.f2 > 255
    · rw [decide_eq_true g4, jt, well_false (fun w => by have := w.f1; omega)]
    rw [decide_eq_false g4]
    have J1 := j1_f i p n hp hn kn ⟨by omega, by omega⟩ ⟨by omega, by omega⟩ h3 m
    have a1 : wrap64 ((n : Int) - 1) = (n : Int) - 1 := by unfold wrap64; omega
    simp only [doorwardref12_Well.j0]
    rw [if_neg (by decide), a1, returns_f]
    have hw : wellB i (LF p n) = ((decide (LF p n ≠ 0) || retB i.f0) && fitB i (LF p n)) := by
      unfold wellB
      rw [kn, decide_eq_true (show 0 ≤ i.f1 ∧ i.f1 ≤ 255 ∧ 0 ≤ i.f2 ∧ i.f2 ≤ 255 by omega)]
      rfl
    rw [hw]
    simp only [Option.bind_some]
    by_cases g5 : (p : Int) = (n : Int) - 1
    · rw [if_pos g5, decide_eq_false (show ¬ LF p n ≠ 0 by simp only [LF]; omega), Bool.false_or]
      cases hr : retB i.f0 with
      | true => rw [Bool.not_true, J1, Bool.true_and]
      | false =>
        rw [Bool.not_false, Bool.false_and]
        simp only [doorwardref12_Well.j1, if_true]
    · rw [if_neg g5, J1, decide_eq_true (show LF p n ≠ 0 by simp only [LF]; omega), Bool.true_or, Bool.true_and]
  · rw [if_neg kn, jt, well_false (fun w => kn w.kn)]
def fstR (o : Option Nat) : Int × Bool := match o with | some k => ((k : Int), true) | none => (0, false)
theorem first_f (l : List S28) (hl : l.length ≤ 100000) (hi : ∀ i ∈ l, IW i) : ∀ k, l.length + 10 ≤ k → doorwardref12_first.f k l = some (fstR (firstB l)) := by
  have key : ∀ d j k, d + j = l.length → d + 10 ≤ k → (∀ q, q < j → wellB (at_ l q) (LF q l.length) = true) → doorwardref12_first.l0 k l l (l.length : Int) (j : Int) = some (fstR (firstB l)) := by
    intro d
    induction d with
    | zero =>
      intro j k hj hk hw
      obtain ⟨m, rfl⟩ : ∃ m, k = m + 1 := ⟨k - 1, by omega⟩
      simp only [doorwardref12_first.l0]
      rw [if_neg (by omega), first_all l (fun q hq => hw q (by omega))]
      rfl
    | succ d ih =>
      intro j k hj hk hw
      obtain ⟨m, rfl⟩ : ∃ m, k = m + 1 := ⟨k - 1, by omega⟩
      simp only [doorwardref12_first.l0]
      rw [if_pos (by omega), if_pos (by omega), if_pos (by omega), rd_at, well_f (at_ l j) j l.length (by omega) hl (hi _ (at_mem l j (by omega))).2.2.2 m (by omega)]
      simp only [Option.bind_some]
      have a1 : wrap64 ((j : Int) + 1) = ((j + 1 : Nat) : Int) := by unfold wrap64; omega
      cases hb : wellB (at_ l j) (LF j l.length) with
      | true =>
        rw [if_pos rfl, a1]
        refine ih (j + 1) m (by omega) (by omega) (fun q hq => ?_)
        by_cases e : q = j
        · rw [e]; exact hb
        · exact hw q (by omega)
      | false =>
        rw [if_neg (by decide), first_at l j (by omega) (fun q hq => hw q hq) hb]
        rfl
  intro k hk
  unfold doorwardref12_first.f
  exact key l.length 0 k (by omega) hk (fun q hq => by omega)
theorem reached_f (l : List S28) (hl : l.length ≤ 100000) (hi : ∀ i ∈ l, IW i) (hf : firstB l = none) (c : Nat) (hc : c ≤ 16) : doorwardref12_reached.f l (c : Int) = some (rchL l c l.length) := by
  unfold doorwardref12_reached.f
  rw [if_pos ⟨hl, hi, hf, by omega, by omega⟩, Int.toNat_natCast]
def wo (l : List S28) (c : Nat) : List (List Bool) := (List.range c).map fun c => rchL l c l.length
theorem wo_succ (l : List S28) (c : Nat) : wo l c ++ [rchL l c l.length] = wo l (c + 1) := by unfold wo; rw [List.range_succ, List.map_append]; rfl
theorem wo_len (l : List S28) (c : Nat) : (wo l c).length = c := by simp [wo]
theorem wo_get (l : List S28) (c m : Nat) (h : c < m) : rd_L6 (wo l m) (c : Int) = rchL l c l.length := by
  unfold rd_L6 wo
  rw [Int.toNat_natCast, List.getD_eq_getElem?_getD, List.getElem?_map, List.getElem?_range h]; rfl
theorem rdOf_r (l : List S28) (c j : Nat) (h : j < l.length) : rdOf false (rchL l c l.length) (j : Int) = rch l c j := by
  unfold rdOf
  rw [Int.toNat_natCast]
  exact rchL_get l c l.length j h
def rowP (l : List S28) (j c : Nat) : List Bool := (List.range c).map fun c => !rch l c j
theorem rowP_succ (l : List S28) (j c : Nat) : rowP l j c ++ [!rch l c j] = rowP l j (c + 1) := by unfold rowP; rw [List.range_succ, List.map_append]; rfl
theorem rowP_len (l : List S28) (j c : Nat) : (rowP l j c).length = c := by simp [rowP]
def outP (l : List S28) (j : Nat) : List (List Bool) := (List.range j).map (rowR l)
theorem outP_succ (l : List S28) (j : Nat) : outP l j ++ [rowR l j] = outP l (j + 1) := by unfold outP; rw [List.range_succ, List.map_append]; rfl
theorem outP_len (l : List S28) (j : Nat) : (outP l j).length = j := by simp [outP]
theorem cells_l2 (l : List S28) (hl : l.length ≤ 100000) (j : Nat) (hj : j < l.length) (hr : rch l 16 j = true) : ∀ d c k, d + c = 16 → doorwardref12_Cells.l2 (k + d + 1) (rchL l 16 l.length) (wo l 16) (outP l j) (j : Int) (rowP l j c) (c : Int) (l.length : Int) (j : Int) = doorwardref12_Cells.l1 k (rchL l 16 l.length) (wo l 16) (outP l (j + 1)) (l.length : Int) ((j + 1 : Nat) : Int) := by
  have a1 : wrap64 ((j : Int) + 1) = ((j + 1 : Nat) : Int) := by unfold wrap64; omega
  intro d
  induction d with
  | zero =>
    intro c k hc
    obtain rfl : c = 16 := by omega
    simp only [doorwardref12_Cells.l2]
    rw [if_neg (by decide), if_pos (by rw [outP_len]; omega), a1]
    have e : rowP l j 16 = rowR l j := by unfold rowP rowR; rw [if_pos hr]
    rw [e, outP_succ]
  | succ d ih =>
    intro c k hc
    obtain ⟨M, hM⟩ : ∃ M, M = k + d + 1 := ⟨_, rfl⟩
    rw [show k + (d + 1) + 1 = M + 1 by omega]
    simp only [doorwardref12_Cells.l2]
    rw [if_pos (by omega), if_pos (by omega), if_pos (by rw [rchL_len]; omega), rdOf_r l 16 j hj, if_pos hr, if_pos (by omega), if_pos (by rw [wo_len]; omega), wo_get l c 16 (by omega), if_pos (by rw [rchL_len]; omega), if_pos (by rw [rowP_len]; omega), rdOf_r l c j hj, rowP_succ]
    have a2 : wrap64 ((c : Int) + 1) = ((c + 1 : Nat) : Int) := by unfold wrap64; omega
    rw [a2, hM]
    exact ih (c + 1) k (by omega)
theorem cells_l1 (l : List S28) (hl : l.length ≤ 100000) : ∀ d j k, d + j = l.length → 20 * d + 1 ≤ k → doorwardref12_Cells.l1 k (rchL l 16 l.length) (wo l 16) (outP l j) (l.length : Int) (j : Int) = some (outP l l.length, 0) := by
  intro d
  induction d with
  | zero =>
    intro j k hj hk
    obtain rfl : j = l.length := by omega
    obtain ⟨m, rfl⟩ : ∃ m, k = m + 1 := ⟨k - 1, by omega⟩
    simp only [doorwardref12_Cells.l1]
    rw [if_neg (by omega)]
  | succ d ih =>
    intro j k hj hk
    obtain ⟨m, rfl⟩ : ∃ m, k = m + 1 := ⟨k - 1, by omega⟩
    simp only [doorwardref12_Cells.l1]
    rw [if_pos (by omega)]
    by_cases hr : rch l 16 j = true
    · obtain ⟨q, rfl⟩ : ∃ q, m = q + 16 + 1 := ⟨m - 17, by omega⟩
      have := cells_l2 l hl j (by omega) hr 16 0 q (by omega)
      refine Eq.trans this ?_
      exact ih (j + 1) q (by omega) (by omega)
    · obtain ⟨q, rfl⟩ : ∃ q, m = q + 1 := ⟨m - 1, by omega⟩
      have a1 : wrap64 ((j : Int) + 1) = ((j + 1 : Nat) : Int) := by unfold wrap64; omega
      simp only [doorwardref12_Cells.l2]
      rw [if_pos (by decide), if_pos (by omega), if_pos (by rw [rchL_len]; omega), rdOf_r l 16 j (by omega), if_neg hr, if_pos (by rw [outP_len]; omega), a1]
      have e : ([] : List Bool) = rowR l j := by unfold rowR; rw [if_neg hr]
      rw [e, outP_succ]
      exact ih (j + 1) q (by omega) (by omega)
theorem cells_l0 (l : List S28) (hl : l.length ≤ 100000) (hi : ∀ i ∈ l, IW i) (hf : firstB l = none) : ∀ d c k, d + c = 16 → d + 20 * l.length + 5 ≤ k → doorwardref12_Cells.l0 k l (rchL l 16 l.length) (wo l c) (c : Int) = some (outP l l.length, 0) := by
  intro d
  induction d with
  | zero =>
    intro c k hc hk
    obtain rfl : c = 16 := by omega
    obtain ⟨m, rfl⟩ : ∃ m, k = m + 1 := ⟨k - 1, by omega⟩
    simp only [doorwardref12_Cells.l0]
    rw [if_neg (by decide)]
    exact cells_l1 l hl l.length 0 m (by omega) (by omega)
  | succ d ih =>
    intro c k hc hk
    obtain ⟨m, rfl⟩ : ∃ m, k = m + 1 := ⟨k - 1, by omega⟩
    simp only [doorwardref12_Cells.l0]
    rw [if_pos (by omega), reached_f l hl hi hf c (by omega)]
    simp only [Option.bind_some]
    have a2 : wrap64 ((c : Int) + 1) = ((c + 1 : Nat) : Int) := by unfold wrap64; omega
    rw [if_pos (by rw [wo_len]; omega), wo_succ, a2]
    exact ih (c + 1) m (by omega) (by omega)
theorem refCells_f (l : List S28) (hl : l.length ≤ 100000) (hi : ∀ i ∈ l, IW i) : ∀ k, 20 * l.length + 100 ≤ k → doorwardref12_Cells.f k l = some (cellsV l) := by
  intro k hk
  unfold doorwardref12_Cells.f
  by_cases h0 : (l.length : Int) > 4096
  · rw [if_pos h0]
    unfold cellsV allV
    rw [if_neg (show ¬ l.length = 0 by omega), if_pos (show 4096 < l.length by omega)]
    rfl
  rw [if_neg h0, first_f l hl hi k (by omega)]
  simp only [Option.bind_some]
  obtain ⟨m, rfl⟩ : ∃ m, k = m + 1 := ⟨k - 1, by omega⟩
  by_cases h1 : l.length = 0
  · rw [if_pos (by omega)]
    simp only [doorwardref12_Cells.j0, if_true]
    unfold cellsV allV
    rw [if_pos h1]
    rfl
  rw [if_neg (by omega)]
  cases hf : firstB l with
  | some q =>
    simp only [doorwardref12_Cells.j0, fstR, if_true]
    unfold cellsV allV
    rw [if_neg h1, if_neg (show ¬ 4096 < l.length by omega), hf]
    rfl
  | none =>
    simp only [doorwardref12_Cells.j0, fstR, Bool.false_eq_true, if_false]
    rw [show (16 : Int) = ((16 : Nat) : Int) from rfl, reached_f l hl hi hf 16 (by omega)]
    simp only [Option.bind_some]
    have := cells_l0 l hl hi hf 16 0 m (by omega) (by omega)
    refine Eq.trans this ?_
    have ha : (allV l).2 = 0 := (allV_ok l).2 ⟨by omega, by omega, hf⟩
    unfold cellsV
    rw [if_pos ha, cells_eq (wellL_of l (u3_of hi) hf) (by omega)]
    rfl
theorem check_l0 (l : List S28) (hl : l.length ≤ 100000) (hi : ∀ i ∈ l, IW i) (hf : firstB l = none) (R : List (List Bool)) (hR : R = outP l l.length) : ∀ d j k, d + j = l.length → 3 * d + 3 ≤ k → (∀ q, q < j → loadB (at_ l q) (R.getD q []) = false) → doorwardref12_Check.l0 k R l (l.length : Int) (j : Int) = some (allR2 (findB l R 0)) := by
  have hRl : R.length = l.length := by rw [hR, outP_len]
  have hrow : ∀ q, q < l.length → R.getD q [] = [] ∨ (R.getD q []).length = 16 := by
    intro q hq
    rw [hR]
    unfold outP
    rw [List.getD_eq_getElem?_getD, List.getElem?_map, List.getElem?_range hq]
    show rowR l q = [] ∨ (rowR l q).length = 16
    unfold rowR
    split
    · right; simp
    · exact .inl rfl
  intro d
  induction d with
  | zero =>
    intro j k hj hk hq
    obtain ⟨m, rfl⟩ : ∃ m, k = m + 1 := ⟨k - 1, by omega⟩
    simp only [doorwardref12_Check.l0]
    rw [if_neg (by omega), (find_none l R 0).2 (fun q h => by rw [Nat.zero_add]; exact hq q (by omega))]
    rfl
  | succ d ih =>
    intro j k hj hk hq
    obtain ⟨m, rfl⟩ : ∃ m, k = m + 2 := ⟨k - 2, by omega⟩
    have a1 : wrap64 ((j : Int) + 1) = ((j + 1 : Nat) : Int) := by unfold wrap64; omega
    have hw := (well_iff _ _).1 ((first_none l).1 hf j (by omega))
    have h3 := (hi _ (at_mem l j (by omega))).2.2.2.1
    have next : loadB (at_ l j) (R.getD j []) = false → doorwardref12_Check.l0 m R l (l.length : Int) (wrap64 ((j : Int) + 1)) = some (allR2 (findB l R 0)) := by
      intro hb
      rw [a1]
      refine ih (j + 1) m (by omega) (by omega) (fun q h => ?_)
      by_cases e : q = j
      · rw [e]; exact hb
      · exact hq q (by omega)
    have J : ∀ b : Bool, b = decide ((at_ l j).f0 = 96 ∨ (at_ l j).f0 = 97) → doorwardref12_Check.j1 (m + 1) R (j : Int) l (l.length : Int) (j : Int) b (at_ l j).f0 (at_ l j).f1 (at_ l j).f2 (at_ l j).f3 = some (allR2 (findB l R 0)) := by
      intro b hb
      simp only [doorwardref12_Check.j1]
      by_cases hc : (at_ l j).f0 = 96 ∨ (at_ l j).f0 = 97
      · rw [decide_eq_true hc] at hb
        have hk16 := hw.cell (by omega)
        rw [if_pos hb, if_pos (by omega), if_pos (by omega)]
        have er : rd_L6 R (j : Int) = R.getD j [] := by unfold rd_L6; rw [Int.toNat_natCast]
        rw [er]
        rcases hrow j (by omega) with h | h
        · rw [h, if_neg (by simp)]
          exact next (by rw [h]; exact loadB_nil)
        · rw [if_pos (by omega), if_pos h3, if_pos (by omega)]
          have ev : rdOf false (R.getD j []) (at_ l j).f3 = (R.getD j []).getD (at_ l j).f3.toNat false := rfl
          have hv := loadB_some hc h
          rw [ev]
          cases e : (R.getD j []).getD (at_ l j).f3.toNat false with
          | true =>
            rw [if_pos rfl]
            exact next (by rw [hv, e]; rfl)
          | false =>
            rw [if_neg (by decide)]
            have := find_at l R 0 j (by omega) (fun q h => by rw [Nat.zero_add]; exact hq q h) (by rw [Nat.zero_add, hv, e]; rfl)
            rw [this, Nat.zero_add]
            rfl
      · rw [decide_eq_false hc] at hb
        rw [if_neg (by rw [hb]; decide)]
        exact next (loadB_no hc)
    rw [show m + 2 = (m + 1) + 1 by omega]
    simp only [doorwardref12_Check.l0]
    rw [if_pos (by omega), if_pos (by omega), if_pos (by omega), rd_at]
    by_cases e96 : (at_ l j).f0 = 96
    · rw [if_pos e96]
      exact J true (by rw [decide_eq_true (.inl e96)])
    · rw [if_neg e96]
      refine J _ ?_
      rw [Bool.eq_iff_iff, beq_iff_eq, decide_eq_true_eq]; omega
theorem refCheck_f (l : List S28) (hl : l.length ≤ 100000) (hi : ∀ i ∈ l, IW i) : ∀ k, 20 * l.length + 100 ≤ k → doorwardref12_Check.f k l = some (checkV l) := by
  intro k hk
  unfold doorwardref12_Check.f
  by_cases h1 : l.length = 0
  · rw [if_pos (by omega)]
    have ha : allV l = (0, 51) := by unfold allV; rw [if_pos h1]
    unfold checkV
    rw [ha]
    rfl
  rw [if_neg (by omega)]
  by_cases h0 : (l.length : Int) > 4096
  · rw [if_pos h0]
    have ha : allV l = (0, 2) := by unfold allV; rw [if_neg h1, if_pos (show 4096 < l.length by omega)]
    unfold checkV
    rw [ha]
    rfl
  rw [if_neg h0, first_f l hl hi k (by omega)]
  simp only [Option.bind_some]
  cases hf : firstB l with
  | some q =>
    simp only [fstR, if_true]
    have ha : allV l = ((q : Int), 51) := by unfold allV; rw [if_neg h1, if_neg (show ¬ 4096 < l.length by omega), hf]
    unfold checkV
    rw [ha]
    rfl
  | none =>
    simp only [fstR, Bool.false_eq_true, if_false]
    rw [refCells_f l hl hi k hk]
    simp only [Option.bind_some]
    have ha : (allV l).2 = 0 := (allV_ok l).2 ⟨by omega, by omega, hf⟩
    rw [checkV_good ha]
    have hc := cells_eq (wellL_of l (u3_of hi) hf) (by omega : 0 < l.length)
    have e : (cellsV l).1 = cellsL l l.length := by unfold cellsV; rw [if_pos ha]
    rw [e]
    exact check_l0 l hl hi hf _ hc l.length 0 k (by omega) (by omega) (fun q h => by omega)
theorem like_l1 (a : List (List Bool)) (j : Nat) (hj : j < a.length) (hl : a.length ≤ 100000) (hr : (rd_L6 a (j : Int)).length ≤ 100000) : ∀ d c k, d + c = (rd_L6 a (j : Int)).length → doorwardref12_Like.l1 (k + d + 1) a a (j : Int) (a.length : Int) (j : Int) ((rd_L6 a (j : Int)).length : Int) (c : Int) = doorwardref12_Like.l0 k a a (a.length : Int) ((j + 1 : Nat) : Int) := by
  have a1 : wrap64 ((j : Int) + 1) = ((j + 1 : Nat) : Int) := by unfold wrap64; omega
  intro d
  induction d with
  | zero =>
    intro c k hc
    simp only [doorwardref12_Like.l1]
    rw [if_neg (by omega), a1]
  | succ d ih =>
    intro c k hc
    obtain ⟨M, hM⟩ : ∃ M, M = k + d + 1 := ⟨_, rfl⟩
    rw [show k + (d + 1) + 1 = M + 1 by omega]
    simp only [doorwardref12_Like.l1]
    have a2 : wrap64 ((c : Int) + 1) = ((c + 1 : Nat) : Int) := by unfold wrap64; omega
    rw [if_pos (by omega), if_pos (by omega), if_pos (by omega), if_pos (by omega), if_pos (by omega), if_pos (by omega), if_pos (by omega), if_neg (by simp), a2, hM]
    exact ih (c + 1) k (by omega)
theorem like_f (a : List (List Bool)) (hl : a.length ≤ 100000) (hr : ∀ j, j < a.length → (rd_L6 a (j : Int)).length ≤ 16) : ∀ k, 20 * a.length + 10 ≤ k → doorwardref12_Like.f k a a = some true := by
  have key : ∀ d j k, d + j = a.length → 20 * d + 5 ≤ k → doorwardref12_Like.l0 k a a (a.length : Int) (j : Int) = some true := by
    intro d
    induction d with
    | zero =>
      intro j k hj hk
      obtain ⟨m, rfl⟩ : ∃ m, k = m + 1 := ⟨k - 1, by omega⟩
      simp only [doorwardref12_Like.l0]
      rw [if_neg (by omega)]
    | succ d ih =>
      intro j k hj hk
      obtain ⟨m, rfl⟩ : ∃ m, k = m + 1 := ⟨k - 1, by omega⟩
      simp only [doorwardref12_Like.l0]
      rw [if_pos (by omega), if_pos (by omega), if_pos (by omega), if_pos (by omega), if_pos trivial]
      have h16 := hr j (by omega)
      obtain ⟨q, hq⟩ : ∃ q, m = q + (rd_L6 a (j : Int)).length + 1 := ⟨m - (rd_L6 a (j : Int)).length - 1, by omega⟩
      rw [hq]
      refine Eq.trans (like_l1 a j (by omega) hl (by omega) (rd_L6 a (j : Int)).length 0 q (by omega)) ?_
      exact ih (j + 1) q (by omega) (by omega)
  intro k hk
  unfold doorwardref12_Like.f
  rw [if_pos rfl]
  exact key a.length 0 k (by omega) (by omega)
end Go.Proofs.Ytefkhcijgiagdaa.QRef12
end
section
namespace Go.Proofs.Ytefkhcijgiagdaa.Pure
open Go.RowKit Go.Proofs.Ytefkhcijgiagdaa.StatCheckTells Go.Proofs.YtefkhcijgiagdaaW.PrintWords Go.Proofs.YtefkhcijgiagdaaW.PrintLast Go.Proofs.YtefkhcijgiagdaaW.PrintMore Go.Proofs.Ytefkhcijgiagdaa.PCheckTells Go.Proofs.Ytefkhcijgiagdaa.HKnown Go.Proofs.Ytefkhcijgiagdaa.I1 Go.Proofs.Ytefkhcijgiagdaa.K0 Go.Proofs.Ytefkhcijgiagdaa.K1 Go.Proofs.Ytefkhcijgiagdaa.K3 Go.Proofs.Ytefkhcijgiagdaa.QVm Go.Proofs.Ytefkhcijgiagdaa.QNum Go.Proofs.Ytefkhcijgiagdaa.QCheck Go.Proofs.Ytefkhcijgiagdaa.HCk Go.Proofs.Ytefkhcijgiagdaa.QCk Go.Proofs.Ytefkhcijgiagdaa.QRef12
set_option linter.unusedVariables false
set_option linter.unusedSimpArgs false
theorem iw_q {i : S28} (h : Q28 i) : IW i := ⟨h.1, h.2.1, h.2.2.1, wf_u32 h.2.2.2⟩
theorem CheckTells : StatCheckTells.Stat := by
  intro l _ _ hq
  obtain ⟨m, hm, hl⟩ := few_f l
  have hy : ∀ i ∈ l.take m, IW i := fun i hi => iw_q (hq i (List.mem_of_mem_take hi))
  generalize hK : 100000 = K
  refine ⟨K, ?_⟩
  unfold doorwardlaw12_CheckTells.f
  rw [hm]
  simp only [Option.bind_some]
  generalize l.take m = y at *
  rw [check_f y (by omega) hy, refCheck_f y (by omega) hy K (by omega), cells_f y (by omega) hy, refCells_f y (by omega) hy K (by omega), alive_f]
  simp only [Option.bind_some]
  have hlen : (cellsV y).1.length ≤ y.length ∧ ∀ j, j < (cellsV y).1.length → (rd_L6 (cellsV y).1 (j : Int)).length ≤ 16 := by
    unfold cellsV
    by_cases ha : (allV y).2 = 0
    · rw [if_pos ha]
      obtain ⟨h0, _, hf⟩ := (allV_ok y).1 ha
      rw [cells_eq (wellL_of y (u3_of hy) hf) h0]
      refine ⟨by simp, fun j hj => ?_⟩
      have hj : j < y.length := by simpa using hj
      unfold rd_L6
      rw [Int.toNat_natCast, List.getD_eq_getElem?_getD, List.getElem?_map, List.getElem?_range hj]
      show (rowR y j).length ≤ 16
      unfold rowR
      split <;> simp
    · rw [if_neg ha]
      exact ⟨by simp, fun j hj => by simp at hj⟩
  rw [like_f _ (by omega) hlen.2 K (by omega)]
  simp
end Go.Proofs.Ytefkhcijgiagdaa.Pure
end
section
namespace Go.Proofs.Ytefkhcijgiagdaa.checkTells
open Go.ChangeShapes Go.WideShapes Go.ChangeAt Go.RowKit Go.Proofs.Ytefkhcijgiagdaa.Open Go.Proofs.Ytefkhcijgiagdaa.StatCheckTells Go.Proofs.YtefkhcijgiagdaaW.PrintWords Go.Proofs.Ytefkhcijgiagdaa.PCheckTells Go.Proofs.Ytefkhcijgiagdaa.Le Go.Proofs.Ytefkhcijgiagdaa.HKnown Go.Proofs.Ytefkhcijgiagdaa.HPut Go.Proofs.Ytefkhcijgiagdaa.I1 Go.Proofs.Ytefkhcijgiagdaa.E1 Go.Proofs.Ytefkhcijgiagdaa.HAsm Go.Proofs.Ytefkhcijgiagdaa.E2 Go.Proofs.Ytefkhcijgiagdaa.HAll Go.Proofs.Ytefkhcijgiagdaa.V0 Go.Proofs.Ytefkhcijgiagdaa.HVm Go.Proofs.Ytefkhcijgiagdaa.K0 Go.Proofs.Ytefkhcijgiagdaa.HCk Go.Proofs.Ytefkhcijgiagdaa.K3 Go.Proofs.Ytefkhcijgiagdaa.HRch Go.Proofs.Ytefkhcijgiagdaa.K1
open Go.ChangeMaps (open_string shut_string)
set_option linter.unusedVariables false
open Go.Proofs.Ytefkhcijgiagdaa.Order (own laidOut)
open Go.Proofs.Ytefkhcijgiagdaa
set_option maxRecDepth 100000 in
set_option maxHeartbeats 1000000 in
theorem lifted (os : Os) (started : os.Started) (H : Type) (enc : TypeId × Value → H) :
    ReturnsInHanded {} Try.checked os 13 .any (Rows.checkTellsSpec.pre6 enc Try.prog Try.f13 Rows.checkTellsRow.domain false) (Rows.checkTellsSpec.post enc Try.prog Try.f13 false true false false) := by
  refine returnsInHanded_of_change_sized (C := Try.checked) own started (by kernel_rfl) Try.func13
    (ChangeSpec.witness6 (enc := enc) (C := Try.checked) false ⟨#[], #[.slice none 0 0], []⟩ 20 (by kernel_rfl) (by kernel_rfl) (by kernel_rfl) (by kernel_rfl)) ?_
  intro W base args ds gs before hval0 hW hcnd hsz0 _
  have hsz : (DataW.weightsEach Try.prog (Try.f13.params.toList ++ Rows.checkTellsSpec.plain.varTypes Try.prog) (ds ++ gs)).all (· ≤ reachBytes) = true := hsz0
  have hval : ∀ (j : Nat) t v, Try.f13.params[j]? = some t → args[j]? = some v → Value.okWide Try.prog W .any base t v := hval0
  have hW' := hW
  obtain ⟨p, q, hA0, hV, rfl, hfz, hnd⟩ := hW
  have hA : DataW.TrodAll enc Try.prog W 0 (fun _ => true) true Try.f13.params.toList args.toList ds p := hA0
  rw [Try.params13] at hA hval hsz
  obtain ⟨v0, vs0, d0, ds0, p0, q0, hargs, rfl, rfl, h0, r0⟩ := trodAll_cons hA
  obtain ⟨rfl, rfl, rfl⟩ := trodAll_nil r0
  obtain rfl : args = #[v0] := by cases args; simp_all
  obtain ⟨rfl, rfl⟩ := trodVars_none hV
  have k0_ := h0
  have lt0 : ∀ x ∈ p0, x.block < W.heap.size := by obtain ⟨m, hm⟩ := k0_; exact DataW.trod_lt m _ _ _ hm
  obtain ⟨A0, c0, x0, rfl, hc0, hr0, hm0, hq0⟩ := slice_of Try.underlying34 (by kernel_rfl) (hval 0 34 v0 rfl rfl) opens28 h0
  have y0 : x0.length * 32 ≤ 140737488351232 := slice_sized hsz (j := 0) (t := 34) rfl rfl Try.underlying34 (by kernel_rfl) h0
  clear hA0 hval0 hsz0 hsz
  obtain ⟨k, hk⟩ := Pure.CheckTells x0 hm0 y0 hq0
  refine (doorwardlaw12_CheckTells.calls (k := k) (hr0 := hr0) (hc0 := hc0) (r := true) (w := W) (h := hk)).mono ?_
  rintro e W' ⟨rfl, bel0⟩
  have bel := bel0
  exact ⟨_, rfl, _, _, _, [], _, [], hW', trodAll_mk1 (shut_bool Try.underlying4 _), (trodAll_cons_mk (Below.trod laidOut (by kernel_rfl) (of_decide_eq_true (by kernel_rfl)) k0_ bel lt0) trodAll_mk0), rfl, bel.frame _, fun h => by cases h⟩
set_option maxHeartbeats 4000000 in
theorem facts : joinedFacts Try.prog 13 Try.f13 Rows.checkTellsSpec Rows.checkTellsRow = true := by
  unfold joinedFacts
  repeat' (with_reducible refine (Bool.and_eq_true_iff).mpr ⟨?_, ?_⟩)
  all_goals first | (with_reducible exact Order.laidOut) | (with_reducible exact Order.mapsRowed) | (with_reducible exact Order.noStops) | (with_reducible exact Order.noKnobs) | (with_reducible exact Order.enter) | (with_reducible exact Order.heard) | (rw [Order.makes]; rfl) | (rw [Order.lifts]; rfl) | (as_aux_lemma => kernel_rfl)
theorem named : Try.prog.funcNamed "doorward/doorwardlaw12.CheckTells" = some 13 := by kernel_rfl
theorem inst : Try.f13.isInstance Try.prog Rows.checkTellsRow.origin Rows.checkTellsRow.targs := of_decide_eq_true (by kernel_rfl)
theorem wrap : Try.f13.isWrapper Try.prog Rows.checkTellsRow.wrapper Rows.checkTellsRow.mainSum := by unfold Func.isWrapper; first | (rw [if_pos (by decide +kernel)]; kernel_rfl) | (rw [if_neg (by decide +kernel)]; exact ⟨rfl, rfl⟩)
theorem over : Rows.checkTellsRow.holds Try.pinned (OpenSpec.ofChange Rows.checkTellsSpec) :=
  OpenClaim.holds_of_wide 13 Try.f13 rfl rfl rfl rfl rfl rfl rfl ⟨rfl, rfl, rfl, rfl, rfl⟩ rfl rfl rfl rfl rfl named Try.func13 facts inst wrap
    (fun os started H enc _ => lifted os started H enc)
theorem proved : Rows.CheckTellsSaid := over
#print axioms proved
end Go.Proofs.Ytefkhcijgiagdaa.checkTells
namespace Go.Proofs.Ytefkhcijgiagdaa
/-- The row, under a short name, for the claim. -/
theorem checkTells_holds : Rows.CheckTellsSaid := checkTells.proved
end Go.Proofs.Ytefkhcijgiagdaa
end
