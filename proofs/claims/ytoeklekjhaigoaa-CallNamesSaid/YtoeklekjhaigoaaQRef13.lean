/- What the reference's tables of calls and actions answer: what the program's do. -/
import Derived.Test.YtoeklekjhaigoaaC2x1
import Derived.Test.YtoeklekjhaigoaaQCall
import Derived.Test.YtoeklekjhaigoaaQAct
namespace Go.Proofs.Ytoeklekjhaigoaa.QRef13
open Go.RowKit Go.Proofs.YtoeklekjhaigoaaW.PrintWords Go.Proofs.YtoeklekjhaigoaaW.PrintLast Go.Proofs.YtoeklekjhaigoaaW.PrintMore Go.Proofs.Ytoeklekjhaigoaa.Le Go.Proofs.Ytoeklekjhaigoaa.C1 Go.Proofs.Ytoeklekjhaigoaa.C2 Go.Proofs.Ytoeklekjhaigoaa.QLe Go.Proofs.Ytoeklekjhaigoaa.QCall Go.Proofs.Ytoeklekjhaigoaa.QAct Go.Proofs.Ytoeklekjhaigoaa.HAct
set_option linter.unusedVariables false
set_option linter.unusedSimpArgs false
set_option maxRecDepth 100000
def nms : List ByteArray := doorwardref13_Names.f.getD []
def cx : List Int := doorwardref13_x86.f.getD []
def ca : List Int := doorwardref13_arm.f.getD []
theorem nms_f : doorwardref13_Names.f = some nms := rfl
theorem cx_f : doorwardref13_x86.f = some cx := rfl
theorem ca_f : doorwardref13_arm.f = some ca := rfl
theorem nms_eq : nms = tbl.map (·.f0) := rfl
theorem cx_eq : cx = tbl.map (·.f1) := rfl
theorem ca_eq : ca = tbl.map (·.f2) := rfl
theorem row_f (a : Int) : doorwardref13_row.f a = some (if a = 3221225534 then cx else if a = 3221225655 then ca else []) := by
  unfold doorwardref13_row.f
  rw [cx_f, ca_f]
  simp only [Option.bind_some]
  split
  · rfl
  · split <;> rfl
theorem rd_map (g : S112 → Int) (T : List S112) (i : Nat) (h : i < T.length) : rd (T.map g) (i : Int) = g T[i] := by
  unfold rd; simp [List.getD, h]
theorem rdOf_map (T : List S112) (i : Nat) (h : i < T.length) : rdOf ByteArray.empty (T.map (·.f0)) (i : Int) = T[i].f0 := by
  unfold rdOf; simp [List.getD, h]
def findG (g : S112 → Int) (nm : List UInt8) : List S112 → Int × Bool
  | [] => (0, false)
  | r :: t => if r.f0.toList = nm then (if g r ≥ 0 then (g r % 4294967296, true) else findG g nm t) else findG g nm t
def nameG (g : S112 → Int) (n : Int) : List S112 → ByteArray × Bool
  | [] => (⟨#[]⟩, false)
  | r :: t => if g r ≥ 0 then (if g r % 4294967296 = n then (r.f0, true) else nameG g n t) else nameG g n t
theorem refNr_loop (g : S112 → Int) (nm : ByteArray) (T : List S112) (hl : T.length < 1000000) : ∀ n i : Nat, i + n = T.length → ∀ k, n < k → doorwardref13_Nr.l0 k nm (T.map (·.f0)) (T.map g) (T.length : Int) i = some (findG g nm.toList (T.drop i)) := by
  intro n
  induction n with
  | zero =>
    intro i hi k hk
    obtain ⟨k, rfl⟩ : ∃ m, k = m + 1 := ⟨k - 1, by omega⟩
    simp only [doorwardref13_Nr.l0]
    rw [if_neg (by omega), List.drop_eq_nil_of_le (by omega)]; rfl
  | succ n ih =>
    intro i hi k hk
    obtain ⟨k, rfl⟩ : ∃ m, k = m + 1 := ⟨k - 1, by omega⟩
    simp only [doorwardref13_Nr.l0]
    have hlt : i < T.length := by omega
    have next := ih (i + 1) (by omega) k (by omega)
    rw [if_pos (by omega), if_pos (by omega), if_pos (by rw [List.length_map]; omega), if_pos (by rw [List.length_map]; omega), rd_map g T i hlt, rdOf_map T i hlt, List.drop_eq_getElem_cons hlt, w64 _ (by omega) (by omega)]
    simp only [findG]
    split
    · split
      · rfl
      · exact next
    · exact next
theorem refName_loop (g : S112 → Int) (m : Int) (T : List S112) (hl : T.length < 1000000) : ∀ n i : Nat, i + n = T.length → ∀ k, n < k → doorwardref13_Name.l0 k m (T.map (·.f0)) (T.map g) (T.length : Int) i = some (nameG g m (T.drop i)) := by
  intro n
  induction n with
  | zero =>
    intro i hi k hk
    obtain ⟨k, rfl⟩ : ∃ m, k = m + 1 := ⟨k - 1, by omega⟩
    simp only [doorwardref13_Name.l0]
    rw [if_neg (by omega), List.drop_eq_nil_of_le (by omega)]; rfl
  | succ n ih =>
    intro i hi k hk
    obtain ⟨k, rfl⟩ : ∃ m, k = m + 1 := ⟨k - 1, by omega⟩
    simp only [doorwardref13_Name.l0]
    have hlt : i < T.length := by omega
    have next := ih (i + 1) (by omega) k (by omega)
    have hln : (i : Int) < ((T.map (·.f0)).length : Int) := by rw [List.length_map]; omega
    rw [if_pos (by omega), if_pos (by omega), if_pos (by rw [List.length_map]; omega), rd_map g T i hlt, rdOf_map T i hlt, List.drop_eq_getElem_cons hlt, w64 _ (by omega) (by omega)]
    simp only [nameG, if_pos hln]
    split
    · split
      · rfl
      · exact next
    · exact next
theorem findG_none (g : S112 → Int) (nm : List UInt8) : ∀ T : List S112, (∀ r ∈ T, r.f0.toList ≠ nm) → findG g nm T = (0, false) := by
  intro T
  induction T with
  | nil => intro _; rfl
  | cons r t ih =>
    intro h
    unfold findG
    rw [if_neg (h r (List.mem_cons_self ..))]
    exact ih (fun q hq => h q (List.mem_cons_of_mem _ hq))
theorem findG_nr (g : S112 → Int) (a : Int) (nm : List UInt8) (hg : ∀ r, num r a = (mx (g r) 0 % 4294967296, decide (g r ≥ 0))) : ∀ T : List S112, (T.map (fun r => r.f0.toList)).Nodup → findG g nm T = findNr a nm T := by
  intro T
  induction T with
  | nil => intro _; rfl
  | cons r t ih =>
    intro h
    rw [List.map_cons, List.nodup_cons] at h
    unfold findG findNr
    split
    · rename_i e
      rw [hg]
      by_cases h0 : g r ≥ 0
      · rw [if_pos h0, decide_eq_true h0]
        have : mx (g r) 0 = g r := by unfold mx; split <;> omega
        rw [this]
      · rw [if_neg h0, decide_eq_false h0]
        have : mx (g r) 0 = 0 := by unfold mx; split <;> omega
        rw [this]
        refine findG_none g nm t (fun q hq hh => h.1 (List.mem_map.2 ⟨q, hq, ?_⟩))
        rw [hh, e]
    · exact ih h.2
theorem nameG_name (g : S112 → Int) (a n : Int) (hg : ∀ r, num r a = (mx (g r) 0 % 4294967296, decide (g r ≥ 0))) : ∀ T : List S112, nameG g n T = findName a n T := by
  intro T
  induction T with
  | nil => rfl
  | cons r t ih =>
    unfold nameG findName
    rw [hg, ih]
    by_cases h0 : g r ≥ 0
    · have : mx (g r) 0 = g r := by unfold mx; split <;> omega
      rw [if_pos h0, decide_eq_true h0, this]
      simp only [true_and]
    · rw [if_neg h0, decide_eq_false h0]
      simp
theorem names_nodup : (tbl.map (fun r => r.f0.toList)).Nodup := by decide +kernel
theorem no_row (a : Int) (h1 : a ≠ 3221225534) (h2 : a ≠ 3221225655) (r : S112) : num r a = (0, false) := by
  unfold num; rw [if_neg h1, if_neg h2]
theorem findNr_no (a : Int) (h1 : a ≠ 3221225534) (h2 : a ≠ 3221225655) (nm : List UInt8) : ∀ T, findNr a nm T = (0, false) := by
  intro T
  induction T with
  | nil => rfl
  | cons r t ih => unfold findNr; rw [no_row a h1 h2, ih]; split <;> rfl
theorem findName_no (a n : Int) (h1 : a ≠ 3221225534) (h2 : a ≠ 3221225655) : ∀ T, findName a n T = (⟨#[]⟩, false) := by
  intro T
  induction T with
  | nil => rfl
  | cons r t ih => unfold findName; rw [no_row a h1 h2, ih]; simp
theorem refNr_f (a : Int) (nm : ByteArray) (k : Nat) (hk : 36 ≤ k) : doorwardref13_Nr.f k a nm = some (findNr a nm.toList tbl) := by
  unfold doorwardref13_Nr.f
  rw [row_f, nms_f]
  simp only [Option.bind_some]
  by_cases h1 : a = 3221225534
  · subst h1
    have h0 := refNr_loop (·.f1) nm tbl (by rw [tbl_len]; omega) tbl.length 0 (by omega) k (by rw [tbl_len]; omega)
    rw [List.drop_zero] at h0
    rw [if_pos rfl, nms_eq, cx_eq, List.length_map]
    refine h0.trans ?_
    rw [findG_nr (·.f1) 3221225534 nm.toList (fun r => by unfold num; rw [if_pos rfl]) tbl names_nodup]
  · by_cases h2 : a = 3221225655
    · subst h2
      have h0 := refNr_loop (·.f2) nm tbl (by rw [tbl_len]; omega) tbl.length 0 (by omega) k (by rw [tbl_len]; omega)
      rw [List.drop_zero] at h0
      rw [if_neg h1, if_pos rfl, nms_eq, ca_eq, List.length_map]
      refine h0.trans ?_
      rw [findG_nr (·.f2) 3221225655 nm.toList (fun r => by unfold num; rw [if_neg (by decide), if_pos rfl]) tbl names_nodup]
    · rw [if_neg h1, if_neg h2, findNr_no a h1 h2]
      obtain ⟨k, rfl⟩ : ∃ m, k = m + 1 := ⟨k - 1, by omega⟩
      simp only [doorwardref13_Nr.l0]
      rfl
theorem refName_f (a n : Int) (k : Nat) (hk : 36 ≤ k) : doorwardref13_Name.f k a n = some (findName a n tbl) := by
  unfold doorwardref13_Name.f
  rw [row_f, nms_f]
  simp only [Option.bind_some]
  by_cases h1 : a = 3221225534
  · subst h1
    have h0 := refName_loop (·.f1) n tbl (by rw [tbl_len]; omega) tbl.length 0 (by omega) k (by rw [tbl_len]; omega)
    rw [List.drop_zero] at h0
    rw [if_pos rfl, nms_eq, cx_eq, List.length_map]
    refine h0.trans ?_
    rw [nameG_name (·.f1) 3221225534 n (fun r => by unfold num; rw [if_pos rfl]) tbl]
  · by_cases h2 : a = 3221225655
    · subst h2
      have h0 := refName_loop (·.f2) n tbl (by rw [tbl_len]; omega) tbl.length 0 (by omega) k (by rw [tbl_len]; omega)
      rw [List.drop_zero] at h0
      rw [if_neg h1, if_pos rfl, nms_eq, ca_eq, List.length_map]
      refine h0.trans ?_
      rw [nameG_name (·.f2) 3221225655 n (fun r => by unfold num; rw [if_neg (by decide), if_pos rfl]) tbl]
    · rw [if_neg h1, if_neg h2, findName_no a n h1 h2]
      obtain ⟨k, rfl⟩ : ∃ m, k = m + 1 := ⟨k - 1, by omega⟩
      simp only [doorwardref13_Name.l0]
      rfl
theorem refArch_f (s : ByteArray) : doorwardref13_Arch.f s = some (archB s.toList) := by
  unfold doorwardref13_Arch.f archB
  by_cases h1 : s.toList = [120, 56, 54, 95, 54, 52]
  · rw [if_pos h1, h1]; rfl
  · rw [if_neg h1]
    by_cases h2 : s.toList = [97, 97, 114, 99, 104, 54, 52]
    · rw [if_pos h2, if_pos h2]
    · rw [if_neg h2, if_neg h2, if_neg h1]
theorem acts_rev : acts.reverse = [([116, 114, 97, 99, 101], 2146435072, 65535), ([116, 114, 97, 112], 196608, 65535), ([101, 114, 114, 110, 111], 327680, 4095), ([97, 108, 108, 111, 119], 2147418112, 0), ([108, 111, 103], 2147221504, 0), ([107, 105, 108, 108, 95, 116, 104, 114, 101, 97, 100], 0, 0), ([107, 105, 108, 108], 2147483648, 0)] := rfl
theorem refAct_j (s : ByteArray) (d : Int) (hd : 0 ≤ d) (k : Nat) (b : Bool) (hb : b = true → 0 < d ∧ s.toList ≠ [101, 114, 114, 110, 111] ∧ s.toList ≠ [116, 114, 97, 112] ∧ s.toList ≠ [116, 114, 97, 99, 101]) (hb2 : b = false → d = 0 ∨ s.toList = [101, 114, 114, 110, 111] ∨ s.toList = [116, 114, 97, 112] ∨ s.toList = [116, 114, 97, 99, 101]) : doorwardref13_Action.j0 (k + 1) s d b = some (actOut s.toList d) := by
  simp only [doorwardref13_Action.j0]
  unfold actOut actB
  rw [acts_rev]
  generalize s.toList = l at *
  cases b
  · have hb2 := hb2 rfl
    rw [if_neg (by decide)]
    by_cases h1 : l = [107, 105, 108, 108]
    · subst h1
      have : d = 0 := by rcases hb2 with h | h | h | h <;> first | exact h | (exact absurd h (by decide))
      subst this; rfl
    · by_cases h2 : l = [107, 105, 108, 108, 95, 116, 104, 114, 101, 97, 100]
      · subst h2
        have : d = 0 := by rcases hb2 with h | h | h | h <;> first | exact h | (exact absurd h (by decide))
        subst this; rfl
      · by_cases h3 : l = [108, 111, 103]
        · subst h3
          have : d = 0 := by rcases hb2 with h | h | h | h <;> first | exact h | (exact absurd h (by decide))
          subst this; rfl
        · by_cases h4 : l = [97, 108, 108, 111, 119]
          · subst h4
            have : d = 0 := by rcases hb2 with h | h | h | h <;> first | exact h | (exact absurd h (by decide))
            subst this; rfl
          · rw [if_neg h1, if_neg h2, if_neg h3, if_neg h4]
            by_cases h5 : l = [101, 114, 114, 110, 111]
            · subst h5
              rw [if_pos rfl]
              show _ = some (if (4095 : Int) < d then (0, false) else (bits BinOp.or IntKind.u32 327680 (d % 4294967296), true))
              by_cases hd2 : d ≤ 4095
              · rw [if_pos hd2, if_neg (by omega), show d % 4294967296 = d by omega, bits16 327680 d (by omega) (by omega) (by omega) hd (by omega)]
                rw [show (327680 + d) % 4294967296 = 327680 + d by omega]
              · rw [if_neg hd2, if_pos (by omega)]
            · rw [if_neg h5]
              by_cases h6 : l = [116, 114, 97, 112]
              · subst h6
                rw [if_pos rfl]
                show _ = some (if (65535 : Int) < d then (0, false) else (bits BinOp.or IntKind.u32 196608 (d % 4294967296), true))
                by_cases hd2 : d ≤ 65535
                · rw [if_pos hd2, if_neg (by omega), show d % 4294967296 = d by omega, bits16 196608 d (by omega) (by omega) (by omega) hd (by omega)]
                  rw [show (196608 + d) % 4294967296 = 196608 + d by omega]
                · rw [if_neg hd2, if_pos (by omega)]
              · rw [if_neg h6]
                by_cases h7 : l = [116, 114, 97, 99, 101]
                · subst h7
                  rw [if_pos rfl]
                  show _ = some (if (65535 : Int) < d then (0, false) else (bits BinOp.or IntKind.u32 2146435072 (d % 4294967296), true))
                  by_cases hd2 : d ≤ 65535
                  · rw [if_pos hd2, if_neg (by omega), show d % 4294967296 = d by omega, bits16 2146435072 d (by omega) (by omega) (by omega) hd (by omega)]
                    rw [show (2146435072 + d) % 4294967296 = 2146435072 + d by omega]
                  · rw [if_neg hd2, if_pos (by omega)]
                · rw [if_neg h7]
                  simp only [findAct, h1, h2, h3, h4, h5, h6, h7, if_false]
  · obtain ⟨h0, h5, h6, h7⟩ := hb rfl
    rw [if_pos rfl]
    simp only [findAct, h5, h6, h7, if_false]
    split <;> first | rfl | skip
    rename_i p hp
    have : p.2 = 0 := by
      revert hp
      repeat' split
      all_goals (intro hp; first | (injection hp with hp; rw [← hp]) | cases hp)
    rw [if_pos (by omega)]
theorem refAction_f (s : ByteArray) (d : Int) (hd : 0 ≤ d) (k : Nat) (hk : 1 ≤ k) : doorwardref13_Action.f k s d = some (actOut s.toList d) := by
  obtain ⟨k, rfl⟩ : ∃ m, k = m + 1 := ⟨k - 1, by omega⟩
  unfold doorwardref13_Action.f
  by_cases h0 : d > 0
  · rw [if_pos h0]
    by_cases h5 : s.toList = [101, 114, 114, 110, 111]
    · rw [if_pos h5]; exact refAct_j s d hd k false (fun h => by cases h) (fun _ => Or.inr (Or.inl h5))
    · rw [if_neg h5]
      by_cases h6 : s.toList = [116, 114, 97, 112]
      · rw [if_pos h6]; exact refAct_j s d hd k false (fun h => by cases h) (fun _ => Or.inr (Or.inr (Or.inl h6)))
      · rw [if_neg h6]
        refine refAct_j s d hd k _ (fun h => ⟨h0, h5, h6, bne_iff_ne.1 h⟩) (fun h => Or.inr (Or.inr (Or.inr (bne_eq_false_iff_eq.1 h))))
  · rw [if_neg h0]
    exact refAct_j s d hd k false (fun h => by cases h) (fun _ => Or.inl (by omega))
end Go.Proofs.Ytoeklekjhaigoaa.QRef13
