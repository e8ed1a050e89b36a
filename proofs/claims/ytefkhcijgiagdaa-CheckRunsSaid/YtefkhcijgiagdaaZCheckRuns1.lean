/- CheckRuns: a filter that may be never goes wrong: it returns on any record, within as many steps as it has instructions. -/
import Derived.Test.YtefkhcijgiagdaaZCheckRuns0
section
namespace Go.Proofs.Ytefkhcijgiagdaa.HCk
open Go.RowKit Go.Proofs.YtefkhcijgiagdaaW.PrintWords Go.Proofs.YtefkhcijgiagdaaW.PrintLast Go.Proofs.YtefkhcijgiagdaaW.PrintMore Go.Proofs.Ytefkhcijgiagdaa.HKnown Go.Proofs.Ytefkhcijgiagdaa.I1 Go.Proofs.Ytefkhcijgiagdaa.QVm Go.Proofs.Ytefkhcijgiagdaa.QLe Go.Proofs.Ytefkhcijgiagdaa.QCheck Go.Proofs.Ytefkhcijgiagdaa.K0
set_option linter.unusedVariables false
set_option linter.unusedSimpArgs false
set_option maxRecDepth 100000
attribute [local go_sem] max2_int min2_int max_two min_two IntKind.wrap_u32
def rowIs (w : World) (B : Nat) (v : Value) (row : List Bool) : Prop :=
  (row = [] ∧ v = .slice none 0 0) ∨ (row.length = 16 ∧ ∃ g c, v = .slice (some ⟨g, 0, none⟩) 16 c ∧ Kd.R Kd.bool 4 w B (fun _ => True) v row)
theorem rowIs.below {w w' : World} {B : Nat} {v : Value} {row : List Bool} (h : rowIs w B v row) (hb : Below w.heap.size w w') : rowIs w' B v row := by
  rcases h with h | ⟨h, g, c, e, hR⟩
  · exact .inl h
  · exact .inr ⟨h, g, c, e, Kd.R_below hR hb⟩
theorem R_of_block {w : World} {B g : Nat} {row : List Bool} (hB : B ≤ g) (h : w.heap[g]? = some (bRow row)) (hl : row.length ≤ 1000000) : Kd.R Kd.bool 4 w B (fun _ => True) (.slice (some ⟨g, 0, none⟩) row.length row.length) row := by
  refine ⟨fun _ _ => trivial, row.map Value.bool, ⟨by simp [Kd.bool, Kd.scalar], .inr ⟨g, row.length, _, rfl, hB, h, Nat.le_refl _, by unfold maxLen; omega, by simp [Kd.bool, Kd.scalar], by show List.take (row.length * 1) (row.map Value.bool) = _; rw [Nat.mul_one]; exact List.take_of_length_le (by simp)⟩⟩, by simp [Kd.bool, Kd.scalar], fun j p hj => ?_⟩
  have hjl : j < row.length := by
    rcases Nat.lt_or_ge j row.length with h | h
    · exact h
    · rw [List.getElem?_eq_none h] at hj; cases hj
  show List.take 1 (List.drop (j * 1) (row.map Value.bool)) = [Value.bool p]
  rw [Nat.mul_one, ← List.map_drop, ← List.map_take, List.drop_eq_getElem_cons hjl]
  rw [List.getElem?_eq_getElem hjl] at hj
  injection hj with hj
  simp [hj]
theorem R_of_own {w : World} {B : Nat} {v : Value} {row : List Bool} (h : w.ownsRow B 4 1 v row.length (row.map Value.bool)) : Kd.R Kd.bool 4 w B (fun _ => True) v row := by
  refine ⟨fun _ _ => trivial, row.map Value.bool, h, by simp [Kd.bool, Kd.scalar], fun j p hj => ?_⟩
  have hjl : j < row.length := by
    rcases Nat.lt_or_ge j row.length with h | h
    · exact h
    · rw [List.getElem?_eq_none h] at hj; cases hj
  show List.take 1 (List.drop (j * 1) (row.map Value.bool)) = [Value.bool p]
  rw [Nat.mul_one, ← List.map_drop, ← List.map_take, List.drop_eq_getElem_cons hjl]
  rw [List.getElem?_eq_getElem hjl] at hj
  injection hj with hj
  simp [hj]
theorem rowIs.of_block {w : World} {B g : Nat} {row : List Bool} (hB : B ≤ g) (h : w.heap[g]? = some (bRow row)) (hl : row.length = 16) : rowIs w B (.slice (some ⟨g, 0, none⟩) 16 16) row := by
  have := R_of_block hB h (by omega)
  rw [hl] at this
  exact .inr ⟨hl, g, 16, rfl, this⟩
theorem row_cell {w : World} {B g c : Nat} {row : List Bool} (hl : row.length = 16) (h : Kd.R Kd.bool 4 w B (fun _ => True) (.slice (some ⟨g, 0, none⟩) 16 c) row) (j : Nat) (hj : j < 16) : w.cell? ⟨g, j, none⟩ = some (.bool (row.getD j false)) ∧ w.frozen? ⟨g, j, none⟩ = false := by
  have := Kd.R_celln false h (j : Int) (by omega) (by omega)
  rw [Int.toNat_natCast] at this
  have e : rdOf false row (j : Int) = row.getD j false := by unfold rdOf; rw [Int.toNat_natCast]
  rw [e] at this
  exact this
def RowsAt (w : World) (B ob : Nat) (rows : List (List Bool)) : Prop :=
  ∃ rv : List Value, w.heap[ob]? = some (.cells rv.toArray 120 (0, 0)) ∧ rv.length = rows.length ∧ ∀ j, j < rows.length → rowIs w B (rv.getD j undef) (rows.getD j [])
theorem RowsAt.below {w w' : World} {B ob : Nat} {rows : List (List Bool)} (h : RowsAt w B ob rows) (hb : Below w.heap.size w w') : RowsAt w' B ob rows := by
  obtain ⟨rv, h1, h2, h3⟩ := h
  exact ⟨rv, blk_below h1 hb, h2, fun j hj => (h3 j hj).below hb⟩
theorem RowsAt.cell {w : World} {B ob : Nat} {rows : List (List Bool)} (h : RowsAt w B ob rows) (j : Nat) (hj : j < rows.length) : ∃ v, w.cell? ⟨ob, j, none⟩ = some v ∧ rowIs w B v (rows.getD j []) ∧ w.frozen? ⟨ob, j, none⟩ = false := by
  obtain ⟨rv, h1, h2, h3⟩ := h
  refine ⟨rv.getD j undef, ?_, h3 j hj, blk_frozen h1 j⟩
  rw [blk_cell h1 j]
  simp [show j < rv.length by omega]
theorem RowsAt.set {w : World} {B ob : Nat} {rows : List (List Bool)} (h : RowsAt w B ob rows) (j : Nat) {v : Value} {row : List Bool} (hv : rowIs w B v row) : RowsAt (w.setCell ⟨ob, j, none⟩ v) B ob (rows.set j row) := by
  obtain ⟨rv, h1, h2, h3⟩ := h
  have keep : ∀ {u : Value} {r : List Bool}, rowIs w B u r → rowIs (w.setCell ⟨ob, j, none⟩ v) B u r := by
    intro u r hr
    rcases hr with hr | ⟨hr, g, c, e, hR⟩
    · exact .inl hr
    · exact .inr ⟨hr, g, c, e, Kd.R_set hR h1 (by decide) j v⟩
  refine ⟨rv.set j v, by rw [blk_set h1 j v]; simp, by simp [h2], fun i hi => ?_⟩
  rw [List.length_set] at hi
  by_cases e : j = i
  · subst e
    rw [getD_set_same _ _ _ _ (by omega), getD_set_same _ _ _ _ hi]
    exact keep hv
  · rw [getD_set_other _ _ _ _ _ e, getD_set_other _ _ _ _ _ e]
    exact keep (h3 i hi)
theorem info120 : (Try.prog.info? 120).map (fun i => (i.zero, i.size, i.bytes)) = some (some (.slice none 0 0), 1, 24) := by kernel_rfl
def nilObj (n : Nat) : Obj := .cells (List.replicate n (Value.slice none 0 0)).toArray 120 (0, 0)
theorem made_nils (n : Nat) : madeCells #[Value.slice none 0 0] n = (List.replicate n (Value.slice none 0 0)).toArray := by
  apply Array.ext'
  simp only [madeCells]
  apply List.ext_getElem
  · simp
  · intro i h1 h2
    simp [Nat.mod_one]
theorem makeN (n : Nat) (hn : n ≤ 100000) (W : World) : (Instr.makeSlice 57 (.int .i64 (n : Int)) (.int .i64 (n : Int))).run Try.prog W = .ok (.slice (some ⟨W.heap.size, 0, none⟩) n n) (W.alloc (nilObj n)) := by
  have h := run_make_row' (P := Try.prog) 57 120 (.slice none 0 0) 24 Try.underlying57 info120 rfl .i64 .i64 n (by omega) (by omega) W
  rw [made_nils] at h
  exact h
theorem rows_made (W : World) (B n : Nat) : RowsAt (W.alloc (nilObj n)) B W.heap.size (List.replicate n []) := by
  refine ⟨List.replicate n (.slice none 0 0), heap_alloc_new W (nilObj n), by simp, fun j hj => .inl ⟨?_, ?_⟩⟩
  · simp at hj ⊢; simp [hj]
  · simp at hj ⊢; simp [hj]
theorem cells_len (l : List S28) : ∀ k, (cellsL l k).length = l.length := by
  intro k
  induction k with
  | zero => simp [cellsL]
  | succ k ih =>
    show (stepL (cellsL l k) k (at_ l k)).length = _
    unfold stepL
    split
    · exact ih
    · rw [← ih]
      generalize nowL (at_ l k) ((cellsL l k).getD k []) = now
      generalize cellsL l k = rows
      generalize folL (at_ l k) = ds
      induction ds generalizing rows with
      | nil => rfl
      | cons d ds ihd => rw [List.foldl_cons, ihd, put_len]
theorem bits7_all : ∀ c : Fin 256, bits .and .i64 (c.val : Int) 7 = (c.val : Int) % 8 := by decide +kernel
theorem bits_known7 (c : Int) (h : knownB c = true) : bits .and .i64 c 7 = c % 8 := by
  obtain ⟨a, b⟩ := known_range h
  obtain ⟨n, rfl⟩ : ∃ n : Nat, c = n := ⟨c.toNat, by omega⟩
  exact bits7_all ⟨n, by omega⟩
theorem behind_any (i : S28) (hk : knownB i.f0 = true) (h3 : U i.f3) (h1 : 0 ≤ i.f1 ∧ i.f1 ≤ 255) (h2 : 0 ≤ i.f2 ∧ i.f2 ≤ 255) (w : World) :
    Calls Try.prog 101 #[.agg #[.int .i64 i.f0, .int .i64 i.f1, .int .i64 i.f2, .int .u32 i.f3]] w fun e w' => ∃ v, e = .returned v ∧ Kd.R (Kd.int .i64) 3 w' w.heap.size (fun _ => True) v ((folL i).map fun d : Nat => (d : Int)) ∧ Below w.heap.size w w' := by
  refine check_behind.calls i.f0 i.f1 i.f2 i.f3 _ w ?_
  unfold check_behind.f check_returns.f folL retB
  have a3 : wrap64 i.f3 = i.f3 := w64 _ (by omega) (by omega)
  have b3 : wrap64 (i.f3 + 1) = i.f3 + 1 := w64 _ (by omega) (by omega)
  have b1 : wrap64 (i.f1 + 1) = i.f1 + 1 := w64 _ (by omega) (by omega)
  have b2 : wrap64 (i.f2 + 1) = i.f2 + 1 := w64 _ (by omega) (by omega)
  have hb := (bits_known7 i.f0 hk)
  by_cases e6 : i.f0 = 6
  · rw [if_pos e6, decide_eq_true (.inl e6)]; rfl
  rw [if_neg e6]
  by_cases e22 : i.f0 = 22
  · rw [e22]; rfl
  have e0 : (i.f0 == 22) = false := beq_eq_false_iff_ne.2 e22
  rw [e0, decide_eq_false (by omega)]
  simp only [Option.bind_some, Bool.false_eq_true, if_false]
  by_cases e5 : i.f0 = 5
  · rw [if_pos e5, if_pos e5, a3, b3]
    simp only [List.map_cons, List.map_nil]
    rw [show ((i.f3.toNat + 1 : Nat) : Int) = i.f3 + 1 by omega]
  rw [if_neg e5, if_neg e5, hb]
  by_cases e8 : i.f0 % 8 = 5
  · rw [if_pos e8, if_pos e8, b1, b2]
    simp only [List.map_cons, List.map_nil]
    rw [show ((i.f1.toNat + 1 : Nat) : Int) = i.f1 + 1 by omega, show ((i.f2.toNat + 1 : Nat) : Int) = i.f2 + 1 by omega]
  · rw [if_neg e8, if_neg e8]; rfl
theorem stepL_nil {rows : List (List Bool)} {k : Nat} {i : S28} (h : rows.getD k [] = []) : stepL rows k i = rows := by unfold stepL; rw [if_pos h]
theorem stepL_some {rows : List (List Bool)} {k : Nat} {i : S28} (h : rows.getD k [] ≠ []) : stepL rows k i = (folL i).foldl (fun o d => putL o (k + d) (nowL i (rows.getD k []))) rows := by unfold stepL; rw [if_neg h]
theorem folL_len (i : S28) : (folL i).length ≤ 2 := by
  unfold folL
  repeat' split
  all_goals simp
theorem take_fold {α β : Type} (f : β → α → β) (b : β) (ds : List α) (j : Nat) (hj : j < ds.length) : (ds.take (j + 1)).foldl f b = f ((ds.take j).foldl f b) ds[j] := by
  rw [List.take_succ_eq_append_getElem hj, List.foldl_append]; rfl
theorem fold_len (k : Nat) (now : List Bool) : ∀ (ds : List Nat) (rows : List (List Bool)), (ds.foldl (fun o d => putL o (k + d) now) rows).length = rows.length := by
  intro ds
  induction ds with
  | nil => intro rows; rfl
  | cons d ds ih => intro rows; rw [List.foldl_cons, ih, put_len]
theorem putL_nil {rows : List (List Bool)} {j : Nat} {now : List Bool} (h : rows.getD j [] = []) : putL rows j now = rows.set j now := by unfold putL joinL; rw [if_pos h]
theorem putL_some {rows : List (List Bool)} {j : Nat} {now : List Bool} (h : rows.getD j [] ≠ []) : putL rows j now = rows.set j (List.zipWith (· && ·) (rows.getD j []) now) := by unfold putL joinL; rw [if_neg h]
theorem nowL_st {i : S28} {row : List Bool} (h : i.f0 = 2 ∨ i.f0 = 3) : nowL i row = row.set i.f3.toNat true := by unfold nowL stB; rw [if_pos (decide_eq_true h)]
theorem nowL_no {i : S28} {row : List Bool} (h : ¬ (i.f0 = 2 ∨ i.f0 = 3)) : nowL i row = row := by unfold nowL stB; rw [if_neg (by rw [decide_eq_false h]; decide)]
/-- The world between two rounds. -/
structure MidC (w wr : World) (ob : Nat) (rows : List (List Bool)) : Prop where
  rows : RowsAt wr w.heap.size ob rows
  hb : Below w.heap.size w wr
  ho : w.heap.size ≤ ob
theorem MidC.below {w wr w' : World} {ob : Nat} {rows : List (List Bool)} (h : MidC w wr ob rows) (hb : Below wr.heap.size wr w') : MidC w w' ob rows := ⟨h.rows.below hb, below_step h.hb hb, h.ho⟩
theorem MidC.set {w wr : World} {ob : Nat} {rows : List (List Bool)} (h : MidC w wr ob rows) (j : Nat) {v : Value} {row : List Bool} (hv : rowIs wr w.heap.size v row) : MidC w (wr.setCell ⟨ob, j, none⟩ v) ob (rows.set j row) := ⟨h.rows.set j hv, h.hb.setCell (p := ⟨ob, j, none⟩) h.ho v, h.ho⟩
set_option maxHeartbeats 8000000 in
theorem cells_c {w : World} {A0 : Option Addr} {c0 : Nat} {l : List S28} (hC : Kd.C k28 w A0 l.length l) (hc0 : l.length ≤ c0) (hlen : l.length ≤ 100000) (hi : ∀ i ∈ l, IW i) (hb : (allV l).2 = 0) :
    Calls Try.prog 56 #[.slice A0 l.length c0] w fun e w' => ∃ ob, e = .returned (.tuple #[.slice (some ⟨ob, 0, none⟩) l.length l.length, .int .i64 0]) ∧ MidC w w' ob (cellsL l l.length) := by
  have hall := all_c hC hc0 hlen hi
  obtain ⟨hl0, _, hf⟩ := (allV_ok l).1 hb
  have hw := (first_none l).1 hf
  rw [hb] at hall
  generalize (allV l).1 = a1 at hall
  have HAL := Aside0.mk hall
  have HC := Aside0.mk hC
  have HI := Aside0.mk hi
  have HW := Aside0.mk hw
  have HWL := Aside0.mk (wellL_of l (fun i h => (hi i h).2.2.2.1) hf)
  have hu28 := Try.underlying28
  have hmN := makeN l.length hlen
  have hm16 := make16
  clear hall hC hi hb hf hw
  obtain ⟨ad0, eA0, _⟩ := at_T28 HC.out 0 (by omega) (by omega)
  subst eA0
  have H0 := Aside0.mk (show (List.replicate l.length []).set 0 f16 = cellsL l 0 from rfl)
  have hl0' : 0 < (List.replicate l.length ([] : List Bool)).length := by rw [List.length_replicate]; exact hl0
  go_enter Try.func56, Try.ntmps56
  go_wp2
  go_step3
  go_wp2_with (go_at_call 99; refine HAL.out.mono ?_; rintro e w1 ⟨rfl, hb1⟩; have HB1 := Aside0.mk hb1; clear hb1; have HM1 := Aside0.mk ((show MidC w (w1.alloc (nilObj l.length)) w1.heap.size (List.replicate l.length []) from ⟨rows_made w1 w.heap.size l.length, below_alloc HB1.out _, below_size HB1.out⟩).below (below_alloc (Below.refl _ _) (bRow f16))); obtain ⟨v0, kc0, _, kf0⟩ := HM1.out.rows.cell 0 hl0'; have HM2 := Aside0.mk (HM1.out.set 0 (v := .slice (some ⟨w1.heap.size + 1, 0, none⟩) 16 16) (rowIs.of_block (Nat.le_trans (below_size HB1.out) (Nat.le_succ _)) (by have := heap_alloc_new (w1.alloc (nilObj l.length)) (bRow f16); rw [World.size_alloc] at this; exact this) rfl)); have HM3 := Aside0.mk (show MidC w (((w1.alloc (nilObj l.length)).setCell ⟨w1.heap.size, 0, none⟩ (.slice (some ⟨w1.heap.size + 1, 0, none⟩) 16 16)).alloc (bRow f16)) w1.heap.size (cellsL l 0) from by rw [← H0.out, ← World.setCell_alloc_past _ _ _ _ (by rw [World.size_alloc]; exact Nat.lt_succ_self _)]; exact HM2.out); clear HM2 HM1)
  go_step3
  go_wp2
  generalize hob : w1.heap.size = ob at *
  clear hob kc0 kf0 H0 hl0'
  go_loopw [28] (fun i wr => ∃ k : Nat, k ≤ l.length ∧ i = .int .i64 k ∧ Aside0 (MidC w wr ob (cellsL l k))) (fun i _ => l.length - (intOf i).toNat)
  case atStart => exact ⟨0, by omega, rfl, ⟨HM3.out⟩⟩
  case round =>
    clear HM3 HB1
    obtain ⟨k, hk, rfl, hm⟩ := hrel
    by_cases hlt : k < l.length
    · have hdk : decide ((k : Int) < (l.length : Int)) = true := decide_eq_true (by omega)
      obtain ⟨ad2, eA, hx0, hx1, hx2, hx3⟩ := at_T28 (Kd.C_below HC.out hm.out.hb) (k : Int) (by omega) (by omega)
      obtain rfl := Option.some.inj eA
      clear eA
      rw [Int.toNat_natCast] at hx0 hx1 hx2 hx3
      have hiw := HI.out (at_ l k) (at_mem l k hlt)
      have hwell := (well_iff _ _).1 (HW.out k hlt)
      rw [rd_at] at hx0 hx1 hx2 hx3
      have hkc : k < (cellsL l k).length := by rw [cells_len]; exact hlt
      obtain ⟨v, kv, hrow, _⟩ := hm.out.rows.cell k hkc
      have i0 : (0 : Int) ≤ (k : Int) := by omega
      have i1 : (k : Int) < (l.length : Int) := by omega
      have kva := fun o => pw_cell_below (below_alloc (Below.refl _ _) o) kv
      rcases hrow with ⟨hnil, rfl⟩ | ⟨h16, g, c, rfl, hR⟩
      · have hnl := fun W => Lib.run_eql_slice_nil (P := Try.prog) W 120 4 none 0 0 0 0 Try.underlying120
        have HM2 := Aside0.mk (show ∀ o, MidC w (World.alloc _ o) ob (cellsL l (k + 1)) from fun o => by
          rw [show cellsL l (k + 1) = cellsL l k from stepL_nil hnil]
          exact hm.out.below (below_alloc (Below.refl _ _) o))
        clear hm hiw hwell hnil
        generalize at_ l k = x at *
        go_wp2
        go_roundw
        case rel => exact ⟨k + 1, by omega, by go_num, ⟨HM2.out _⟩⟩
        case measure => simp [intOf]; omega
      · have hnl := fun W => Lib.run_eql_slice_nil (P := Try.prog) W 120 4 (some ⟨g, 0, none⟩) 16 c 0 0 Try.underlying120
        obtain ⟨inf4, hi4, hzz⟩ := Option.map_eq_some_iff.1 info4
        simp only [Prod.mk.injEq] at hzz
        obtain ⟨hz0, hz1, hz2⟩ := hzz
        have hne : (cellsL l k).getD k [] ≠ [] := fun e => by rw [e] at h16; simp at h16
        have HST := Aside0.mk (show cellsL l (k + 1) = _ from stepL_some hne)
        have HBX := Aside0.mk (heap_alloc_new wr (.cells #[.int .i64 (at_ l k).f0, .int .i64 (at_ l k).f1, .int .i64 (at_ l k).f2, .int .u32 (at_ l k).f3] 28))
        have HM2 := Aside0.mk (hm.out.below (below_alloc (Below.refl _ _) (.cells #[.int .i64 (at_ l k).f0, .int .i64 (at_ l k).f1, .int .i64 (at_ l k).f2, .int .u32 (at_ l k).f3] 28)))
        have HR2 := Aside0.mk (Kd.R_below hR (below_alloc (Below.refl _ _) (.cells #[.int .i64 (at_ l k).f0, .int .i64 (at_ l k).f1, .int .i64 (at_ l k).f2, .int .u32 (at_ l k).f3] 28)))
        have HSTB := Aside0.mk (HWL.out.st k hlt)
        have HFOL := Aside0.mk (HWL.out.fol k hlt)
        have HBEH := Aside0.mk (fun W => behind_any (at_ l k) hwell.kn hiw.2.2.2 ⟨hwell.t0, hwell.t1⟩ ⟨hwell.f0, hwell.f1⟩ W)
        generalize hrw : (cellsL l k).getD k [] = row at *
        generalize hxx : at_ l k = x at *
        have HRW := Aside0.mk hrw
        clear hm hiw hwell hrw hxx hR hne
        go_wp2
        generalize hw2 : wr.alloc (.cells #[.int .i64 x.f0, .int .i64 x.f1, .int .i64 x.f2, .int .u32 x.f3] 28) = w2 at *
        have kg := HM2.out.rows.cell k hkc
        obtain ⟨v2, kv2, _, _⟩ := kg
        have kw2 : w2.cell? ⟨ob, k, none⟩ = some (.slice (some ⟨g, 0, none⟩) 16 c) := by rw [← hw2]; exact kva _
        clear kva kv2
        have HNEWS := Aside0.mk (show ∀ j u, (row.map Value.bool)[j]? = some u → w2.drew.cell? ((⟨g, 0, none⟩ : Addr).add j) = some u from fun j u hj => by
          rw [add0]
          have hjl : j < row.length := by
            rcases Nat.lt_or_ge j row.length with h | h
            · exact h
            · rw [List.getElem?_eq_none (by simpa using h)] at hj; cases hj
          have := (row_cell h16 HR2.out j (by omega)).1
          rw [List.getElem?_map, List.getElem?_eq_getElem hjl] at hj
          injection hj with hj
          subst hj
          refine this.trans ?_
          rw [List.getD_eq_getElem?_getD, List.getElem?_eq_getElem hjl]; rfl)
        go_still_tail 9, (by kernel_rfl)
        change wpList _ _ _ _ _ w2.drew
        refine wpList_append_grows w2.drew rfl (.tmp 42) (.tmp 46) 120 rfl 4 inf4 (.bool false) 1 1 Try.underlying120 hi4 hz0 hz1 hz2 rfl (by decide) (some ⟨g, 0, none⟩) 0 0 [] rfl (fun h => by cases h) rfl (fun b hb j u hj => by simp at hj) ⟨g, 0, none⟩ 16 c (row.map Value.bool) rfl (by rw [List.length_map, h16]) HNEWS.out (fun u hu => by obtain ⟨b, _, rfl⟩ := List.mem_map.1 hu; rfl) (by decide) (by decide) (by decide) ?_
        intro v1 w3 hown hg3
        have hown' : w3.ownsRow w2.heap.size 4 1 v1 row.length (row.map Value.bool) := by rw [h16]; simpa using hown
        have hR3 := R_of_own hown'
        obtain ⟨g1, c1, rfl, hg1, _⟩ := Kd.R_form hR3 (by omega)
        rw [h16] at hR3
        have HB3 := Aside0.mk (show Below w2.heap.size w2 w3 from ((Below.refl w2.heap.size w2).drew).grown hg3 (Nat.le_refl _) (by simp))
        have HR3 := Aside0.mk hR3
        have HM3 := Aside0.mk (HM2.out.below HB3.out)
        have HBX3 := Aside0.mk (blk_below HBX.out HB3.out)
        have kb3 := blk_cell HBX3.out
        have HG1 := Aside0.mk hg1
        have HWL2 := Aside0.mk (show w.heap.size ≤ w2.heap.size from below_size HM2.out.hb)
        rw [h16]
        clear hown hown' hR3 hg3 HNEWS kw2 hnl hi4 hz0 hz1 hz2 hg1
        have kb0 := kb3 0
        have kb1 := kb3 1
        have kb2 := kb3 2
        have kb4 := kb3 3
        clear kb3
        have HNL := Aside0.mk (show (nowL x row).length = 16 from by unfold nowL; split <;> simp [h16])
        rcases (show x.f0 = 2 ∨ x.f0 = 3 ∨ (x.f0 ≠ 2 ∧ x.f0 ≠ 3) by omega) with e2 | e3 | ⟨n2, n3⟩
        focus
          have hst := HSTB.out (by unfold stB; exact decide_eq_true (.inl e2))
          have ix0 := hst.1
          have ix1 := hst.2
          obtain ⟨kn, kf⟩ := row_cell h16 HR3.out x.f3.toNat (by omega)
          have HW4 := Aside0.mk (show MidC w (w3.setCell ⟨g1, x.f3.toNat, none⟩ (.bool true)) ob (cellsL l k) ∧ Kd.R Kd.bool 4 (w3.setCell ⟨g1, x.f3.toNat, none⟩ (.bool true)) w2.heap.size (fun _ => True) (.slice (some ⟨g1, 0, none⟩) 16 c1) (nowL x row) from
            ⟨HM2.out.below (HB3.out.setCell (p := ⟨g1, x.f3.toNat, none⟩) HG1.out _), by rw [nowL_st (.inl e2)]; exact Kd.R_putn HR3.out x.f3 true⟩)
          have d2 : (x.f0 == 2) = true := beq_iff_eq.2 e2
          have kz := Ne.symm (show wr.heap.size ≠ g1 from by have := HG1.out; have e : w2.heap.size = wr.heap.size + 1 := by rw [← hw2, World.size_alloc]
                                                             omega)
          clear hst e2
          generalize (nowL x row) = now at *
          go_wp2_with (go_at_call 101; refine (HBEH.out _).mono ?_; rintro e w5 ⟨v5, rfl, ho5, hb5⟩; have HM5 := Aside0.mk (HW4.out.1.below hb5); have HR5 := Aside0.mk (Kd.R_below HW4.out.2 hb5); clear hb5; obtain ⟨A5, c5, rfl⟩ := Kd.R_slice ho5; have HO5 := Aside0.mk (Kd.R_lower ho5 (below_size HW4.out.1.hb)); clear ho5 HW4)
        rotate_left
        focus
          have hst := HSTB.out (by unfold stB; exact decide_eq_true (.inr e3))
          have ix0 := hst.1
          have ix1 := hst.2
          obtain ⟨kn, kf⟩ := row_cell h16 HR3.out x.f3.toNat (by omega)
          have HW4 := Aside0.mk (show MidC w (w3.setCell ⟨g1, x.f3.toNat, none⟩ (.bool true)) ob (cellsL l k) ∧ Kd.R Kd.bool 4 (w3.setCell ⟨g1, x.f3.toNat, none⟩ (.bool true)) w2.heap.size (fun _ => True) (.slice (some ⟨g1, 0, none⟩) 16 c1) (nowL x row) from
            ⟨HM2.out.below (HB3.out.setCell (p := ⟨g1, x.f3.toNat, none⟩) HG1.out _), by rw [nowL_st (.inr e3)]; exact Kd.R_putn HR3.out x.f3 true⟩)
          have d2 : (x.f0 == 2) = false := beq_eq_false_iff_ne.2 (by omega)
          have d3 : (x.f0 == 3) = true := beq_iff_eq.2 e3
          have kz := Ne.symm (show wr.heap.size ≠ g1 from by have := HG1.out; have e : w2.heap.size = wr.heap.size + 1 := by rw [← hw2, World.size_alloc]
                                                             omega)
          clear hst e3
          generalize (nowL x row) = now at *
          go_wp2_with (go_at_call 101; refine (HBEH.out _).mono ?_; rintro e w5 ⟨v5, rfl, ho5, hb5⟩; have HM5 := Aside0.mk (HW4.out.1.below hb5); have HR5 := Aside0.mk (Kd.R_below HW4.out.2 hb5); clear hb5; obtain ⟨A5, c5, rfl⟩ := Kd.R_slice ho5; have HO5 := Aside0.mk (Kd.R_lower ho5 (below_size HW4.out.1.hb)); clear ho5 HW4)
        rotate_left
        focus
          have HW4 := Aside0.mk (show MidC w w3 ob (cellsL l k) ∧ Kd.R Kd.bool 4 w3 w2.heap.size (fun _ => True) (.slice (some ⟨g1, 0, none⟩) 16 c1) (nowL x row) from
            ⟨HM3.out, by rw [nowL_no (by omega)]; exact HR3.out⟩)
          have d2 : (x.f0 == 2) = false := beq_eq_false_iff_ne.2 n2
          have d3 : (x.f0 == 3) = false := beq_eq_false_iff_ne.2 n3
          clear n2 n3
          generalize (nowL x row) = now at *
          go_wp2_with (go_at_call 101; refine (HBEH.out _).mono ?_; rintro e w5 ⟨v5, rfl, ho5, hb5⟩; have HM5 := Aside0.mk (HW4.out.1.below hb5); have HR5 := Aside0.mk (Kd.R_below HW4.out.2 hb5); clear hb5; obtain ⟨A5, c5, rfl⟩ := Kd.R_slice ho5; have HO5 := Aside0.mk (Kd.R_lower ho5 (below_size HW4.out.1.hb)); clear ho5 HW4)
        rotate_left
        all_goals
          clear kb0 kb1 kb2 kb4
          clear HM3 HR3 HBX3 HBX HR2 HM2
          have hdl := folL_len x
          generalize hds : folL x = ds at *
          have HFO := Aside0.mk HFOL.out
          clear HFOL hds
          rw [List.length_map] at HO5
          go_loopw [63] (fun i w6 => ∃ j : Nat, j ≤ ds.length ∧ i = .int .i64 j ∧ Aside0 (MidC w w6 ob ((ds.take j).foldl (fun o d => putL o (k + d) now) (cellsL l k))) ∧ Aside0 (Kd.R Kd.bool 4 w6 w2.heap.size (fun _ => True) (.slice (some ⟨g1, 0, none⟩) 16 c1) now) ∧ Aside0 (Kd.R (Kd.int .i64) 3 w6 w.heap.size (fun _ => True) (.slice A5 ds.length c5) (ds.map fun d : Nat => (d : Int)))) (fun i _ => ds.length - (intOf i).toNat)
          case atStart => exact ⟨0, by omega, rfl, ⟨HM5.out⟩, ⟨HR5.out⟩, ⟨HO5.out⟩⟩
          case round =>
            clear HM5 HR5 HO5
            obtain ⟨j, hj, rfl, hm6, hr6, hc6⟩ := hrel
            by_cases hltj : j < ds.length
            · have hdj : decide ((j : Int) < (ds.length : Int)) = true := decide_eq_true (by omega)
              have hcc := (Kd.R_reads' hc6.out).2.2
              rw [List.length_map] at hcc
              obtain ⟨ad6, eA6, hcell⟩ := Kd.at_int hcc (j : Int) (by omega) (by omega)
              clear hcc
              subst eA6
              rw [Int.toNat_natCast] at hcell
              have hrd : rd (ds.map fun d : Nat => (d : Int)) (j : Int) = (ds[j] : Int) := by
                unfold rd; rw [Int.toNat_natCast, List.getD_eq_getElem?_getD, List.getElem?_map, List.getElem?_eq_getElem hltj]; rfl
              rw [hrd] at hcell
              have hin := HFO.out ds[j] (List.getElem_mem hltj)
              have HTF := Aside0.mk (take_fold (fun o d => putL o (k + d) now) (cellsL l k) ds j hltj)
              have hrl : ((ds.take j).foldl (fun o d => putL o (k + d) now) (cellsL l k)).length = l.length := by rw [fold_len, cells_len]
              generalize hdd : ds[j] = d at *
              clear hdd hrd
              generalize (ds.take j).foldl (fun o d => putL o (k + d) now) (cellsL l k) = R at *
              have ht1 : k + d < l.length := hin
              have it0 : (0 : Int) ≤ (k : Int) + (d : Int) := by omega
              have it1 : (k : Int) + (d : Int) < (l.length : Int) := by omega
              obtain ⟨v', kv', hrow', kf'⟩ := hm6.out.rows.cell (k + d) (by omega)
              obtain ⟨rv, HOB0, _⟩ := hm6.out.rows
              have HOB := Aside0.mk HOB0
              clear HOB0
              have HR7 := Aside0.mk (fun v => Kd.R_set hr6.out HOB.out (by decide) (k + d) v)
              have HC7 := Aside0.mk (fun v => Kd.R_set hc6.out HOB.out (by decide) (k + d) v)
              rcases hrow' with ⟨hnil', rfl⟩ | ⟨h16', g', c', rfl, hR'⟩
              · have HM7 := Aside0.mk (hm6.out.set (k + d) (show rowIs _ w.heap.size (.slice (some ⟨g1, 0, none⟩) 16 c1) now from .inr ⟨HNL.out, g1, c1, rfl, Kd.R_lower hr6.out HWL2.out⟩))
                have HP := Aside0.mk (putL_nil (now := now) hnil')
                clear hm6 hr6 hc6 hnil'
                go_wp2_with (go_at_call 102; refine (join_nil _ _ _ _).mono ?_; rintro e w7 ⟨rfl, rfl⟩)
                go_roundw
                case rel => exact ⟨j + 1, by omega, by go_num, ⟨by rw [HTF.out, HP.out]; exact HM7.out⟩, ⟨HR7.out _⟩, ⟨HC7.out _⟩⟩
                case measure => simp [intOf]; omega
              · have HJ := Aside0.mk (join_c (w := _) (ada := ⟨g', 0, none⟩) (adb := ⟨g1, 0, none⟩) (ca := c') (cb := c1) h16' HNL.out (fun i hi => by rw [add0]; exact (row_cell h16' hR' i hi).1) (fun i hi => by rw [add0]; exact (row_cell HNL.out hr6.out i hi).1))
                have hne' : R.getD (k + d) [] ≠ [] := fun e => by rw [e] at h16'; simp at h16'
                have HP := Aside0.mk (putL_some (now := now) hne')
                have HZL := Aside0.mk (show (List.zipWith (· && ·) (R.getD (k + d) []) now).length = 16 from by rw [List.length_zipWith, h16', HNL.out]; rfl)
                have HMF := Aside0.mk (fun (W : World) (hb : Below _ _ W) => hm6.out.below hb)
                have HRF := Aside0.mk (fun (W : World) (hb : Below _ _ W) => Kd.R_below hr6.out hb)
                have HCF := Aside0.mk (fun (W : World) (hb : Below _ _ W) => Kd.R_below hc6.out hb)
                have HBF := Aside0.mk (fun (W : World) (hb : Below _ _ W) => blk_below HOB.out hb)
                have hsz := Aside0.mk (below_size hm6.out.hb)
                clear hm6 hr6 hc6 hR' h16' hne' HR7 HC7
                go_wp2_with (go_at_call 102; refine HJ.out.mono ?_; rintro e w7 ⟨rfl, hx7, hb7⟩; have HM8 := Aside0.mk ((HMF.out _ hb7).set (k + d) (rowIs.of_block hsz.out hx7 HZL.out)); have HR8 := Aside0.mk (fun v => Kd.R_set (HRF.out _ hb7) (HBF.out _ hb7) (by decide) (k + d) v); have HC8 := Aside0.mk (fun v => Kd.R_set (HCF.out _ hb7) (HBF.out _ hb7) (by decide) (k + d) v); have kf7 := blk_frozen (HBF.out _ hb7) (k + d); have kv7 := pw_cell_below hb7 kv'; clear hx7 hb7 HMF HRF HCF HBF)
                go_roundw
                case rel => exact ⟨j + 1, by omega, by go_num, ⟨by rw [HTF.out, HP.out]; exact HM8.out⟩, ⟨HR8.out _⟩, ⟨HC8.out _⟩⟩
                case measure => simp [intOf]; omega
            · obtain rfl : j = ds.length := by omega
              have hdj : decide (((ds.length : Nat) : Int) < (ds.length : Int)) = false := decide_eq_false (by omega)
              have HMZ := Aside0.mk (show MidC w _ ob (cellsL l (k + 1)) from by
                rw [HST.out]
                have := hm6.out
                rw [List.take_of_length_le (Nat.le_refl _)] at this
                exact this)
              clear hm6 hr6 hc6
              go_wp2
              go_roundw
              case rel => exact ⟨k + 1, by omega, by go_num, ⟨HMZ.out⟩⟩
              case measure => simp [intOf]; omega
    · obtain rfl : k = l.length := by omega
      have hdk : decide (((l.length : Nat) : Int) < (l.length : Int)) = false := decide_eq_false (by omega)
      have HM := Aside0.mk hm.out
      clear hm
      go_wp2
      try rw [Exit.noGoto_ret]
      go_ret2
      exact ⟨ob, rfl, HM.out⟩
end Go.Proofs.Ytefkhcijgiagdaa.HCk
end
section
namespace Go.Proofs.Ytefkhcijgiagdaa.HCk
open Go.RowKit Go.Proofs.YtefkhcijgiagdaaW.PrintWords Go.Proofs.YtefkhcijgiagdaaW.PrintLast Go.Proofs.YtefkhcijgiagdaaW.PrintMore Go.Proofs.Ytefkhcijgiagdaa.HKnown Go.Proofs.Ytefkhcijgiagdaa.I1 Go.Proofs.Ytefkhcijgiagdaa.QVm Go.Proofs.Ytefkhcijgiagdaa.QLe Go.Proofs.Ytefkhcijgiagdaa.QCheck Go.Proofs.Ytefkhcijgiagdaa.K0
set_option linter.unusedVariables false
set_option linter.unusedSimpArgs false
set_option maxRecDepth 100000
attribute [local go_sem] max2_int min2_int max_two min_two IntKind.wrap_u32
theorem find_at : ∀ (l : List S28) (rows : List (List Bool)) (m k : Nat), k < l.length → (∀ j, j < k → loadB (at_ l j) (rows.getD (m + j) []) = false) → loadB (at_ l k) (rows.getD (m + k) []) = true → findB l rows m = some (m + k) := by
  intro l
  induction l with
  | nil => intro rows m k h; simp at h
  | cons i l ih =>
    intro rows m k hk hj hb
    unfold findB
    cases k with
    | zero =>
      have hb' : loadB i (rows.getD m []) = true := hb
      rw [if_pos hb']; rfl
    | succ k =>
      have h0 : loadB i (rows.getD m []) = false := hj 0 (by omega)
      rw [if_neg (by rw [h0]; decide)]
      have := ih rows (m + 1) k (by simpa using hk) (fun j hjk => by
        have := hj (j + 1) (by omega)
        rw [show m + (j + 1) = m + 1 + j by omega] at this
        exact this) (by rw [show m + (k + 1) = m + 1 + k by omega] at hb; exact hb)
      rw [this, show m + 1 + k = m + (k + 1) by omega]
def allR2 (o : Option Nat) : Int × Int := match o with | some k => ((k : Int), 51) | none => (0, 0)
theorem checkV_bad {l : List S28} (h : (allV l).2 ≠ 0) : checkV l = allV l := by unfold checkV; rw [if_neg h]
theorem checkV_good {l : List S28} (h : (allV l).2 = 0) : checkV l = allR2 (findB l (cellsL l l.length) 0) := by unfold checkV allR2; rw [if_pos h]; rfl
theorem loadB_no {i : S28} {row : List Bool} (h : ¬ (i.f0 = 96 ∨ i.f0 = 97)) : loadB i row = false := by unfold loadB; rw [decide_eq_false h]; rfl
theorem loadB_nil {i : S28} : loadB i [] = false := by unfold loadB; simp
theorem loadB_some {i : S28} {row : List Bool} (h : i.f0 = 96 ∨ i.f0 = 97) (hr : row.length = 16) : loadB i row = !row.getD i.f3.toNat false := by
  unfold loadB
  rw [decide_eq_true h, Bool.true_and]
  cases row with
  | nil => simp at hr
  | cons a row => rfl
theorem MidC.drewN {w wr : World} {ob : Nat} {rows : List (List Bool)} (h : MidC w wr ob rows) (n : Nat) : MidC w (wr.drewN n) ob rows := h.below (pw_below_drewN (Below.refl _ _) n)
theorem MidC.lower {w w1 wr : World} {ob : Nat} {rows : List (List Bool)} (h : MidC w1 wr ob rows) (hb : Below w.heap.size w w1) : MidC w wr ob rows := by
  refine ⟨?_, below_step hb h.hb, Nat.le_trans (below_size hb) h.ho⟩
  obtain ⟨rv, q1, q2, q3⟩ := h.rows
  refine ⟨rv, q1, q2, fun j hj => ?_⟩
  rcases q3 j hj with q | ⟨q, g, c, e, hR⟩
  · exact .inl q
  · exact .inr ⟨q, g, c, e, Kd.R_lower hR (below_size hb)⟩
set_option maxHeartbeats 4000000 in
theorem check_bad {w : World} {A0 : Option Addr} {c0 : Nat} {l : List S28} (hC : Kd.C k28 w A0 l.length l) (hc0 : l.length ≤ c0) (hlen : l.length ≤ 100000) (hi : ∀ i ∈ l, IW i) (hb : (allV l).2 ≠ 0) :
    Calls Try.prog 54 #[.slice A0 l.length c0] w fun e w' => e = .returned (.tuple #[.int .i64 (allV l).1, .int .i64 (allV l).2]) ∧ Below w.heap.size w w' := by
  have h := all_c hC hc0 hlen hi
  have HH := Aside0.mk h
  generalize (allV l).2 = b at *
  generalize (allV l).1 = a at *
  have d0 : (b != 0) = true := bne_iff_ne.2 hb
  clear h hb hC hi
  go_enter Try.func54, Try.ntmps54
  go_wp2_with (go_at_call 99; refine HH.out.mono ?_; rintro e w1 ⟨rfl, hb1⟩; have HB1 := Aside0.mk hb1; clear hb1)
  go_ret2
  exact ⟨rfl, HB1.out⟩
set_option maxHeartbeats 4000000 in
theorem check_c {w : World} {A0 : Option Addr} {c0 : Nat} {l : List S28} (hC : Kd.C k28 w A0 l.length l) (hc0 : l.length ≤ c0) (hlen : l.length ≤ 100000) (hi : ∀ i ∈ l, IW i) (hb : (allV l).2 = 0) :
    Calls Try.prog 54 #[.slice A0 l.length c0] w fun e w' => e = .returned (.tuple #[.int .i64 (checkV l).1, .int .i64 (checkV l).2]) ∧ Below w.heap.size w w' := by
  have hall := all_c hC hc0 hlen hi
  have HCE := Aside0.mk (fun W (h : Kd.C k28 W A0 l.length l) => cells_c h hc0 hlen hi hb)
  obtain ⟨hl0, _, hf⟩ := (allV_ok l).1 hb
  have hw := (first_none l).1 hf
  rw [checkV_good hb]
  rw [hb] at hall
  generalize (allV l).1 = a1 at hall
  have HAL := Aside0.mk hall
  have HC := Aside0.mk hC
  have HI := Aside0.mk hi
  have HW := Aside0.mk hw
  have hu28 := Try.underlying28
  clear hall hC hi hb hf hw
  obtain ⟨ad0, eA0, _⟩ := at_T28 HC.out 0 (by omega) (by omega)
  subst eA0
  have HLC := Aside0.mk (cells_len l l.length)
  generalize hR : cellsL l l.length = R at *
  clear hR
  generalize hrr : allR2 (findB l R 0) = r
  have HR := Aside0.mk hrr
  clear hrr
  go_enter Try.func54, Try.ntmps54
  go_wp2_with (first | (go_at_call 99; refine HAL.out.mono ?_; rintro e w1 ⟨rfl, hb1⟩; have HB1 := Aside0.mk hb1; clear hb1) | (go_at_call 56; refine (HCE.out _ (Kd.C_below HC.out HB1.out)).mono ?_; rintro e w2 ⟨ob, rfl, hm2⟩; have HM2 := Aside0.mk (hm2.lower HB1.out); clear hm2))
  clear HCE HAL HB1
  go_loopw [26] (fun i wr => ∃ k : Nat, k ≤ l.length ∧ i = .int .i64 k ∧ Aside0 (MidC w wr ob R) ∧ Aside0 (∀ j, j < k → loadB (at_ l j) (R.getD (0 + j) []) = false)) (fun i _ => l.length - (intOf i).toNat)
  case atStart => exact ⟨0, by omega, rfl, ⟨HM2.out⟩, ⟨fun j hj => by omega⟩⟩
  case round =>
    clear HM2
    obtain ⟨k, hk, rfl, hm, hld⟩ := hrel
    by_cases hlt : k < l.length
    · have hdk : decide ((k : Int) < (l.length : Int)) = true := decide_eq_true (by omega)
      obtain ⟨ad2, eA, hx0, hx1, hx2, hx3⟩ := at_T28 (Kd.C_below HC.out hm.out.hb) (k : Int) (by omega) (by omega)
      obtain rfl := Option.some.inj eA
      clear eA
      rw [Int.toNat_natCast] at hx0 hx1 hx2 hx3
      have hiw := HI.out (at_ l k) (at_mem l k hlt)
      have hwell := (well_iff _ _).1 (HW.out k hlt)
      rw [rd_at] at hx0 hx1 hx2 hx3
      obtain ⟨v, kv, hrow, _⟩ := hm.out.rows.cell k (by rw [HLC.out]; exact hlt)
      have i0 : (0 : Int) ≤ (k : Int) := by omega
      have i1 : (k : Int) < (l.length : Int) := by omega
      have kva := fun o => pw_cell_below (below_alloc (Below.refl _ _) o) kv
      have HFA := Aside0.mk (find_at l R 0 k hlt hld.out)
      have HNX := Aside0.mk (show loadB (at_ l k) (R.getD (0 + k) []) = false → ∀ j, j < k + 1 → loadB (at_ l j) (R.getD (0 + j) []) = false from fun h j hj => by
        by_cases e : j = k
        · rw [e]; exact h
        · exact hld.out j (by omega))
      rw [Nat.zero_add] at HFA HNX
      have HM2 := Aside0.mk (fun o => hm.out.below (below_alloc (Below.refl _ _) o))
      have hcell := hwell.cell
      have h30 := hiw.2.2.2.1
      have HRX := Aside0.mk hrow
      have HMM := Aside0.mk hm.out
      clear hm hiw hwell hld
      generalize at_ l k = x at *
      generalize R.getD k [] = row at *
      by_cases hcode : x.f0 = 96 ∨ x.f0 = 97
      · have hk16 := hcell (by omega)
        clear hcell
        rcases hrow with ⟨rfl, rfl⟩ | ⟨h16, g, c, rfl, hRw⟩
        · have HNX2 := Aside0.mk (HNX.out loadB_nil)
          have hnl := fun W => run_neq_slice_nil_any (P := Try.prog) W 120 4 none 0 0 0 0 Try.underlying120
          clear HRX HMM HFA HNX
          rcases hcode with e | e
          · have d1 : (x.f0 == 96) = true := beq_iff_eq.2 e
            clear e
            go_wp2
            go_quiet (fail)
            go_wp2
            go_roundw
            case rel => exact ⟨k + 1, by omega, by go_num, ⟨(HM2.out _).drewN _⟩, ⟨HNX2.out⟩⟩
            case measure => simp [intOf]; omega
          · have d1 : (x.f0 == 96) = false := beq_eq_false_iff_ne.2 (by omega)
            have d2 : (x.f0 == 97) = true := beq_iff_eq.2 e
            clear e
            go_wp2
            go_quiet (fail)
            go_wp2
            go_roundw
            case rel => exact ⟨k + 1, by omega, by go_num, ⟨(HM2.out _).drewN _⟩, ⟨HNX2.out⟩⟩
            case measure => simp [intOf]; omega
        · have hnl := fun W => run_neq_slice_nil_any (P := Try.prog) W 120 4 (some ⟨g, 0, none⟩) 16 c 0 0 Try.underlying120
          have kb := fun o => pw_cell_below (below_alloc (Below.refl _ _) o) (row_cell h16 hRw x.f3.toNat (by omega)).1
          have HV := Aside0.mk (loadB_some (row := row) hcode h16)
          have j1 : x.f3 < 16 := hk16
          generalize row.getD x.f3.toNat false = b at *
          clear HRX HMM hRw
          cases b
          · have HRR := Aside0.mk (show r = ((k : Int), 51) by rw [← HR.out, HFA.out HV.out]; rfl)
            clear HFA HNX HV
            rcases hcode with e | e
            · have d1 : (x.f0 == 96) = true := beq_iff_eq.2 e
              clear e
              go_wp2
              go_quiet (fail)
              go_wp2
              rw [HRR.out]
              go_ret2
              exact ⟨rfl, ((HM2.out _).drewN _).hb⟩
            · have d1 : (x.f0 == 96) = false := beq_eq_false_iff_ne.2 (by omega)
              have d2 : (x.f0 == 97) = true := beq_iff_eq.2 e
              clear e
              go_wp2
              go_quiet (fail)
              go_wp2
              rw [HRR.out]
              go_ret2
              exact ⟨rfl, ((HM2.out _).drewN _).hb⟩
          · have HNX2 := Aside0.mk (HNX.out HV.out)
            clear HFA HNX HV
            rcases hcode with e | e
            · have d1 : (x.f0 == 96) = true := beq_iff_eq.2 e
              clear e
              go_wp2
              go_quiet (fail)
              go_wp2
              go_roundw
              case rel => exact ⟨k + 1, by omega, by go_num, ⟨(HM2.out _).drewN _⟩, ⟨HNX2.out⟩⟩
              case measure => simp [intOf]; omega
            · have d1 : (x.f0 == 96) = false := beq_eq_false_iff_ne.2 (by omega)
              have d2 : (x.f0 == 97) = true := beq_iff_eq.2 e
              clear e
              go_wp2
              go_quiet (fail)
              go_wp2
              go_roundw
              case rel => exact ⟨k + 1, by omega, by go_num, ⟨(HM2.out _).drewN _⟩, ⟨HNX2.out⟩⟩
              case measure => simp [intOf]; omega
      · have HNX2 := Aside0.mk (HNX.out (loadB_no hcode))
        have d1 : (x.f0 == 96) = false := beq_eq_false_iff_ne.2 (by omega)
        have d2 : (x.f0 == 97) = false := beq_eq_false_iff_ne.2 (by omega)
        clear hcell HRX HMM HFA HNX hrow
        go_wp2
        go_quiet (fail)
        go_wp2
        go_roundw
        case rel => exact ⟨k + 1, by omega, by go_num, ⟨(HM2.out _).drewN _⟩, ⟨HNX2.out⟩⟩
        case measure => simp [intOf]; omega
    · obtain rfl : k = l.length := by omega
      have hdk : decide (((l.length : Nat) : Int) < (l.length : Int)) = false := decide_eq_false (by omega)
      have HRR := Aside0.mk (show r = (0, 0) by rw [← HR.out, (find_none l R 0).2 hld.out]; rfl)
      have HB := Aside0.mk hm.out.hb
      clear hm hld
      go_wp2
      rw [HRR.out]
      go_ret2
      exact ⟨rfl, HB.out⟩
instance (x : Int) : Decidable (U x) := inferInstanceAs (Decidable (_ ∧ _))
instance (i : S28) : Decidable (IW i) := inferInstanceAs (Decidable (_ ∧ _ ∧ _ ∧ _))
def check_Check.f (l0 : List S28) : Option (Int × Int) := if l0.length ≤ 100000 ∧ (∀ i ∈ l0, IW i) then some (checkV l0) else none
theorem check_Check.calls (A0 : Option Addr) (c0 : Nat) (l0 : List (S28)) (r1 : Int) (r2 : Int) (w : World) (hr0 : Kd.C k28 w A0 l0.length l0) (hc0 : l0.length ≤ c0) (h : check_Check.f l0 = some (r1, r2)) :
    Calls Try.prog 54 #[.slice A0 l0.length c0] w fun e w' => e = .returned (.tuple #[.int .i64 r1, .int .i64 r2]) ∧ Below w.heap.size w w' := by
  unfold check_Check.f at h
  split at h
  · rename_i hc
    have h := Option.some.inj h
    by_cases hb : (allV l0).2 = 0
    · have := check_c hr0 hc0 hc.1 hc.2 hb
      rw [h] at this
      exact this
    · have := check_bad hr0 hc0 hc.1 hc.2 hb
      rw [← checkV_bad hb, h] at this
      exact this
  · cases h
end Go.Proofs.Ytefkhcijgiagdaa.HCk
end
section
namespace Go.Proofs.Ytefkhcijgiagdaa.K3
open Go.RowKit Go.Proofs.YtefkhcijgiagdaaW.PrintWords Go.Proofs.YtefkhcijgiagdaaW.PrintLast Go.Proofs.YtefkhcijgiagdaaW.PrintMore
attribute [local go_sem] max2_int min2_int max_two min_two max_three min_three max_four min_four IntKind.wrap_u32 IntKind.wrap_u8   -- for this text's walks alone
set_option linter.unusedVariables false
open Go.Proofs.Ytefkhcijgiagdaa.Le Go.Proofs.Ytefkhcijgiagdaa.HKnown Go.Proofs.Ytefkhcijgiagdaa.HPut Go.Proofs.Ytefkhcijgiagdaa.I1 Go.Proofs.Ytefkhcijgiagdaa.E1 Go.Proofs.Ytefkhcijgiagdaa.HAsm Go.Proofs.Ytefkhcijgiagdaa.E2 Go.Proofs.Ytefkhcijgiagdaa.HAll Go.Proofs.Ytefkhcijgiagdaa.V0 Go.Proofs.Ytefkhcijgiagdaa.HVm Go.Proofs.Ytefkhcijgiagdaa.K0 Go.Proofs.Ytefkhcijgiagdaa.HCk
set_option linter.unusedSimpArgs false
def errW : Option Int → Value
  | none => .nilIface
  | some c => .iface 0 (.int .i64 c)
theorem errW_none : errW none = .nilIface := rfl
theorem errW_some (c : Int) : errW (some c) = .iface 0 (.int .i64 c) := rfl
end Go.Proofs.Ytefkhcijgiagdaa.K3
end
section
namespace Go.Proofs.Ytefkhcijgiagdaa.K3
open Go.RowKit Go.Proofs.YtefkhcijgiagdaaW.PrintWords Go.Proofs.YtefkhcijgiagdaaW.PrintLast Go.Proofs.YtefkhcijgiagdaaW.PrintMore
attribute [local go_sem] max2_int min2_int max_two min_two max_three min_three max_four min_four IntKind.wrap_u32 IntKind.wrap_u8   -- for this text's walks alone
set_option linter.unusedVariables false
open Go.Proofs.Ytefkhcijgiagdaa.Le Go.Proofs.Ytefkhcijgiagdaa.HKnown Go.Proofs.Ytefkhcijgiagdaa.HPut Go.Proofs.Ytefkhcijgiagdaa.I1 Go.Proofs.Ytefkhcijgiagdaa.E1 Go.Proofs.Ytefkhcijgiagdaa.HAsm Go.Proofs.Ytefkhcijgiagdaa.E2 Go.Proofs.Ytefkhcijgiagdaa.HAll Go.Proofs.Ytefkhcijgiagdaa.V0 Go.Proofs.Ytefkhcijgiagdaa.HVm Go.Proofs.Ytefkhcijgiagdaa.K0 Go.Proofs.Ytefkhcijgiagdaa.HCk
set_option linter.unusedSimpArgs false
def doorwardlaw12_alive.f  : Option (Bool) := (check_Check.f (([(⟨6, 0, 0, 0⟩ : S28)] : List (S28)))).bind fun bt104 => ((check_Check.f ([] : List (S28))).bind fun bt106 => (if bt104.2 = 0 then (some (bt106.2 == 51)) else (some false)))
set_option maxHeartbeats 8000000 in
set_option maxRecDepth 100000 in
theorem doorwardlaw12_alive.calls  (r : Bool) (w : World) (h : doorwardlaw12_alive.f  = some r) :
    Calls Try.prog 58 #[] w fun e w' => e = .returned (.bool r) ∧ Below w.heap.size w w' := by
  have hu28 := Try.underlying28
  have HB := Aside0.mk (Below.refl w.heap.size w)
  have H : ((check_Check.f (([(⟨6, 0, 0, 0⟩ : S28)] : List (S28)))).bind fun bt104 => ((check_Check.f ([] : List (S28))).bind fun bt106 => (if bt104.2 = 0 then (some (bt106.2 == 51)) else (some false)))) = some r := h
  clear h
  obtain ⟨y101, hy101⟩ : ∃ y_ : List (S28), y_ = (([(⟨6, 0, 0, 0⟩ : S28)] : List (S28))) := ⟨_, rfl⟩
  replace H : ((check_Check.f y101).bind fun bt104 => ((check_Check.f ([] : List (S28))).bind fun bt106 => (if bt104.2 = 0 then (some (bt106.2 == 51)) else (some false)))) = some r := by first | (rw [hy101]; with_reducible exact H) | (have H2_ := (Option.bind_some _ _).symm.trans H; rw [hy101]; with_reducible exact H2_) | (have H2_ := (Option.bind_some _ _).symm.trans H; with_reducible exact H2_) | with_reducible exact H | (rw [hy101]; exact H) | exact H
  have Ny101 := Aside0.mk hy101
  clear hy101
  replace H := Option.bind_eq_some_iff.mp H
  obtain ⟨⟨t104, t105⟩, A10, H⟩ := H
  replace H : ((check_Check.f ([] : List (S28))).bind fun bt106 => (if t105 = 0 then (some (bt106.2 == 51)) else (some false))) = some r := H
  have A1 := Aside0.mk A10
  clear A10
  replace H := Option.bind_eq_some_iff.mp H
  obtain ⟨⟨t106, t107⟩, A20, H⟩ := H
  replace H : (if t105 = 0 then (some (t107 == 51)) else (some false)) = some r := H
  have A2 := Aside0.mk A20
  clear A20
  by_cases c3 : t105 = 0
  · rw [if_pos c3] at H
    have c3b0 : (t105 == 0) = true := beq_iff_eq.mpr c3
    have c3b1 : (t105 != 0) = false := bne_eq_false_iff_eq.mpr c3
    clear c3
    obtain rfl := Option.some.inj H
    go_enter Try.func58, Try.ntmps58
    go_wp2_with (first | ((with_reducible refine gate_dst (N := 7) rfl ?_); refine Kd.R_lit k28 _ 28 ?hg (N := 7) ?hd (xs := ([(⟨6, 0, 0, 0⟩ : S28)] : List (S28))) (inner := [.int .i64 6, .int .i64 0, .int .i64 0, .int .u32 0]) (ok := fun _ => True) (okp := fun _ => True) ?hr ?hp (fun _ hk => hk) trivial (Below.refl _ _) (Nat.le_refl _) (by simp) ?_; (case hd => rfl); (case hg => rfl); (case hr => first | (go_simp; done) | (go_simp; rfl)); (case hp => exact (Reps.c4 (show Kd.M k28 _ _ _ (⟨6, 0, 0, 0⟩ : S28) [.int .i64 6, .int .i64 0, .int .i64 0, .int .u32 0] from (k28_mkM _ _ _ (⟨6, 0, 0, 0⟩ : S28) )) (Reps.none _ _))); intro v102 w4 ho5 hb hg_ hnew_; clear hg_ hnew_; (first | rw [← Ny101.out] at ho5 | (simp only [Int.reduceToNat] at ho5; rw [← Ny101.out] at ho5)); have n0_ := Aside0.mk (Kd.R_lower ho5 (below_size (by repeat (first | (with_reducible first | exact HB.out | apply below_alloc | apply pw_below_drewN | apply below_drew1) | exact HB.out)))); have n1_ := Aside0.mk (below_step (by repeat (first | (with_reducible first | exact HB.out | apply below_alloc | apply pw_below_drewN | apply below_drew1) | exact HB.out)) hb); clear HB; have HO103 := n0_; have HB := n1_; clear n0_ n1_; clear hb ho5; obtain ⟨Ao6, co6, eo6⟩ := Kd.R_slice HO103.out; subst eo6) | ((with_reducible refine gate_callee (f := 54) rfl ?_); refine goesL_ (some 8) rfl rfl Try.func54 (by kernel_rfl) rfl #[.slice Ao6 y101.length co6] rfl (by (try simp only [List.map_toArray, List.map_cons, List.map_nil]); first | done | rfl | (simp only [List.length_drop, List.length_take]; rfl)) ?_; (with_reducible refine (check_Check.calls _ _ y101 t104 t105 _ ?side1 ?side2 A1.out).mono ?_); (case side1 => repeat (first | exact (Kd.R_reads' HO103.out).2.2 | (with_reducible refine Kd.C_alloc ?_ _) | (with_reducible refine Kd.C_drewN ?_ _) | (with_reducible refine Kd.C_drew ?_))); (case side2 => exact (Kd.R_reads' HO103.out).2.1); rintro e w7 ⟨rfl, hb⟩; refine ⟨_, rfl, ?_⟩; have n0_ := Aside0.mk (Kd.R_below (by (with_reducible repeat (first | apply Kd.R_alloc | apply Kd.R_drewN | apply Kd.R_drew)); exact HO103.out) hb); have n1_ := Aside0.mk (below_step (by repeat (first | (with_reducible first | exact HB.out | apply below_alloc | apply pw_below_drewN | apply below_drew1) | exact HB.out)) hb); clear HO103; clear HB; have HO103 := n0_; have HB := n1_; clear n0_ n1_; (try clear hb); (try clear hb2); (try clear hk); (try clear hi)) | ((with_reducible refine gate_callee (f := 54) rfl ?_); refine goesL_ (some 12) rfl rfl Try.func54 (by kernel_rfl) rfl #[.slice none 0 0] rfl (by (try simp only [List.map_toArray, List.map_cons, List.map_nil]); first | done | rfl | (simp only [List.length_drop, List.length_take]; rfl)) ?_; (refine (check_Check.calls _ _ ([] : List (S28)) t106 t107 _ ?side1 ?side2 A2.out).mono ?_); (case side1 => exact Kd.C_nil _ _); (case side2 => exact Nat.le_refl _); rintro e w8 ⟨rfl, hb⟩; refine ⟨_, rfl, ?_⟩; have n0_ := Aside0.mk (Kd.R_below (by (with_reducible repeat (first | apply Kd.R_alloc | apply Kd.R_drewN | apply Kd.R_drew)); exact HO103.out) hb); have n1_ := Aside0.mk (below_step (by repeat (first | (with_reducible first | exact HB.out | apply below_alloc | apply pw_below_drewN | apply below_drew1) | exact HB.out)) hb); clear HO103; clear HB; have HO103 := n0_; have HB := n1_; clear n0_ n1_; (try clear hb); (try clear hb2); (try clear hk); (try clear hi)))
    go_ret
    exact ⟨by first | rfl | (simp [errW_none, errW_some] <;> rfl) | (simp [*, errW_none, errW_some] <;> rfl), by repeat (first | (with_reducible first | exact HB.out | apply below_alloc | apply pw_below_drewN | apply below_drew1) | exact HB.out)⟩
  · rw [if_neg c3] at H
    have c3b0 : (t105 == 0) = false := beq_eq_false_iff_ne.mpr c3
    have c3b1 : (t105 != 0) = true := bne_iff_ne.mpr c3
    obtain rfl := Option.some.inj H
    go_enter Try.func58, Try.ntmps58
    go_wp2_with (first | ((with_reducible refine gate_dst (N := 7) rfl ?_); refine Kd.R_lit k28 _ 28 ?hg (N := 7) ?hd (xs := ([(⟨6, 0, 0, 0⟩ : S28)] : List (S28))) (inner := [.int .i64 6, .int .i64 0, .int .i64 0, .int .u32 0]) (ok := fun _ => True) (okp := fun _ => True) ?hr ?hp (fun _ hk => hk) trivial (Below.refl _ _) (Nat.le_refl _) (by simp) ?_; (case hd => rfl); (case hg => rfl); (case hr => first | (go_simp; done) | (go_simp; rfl)); (case hp => exact (Reps.c4 (show Kd.M k28 _ _ _ (⟨6, 0, 0, 0⟩ : S28) [.int .i64 6, .int .i64 0, .int .i64 0, .int .u32 0] from (k28_mkM _ _ _ (⟨6, 0, 0, 0⟩ : S28) )) (Reps.none _ _))); intro v102 w9 ho10 hb hg_ hnew_; clear hg_ hnew_; (first | rw [← Ny101.out] at ho10 | (simp only [Int.reduceToNat] at ho10; rw [← Ny101.out] at ho10)); have n0_ := Aside0.mk (Kd.R_lower ho10 (below_size (by repeat (first | (with_reducible first | exact HB.out | apply below_alloc | apply pw_below_drewN | apply below_drew1) | exact HB.out)))); have n1_ := Aside0.mk (below_step (by repeat (first | (with_reducible first | exact HB.out | apply below_alloc | apply pw_below_drewN | apply below_drew1) | exact HB.out)) hb); clear HB; have HO103 := n0_; have HB := n1_; clear n0_ n1_; clear hb ho10; obtain ⟨Ao11, co11, eo11⟩ := Kd.R_slice HO103.out; subst eo11) | ((with_reducible refine gate_callee (f := 54) rfl ?_); refine goesL_ (some 8) rfl rfl Try.func54 (by kernel_rfl) rfl #[.slice Ao11 y101.length co11] rfl (by (try simp only [List.map_toArray, List.map_cons, List.map_nil]); first | done | rfl | (simp only [List.length_drop, List.length_take]; rfl)) ?_; (with_reducible refine (check_Check.calls _ _ y101 t104 t105 _ ?side1 ?side2 A1.out).mono ?_); (case side1 => repeat (first | exact (Kd.R_reads' HO103.out).2.2 | (with_reducible refine Kd.C_alloc ?_ _) | (with_reducible refine Kd.C_drewN ?_ _) | (with_reducible refine Kd.C_drew ?_))); (case side2 => exact (Kd.R_reads' HO103.out).2.1); rintro e w12 ⟨rfl, hb⟩; refine ⟨_, rfl, ?_⟩; have n0_ := Aside0.mk (Kd.R_below (by (with_reducible repeat (first | apply Kd.R_alloc | apply Kd.R_drewN | apply Kd.R_drew)); exact HO103.out) hb); have n1_ := Aside0.mk (below_step (by repeat (first | (with_reducible first | exact HB.out | apply below_alloc | apply pw_below_drewN | apply below_drew1) | exact HB.out)) hb); clear HO103; clear HB; have HO103 := n0_; have HB := n1_; clear n0_ n1_; (try clear hb); (try clear hb2); (try clear hk); (try clear hi)) | ((with_reducible refine gate_callee (f := 54) rfl ?_); refine goesL_ (some 12) rfl rfl Try.func54 (by kernel_rfl) rfl #[.slice none 0 0] rfl (by (try simp only [List.map_toArray, List.map_cons, List.map_nil]); first | done | rfl | (simp only [List.length_drop, List.length_take]; rfl)) ?_; (refine (check_Check.calls _ _ ([] : List (S28)) t106 t107 _ ?side1 ?side2 A2.out).mono ?_); (case side1 => exact Kd.C_nil _ _); (case side2 => exact Nat.le_refl _); rintro e w13 ⟨rfl, hb⟩; refine ⟨_, rfl, ?_⟩; have n0_ := Aside0.mk (Kd.R_below (by (with_reducible repeat (first | apply Kd.R_alloc | apply Kd.R_drewN | apply Kd.R_drew)); exact HO103.out) hb); have n1_ := Aside0.mk (below_step (by repeat (first | (with_reducible first | exact HB.out | apply below_alloc | apply pw_below_drewN | apply below_drew1) | exact HB.out)) hb); clear HO103; clear HB; have HO103 := n0_; have HB := n1_; clear n0_ n1_; (try clear hb); (try clear hb2); (try clear hk); (try clear hi)))
    go_ret
    exact ⟨by first | rfl | (simp [errW_none, errW_some] <;> rfl) | (simp [*, errW_none, errW_some] <;> rfl), by repeat (first | (with_reducible first | exact HB.out | apply below_alloc | apply pw_below_drewN | apply below_drew1) | exact HB.out)⟩
end Go.Proofs.Ytefkhcijgiagdaa.K3
end
section
namespace Go.Proofs.Ytefkhcijgiagdaa.PCheckRuns
open Go.RowKit Go.Proofs.YtefkhcijgiagdaaW.PrintWords Go.Proofs.YtefkhcijgiagdaaW.PrintLast Go.Proofs.YtefkhcijgiagdaaW.PrintMore
attribute [local go_sem] max2_int min2_int max_two min_two max_three min_three max_four min_four IntKind.wrap_u32 IntKind.wrap_u8   -- for this text's walks alone
set_option linter.unusedVariables false
open Go.Proofs.Ytefkhcijgiagdaa.Le Go.Proofs.Ytefkhcijgiagdaa.HKnown Go.Proofs.Ytefkhcijgiagdaa.HPut Go.Proofs.Ytefkhcijgiagdaa.I1 Go.Proofs.Ytefkhcijgiagdaa.E1 Go.Proofs.Ytefkhcijgiagdaa.HAsm Go.Proofs.Ytefkhcijgiagdaa.E2 Go.Proofs.Ytefkhcijgiagdaa.HAll Go.Proofs.Ytefkhcijgiagdaa.V0 Go.Proofs.Ytefkhcijgiagdaa.HVm Go.Proofs.Ytefkhcijgiagdaa.K0 Go.Proofs.Ytefkhcijgiagdaa.HCk Go.Proofs.Ytefkhcijgiagdaa.K3
set_option linter.unusedSimpArgs false
def errW : Option Int → Value
  | none => .nilIface
  | some c => .iface 0 (.int .i64 c)
theorem errW_none : errW none = .nilIface := rfl
theorem errW_some (c : Int) : errW (some c) = .iface 0 (.int .i64 c) := rfl
end Go.Proofs.Ytefkhcijgiagdaa.PCheckRuns
end
section
namespace Go.Proofs.Ytefkhcijgiagdaa.PCheckRuns
open Go.RowKit Go.Proofs.YtefkhcijgiagdaaW.PrintWords Go.Proofs.YtefkhcijgiagdaaW.PrintLast Go.Proofs.YtefkhcijgiagdaaW.PrintMore
attribute [local go_sem] max2_int min2_int max_two min_two max_three min_three max_four min_four IntKind.wrap_u32 IntKind.wrap_u8   -- for this text's walks alone
set_option linter.unusedVariables false
open Go.Proofs.Ytefkhcijgiagdaa.Le Go.Proofs.Ytefkhcijgiagdaa.HKnown Go.Proofs.Ytefkhcijgiagdaa.HPut Go.Proofs.Ytefkhcijgiagdaa.I1 Go.Proofs.Ytefkhcijgiagdaa.E1 Go.Proofs.Ytefkhcijgiagdaa.HAsm Go.Proofs.Ytefkhcijgiagdaa.E2 Go.Proofs.Ytefkhcijgiagdaa.HAll Go.Proofs.Ytefkhcijgiagdaa.V0 Go.Proofs.Ytefkhcijgiagdaa.HVm Go.Proofs.Ytefkhcijgiagdaa.K0 Go.Proofs.Ytefkhcijgiagdaa.HCk Go.Proofs.Ytefkhcijgiagdaa.K3
set_option linter.unusedSimpArgs false
def doorwardlaw12_CheckRuns.j0 : Nat → List (S28) → ByteArray → Option (Bool)
  | 0, _, _ => none
  | k + 1, x0, x1 => (vm_Run.f x0 x1).bind fun bt107 => (if (x1.size : Int) = 64 then ((doorwardlaw12_alive.f).bind fun t110 => (if t110 = true then (if bt107.2.2 = 0 then (if bt107.2.1 ≥ 1 then (some (decide (bt107.2.1 ≤ (x0.length : Int)))) else (some false)) else (some false)) else (some false))) else ((doorwardlaw12_alive.f).bind fun t111 => (if t111 = true then (some (bt107.2.2 == 52)) else (some false))))
def doorwardlaw12_CheckRuns.f (k : Nat) (l0 : List (S28)) (a1 : ByteArray) : Option (Bool) := (doorwardlaw12_few.f l0).bind fun t101 => ((check_Check.f t101).bind fun bt104 => (if bt104.2 = 0 then (if (a1.size : Int) > 64 then (if 0 ≤ 64 then (if 64 ≤ (a1.size : Int) then (doorwardlaw12_CheckRuns.j0 k t101 (a1.extract 0 64)) else (none)) else (none)) else (doorwardlaw12_CheckRuns.j0 k t101 a1)) else ((doorwardlaw12_alive.f).bind fun t106 => (some t106))))
set_option maxHeartbeats 8000000 in
set_option maxRecDepth 100000 in
theorem doorwardlaw12_CheckRuns.calls (k : Nat) (A0 : Option Addr) (c0 : Nat) (l0 : List (S28)) (a1 : ByteArray) (r : Bool) (w : World) (hr0 : Kd.C k28 w A0 l0.length l0) (hc0 : l0.length ≤ c0) (h : doorwardlaw12_CheckRuns.f k l0 a1 = some r) :
    Calls Try.prog 28 #[.slice A0 l0.length c0, .string a1] w fun e w' => e = .returned (.bool r) ∧ Below w.heap.size w w' := by
  have HR0 := Aside0.mk hr0
  have HC0 := Aside0.mk hc0
  clear hr0 hc0
  have HB := Aside0.mk (Below.refl w.heap.size w)
  have H : ((doorwardlaw12_few.f l0).bind fun t101 => ((check_Check.f t101).bind fun bt104 => (if bt104.2 = 0 then (if (a1.size : Int) > 64 then (if 0 ≤ 64 then (if 64 ≤ (a1.size : Int) then (doorwardlaw12_CheckRuns.j0 k t101 (a1.extract 0 64)) else (none)) else (none)) else (doorwardlaw12_CheckRuns.j0 k t101 a1)) else ((doorwardlaw12_alive.f).bind fun t106 => (some t106))))) = some r := h
  clear h
  replace H := Option.bind_eq_some_iff.mp H
  obtain ⟨t101, A30, H⟩ := H
  replace H : ((check_Check.f t101).bind fun bt104 => (if bt104.2 = 0 then (if (a1.size : Int) > 64 then (if 0 ≤ 64 then (if 64 ≤ (a1.size : Int) then (doorwardlaw12_CheckRuns.j0 k t101 (a1.extract 0 64)) else (none)) else (none)) else (doorwardlaw12_CheckRuns.j0 k t101 a1)) else ((doorwardlaw12_alive.f).bind fun t106 => (some t106)))) = some r := H
  have A3 := Aside0.mk A30
  clear A30
  replace H := Option.bind_eq_some_iff.mp H
  obtain ⟨⟨t104, t105⟩, A40, H⟩ := H
  replace H : (if t105 = 0 then (if (a1.size : Int) > 64 then (if 0 ≤ 64 then (if 64 ≤ (a1.size : Int) then (doorwardlaw12_CheckRuns.j0 k t101 (a1.extract 0 64)) else (none)) else (none)) else (doorwardlaw12_CheckRuns.j0 k t101 a1)) else ((doorwardlaw12_alive.f).bind fun t106 => (some t106))) = some r := H
  have A4 := Aside0.mk A40
  clear A40
  by_cases c5 : t105 = 0
  · rw [if_pos c5] at H
    have c5b0 : (t105 == 0) = true := beq_iff_eq.mpr c5
    have c5b1 : (t105 != 0) = false := bne_eq_false_iff_eq.mpr c5
    clear c5
    have HC6 := Aside0.mk H
    clear H
    go_enter Try.func28, Try.ntmps28
    go_upto_if 22 with (first | ((with_reducible refine gate_callee (f := 53) rfl ?_); refine goesL_ (some 11) rfl rfl Try.func53 (by kernel_rfl) rfl #[.slice A0 l0.length c0] rfl (by (try simp only [List.map_toArray, List.map_cons, List.map_nil]); first | done | rfl | (simp only [List.length_drop, List.length_take]; rfl)) ?_; (with_reducible refine (doorwardlaw12_few.calls (fun k_ => k_ < w.heap.size) _ _ l0 t101 _ ?side1 A3.out).mono ?_); (case side1 => exact Kd.V_mk HC0.out (Kd.F_below (Kd.C_F k28_heap HR0.out) (by repeat (first | (with_reducible first | exact HB.out | apply below_alloc | apply pw_below_drewN | apply below_drew1) | exact HB.out)))); rintro e w7 ⟨v102, rfl, ho0, hb⟩; refine ⟨_, rfl, ?_⟩; have n0_ := Aside0.mk (Kd.V_lower (Kd.V_mono (ok' := fun k_ => True) ho0 (fun k_ hk_ => trivial)) (below_size (by repeat (first | (with_reducible first | exact HB.out | apply below_alloc | apply pw_below_drewN | apply below_drew1) | exact HB.out)))); have n1_ := Aside0.mk (below_step (by repeat (first | (with_reducible first | exact HB.out | apply below_alloc | apply pw_below_drewN | apply below_drew1) | exact HB.out)) hb); clear HB; have HO103 := n0_; have HB := n1_; clear n0_ n1_; (try clear hb); (try clear hb2); (try clear hk); (try clear hi); (try clear ho0); obtain ⟨Ao8, co8, eo8⟩ := Kd.V_slice HO103.out; subst eo8) | ((with_reducible refine gate_callee (f := 54) rfl ?_); refine goesL_ (some 14) rfl rfl Try.func54 (by kernel_rfl) rfl #[.slice Ao8 t101.length co8] rfl (by (try simp only [List.map_toArray, List.map_cons, List.map_nil]); first | done | rfl | (simp only [List.length_drop, List.length_take]; rfl)) ?_; (with_reducible refine (check_Check.calls _ _ t101 t104 t105 _ ?side1 ?side2 A4.out).mono ?_); (case side1 => repeat (first | exact (Kd.V_reads' HO103.out).2.2 | (with_reducible refine Kd.C_alloc ?_ _) | (with_reducible refine Kd.C_drewN ?_ _) | (with_reducible refine Kd.C_drew ?_))); (case side2 => exact (Kd.V_reads' HO103.out).2.1); rintro e w9 ⟨rfl, hb⟩; refine ⟨_, rfl, ?_⟩; have n0_ := Aside0.mk (Kd.V_below (by (with_reducible repeat (first | apply Kd.V_alloc | apply Kd.V_drewN | apply Kd.V_drew)); exact HO103.out) hb); have n1_ := Aside0.mk (below_step (by repeat (first | (with_reducible first | exact HB.out | apply below_alloc | apply pw_below_drewN | apply below_drew1) | exact HB.out)) hb); clear HO103; clear HB; have HO103 := n0_; have HB := n1_; clear n0_ n1_; (try clear hb); (try clear hb2); (try clear hk); (try clear hi)))
    (try simp only [Act.put, List.setIfInBounds_toArray, List.set_cons_zero, List.set_cons_succ])
    go_cut [1] (fun v1 wc => ∃ (kq : Nat) (x1_5 : ByteArray), v1 = .string x1_5 ∧ Aside0 (doorwardlaw12_CheckRuns.j0 kq t101 x1_5 = some r) ∧ Aside0 (kq ≤ k) ∧ Aside0 (Kd.V k28 28 wc w.heap.size (fun _ => True) (.slice Ao8 t101.length co8) t101) ∧ Aside0 (Below w.heap.size w wc))
    case first =>
      have H := HC6.out
      clear HC6
      by_cases c10 : (a1.size : Int) > 64
      · rw [if_pos c10] at H
        have c10b0 : decide (64 < (a1.size : Int)) = true := decide_eq_true c10
        have c10b1 : decide (64 < a1.size) = true := decide_eq_true (by omega)
        clear c10
        (first | rw [c10b0] | (simp only [i64_w, i32_w]; rw [c10b0]) | skip)
        by_cases c11 : 0 ≤ 64
        · rw [if_pos c11] at H
          have c11b0 := eq_true c11
          have c11b1 : decide (0 ≤ 64) = true := decide_eq_true c11
          clear c11
          by_cases c12 : 64 ≤ (a1.size : Int)
          · rw [if_pos c12] at H
            have c12b0 := eq_true c12
            have c12b1 : decide (64 ≤ (a1.size : Int)) = true := decide_eq_true c12
            clear c12
            have H' := Aside0.mk H
            clear H
            go_wp2
            go_meet
            case rel => exact ⟨_, (a1.extract 0 64), (by first | rfl | (simp; done) | (simp [*]; done)), H', ⟨by first | omega | exact Nat.le_refl _⟩, ⟨by (with_reducible repeat (first | apply Kd.V_alloc | apply Kd.V_drewN | apply Kd.V_drew)); exact HO103.out⟩, ⟨by repeat (first | (with_reducible first | exact HB.out | apply below_alloc | apply pw_below_drewN | apply below_drew1) | exact HB.out)⟩⟩
          · rw [if_neg c12] at H
            exact absurd H (by simp)
        · rw [if_neg c11] at H
          exact absurd H (by simp)
      · rw [if_neg c10] at H
        have c10b0 : decide (64 < (a1.size : Int)) = false := decide_eq_false c10
        have c10b1 : decide (64 < a1.size) = false := decide_eq_false (by omega)
        clear c10
        (first | rw [c10b0] | (simp only [i64_w, i32_w]; rw [c10b0]) | skip)
        have H' := Aside0.mk H
        clear H
        go_wp2
        go_meet
        case rel => exact ⟨_, (a1), (by first | rfl | (simp; done) | (simp [*]; done)), H', ⟨by first | omega | exact Nat.le_refl _⟩, ⟨by (with_reducible repeat (first | apply Kd.V_alloc | apply Kd.V_drewN | apply Kd.V_drew)); exact HO103.out⟩, ⟨by repeat (first | (with_reducible first | exact HB.out | apply below_alloc | apply pw_below_drewN | apply below_drew1) | exact HB.out)⟩⟩
    case rest =>
      clear HC6
      try clear c1
      try clear c2
      try clear p2
      try clear c5
      try clear c5b0
      try clear c5b1
      try clear c10
      try clear c10b0
      try clear c10b1
      try clear c11
      try clear c11b0
      try clear c11b1
      try clear c12
      try clear c12b0
      try clear c12b1
      obtain ⟨kq, x1_5, rfl, HA, HJ5, HO_0, HB⟩ := hcut
      cases kq with
      | zero => exact absurd HA.out (by simp [doorwardlaw12_CheckRuns.j0])
      | succ kj5 =>
        have H := HA.out
        clear HA
        simp only [doorwardlaw12_CheckRuns.j0] at H
        replace H := Option.bind_eq_some_iff.mp H
        obtain ⟨⟨t107, t108, t109⟩, A130, H⟩ := H
        replace H : (if (x1_5.size : Int) = 64 then ((doorwardlaw12_alive.f).bind fun t110 => (if t110 = true then (if t109 = 0 then (if t108 ≥ 1 then (some (decide (t108 ≤ (t101.length : Int)))) else (some false)) else (some false)) else (some false))) else ((doorwardlaw12_alive.f).bind fun t111 => (if t111 = true then (some (t109 == 52)) else (some false)))) = some r := H
        have A13 := Aside0.mk A130
        clear A130
        by_cases c14 : (x1_5.size : Int) = 64
        · rw [if_pos c14] at H
          have c14b0 : ((x1_5.size : Int) == 64) = true := beq_iff_eq.mpr c14
          have c14b1 : ((x1_5.size : Int) != 64) = false := bne_eq_false_iff_eq.mpr c14
          clear c14
          replace H := Option.bind_eq_some_iff.mp H
          obtain ⟨t110, A150, H⟩ := H
          replace H : (if t110 = true then (if t109 = 0 then (if t108 ≥ 1 then (some (decide (t108 ≤ (t101.length : Int)))) else (some false)) else (some false)) else (some false)) = some r := H
          have A15 := Aside0.mk A150
          clear A150
          by_cases c16 : t110 = true
          · subst c16
            have H1 : (if t109 = 0 then (if t108 ≥ 1 then (some (decide (t108 ≤ (t101.length : Int)))) else (some false)) else (some false)) = some r := by rw [if_pos rfl] at H; exact H
            clear H
            have H := H1
            clear H1
            by_cases c17 : t109 = 0
            · rw [if_pos c17] at H
              have c17b0 : (t109 == 0) = true := beq_iff_eq.mpr c17
              have c17b1 : (t109 != 0) = false := bne_eq_false_iff_eq.mpr c17
              clear c17
              by_cases c18 : t108 ≥ 1
              · rw [if_pos c18] at H
                have c18b0 : decide (1 ≤ t108) = true := decide_eq_true c18
                clear c18
                obtain rfl := Option.some.inj H
                go_wp2_with (first | ((with_reducible refine gate_callee (f := 80) rfl ?_); refine goesL_ (some 28) rfl rfl Try.func80 (by kernel_rfl) rfl #[.slice Ao8 t101.length co8, .string x1_5] rfl (by (try simp only [List.map_toArray, List.map_cons, List.map_nil]); first | done | rfl | (simp only [List.length_drop, List.length_take]; rfl)) ?_; (with_reducible refine (vm_Run.calls _ _ t101 x1_5 t107 t108 t109 _ ?side1 ?side2 A13.out).mono ?_); (case side1 => repeat (first | exact (Kd.V_reads' HO_0.out).2.2 | (with_reducible refine Kd.C_alloc ?_ _) | (with_reducible refine Kd.C_drewN ?_ _) | (with_reducible refine Kd.C_drew ?_))); (case side2 => exact (Kd.V_reads' HO_0.out).2.1); rintro e w19 ⟨rfl, hb⟩; refine ⟨_, rfl, ?_⟩; have n0_ := Aside0.mk (Kd.V_below (by (with_reducible repeat (first | apply Kd.V_alloc | apply Kd.V_drewN | apply Kd.V_drew)); exact HO_0.out) hb); have n1_ := Aside0.mk (below_step (by repeat (first | (with_reducible first | exact HB.out | apply below_alloc | apply pw_below_drewN | apply below_drew1) | exact HB.out)) hb); clear HO_0; clear HB; have HO_0 := n0_; have HB := n1_; clear n0_ n1_; (try clear hb); (try clear hb2); (try clear hk); (try clear hi)) | ((with_reducible refine gate_callee (f := 58) rfl ?_); refine goesL_ (some 40) rfl rfl Try.func58 (by kernel_rfl) rfl #[] rfl (by (try simp only [List.map_toArray, List.map_cons, List.map_nil]); first | done | rfl | (simp only [List.length_drop, List.length_take]; rfl)) ?_; (with_reducible refine (doorwardlaw12_alive.calls  true _ A15.out).mono ?_); rintro e w20 ⟨rfl, hb⟩; refine ⟨_, rfl, ?_⟩; have n0_ := Aside0.mk (Kd.V_below (by (with_reducible repeat (first | apply Kd.V_alloc | apply Kd.V_drewN | apply Kd.V_drew)); exact HO_0.out) hb); have n1_ := Aside0.mk (below_step (by repeat (first | (with_reducible first | exact HB.out | apply below_alloc | apply pw_below_drewN | apply below_drew1) | exact HB.out)) hb); clear HO_0; clear HB; have HO_0 := n0_; have HB := n1_; clear n0_ n1_; (try clear hb); (try clear hb2); (try clear hk); (try clear hi)))
                go_ret
                exact ⟨by first | rfl | (simp [errW_none, errW_some] <;> rfl) | (simp [*, errW_none, errW_some] <;> rfl), by repeat (first | (with_reducible first | exact HB.out | apply below_alloc | apply pw_below_drewN | apply below_drew1) | exact HB.out)⟩
              · rw [if_neg c18] at H
                have c18b0 : decide (1 ≤ t108) = false := decide_eq_false c18
                clear c18
                obtain rfl := Option.some.inj H
                go_wp2_with (first | ((with_reducible refine gate_callee (f := 80) rfl ?_); refine goesL_ (some 28) rfl rfl Try.func80 (by kernel_rfl) rfl #[.slice Ao8 t101.length co8, .string x1_5] rfl (by (try simp only [List.map_toArray, List.map_cons, List.map_nil]); first | done | rfl | (simp only [List.length_drop, List.length_take]; rfl)) ?_; (with_reducible refine (vm_Run.calls _ _ t101 x1_5 t107 t108 t109 _ ?side1 ?side2 A13.out).mono ?_); (case side1 => repeat (first | exact (Kd.V_reads' HO_0.out).2.2 | (with_reducible refine Kd.C_alloc ?_ _) | (with_reducible refine Kd.C_drewN ?_ _) | (with_reducible refine Kd.C_drew ?_))); (case side2 => exact (Kd.V_reads' HO_0.out).2.1); rintro e w21 ⟨rfl, hb⟩; refine ⟨_, rfl, ?_⟩; have n0_ := Aside0.mk (Kd.V_below (by (with_reducible repeat (first | apply Kd.V_alloc | apply Kd.V_drewN | apply Kd.V_drew)); exact HO_0.out) hb); have n1_ := Aside0.mk (below_step (by repeat (first | (with_reducible first | exact HB.out | apply below_alloc | apply pw_below_drewN | apply below_drew1) | exact HB.out)) hb); clear HO_0; clear HB; have HO_0 := n0_; have HB := n1_; clear n0_ n1_; (try clear hb); (try clear hb2); (try clear hk); (try clear hi)) | ((with_reducible refine gate_callee (f := 58) rfl ?_); refine goesL_ (some 40) rfl rfl Try.func58 (by kernel_rfl) rfl #[] rfl (by (try simp only [List.map_toArray, List.map_cons, List.map_nil]); first | done | rfl | (simp only [List.length_drop, List.length_take]; rfl)) ?_; (with_reducible refine (doorwardlaw12_alive.calls  true _ A15.out).mono ?_); rintro e w22 ⟨rfl, hb⟩; refine ⟨_, rfl, ?_⟩; have n0_ := Aside0.mk (Kd.V_below (by (with_reducible repeat (first | apply Kd.V_alloc | apply Kd.V_drewN | apply Kd.V_drew)); exact HO_0.out) hb); have n1_ := Aside0.mk (below_step (by repeat (first | (with_reducible first | exact HB.out | apply below_alloc | apply pw_below_drewN | apply below_drew1) | exact HB.out)) hb); clear HO_0; clear HB; have HO_0 := n0_; have HB := n1_; clear n0_ n1_; (try clear hb); (try clear hb2); (try clear hk); (try clear hi)))
                go_ret
                exact ⟨by first | rfl | (simp [errW_none, errW_some] <;> rfl) | (simp [*, errW_none, errW_some] <;> rfl), by repeat (first | (with_reducible first | exact HB.out | apply below_alloc | apply pw_below_drewN | apply below_drew1) | exact HB.out)⟩
            · rw [if_neg c17] at H
              have c17b0 : (t109 == 0) = false := beq_eq_false_iff_ne.mpr c17
              have c17b1 : (t109 != 0) = true := bne_iff_ne.mpr c17
              obtain rfl := Option.some.inj H
              go_wp2_with (first | ((with_reducible refine gate_callee (f := 80) rfl ?_); refine goesL_ (some 28) rfl rfl Try.func80 (by kernel_rfl) rfl #[.slice Ao8 t101.length co8, .string x1_5] rfl (by (try simp only [List.map_toArray, List.map_cons, List.map_nil]); first | done | rfl | (simp only [List.length_drop, List.length_take]; rfl)) ?_; (with_reducible refine (vm_Run.calls _ _ t101 x1_5 t107 t108 t109 _ ?side1 ?side2 A13.out).mono ?_); (case side1 => repeat (first | exact (Kd.V_reads' HO_0.out).2.2 | (with_reducible refine Kd.C_alloc ?_ _) | (with_reducible refine Kd.C_drewN ?_ _) | (with_reducible refine Kd.C_drew ?_))); (case side2 => exact (Kd.V_reads' HO_0.out).2.1); rintro e w23 ⟨rfl, hb⟩; refine ⟨_, rfl, ?_⟩; have n0_ := Aside0.mk (Kd.V_below (by (with_reducible repeat (first | apply Kd.V_alloc | apply Kd.V_drewN | apply Kd.V_drew)); exact HO_0.out) hb); have n1_ := Aside0.mk (below_step (by repeat (first | (with_reducible first | exact HB.out | apply below_alloc | apply pw_below_drewN | apply below_drew1) | exact HB.out)) hb); clear HO_0; clear HB; have HO_0 := n0_; have HB := n1_; clear n0_ n1_; (try clear hb); (try clear hb2); (try clear hk); (try clear hi)) | ((with_reducible refine gate_callee (f := 58) rfl ?_); refine goesL_ (some 40) rfl rfl Try.func58 (by kernel_rfl) rfl #[] rfl (by (try simp only [List.map_toArray, List.map_cons, List.map_nil]); first | done | rfl | (simp only [List.length_drop, List.length_take]; rfl)) ?_; (with_reducible refine (doorwardlaw12_alive.calls  true _ A15.out).mono ?_); rintro e w24 ⟨rfl, hb⟩; refine ⟨_, rfl, ?_⟩; have n0_ := Aside0.mk (Kd.V_below (by (with_reducible repeat (first | apply Kd.V_alloc | apply Kd.V_drewN | apply Kd.V_drew)); exact HO_0.out) hb); have n1_ := Aside0.mk (below_step (by repeat (first | (with_reducible first | exact HB.out | apply below_alloc | apply pw_below_drewN | apply below_drew1) | exact HB.out)) hb); clear HO_0; clear HB; have HO_0 := n0_; have HB := n1_; clear n0_ n1_; (try clear hb); (try clear hb2); (try clear hk); (try clear hi)))
              go_ret
              exact ⟨by first | rfl | (simp [errW_none, errW_some] <;> rfl) | (simp [*, errW_none, errW_some] <;> rfl), by repeat (first | (with_reducible first | exact HB.out | apply below_alloc | apply pw_below_drewN | apply below_drew1) | exact HB.out)⟩
          · replace c16 := Bool.eq_false_iff.mpr c16
            subst c16
            have H1 : (some false) = some r := by rw [if_neg (show ¬ (false = true) by decide)] at H; exact H
            clear H
            have H := H1
            clear H1
            obtain rfl := Option.some.inj H
            go_wp2_with (first | ((with_reducible refine gate_callee (f := 80) rfl ?_); refine goesL_ (some 28) rfl rfl Try.func80 (by kernel_rfl) rfl #[.slice Ao8 t101.length co8, .string x1_5] rfl (by (try simp only [List.map_toArray, List.map_cons, List.map_nil]); first | done | rfl | (simp only [List.length_drop, List.length_take]; rfl)) ?_; (with_reducible refine (vm_Run.calls _ _ t101 x1_5 t107 t108 t109 _ ?side1 ?side2 A13.out).mono ?_); (case side1 => repeat (first | exact (Kd.V_reads' HO_0.out).2.2 | (with_reducible refine Kd.C_alloc ?_ _) | (with_reducible refine Kd.C_drewN ?_ _) | (with_reducible refine Kd.C_drew ?_))); (case side2 => exact (Kd.V_reads' HO_0.out).2.1); rintro e w25 ⟨rfl, hb⟩; refine ⟨_, rfl, ?_⟩; have n0_ := Aside0.mk (Kd.V_below (by (with_reducible repeat (first | apply Kd.V_alloc | apply Kd.V_drewN | apply Kd.V_drew)); exact HO_0.out) hb); have n1_ := Aside0.mk (below_step (by repeat (first | (with_reducible first | exact HB.out | apply below_alloc | apply pw_below_drewN | apply below_drew1) | exact HB.out)) hb); clear HO_0; clear HB; have HO_0 := n0_; have HB := n1_; clear n0_ n1_; (try clear hb); (try clear hb2); (try clear hk); (try clear hi)) | ((with_reducible refine gate_callee (f := 58) rfl ?_); refine goesL_ (some 40) rfl rfl Try.func58 (by kernel_rfl) rfl #[] rfl (by (try simp only [List.map_toArray, List.map_cons, List.map_nil]); first | done | rfl | (simp only [List.length_drop, List.length_take]; rfl)) ?_; (with_reducible refine (doorwardlaw12_alive.calls  false _ A15.out).mono ?_); rintro e w26 ⟨rfl, hb⟩; refine ⟨_, rfl, ?_⟩; have n0_ := Aside0.mk (Kd.V_below (by (with_reducible repeat (first | apply Kd.V_alloc | apply Kd.V_drewN | apply Kd.V_drew)); exact HO_0.out) hb); have n1_ := Aside0.mk (below_step (by repeat (first | (with_reducible first | exact HB.out | apply below_alloc | apply pw_below_drewN | apply below_drew1) | exact HB.out)) hb); clear HO_0; clear HB; have HO_0 := n0_; have HB := n1_; clear n0_ n1_; (try clear hb); (try clear hb2); (try clear hk); (try clear hi)))
            go_ret
            exact ⟨by first | rfl | (simp [errW_none, errW_some] <;> rfl) | (simp [*, errW_none, errW_some] <;> rfl), by repeat (first | (with_reducible first | exact HB.out | apply below_alloc | apply pw_below_drewN | apply below_drew1) | exact HB.out)⟩
        · rw [if_neg c14] at H
          have c14b0 : ((x1_5.size : Int) == 64) = false := beq_eq_false_iff_ne.mpr c14
          have c14b1 : ((x1_5.size : Int) != 64) = true := bne_iff_ne.mpr c14
          replace H := Option.bind_eq_some_iff.mp H
          obtain ⟨t111, A270, H⟩ := H
          replace H : (if t111 = true then (some (t109 == 52)) else (some false)) = some r := H
          have A27 := Aside0.mk A270
          clear A270
          by_cases c28 : t111 = true
          · subst c28
            have H1 : (some (t109 == 52)) = some r := by rw [if_pos rfl] at H; exact H
            clear H
            have H := H1
            clear H1
            obtain rfl := Option.some.inj H
            go_wp2_with (first | ((with_reducible refine gate_callee (f := 80) rfl ?_); refine goesL_ (some 28) rfl rfl Try.func80 (by kernel_rfl) rfl #[.slice Ao8 t101.length co8, .string x1_5] rfl (by (try simp only [List.map_toArray, List.map_cons, List.map_nil]); first | done | rfl | (simp only [List.length_drop, List.length_take]; rfl)) ?_; (with_reducible refine (vm_Run.calls _ _ t101 x1_5 t107 t108 t109 _ ?side1 ?side2 A13.out).mono ?_); (case side1 => repeat (first | exact (Kd.V_reads' HO_0.out).2.2 | (with_reducible refine Kd.C_alloc ?_ _) | (with_reducible refine Kd.C_drewN ?_ _) | (with_reducible refine Kd.C_drew ?_))); (case side2 => exact (Kd.V_reads' HO_0.out).2.1); rintro e w29 ⟨rfl, hb⟩; refine ⟨_, rfl, ?_⟩; have n0_ := Aside0.mk (Kd.V_below (by (with_reducible repeat (first | apply Kd.V_alloc | apply Kd.V_drewN | apply Kd.V_drew)); exact HO_0.out) hb); have n1_ := Aside0.mk (below_step (by repeat (first | (with_reducible first | exact HB.out | apply below_alloc | apply pw_below_drewN | apply below_drew1) | exact HB.out)) hb); clear HO_0; clear HB; have HO_0 := n0_; have HB := n1_; clear n0_ n1_; (try clear hb); (try clear hb2); (try clear hk); (try clear hi)) | ((with_reducible refine gate_callee (f := 58) rfl ?_); refine goesL_ (some 35) rfl rfl Try.func58 (by kernel_rfl) rfl #[] rfl (by (try simp only [List.map_toArray, List.map_cons, List.map_nil]); first | done | rfl | (simp only [List.length_drop, List.length_take]; rfl)) ?_; (with_reducible refine (doorwardlaw12_alive.calls  true _ A27.out).mono ?_); rintro e w30 ⟨rfl, hb⟩; refine ⟨_, rfl, ?_⟩; have n0_ := Aside0.mk (Kd.V_below (by (with_reducible repeat (first | apply Kd.V_alloc | apply Kd.V_drewN | apply Kd.V_drew)); exact HO_0.out) hb); have n1_ := Aside0.mk (below_step (by repeat (first | (with_reducible first | exact HB.out | apply below_alloc | apply pw_below_drewN | apply below_drew1) | exact HB.out)) hb); clear HO_0; clear HB; have HO_0 := n0_; have HB := n1_; clear n0_ n1_; (try clear hb); (try clear hb2); (try clear hk); (try clear hi)))
            go_ret
            exact ⟨by first | rfl | (simp [errW_none, errW_some] <;> rfl) | (simp [*, errW_none, errW_some] <;> rfl), by repeat (first | (with_reducible first | exact HB.out | apply below_alloc | apply pw_below_drewN | apply below_drew1) | exact HB.out)⟩
          · replace c28 := Bool.eq_false_iff.mpr c28
            subst c28
            have H1 : (some false) = some r := by rw [if_neg (show ¬ (false = true) by decide)] at H; exact H
            clear H
            have H := H1
            clear H1
            obtain rfl := Option.some.inj H
            go_wp2_with (first | ((with_reducible refine gate_callee (f := 80) rfl ?_); refine goesL_ (some 28) rfl rfl Try.func80 (by kernel_rfl) rfl #[.slice Ao8 t101.length co8, .string x1_5] rfl (by (try simp only [List.map_toArray, List.map_cons, List.map_nil]); first | done | rfl | (simp only [List.length_drop, List.length_take]; rfl)) ?_; (with_reducible refine (vm_Run.calls _ _ t101 x1_5 t107 t108 t109 _ ?side1 ?side2 A13.out).mono ?_); (case side1 => repeat (first | exact (Kd.V_reads' HO_0.out).2.2 | (with_reducible refine Kd.C_alloc ?_ _) | (with_reducible refine Kd.C_drewN ?_ _) | (with_reducible refine Kd.C_drew ?_))); (case side2 => exact (Kd.V_reads' HO_0.out).2.1); rintro e w31 ⟨rfl, hb⟩; refine ⟨_, rfl, ?_⟩; have n0_ := Aside0.mk (Kd.V_below (by (with_reducible repeat (first | apply Kd.V_alloc | apply Kd.V_drewN | apply Kd.V_drew)); exact HO_0.out) hb); have n1_ := Aside0.mk (below_step (by repeat (first | (with_reducible first | exact HB.out | apply below_alloc | apply pw_below_drewN | apply below_drew1) | exact HB.out)) hb); clear HO_0; clear HB; have HO_0 := n0_; have HB := n1_; clear n0_ n1_; (try clear hb); (try clear hb2); (try clear hk); (try clear hi)) | ((with_reducible refine gate_callee (f := 58) rfl ?_); refine goesL_ (some 35) rfl rfl Try.func58 (by kernel_rfl) rfl #[] rfl (by (try simp only [List.map_toArray, List.map_cons, List.map_nil]); first | done | rfl | (simp only [List.length_drop, List.length_take]; rfl)) ?_; (with_reducible refine (doorwardlaw12_alive.calls  false _ A27.out).mono ?_); rintro e w32 ⟨rfl, hb⟩; refine ⟨_, rfl, ?_⟩; have n0_ := Aside0.mk (Kd.V_below (by (with_reducible repeat (first | apply Kd.V_alloc | apply Kd.V_drewN | apply Kd.V_drew)); exact HO_0.out) hb); have n1_ := Aside0.mk (below_step (by repeat (first | (with_reducible first | exact HB.out | apply below_alloc | apply pw_below_drewN | apply below_drew1) | exact HB.out)) hb); clear HO_0; clear HB; have HO_0 := n0_; have HB := n1_; clear n0_ n1_; (try clear hb); (try clear hb2); (try clear hk); (try clear hi)))
            go_ret
            exact ⟨by first | rfl | (simp [errW_none, errW_some] <;> rfl) | (simp [*, errW_none, errW_some] <;> rfl), by repeat (first | (with_reducible first | exact HB.out | apply below_alloc | apply pw_below_drewN | apply below_drew1) | exact HB.out)⟩
  · rw [if_neg c5] at H
    have c5b0 : (t105 == 0) = false := beq_eq_false_iff_ne.mpr c5
    have c5b1 : (t105 != 0) = true := bne_iff_ne.mpr c5
    replace H := Option.bind_eq_some_iff.mp H
    obtain ⟨t106, A330, H⟩ := H
    replace H : (some t106) = some r := H
    have A33 := Aside0.mk A330
    clear A330
    obtain rfl := Option.some.inj H
    go_enter Try.func28, Try.ntmps28
    go_wp2_with (first | ((with_reducible refine gate_callee (f := 53) rfl ?_); refine goesL_ (some 11) rfl rfl Try.func53 (by kernel_rfl) rfl #[.slice A0 l0.length c0] rfl (by (try simp only [List.map_toArray, List.map_cons, List.map_nil]); first | done | rfl | (simp only [List.length_drop, List.length_take]; rfl)) ?_; (with_reducible refine (doorwardlaw12_few.calls (fun k_ => k_ < w.heap.size) _ _ l0 t101 _ ?side1 A3.out).mono ?_); (case side1 => exact Kd.V_mk HC0.out (Kd.F_below (Kd.C_F k28_heap HR0.out) (by repeat (first | (with_reducible first | exact HB.out | apply below_alloc | apply pw_below_drewN | apply below_drew1) | exact HB.out)))); rintro e w34 ⟨v102, rfl, ho0, hb⟩; refine ⟨_, rfl, ?_⟩; have n0_ := Aside0.mk (Kd.V_lower (Kd.V_mono (ok' := fun k_ => True) ho0 (fun k_ hk_ => trivial)) (below_size (by repeat (first | (with_reducible first | exact HB.out | apply below_alloc | apply pw_below_drewN | apply below_drew1) | exact HB.out)))); have n1_ := Aside0.mk (below_step (by repeat (first | (with_reducible first | exact HB.out | apply below_alloc | apply pw_below_drewN | apply below_drew1) | exact HB.out)) hb); clear HB; have HO103 := n0_; have HB := n1_; clear n0_ n1_; (try clear hb); (try clear hb2); (try clear hk); (try clear hi); (try clear ho0); obtain ⟨Ao35, co35, eo35⟩ := Kd.V_slice HO103.out; subst eo35) | ((with_reducible refine gate_callee (f := 54) rfl ?_); refine goesL_ (some 14) rfl rfl Try.func54 (by kernel_rfl) rfl #[.slice Ao35 t101.length co35] rfl (by (try simp only [List.map_toArray, List.map_cons, List.map_nil]); first | done | rfl | (simp only [List.length_drop, List.length_take]; rfl)) ?_; (with_reducible refine (check_Check.calls _ _ t101 t104 t105 _ ?side1 ?side2 A4.out).mono ?_); (case side1 => repeat (first | exact (Kd.V_reads' HO103.out).2.2 | (with_reducible refine Kd.C_alloc ?_ _) | (with_reducible refine Kd.C_drewN ?_ _) | (with_reducible refine Kd.C_drew ?_))); (case side2 => exact (Kd.V_reads' HO103.out).2.1); rintro e w36 ⟨rfl, hb⟩; refine ⟨_, rfl, ?_⟩; have n0_ := Aside0.mk (Kd.V_below (by (with_reducible repeat (first | apply Kd.V_alloc | apply Kd.V_drewN | apply Kd.V_drew)); exact HO103.out) hb); have n1_ := Aside0.mk (below_step (by repeat (first | (with_reducible first | exact HB.out | apply below_alloc | apply pw_below_drewN | apply below_drew1) | exact HB.out)) hb); clear HO103; clear HB; have HO103 := n0_; have HB := n1_; clear n0_ n1_; (try clear hb); (try clear hb2); (try clear hk); (try clear hi)) | ((with_reducible refine gate_callee (f := 58) rfl ?_); refine goesL_ (some 19) rfl rfl Try.func58 (by kernel_rfl) rfl #[] rfl (by (try simp only [List.map_toArray, List.map_cons, List.map_nil]); first | done | rfl | (simp only [List.length_drop, List.length_take]; rfl)) ?_; (with_reducible refine (doorwardlaw12_alive.calls  t106 _ A33.out).mono ?_); rintro e w37 ⟨rfl, hb⟩; refine ⟨_, rfl, ?_⟩; have n0_ := Aside0.mk (Kd.V_below (by (with_reducible repeat (first | apply Kd.V_alloc | apply Kd.V_drewN | apply Kd.V_drew)); exact HO103.out) hb); have n1_ := Aside0.mk (below_step (by repeat (first | (with_reducible first | exact HB.out | apply below_alloc | apply pw_below_drewN | apply below_drew1) | exact HB.out)) hb); clear HO103; clear HB; have HO103 := n0_; have HB := n1_; clear n0_ n1_; (try clear hb); (try clear hb2); (try clear hk); (try clear hi)))
    go_ret
    exact ⟨by first | rfl | (simp [errW_none, errW_some] <;> rfl) | (simp [*, errW_none, errW_some] <;> rfl), by repeat (first | (with_reducible first | exact HB.out | apply below_alloc | apply pw_below_drewN | apply below_drew1) | exact HB.out)⟩
end Go.Proofs.Ytefkhcijgiagdaa.PCheckRuns
end
section
namespace Go.Proofs.Ytefkhcijgiagdaa.Open
open Go.RowKit Go.Proofs.YtefkhcijgiagdaaW.PrintWords
set_option linter.unusedVariables false
set_option linter.unusedSimpArgs false
variable {α β : Type}
/-- A reading (of so much fuel at most) of cells at type t tells a value of kind d, of which Q. -/
def OpensN (P : Program) (fuel : Nat) (d : Kd α) (t : TypeId) (Q : α → Prop) : Prop :=
  P.cellsOf t = d.sz ∧ ∀ (H : Type) (enc : TypeId × Value → H) (W : World) (cs : List Value) (x : DataW H × List MemPlace),
    DataW.trod enc P W 0 (fun _ => true) true fuel t cs = some x → ∃ y, d.K W y cs ∧ Q y
def Opens (P : Program) (d : Kd α) (t : TypeId) (Q : α → Prop) : Prop := ∀ fuel, OpensN P fuel d t Q
section
variable {P : Program} {t e : TypeId} {d : Kd α} {Q : α → Prop} {fuel : Nat}
theorem OpensN.none (h : P.cellsOf t = d.sz) : OpensN P 0 d t Q := ⟨h, fun H enc W cs x hx => by simp [DataW.trod] at hx⟩
theorem one_cell {H : Type} {enc : TypeId × Value → H} {W : World} {cs : List Value} {x : DataW H × List MemPlace} {u : TypeDesc} (hu : P.underlying t = some u) (h1 : (match u with | .struct _ | .array _ _ => true | _ => false) = false)
    (hx : DataW.trod enc P W 0 (fun _ => true) true (fuel + 1) t cs = some x) : ∃ c, cs = [c] := by
  unfold DataW.trod at hx
  rcases cs with _ | ⟨c, _ | ⟨c2, r⟩⟩
  · cases u <;> simp [hu] at hx h1
  · exact ⟨c, rfl⟩
  · cases u <;> simp [hu] at hx h1
theorem Opens.int (k : IntKind) (hu : P.underlying t = some (.int k)) (hc : P.cellsOf t = 1) : Opens P (Kd.int k) t (fun x => (Lit.int k x).wf = true) := by
  intro fuel
  cases fuel with
  | zero => exact OpensN.none hc
  | succ fuel =>
    refine ⟨hc, fun H enc W cs x hx => ?_⟩
    obtain ⟨c, rfl⟩ := one_cell hu rfl hx
    unfold DataW.trod at hx
    cases c <;> simp [hu] at hx
    rename_i k' n
    obtain ⟨⟨rfl, hw⟩, _⟩ := hx
    exact ⟨n, rfl, hw⟩
theorem Opens.bool (hu : P.underlying t = some .bool) (hc : P.cellsOf t = 1) : Opens P Kd.bool t (fun _ => True) := by
  intro fuel
  cases fuel with
  | zero => exact OpensN.none hc
  | succ fuel =>
    refine ⟨hc, fun H enc W cs x hx => ?_⟩
    obtain ⟨c, rfl⟩ := one_cell hu rfl hx
    unfold DataW.trod at hx
    cases c <;> simp [hu] at hx
    rename_i b
    exact ⟨b, rfl, trivial⟩
theorem Opens.string (hu : P.underlying t = some .string) (hc : P.cellsOf t = 1) : Opens P Kd.string t (fun s => s.size ≤ maxLen) := by
  intro fuel
  cases fuel with
  | zero => exact OpensN.none hc
  | succ fuel =>
    refine ⟨hc, fun H enc W cs x hx => ?_⟩
    obtain ⟨c, rfl⟩ := one_cell hu rfl hx
    unfold DataW.trod at hx
    cases c <;> simp [hu] at hx
    rename_i s
    exact ⟨s, rfl, hx.1⟩
/-- The cells of a slice. -/
theorem slice_cell {H : Type} {enc : TypeId × Value → H} {W : World} {cs : List Value} {x : DataW H × List MemPlace} (hu : P.underlying t = some (.slice e)) (hx : DataW.trod enc P W 0 (fun _ => true) true (fuel + 1) t cs = some x) :
    cs = [.slice none 0 0] ∨ ∃ a len cap, cs = [.slice (some a) len cap] ∧ len ≤ cap ∧ cap ≤ maxLen ∧
      ∃ els rest, (List.range len).mapM (fun i => (W.cells? 0 (a.add (i * P.cellsOf e)) (P.cellsOf e)).bind (DataW.trod enc P W 0 (fun _ => true) true fuel e)) = some els ∧ x.1 = .slice (els.map (·.1)) rest := by
  obtain ⟨c, rfl⟩ := one_cell hu rfl hx
  unfold DataW.trod at hx
  cases c <;> try (simp [hu] at hx; done)
  rename_i A len cap
  cases A with
  | none =>
    by_cases h0 : len = 0 ∧ cap = 0
    · obtain ⟨rfl, rfl⟩ := h0
      exact .inl rfl
    · exfalso
      rcases len with _ | len <;> rcases cap with _ | cap <;> simp [hu] at hx h0
  | some a =>
    right
    simp only [hu] at hx
    split at hx
    · rename_i hcnd
      rw [Option.bind_eq_some_iff] at hx
      obtain ⟨els, hels, hx⟩ := hx
      rw [Option.map_eq_some_iff] at hx
      obtain ⟨rest, _, hx⟩ := hx
      exact ⟨a, len, cap, rfl, hcnd.2.1, hcnd.2.2, els, rest.map (·.1), hels, by rw [← hx]⟩
    · simp at hx
theorem OpensN.slice (hu : P.underlying t = some (.slice e)) (hc : P.cellsOf t = 1) (h : OpensN P fuel d e Q) : OpensN P (fuel + 1) (Kd.slice e d) t (fun xs => xs.length ≤ maxLen ∧ ∀ x ∈ xs, Q x) := by
  obtain ⟨hsz, h⟩ := h
  refine ⟨hc, fun H enc W cs x hx => ?_⟩
  rcases slice_cell hu hx with rfl | ⟨a, len, cap, rfl, hlc, hcm, els, rest, hels, _⟩
  · refine ⟨[], ⟨Option.none, 0, rfl, Nat.le_refl _, ?_⟩, by simp, by simp⟩
    exact ⟨rfl, by simp, fun h => absurd h (by simp)⟩
  · skip
    · skip
      have hlen : els.length = len := by simpa using mapM_some_length hels
      have hget := fun i (hi : i < len) => mapM_some_get hels i i (by simp [hi])
      have hall : ∀ i, i < len → ∃ (y : α) (c : List Value), d.K W y c ∧ Q y ∧ c.length = d.sz ∧ ∀ j u, c[j]? = some u → W.cell? (a.add (i * d.sz + j)) = some u := by
        intro i hi
        have hi2 := hget i hi
        rw [List.getElem?_eq_getElem (by omega : i < els.length), Option.bind_eq_some_iff] at hi2
        obtain ⟨c, hcs, hr⟩ := hi2
        obtain ⟨y, hy, hq⟩ := h H enc W c _ hr
        obtain ⟨_, hcl, hcell⟩ := World.cells?_some hcs
        refine ⟨y, c, hy, hq, d.K_len hy, fun j u hj => ?_⟩
        have hjl : j < P.cellsOf e := by
          have : j < c.length := by
            rcases Nat.lt_or_ge j c.length with hlt | hge
            · exact hlt
            · rw [List.getElem?_eq_none hge] at hj; simp at hj
          omega
        have := hcell j hjl
        rw [hj, hsz, Addr.add_add] at this
        exact this
      obtain ⟨ys, hys⟩ : ∃ ys : List α, ys.length = len ∧ ∀ i (hi : i < ys.length), (∃ c : List Value, d.K W ys[i] c ∧ Q ys[i] ∧ c.length = d.sz ∧ ∀ j u, c[j]? = some u → W.cell? (a.add (i * d.sz + j)) = some u) := by
        clear hels hget hlen hlc hcm hx
        induction len with
        | zero => exact ⟨[], rfl, fun i hi => absurd hi (by simp)⟩
        | succ n ih =>
          obtain ⟨ys, hl, hy⟩ := ih (fun i hi => hall i (by omega))
          obtain ⟨y, c, hk, hq, hcl, hcc⟩ := hall n (by omega)
          refine ⟨ys ++ [y], by simp [hl], fun i hi => ?_⟩
          by_cases hin : i < ys.length
          · have := hy i hin
            rw [List.getElem_append_left hin]
            exact this
          · have hie : i = n := by simp at hi; omega
            subst hie
            rw [List.getElem_append_right (by omega)]
            simp only [hl, Nat.sub_self, List.getElem_cons_zero]
            exact ⟨c, hk, hq, hcl, hcc⟩
      obtain ⟨hyl, hy⟩ := hys
      refine ⟨ys, ⟨some a, cap, by rw [hyl], by omega, ?_⟩, by omega, ?_⟩
      · refine ⟨rfl, by rw [hyl]; exact Nat.le_trans hlc hcm, fun _ => ⟨a, rfl, fun j p hj => ?_⟩⟩
        have hjl : j < ys.length := by
          rcases Nat.lt_or_ge j ys.length with hlt | hge
          · exact hlt
          · rw [List.getElem?_eq_none hge] at hj; simp at hj
        obtain ⟨c, hk, hq, hcl, hcc⟩ := hy j hjl
        rw [List.getElem?_eq_getElem hjl] at hj
        obtain rfl := Option.some.inj hj
        exact ⟨c, hcl, hk, hcc⟩
      · intro x hx
        obtain ⟨i, hi, rfl⟩ := List.getElem_of_mem hx
        obtain ⟨c, hk, hq, _⟩ := hy i hi
        exact hq
theorem Opens.slice (hu : P.underlying t = some (.slice e)) (hc : P.cellsOf t = 1) (h : Opens P d e Q) : Opens P (Kd.slice e d) t (fun xs => xs.length ≤ maxLen ∧ ∀ x ∈ xs, Q x) := by
  intro fuel
  cases fuel with
  | zero => exact OpensN.none hc
  | succ fuel => exact OpensN.slice hu hc (h fuel)
end
/-- The fields from one on, read one by one, tell a value of kind d out of the cells from o on. -/
def OpensF (P : Program) (fuel : Nat) (fs : List Field) (o : Nat) (d : Kd α) (Q : α → Prop) : Prop :=
  ∀ (H : Type) (enc : TypeId × Value → H) (W : World) (cs : List Value) (xs : List (DataW H × List MemPlace)),
    (fs.mapM fun f => DataW.trod enc P W 0 (fun _ => true) true fuel f.type ((cs.drop f.offset).take (P.cellsOf f.type))) = some xs → cs.length = o + d.sz → ∃ y, d.K W y (cs.drop o) ∧ Q y
section
variable {P : Program} {t : TypeId} {a : Kd α} {b : Kd β} {Q : α → Prop} {R : β → Prop} {fuel o : Nat} {f : Field} {fs : List Field}
theorem OpensF.last (ho : f.offset = o) (h : OpensN P fuel a f.type Q) : OpensF P fuel [f] o a Q := by
  intro H enc W cs xs hx hl
  simp only [List.mapM_cons, List.mapM_nil] at hx
  rw [Option.bind_eq_bind, Option.bind_eq_some_iff] at hx
  obtain ⟨y, hy, _⟩ := hx
  rw [ho, h.1, List.take_of_length_le (by rw [List.length_drop]; omega)] at hy
  exact h.2 H enc W _ _ hy
theorem OpensF.cons (ho : f.offset = o) (h : OpensN P fuel a f.type Q) (hs : OpensF P fuel fs (o + a.sz) b R) : OpensF P fuel (f :: fs) o (Kd.pair a b) (fun x => Q x.1 ∧ R x.2) := by
  intro H enc W cs xs hx hl
  simp only [List.mapM_cons] at hx
  rw [Option.bind_eq_bind, Option.bind_eq_some_iff] at hx
  obtain ⟨y, hy, hx⟩ := hx
  rw [Option.bind_eq_bind, Option.bind_eq_some_iff] at hx
  obtain ⟨ys, hys, _⟩ := hx
  rw [ho, h.1] at hy
  obtain ⟨u, hu, hq⟩ := h.2 H enc W _ _ hy
  obtain ⟨v, hv, hr⟩ := hs H enc W cs ys hys (by have : (Kd.pair a b).sz = a.sz + b.sz := rfl; omega)
  refine ⟨(u, v), ⟨(cs.drop o).take a.sz, (cs.drop o).drop a.sz, (List.take_append_drop _ _).symm, hu, ?_⟩, hq, hr⟩
  rw [List.drop_drop]
  exact hv
theorem OpensF.iso {γ : Type} (g : γ → α) (inv : α → γ) (hg : ∀ x, g (inv x) = x) (h : OpensF P fuel fs o a Q) : OpensF P fuel fs o (Kd.iso a g) (fun x => Q (g x)) := by
  intro H enc W cs xs hx hl
  obtain ⟨y, hy, hq⟩ := h H enc W cs xs hx hl
  exact ⟨inv y, by show a.K W (g (inv y)) _; rw [hg]; exact hy, by show Q (g (inv y)); rw [hg]; exact hq⟩
theorem OpensN.struct {gs : Array Field} (hu : P.underlying t = some (.struct gs)) (hc : P.cellsOf t = a.sz) (h : OpensF P fuel gs.toList 0 a Q) : OpensN P (fuel + 1) a t Q := by
  refine ⟨hc, fun H enc W cs x hx => ?_⟩
  have hx2 : (if cs.length = P.cellsOf t then (gs.toList.mapM fun f => DataW.trod enc P W 0 (fun _ => true) true fuel f.type ((cs.drop f.offset).take (P.cellsOf f.type))).map fun xs => (DataW.agg (xs.map (·.1)), xs.flatMap (·.2)) else Option.none) = some x := by
    rw [← hx]
    conv => rhs; unfold DataW.trod
    simp only [hu]
  split at hx2
  · rename_i hl
    rw [Option.map_eq_some_iff] at hx2
    obtain ⟨xs, hxs, _⟩ := hx2
    have := h H enc W cs xs hxs (by omega)
    simpa using this
  · simp at hx2
/-- The places of an array, read one by one. -/
def OpensA (P : Program) (fuel : Nat) (e : TypeId) (is : List Nat) (o : Nat) (d : Kd α) (Q : α → Prop) : Prop :=
  ∀ (H : Type) (enc : TypeId × Value → H) (W : World) (cs : List Value) (xs : List (DataW H × List MemPlace)),
    (is.mapM fun i => DataW.trod enc P W 0 (fun _ => true) true fuel e ((cs.drop (i * P.cellsOf e)).take (P.cellsOf e))) = some xs → cs.length = o + d.sz → ∃ y, d.K W y (cs.drop o) ∧ Q y
theorem OpensA.last {e : TypeId} {i : Nat} (ho : i * P.cellsOf e = o) (h : OpensN P fuel a e Q) : OpensA P fuel e [i] o a Q := by
  intro H enc W cs xs hx hl
  simp only [List.mapM_cons, List.mapM_nil] at hx
  rw [Option.bind_eq_bind, Option.bind_eq_some_iff] at hx
  obtain ⟨y, hy, _⟩ := hx
  rw [ho, h.1, List.take_of_length_le (by rw [List.length_drop]; omega)] at hy
  exact h.2 H enc W _ _ hy
theorem OpensA.cons {e : TypeId} {i : Nat} {is : List Nat} (ho : i * P.cellsOf e = o) (h : OpensN P fuel a e Q) (hs : OpensA P fuel e is (o + a.sz) b R) : OpensA P fuel e (i :: is) o (Kd.pair a b) (fun x => Q x.1 ∧ R x.2) := by
  intro H enc W cs xs hx hl
  simp only [List.mapM_cons] at hx
  rw [Option.bind_eq_bind, Option.bind_eq_some_iff] at hx
  obtain ⟨y, hy, hx⟩ := hx
  rw [Option.bind_eq_bind, Option.bind_eq_some_iff] at hx
  obtain ⟨ys, hys, _⟩ := hx
  rw [ho, h.1] at hy
  obtain ⟨u, hu, hq⟩ := h.2 H enc W _ _ hy
  obtain ⟨v, hv, hr⟩ := hs H enc W cs ys hys (by have : (Kd.pair a b).sz = a.sz + b.sz := rfl; omega)
  refine ⟨(u, v), ⟨(cs.drop o).take a.sz, (cs.drop o).drop a.sz, (List.take_append_drop _ _).symm, hu, ?_⟩, hq, hr⟩
  rw [List.drop_drop]
  exact hv
theorem OpensA.iso {γ : Type} {e : TypeId} {is : List Nat} (g : γ → α) (inv : α → γ) (hg : ∀ x, g (inv x) = x) (h : OpensA P fuel e is o a Q) : OpensA P fuel e is o (Kd.iso a g) (fun x => Q (g x)) := by
  intro H enc W cs xs hx hl
  obtain ⟨y, hy, hq⟩ := h H enc W cs xs hx hl
  exact ⟨inv y, by show a.K W (g (inv y)) _; rw [hg]; exact hy, by show Q (g (inv y)); rw [hg]; exact hq⟩
theorem OpensN.array {n : Nat} {e : TypeId} (hu : P.underlying t = some (.array n e)) (hc : P.cellsOf t = a.sz) (h : OpensA P fuel e (List.range n) 0 a Q) : OpensN P (fuel + 1) a t Q := by
  refine ⟨hc, fun H enc W cs x hx => ?_⟩
  have hx2 : (if cs.length = P.cellsOf t then ((List.range n).mapM fun i => DataW.trod enc P W 0 (fun _ => true) true fuel e ((cs.drop (i * P.cellsOf e)).take (P.cellsOf e))).map fun xs => (DataW.agg (xs.map (·.1)), xs.flatMap (·.2)) else Option.none) = some x := by
    rw [← hx]
    conv => rhs; unfold DataW.trod
    simp only [hu]
  split at hx2
  · rename_i hl
    rw [Option.map_eq_some_iff] at hx2
    obtain ⟨xs, hxs, _⟩ := hx2
    have := h H enc W cs xs hxs (by omega)
    simpa using this
  · simp at hx2
end
section
variable {P : Program} {t e : TypeId} {d : Kd α} {Q : α → Prop} {H : Type} {enc : TypeId × Value → H} {W : World} {D : DataW H} {p : List MemPlace} {v : Value}
/-- A slice that came in. -/
theorem slice_of {r : Reach} {base : Nat} (hu : P.underlying t = some (.slice e)) (hc : P.cellsOf t = 1) (hv : Value.okWide P W r base t v) (ho : Opens P d e Q) (h : DataW.Trod enc P W 0 (fun _ => true) true t v D p) :
    ∃ A c xs, v = .slice A (List.length xs) c ∧ xs.length ≤ c ∧ d.C W A xs.length xs ∧ xs.length ≤ maxLen ∧ ∀ x ∈ xs, Q x := by
  obtain ⟨a, len, cap, rfl⟩ := Go.WideShapes.okWide_slice hu hv
  obtain ⟨fuel, hf⟩ := h
  obtain ⟨xs, ⟨A, c, hcs, hl, hC⟩, hq, hall⟩ := (Opens.slice hu hc ho fuel).2 H enc W _ _ hf
  have he : Value.slice a len cap = .slice A xs.length c := by
    have : (Value.slice a len cap).cells.toList = [Value.slice a len cap] := rfl
    rw [this] at hcs
    exact (List.cons.inj hcs).1
  exact ⟨A, c, xs, he, hl, hC, hq, hall⟩
/-- .. and how long it is. -/
theorem slice_sized {ts : List TypeId} {ds : List (DataW H)} {j B : Nat} {A : Option Addr} {n c : Nat} (hsz : (DataW.weightsEach P ts ds).all (· ≤ reachBytes) = true) (ht : ts[j]? = some t) (hd : ds[j]? = some D) (hu : P.underlying t = some (.slice e)) (hB : P.bytesOf e = B)
    (h : DataW.Trod enc P W 0 (fun _ => true) true t (.slice A n c) D p) : n * B ≤ 140737488351232 := by
  obtain ⟨fuel, hf⟩ := h
  cases fuel with
  | zero => simp [DataW.trod] at hf
  | succ fuel =>
    have hcl : (Value.slice A n c).cells.toList = [Value.slice A n c] := rfl
    rw [hcl] at hf
    rcases slice_cell hu hf with hs | ⟨a, len, cap, hs, hlc, hcm, els, rest, hels, hx⟩
    · have := (List.cons.inj hs).1
      injection this with _ h2 _
      rw [h2, Nat.zero_mul]
      omega
    · have h1 := (List.cons.inj hs).1
      injection h1 with _ h2 _
      have hlen : els.length = len := by simpa using mapM_some_length hels
      have hx2 : D = .slice (els.map (·.1)) rest := hx
      subst hx2
      have z := sized_slice hsz ht hd hu
      rw [hB, List.length_map, hlen, ← h2] at z
      exact Nat.le_trans (Nat.mul_le_mul_right _ (Nat.le_add_right _ _)) z
end
end Go.Proofs.Ytefkhcijgiagdaa.Open
end
section
namespace Go.Proofs.Ytefkhcijgiagdaa.StatCheckRuns
open Go.RowKit Go.Proofs.YtefkhcijgiagdaaW.PrintWords Go.Proofs.Ytefkhcijgiagdaa.Open Go.Proofs.Ytefkhcijgiagdaa.PCheckRuns Go.Proofs.Ytefkhcijgiagdaa.Le Go.Proofs.Ytefkhcijgiagdaa.HKnown Go.Proofs.Ytefkhcijgiagdaa.HPut Go.Proofs.Ytefkhcijgiagdaa.I1 Go.Proofs.Ytefkhcijgiagdaa.E1 Go.Proofs.Ytefkhcijgiagdaa.HAsm Go.Proofs.Ytefkhcijgiagdaa.E2 Go.Proofs.Ytefkhcijgiagdaa.HAll Go.Proofs.Ytefkhcijgiagdaa.V0 Go.Proofs.Ytefkhcijgiagdaa.HVm Go.Proofs.Ytefkhcijgiagdaa.K0 Go.Proofs.Ytefkhcijgiagdaa.HCk Go.Proofs.Ytefkhcijgiagdaa.K3
set_option maxRecDepth 100000
def Q3 (x : Int) : Prop := (Lit.int .i64 x).wf = true
theorem opens3 : Opens Try.prog (Kd.int .i64) 3 Q3 := Opens.int .i64 Try.underlying3 (by kernel_rfl)
def Q24 (x : Int) : Prop := (Lit.int .u32 x).wf = true
theorem opens24 : Opens Try.prog (Kd.int .u32) 24 Q24 := Opens.int .u32 Try.underlying24 (by kernel_rfl)
def Q28 (x : S28) : Prop := Q3 x.f0 ∧ Q3 x.f1 ∧ Q3 x.f2 ∧ Q24 x.f3
theorem opens28 : Opens Try.prog k28 28 Q28 := by
  intro fuel
  cases fuel with
  | zero => exact OpensN.none (by kernel_rfl)
  | succ fuel => exact OpensN.struct Try.underlying28 (by kernel_rfl) (OpensF.iso (fun x : S28 => (x.f0, x.f1, x.f2, x.f3)) (fun p => ⟨p.1, p.2.1, p.2.2.1, p.2.2.2⟩) (fun _ => rfl) (OpensF.cons (by kernel_rfl) (opens3 fuel) (OpensF.cons (by kernel_rfl) (opens3 fuel) (OpensF.cons (by kernel_rfl) (opens3 fuel) (OpensF.last (by kernel_rfl) (opens24 fuel))))))
def Stat : Prop := ∀ (a0 : List S28) (a1 : ByteArray), a0.length ≤ maxLen → a0.length * 32 ≤ 140737488351232 → (∀ x ∈ a0, Q28 x) → a1.size ≤ 140737488351232 → ∃ k, doorwardlaw12_CheckRuns.f k a0 a1 = some true
end Go.Proofs.Ytefkhcijgiagdaa.StatCheckRuns
end
section
namespace Go.Proofs.Ytefkhcijgiagdaa.QCk
open Go.RowKit Go.Proofs.YtefkhcijgiagdaaW.PrintWords Go.Proofs.YtefkhcijgiagdaaW.PrintLast Go.Proofs.YtefkhcijgiagdaaW.PrintMore Go.Proofs.Ytefkhcijgiagdaa.HKnown Go.Proofs.Ytefkhcijgiagdaa.I1 Go.Proofs.Ytefkhcijgiagdaa.K0 Go.Proofs.Ytefkhcijgiagdaa.K3 Go.Proofs.Ytefkhcijgiagdaa.QVm Go.Proofs.Ytefkhcijgiagdaa.QNum Go.Proofs.Ytefkhcijgiagdaa.QCheck Go.Proofs.Ytefkhcijgiagdaa.HCk
set_option linter.unusedVariables false
set_option linter.unusedSimpArgs false
theorem check_f (l : List S28) (hl : l.length ≤ 100000) (hi : ∀ i ∈ l, IW i) : check_Check.f l = some (checkV l) := if_pos ⟨hl, hi⟩
theorem iw_one (c : Int) (k : Int) (hc : 0 ≤ c ∧ c < 256) (hk : 0 ≤ k ∧ k < 4294967296) : IW ⟨c, 0, 0, k⟩ := ⟨WalkArith.wf_i64 (n := c) ⟨by omega, by omega⟩, show (Lit.int .i64 0).wf = true by decide, show (Lit.int .i64 0).wf = true by decide, hk⟩
theorem u3_of {l : List S28} (h : ∀ i ∈ l, IW i) : U3 l := fun i hi => (h i hi).2.2.2.1
theorem alive_f : doorwardlaw12_alive.f = some true := by
  unfold doorwardlaw12_alive.f
  rw [check_f _ (by decide) (fun i hi => by obtain rfl := List.mem_singleton.1 hi; exact iw_one 6 0 (by decide) (by decide)), check_f [] (by decide) (fun i hi => by cases hi)]
  have e1 : (checkV [(⟨6, 0, 0, 0⟩ : S28)]).2 = 0 := by decide +kernel
  have e2 : (checkV []).2 = 51 := rfl
  simp only [Option.bind_some, e1, e2, if_true]
  rfl
theorem few_f (l : List S28) : ∃ m, doorwardlaw12_few.f l = some (l.take m) ∧ (l.take m).length ≤ 4100 := by
  unfold doorwardlaw12_few.f
  have e1 : mn (l.length : Int) 4100 = ((min l.length 4100 : Nat) : Int) := by unfold mn; split <;> omega
  have key : ∃ m, (if 0 ≤ (mn (l.length : Int) 4100) then (if (mn (l.length : Int) 4100) ≤ (l.length : Int) then (some (l.take ((mn (l.length : Int) 4100) : Int).toNat)) else (none)) else (none)) = some (l.take m) ∧ (l.take m).length ≤ 4100 := by
    rw [e1, if_pos (by omega), if_pos (by omega)]
    exact ⟨_, rfl, by rw [List.length_take]; omega⟩
  by_cases h : (l.length : Int) > 60
  · rw [if_pos h]
    by_cases h2 : (l.length : Int) ≤ 4096
    · rw [if_pos h2, if_pos (by omega)]
      exact ⟨60, rfl, by rw [List.length_take]; omega⟩
    · rw [if_neg h2]; exact key
  · rw [if_neg h]; exact key
end Go.Proofs.Ytefkhcijgiagdaa.QCk
end
section
namespace Go.Proofs.Ytefkhcijgiagdaa.QRun
open Go.RowKit Go.Proofs.YtefkhcijgiagdaaW.PrintWords Go.Proofs.YtefkhcijgiagdaaW.PrintLast Go.Proofs.YtefkhcijgiagdaaW.PrintMore Go.Proofs.Ytefkhcijgiagdaa.HKnown Go.Proofs.Ytefkhcijgiagdaa.I1 Go.Proofs.Ytefkhcijgiagdaa.V0 Go.Proofs.Ytefkhcijgiagdaa.QVm Go.Proofs.Ytefkhcijgiagdaa.QLe Go.Proofs.Ytefkhcijgiagdaa.QNum Go.Proofs.Ytefkhcijgiagdaa.HVm Go.Proofs.Ytefkhcijgiagdaa.QWalk
set_option linter.unusedVariables false
set_option linter.unusedSimpArgs false
theorem run_f (l : List S28) (rec : ByteArray) (hl : l.length ≤ 100000) (hi : ∀ i ∈ l, I28 i) : vm_Run.f l rec = some (runB l rec) := if_pos ⟨hl, hi⟩
theorem runB_ok (l : List S28) (rec : ByteArray) (hz : rec.size = 64) (o : Int) (k : Nat) (h : vr (wdS rec) l 0 v0 0 = some (o, k)) : runB l rec = (o, (k : Int), 0) := by
  unfold runB; rw [if_pos hz, h]
theorem runB_short (l : List S28) (rec : ByteArray) (hz : rec.size ≠ 64) : runB l rec = (0, 0, 52) := by
  unfold runB; rw [if_neg hz]
section
variable (wd : Int → Option Int) (v : V)
end
theorem few_f (l : List S28) : doorwardlaw11_few.f l = some (l.take 200) := by
  unfold doorwardlaw11_few.f
  have e1 : mn (l.length : Int) 200 = ((min l.length 200 : Nat) : Int) := by unfold mn; split <;> omega
  rw [e1, if_pos (by omega), if_pos (by omega), Int.toNat_natCast]
  congr 1
  by_cases h : l.length ≤ 200
  · rw [List.take_of_length_le (by omega), List.take_of_length_le h]
  · rw [show min l.length 200 = 200 by omega]
end Go.Proofs.Ytefkhcijgiagdaa.QRun
end
section
namespace Go.Proofs.Ytefkhcijgiagdaa.QCheckRun
open Go.RowKit Go.Proofs.YtefkhcijgiagdaaW.PrintWords Go.Proofs.YtefkhcijgiagdaaW.PrintLast Go.Proofs.YtefkhcijgiagdaaW.PrintMore Go.Proofs.Ytefkhcijgiagdaa.HKnown Go.Proofs.Ytefkhcijgiagdaa.I1 Go.Proofs.Ytefkhcijgiagdaa.QVm Go.Proofs.Ytefkhcijgiagdaa.QCheck Go.Proofs.Ytefkhcijgiagdaa.HVm Go.Proofs.Ytefkhcijgiagdaa.QWalk Go.Proofs.Ytefkhcijgiagdaa.QRun
set_option linter.unusedVariables false
set_option linter.unusedSimpArgs false
theorem known_mem : ∀ c : Fin 256, knownB (c.val : Int) = true → (c.val : Int) % 8 ≠ 4 → (c.val : Int) % 8 ≠ 5 → (c.val : Int) ≠ 6 → (c.val : Int) ≠ 22 → (c.val : Int) = 32 ∨ (c.val : Int) = 128 ∨ (c.val : Int) = 129 ∨ (c.val : Int) = 0 ∨ (c.val : Int) = 1 ∨ (c.val : Int) = 7 ∨ (c.val : Int) = 135 ∨ (c.val : Int) = 2 ∨ (c.val : Int) = 3 ∨ (c.val : Int) = 96 ∨ (c.val : Int) = 97 := by decide +kernel
theorem mem_codes {c : Int} (h : knownB c = true) (h4 : c % 8 ≠ 4) (h5 : c % 8 ≠ 5) (h6 : c ≠ 6) (h22 : c ≠ 22) : c = 32 ∨ c = 128 ∨ c = 129 ∨ c = 0 ∨ c = 1 ∨ c = 7 ∨ c = 135 ∨ c = 2 ∨ c = 3 ∨ c = 96 ∨ c = 97 := by
  obtain ⟨a, b⟩ := known_range h
  obtain ⟨n, rfl⟩ : ∃ n : Nat, c = n := ⟨c.toNat, by omega⟩
  exact known_mem ⟨n, by omega⟩ h h4 h5 h6 h22
/-- One instruction that is well: it ends the run, or it goes on within what is left. -/
theorem vm1_well (wd : Int → Option Int) (hwd : ∀ k, 0 ≤ k → k ≤ 60 → k % 4 = 0 → ∃ x, wd k = some x) (i : S28) (n : Nat) (h3 : 0 ≤ i.f3) (h : wellB i (n : Int) = true) (v : V) :
    (∃ o, vm1 wd i v = .done o) ∨ ∃ v' s, vm1 wd i v = .next v' s ∧ s < n := by
  have w := (well_iff _ _).1 h
  by_cases h6 : i.f0 = 6
  · left; exact ⟨i.f3, by unfold vm1; rw [if_neg (by rw [w.kn]; decide), if_pos h6]⟩
  by_cases h22 : i.f0 = 22
  · left; exact ⟨v.a, by unfold vm1; rw [if_neg (by rw [w.kn]; decide), if_neg h6, if_pos h22]⟩
  have hn : 0 < n := by
    rcases w.lr with g | g
    · omega
    · unfold retB at g; have := of_decide_eq_true g; omega
  by_cases hc4 : i.f0 % 8 = 4
  · rw [vm1_sum wd i v w.kn h6 h22 hc4]
    generalize sumV _ _ v.a = r
    cases r with
    | none => exact .inl ⟨0, rfl⟩
    | some a => exact .inr ⟨_, 0, rfl, hn⟩
  by_cases hc5 : i.f0 % 8 = 5
  · right
    refine ⟨v, _, vm1_jump wd i v w.kn h6 h22 hc5, ?_⟩
    unfold passV
    by_cases e5 : i.f0 = 5
    · have hb : byX i.f0 = false := by rw [e5]; decide
      rw [hb]
      simp only [Bool.false_eq_true, if_false]
      rw [if_pos e5]
      have := w.ja e5
      omega
    · have hj := w.jump hc5 e5
      have t0 := w.t0
      have f0 := w.f0
      have hk := known_jump w.kn hc5
      rw [if_neg (by split <;> omega)]
      generalize testV _ _ v.a = tb
      cases tb
      · rw [if_neg (by decide), if_neg (show ¬ i.f2 < 0 by omega)]; omega
      · rw [if_pos rfl, if_neg (show ¬ i.f1 < 0 by omega)]; omega
  · right
    rw [vm1_mem wd i v w.kn h6 h22 hc4 hc5]
    have hk := mem_codes w.kn hc4 hc5 h6 h22
    suffices hm : ∃ v', memV wd i v = some v' by
      obtain ⟨v', e⟩ := hm
      exact ⟨v', 0, by rw [e]; rfl, hn⟩
    unfold memV
    by_cases e : i.f0 = 32
    · rw [if_pos e]
      have := w.ld e
      obtain ⟨x, hx⟩ := hwd i.f3 h3 this.2 this.1
      exact ⟨_, by rw [hx]; rfl⟩
    rw [if_neg e]
    by_cases e : i.f0 = 128
    · rw [if_pos e]; exact ⟨_, rfl⟩
    rw [if_neg e]
    by_cases e : i.f0 = 129
    · rw [if_pos e]; exact ⟨_, rfl⟩
    rw [if_neg e]
    by_cases e : i.f0 = 0
    · rw [if_pos e]; exact ⟨_, rfl⟩
    rw [if_neg e]
    by_cases e : i.f0 = 1
    · rw [if_pos e]; exact ⟨_, rfl⟩
    rw [if_neg e]
    by_cases e : i.f0 = 7
    · rw [if_pos e]; exact ⟨_, rfl⟩
    rw [if_neg e]
    by_cases e : i.f0 = 135
    · rw [if_pos e]; exact ⟨_, rfl⟩
    rw [if_neg e]
    have := w.cell (by omega)
    rw [if_neg (by omega)]
    split
    · exact ⟨_, rfl⟩
    split
    · exact ⟨_, rfl⟩
    split
    · exact ⟨_, rfl⟩
    · exact ⟨_, rfl⟩
theorem run_well (wd : Int → Option Int) (hwd : ∀ k, 0 ≤ k → k ≤ 60 → k % 4 = 0 → ∃ x, wd k = some x) : ∀ (l : List S28), U3 l → firstB l = none → ∀ (s : Nat), s < l.length → ∀ (v : V) (n : Nat), ∃ r, vr wd l s v n = some r := by
  intro l
  induction l with
  | nil => intro _ _ s h; simp at h
  | cons i l ih =>
    intro h3 hf s hs v n
    have h3' : U3 l := fun x hx => h3 x (List.mem_cons_of_mem _ hx)
    have hw : wellB i (l.length : Int) = true := by
      cases e : wellB i (l.length : Int) with
      | true => rfl
      | false => unfold firstB at hf; rw [if_neg (by rw [e]; decide)] at hf; cases hf
    have hf' : firstB l = none := by
      unfold firstB at hf
      rw [if_pos hw, Option.map_eq_none_iff] at hf
      exact hf
    rw [List.length_cons] at hs
    cases s with
    | succ s => simp only [vr]; exact ih h3' hf' s (by omega) v n
    | zero =>
      simp only [vr]
      rcases vm1_well wd hwd i l.length (h3 i List.mem_cons_self) hw v with ⟨o, e⟩ | ⟨v', s, e, hlt⟩
      · rw [e]; exact ⟨_, rfl⟩
      · rw [e]; exact ih h3' hf' s hlt v' (n + 1)
theorem wdS_has (s : ByteArray) : ∀ k, 0 ≤ k → k ≤ 60 → k % 4 = 0 → ∃ x, wdS s k = some x := fun k h0 h1 h2 => ⟨_, by unfold wdS; rw [if_pos ⟨h0, h1, h2⟩]⟩
/-- What may be returns, within as many steps as it has instructions. -/
theorem check_run (l : List S28) (h3 : U3 l) (h : (checkV l).2 = 0) (rec : ByteArray) (hz : rec.size = 64) : ∃ o k : Int, runB l rec = (o, k, 0) ∧ 1 ≤ k ∧ k ≤ (l.length : Int) := by
  obtain ⟨h0, _, h2, _⟩ := (checkV_ok l h3).1 h
  obtain ⟨⟨o, k⟩, hr⟩ := run_well (wdS rec) (wdS_has rec) l h3 h2 0 h0 v0 0
  obtain ⟨_, b1, b2⟩ := vr_more (wdS rec) [] l 0 v0 0 (o, k) hr
  simp only at b1 b2
  exact ⟨o, (k : Int), runB_ok l rec hz o k hr, by omega, by omega⟩
end Go.Proofs.Ytefkhcijgiagdaa.QCheckRun
end
section
namespace Go.Proofs.Ytefkhcijgiagdaa.Pure
open Go.RowKit Go.Proofs.Ytefkhcijgiagdaa.StatCheckRuns Go.Proofs.YtefkhcijgiagdaaW.PrintWords Go.Proofs.YtefkhcijgiagdaaW.PrintLast Go.Proofs.YtefkhcijgiagdaaW.PrintMore Go.Proofs.Ytefkhcijgiagdaa.PCheckRuns Go.Proofs.Ytefkhcijgiagdaa.HKnown Go.Proofs.Ytefkhcijgiagdaa.I1 Go.Proofs.Ytefkhcijgiagdaa.K0 Go.Proofs.Ytefkhcijgiagdaa.K3 Go.Proofs.Ytefkhcijgiagdaa.QVm Go.Proofs.Ytefkhcijgiagdaa.QNum Go.Proofs.Ytefkhcijgiagdaa.QCheck Go.Proofs.Ytefkhcijgiagdaa.HCk Go.Proofs.Ytefkhcijgiagdaa.QCk Go.Proofs.Ytefkhcijgiagdaa.HVm Go.Proofs.Ytefkhcijgiagdaa.QWalk Go.Proofs.Ytefkhcijgiagdaa.QRun Go.Proofs.Ytefkhcijgiagdaa.QCheckRun
set_option linter.unusedVariables false
set_option linter.unusedSimpArgs false
theorem iw_q {i : S28} (h : Q28 i) : IW i := ⟨h.1, h.2.1, h.2.2.1, wf_u32 h.2.2.2⟩
theorem j0_f (k : Nat) (y : List S28) (t : ByteArray) (hl : y.length ≤ 4100) (hy : ∀ i ∈ y, IW i) (h : (checkV y).2 = 0) : doorwardlaw12_CheckRuns.j0 (k + 1) y t = some true := by
  show ((vm_Run.f y t).bind fun bt107 => _) = _
  rw [run_f y t (by omega) (fun i hi => ⟨(wf_i64 (hy i hi).2.1).2, (wf_i64 (hy i hi).2.2.1).2, (hy i hi).2.2.2⟩), QCk.alive_f]
  simp only [Option.bind_some, if_true]
  by_cases hz : t.size = 64
  · rw [if_pos (by omega)]
    obtain ⟨o, k, e, h1, h2⟩ := check_run y (u3_of hy) h t hz
    rw [e]
    simp only [if_true]
    rw [if_pos (by omega), decide_eq_true h2]
  · rw [if_neg (by omega), runB_short y t hz]
    rfl
theorem CheckRuns : StatCheckRuns.Stat := by
  intro l s _ _ hq _
  refine ⟨1, ?_⟩
  unfold doorwardlaw12_CheckRuns.f
  obtain ⟨m, hm, hl⟩ := QCk.few_f l
  have hy : ∀ i ∈ l.take m, IW i := fun i hi => iw_q (hq i (List.mem_of_mem_take hi))
  rw [hm]
  simp only [Option.bind_some]
  generalize l.take m = y at *
  rw [check_f y (by omega) hy, QCk.alive_f]
  simp only [Option.bind_some]
  by_cases h : (checkV y).2 = 0
  · rw [if_pos h]
    by_cases hs : (s.size : Int) > 64
    · rw [if_pos hs, if_pos (by decide), if_pos (by omega)]
      exact j0_f 0 y _ hl hy h
    · rw [if_neg hs]
      exact j0_f 0 y s hl hy h
  · rw [if_neg h]
end Go.Proofs.Ytefkhcijgiagdaa.Pure
end
section
namespace Go.Proofs.Ytefkhcijgiagdaa.checkRuns
open Go.ChangeShapes Go.WideShapes Go.ChangeAt Go.RowKit Go.Proofs.Ytefkhcijgiagdaa.Open Go.Proofs.Ytefkhcijgiagdaa.StatCheckRuns Go.Proofs.YtefkhcijgiagdaaW.PrintWords Go.Proofs.Ytefkhcijgiagdaa.PCheckRuns Go.Proofs.Ytefkhcijgiagdaa.Le Go.Proofs.Ytefkhcijgiagdaa.HKnown Go.Proofs.Ytefkhcijgiagdaa.HPut Go.Proofs.Ytefkhcijgiagdaa.I1 Go.Proofs.Ytefkhcijgiagdaa.E1 Go.Proofs.Ytefkhcijgiagdaa.HAsm Go.Proofs.Ytefkhcijgiagdaa.E2 Go.Proofs.Ytefkhcijgiagdaa.HAll Go.Proofs.Ytefkhcijgiagdaa.V0 Go.Proofs.Ytefkhcijgiagdaa.HVm Go.Proofs.Ytefkhcijgiagdaa.K0 Go.Proofs.Ytefkhcijgiagdaa.HCk Go.Proofs.Ytefkhcijgiagdaa.K3
open Go.ChangeMaps (open_string shut_string)
set_option linter.unusedVariables false
open Go.Proofs.Ytefkhcijgiagdaa.Order (own laidOut)
open Go.Proofs.Ytefkhcijgiagdaa
set_option maxRecDepth 100000 in
set_option maxHeartbeats 1000000 in
theorem lifted (os : Os) (started : os.Started) (H : Type) (enc : TypeId × Value → H) :
    ReturnsInHanded {} Try.checked os 28 .any (Rows.checkRunsSpec.pre6 enc Try.prog Try.f28 Rows.checkRunsRow.domain false) (Rows.checkRunsSpec.post enc Try.prog Try.f28 false true false false) := by
  refine returnsInHanded_of_change_sized (C := Try.checked) own started (by kernel_rfl) Try.func28
    (ChangeSpec.witness6 (enc := enc) (C := Try.checked) false ⟨#[], #[.slice none 0 0, .string ByteArray.empty], []⟩ 20 (by kernel_rfl) (by kernel_rfl) (by kernel_rfl) (by kernel_rfl)) ?_
  intro W base args ds gs before hval0 hW hcnd hsz0 _
  have hsz : (DataW.weightsEach Try.prog (Try.f28.params.toList ++ Rows.checkRunsSpec.plain.varTypes Try.prog) (ds ++ gs)).all (· ≤ reachBytes) = true := hsz0
  have hval : ∀ (j : Nat) t v, Try.f28.params[j]? = some t → args[j]? = some v → Value.okWide Try.prog W .any base t v := hval0
  have hW' := hW
  obtain ⟨p, q, hA0, hV, rfl, hfz, hnd⟩ := hW
  have hA : DataW.TrodAll enc Try.prog W 0 (fun _ => true) true Try.f28.params.toList args.toList ds p := hA0
  rw [Try.params28] at hA hval hsz
  obtain ⟨v0, vs0, d0, ds0, p0, q0, hargs, rfl, rfl, h0, r0⟩ := trodAll_cons hA
  obtain ⟨v1, vs1, d1, ds1, p1, q1, rfl, rfl, rfl, h1, r1⟩ := trodAll_cons r0
  obtain ⟨rfl, rfl, rfl⟩ := trodAll_nil r1
  obtain rfl : args = #[v0, v1] := by cases args; simp_all
  obtain ⟨rfl, rfl⟩ := trodVars_none hV
  have k0_ := h0
  have lt0 : ∀ x ∈ p0, x.block < W.heap.size := by obtain ⟨m, hm⟩ := k0_; exact DataW.trod_lt m _ _ _ hm
  obtain ⟨A0, c0, x0, rfl, hc0, hr0, hm0, hq0⟩ := slice_of Try.underlying34 (by kernel_rfl) (hval 0 34 v0 rfl rfl) opens28 h0
  have y0 : x0.length * 32 ≤ 140737488351232 := slice_sized hsz (j := 0) (t := 34) rfl rfl Try.underlying34 (by kernel_rfl) h0
  obtain ⟨x1, rfl, rfl, rfl, y1⟩ := open_string Try.underlying9 (hval 1 9 v1 rfl rfl) h1
  have w1 : x1.size ≤ 140737488351232 := by
    have z := sized_string hsz (j := 1) (t := 9) rfl rfl
    rw [Array.length_toList] at z
    exact z
  clear hA0 hval0 hsz0 hsz
  obtain ⟨k, hk⟩ := Pure.CheckRuns x0 x1 hm0 y0 hq0 w1
  refine (doorwardlaw12_CheckRuns.calls (k := k) (hr0 := hr0) (hc0 := hc0) (r := true) (w := W) (h := hk)).mono ?_
  rintro e W' ⟨rfl, bel0⟩
  have bel := bel0
  exact ⟨_, rfl, _, _, _, [], _, [], hW', trodAll_mk1 (shut_bool Try.underlying4 _), (trodAll_cons_mk (Below.trod laidOut (by kernel_rfl) (of_decide_eq_true (by kernel_rfl)) k0_ bel lt0) (trodAll_cons_mk (shut_string Try.underlying9 y1) trodAll_mk0)), rfl, bel.frame _, fun h => by cases h⟩
set_option maxHeartbeats 4000000 in
theorem facts : joinedFacts Try.prog 28 Try.f28 Rows.checkRunsSpec Rows.checkRunsRow = true := by
  unfold joinedFacts
  repeat' (with_reducible refine (Bool.and_eq_true_iff).mpr ⟨?_, ?_⟩)
  all_goals first | (with_reducible exact Order.laidOut) | (with_reducible exact Order.mapsRowed) | (with_reducible exact Order.noStops) | (with_reducible exact Order.noKnobs) | (with_reducible exact Order.enter) | (with_reducible exact Order.heard) | (rw [Order.makes]; rfl) | (rw [Order.lifts]; rfl) | (as_aux_lemma => kernel_rfl)
theorem named : Try.prog.funcNamed "doorward/doorwardlaw12.CheckRuns" = some 28 := by kernel_rfl
theorem inst : Try.f28.isInstance Try.prog Rows.checkRunsRow.origin Rows.checkRunsRow.targs := of_decide_eq_true (by kernel_rfl)
theorem wrap : Try.f28.isWrapper Try.prog Rows.checkRunsRow.wrapper Rows.checkRunsRow.mainSum := by unfold Func.isWrapper; first | (rw [if_pos (by decide +kernel)]; kernel_rfl) | (rw [if_neg (by decide +kernel)]; exact ⟨rfl, rfl⟩)
theorem over : Rows.checkRunsRow.holds Try.pinned (OpenSpec.ofChange Rows.checkRunsSpec) :=
  OpenClaim.holds_of_wide 28 Try.f28 rfl rfl rfl rfl rfl rfl rfl ⟨rfl, rfl, rfl, rfl, rfl⟩ rfl rfl rfl rfl rfl named Try.func28 facts inst wrap
    (fun os started H enc _ => lifted os started H enc)
theorem proved : Rows.CheckRunsSaid := over
#print axioms proved
end Go.Proofs.Ytefkhcijgiagdaa.checkRuns
namespace Go.Proofs.Ytefkhcijgiagdaa
/-- The row, under a short name, for the claim. -/
theorem checkRuns_holds : Rows.CheckRunsSaid := checkRuns.proved
end Go.Proofs.Ytefkhcijgiagdaa
end
