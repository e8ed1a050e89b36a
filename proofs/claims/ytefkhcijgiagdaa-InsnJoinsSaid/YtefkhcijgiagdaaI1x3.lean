import Derived.Test.YtefkhcijgiagdaaI1x0
import Derived.Test.YtefkhcijgiagdaaLex0
import Derived.Test.YtefkhcijgiagdaaI1x2
-- Written by a program of this session (wip/tools/unit.py) with the kit's print.
namespace Go.Proofs.Ytefkhcijgiagdaa.I1
open Go.RowKit Go.Proofs.YtefkhcijgiagdaaW.PrintWords Go.Proofs.YtefkhcijgiagdaaW.PrintLast Go.Proofs.YtefkhcijgiagdaaW.PrintMore
attribute [local go_sem] max2_int min2_int max_two min_two max_three min_three max_four min_four IntKind.wrap_u32 IntKind.wrap_u8   -- for this text's walks alone
set_option linter.unusedVariables false
open Go.Proofs.Ytefkhcijgiagdaa.Le Go.Proofs.Ytefkhcijgiagdaa.HKnown
set_option linter.unusedSimpArgs false

/-! ### doorwardref10_Put: function 46 -/
def doorwardref10_Put.j0 : Nat → Bool → Int → Int → Int → Int → Option (ByteArray × Int)
  | 0, _, _, _, _, _ => none
  | k + 1, x35, x126000, x126001, x126002, x126003 => if x35 = true then (some ((⟨#[]⟩ : ByteArray), 1)) else ((doorwardref01_Bytes.f k (IntKind.u64.wrap (x126000)) 2).bind fun bt126 => ((doorwardref01_Bytes.f k (IntKind.u64.wrap (x126003)) 4).bind fun bt128 => ((some (([(x126001) % 256, (x126002) % 256] : List Int) : List Int)).bind fun y130 => (if bt126.1.size + (strOfNums y130).size ≤ 9223372036854775807 then (if (bt126.1 ++ (strOfNums y130)).size + bt128.1.size ≤ 9223372036854775807 then (some ((bt126.1 ++ (strOfNums y130)) ++ bt128.1, 0)) else (none)) else (none)))))
def doorwardref10_Put.f (k : Nat) (a0_0 : Int) (a0_1 : Int) (a0_2 : Int) (a0_3 : Int) : Option (ByteArray × Int) := if a0_0 < 0 then (doorwardref10_Put.j0 k true a0_0 a0_1 a0_2 a0_3) else (if a0_0 > 65535 then (doorwardref10_Put.j0 k true a0_0 a0_1 a0_2 a0_3) else (if a0_1 < 0 then (doorwardref10_Put.j0 k true a0_0 a0_1 a0_2 a0_3) else (if a0_1 > 255 then (doorwardref10_Put.j0 k true a0_0 a0_1 a0_2 a0_3) else (if a0_2 < 0 then (doorwardref10_Put.j0 k true a0_0 a0_1 a0_2 a0_3) else (doorwardref10_Put.j0 k (decide (a0_2 > 255)) a0_0 a0_1 a0_2 a0_3)))))
theorem doorwardref10_Put.mono_l : ∀ k, (∀ y0 y1 y2 y3 y4, LeO (doorwardref10_Put.j0 k y0 y1 y2 y3 y4) (doorwardref10_Put.j0 (k + 1) y0 y1 y2 y3 y4))
  | 0 => fun _ _ _ _ _ r h => by simp [doorwardref10_Put.j0] at h
  | k + 1 => by
    have ih0 := doorwardref10_Put.mono_l k
    · intro y0 y1 y2 y3 y4
      unfold doorwardref10_Put.j0
      repeat' first
      | (with_reducible exact ih0 _ _ _ _ _)
      | (with_reducible exact doorwardref01_Bytes.mono _ _ _)
      | (with_reducible exact LeO.refl _)
      | (with_reducible exact LeO.none _)
      | (with_reducible refine LeO.ite ?_ ?_)
      | (with_reducible refine LeO.bind ?_ (fun _ => ?_))
      | exact ih0 _ _ _ _ _
      | exact doorwardref01_Bytes.mono _ _ _
      | exact LeO.none _
      | refine LeO.ite ?_ ?_
      | refine LeO.bind ?_ (fun _ => ?_)
theorem doorwardref10_Put.mono : ∀ a0 a1 a2 a3 k, LeO (doorwardref10_Put.f k a0 a1 a2 a3) (doorwardref10_Put.f (k + 1) a0 a1 a2 a3) := by
  intro a0 a1 a2 a3 k
  have ih0 := doorwardref10_Put.mono_l k
  unfold doorwardref10_Put.f
  repeat' first
      | (with_reducible exact ih0 _ _ _ _ _)
      | (with_reducible exact doorwardref01_Bytes.mono _ _ _)
      | (with_reducible exact LeO.refl _)
      | (with_reducible exact LeO.none _)
      | (with_reducible refine LeO.ite ?_ ?_)
      | (with_reducible refine LeO.bind ?_ (fun _ => ?_))
      | exact ih0 _ _ _ _ _
      | exact doorwardref01_Bytes.mono _ _ _
      | exact LeO.none _
      | refine LeO.ite ?_ ?_
      | refine LeO.bind ?_ (fun _ => ?_)
set_option maxHeartbeats 8000000 in
set_option maxRecDepth 100000 in
theorem doorwardref10_Put.calls (k : Nat) (a0_0 : Int) (a0_1 : Int) (a0_2 : Int) (a0_3 : Int) (r1 : ByteArray) (r2 : Int) (w : World) (h : doorwardref10_Put.f k a0_0 a0_1 a0_2 a0_3 = some (r1, r2)) :
    Calls Try.prog 46 #[.agg #[.int .i64 a0_0, .int .i64 a0_1, .int .i64 a0_2, .int .u32 a0_3]] w fun e w' => e = .returned (.tuple #[.string r1, .int .i64 r2]) ∧ Below w.heap.size w w' := by
  have hu28 := Try.underlying28
  have HB := Aside0.mk (Below.refl w.heap.size w)
  have H : (if a0_0 < 0 then (doorwardref10_Put.j0 k true a0_0 a0_1 a0_2 a0_3) else (if a0_0 > 65535 then (doorwardref10_Put.j0 k true a0_0 a0_1 a0_2 a0_3) else (if a0_1 < 0 then (doorwardref10_Put.j0 k true a0_0 a0_1 a0_2 a0_3) else (if a0_1 > 255 then (doorwardref10_Put.j0 k true a0_0 a0_1 a0_2 a0_3) else (if a0_2 < 0 then (doorwardref10_Put.j0 k true a0_0 a0_1 a0_2 a0_3) else (doorwardref10_Put.j0 k (decide (a0_2 > 255)) a0_0 a0_1 a0_2 a0_3)))))) = some (r1, r2) := h
  clear h
  have HC2 := Aside0.mk H
  clear H
  go_enter Try.func46, Try.ntmps46
  go_upto_region 1 with (first | ((with_reducible refine gate_dst (N := 1) rfl ?_); refine box_event ?hg (N := 1) ?hd (cs := #[.int .i64 a0_0, .int .i64 a0_1, .int .i64 a0_2, .int .u32 a0_3]) (t := 28) ?hr ?_; (case hd => rfl); (case hg => rfl); (case hr => first | (go_simp; done) | (go_simp; rfl)); intro gb125 hg w3 hbox hb; have n0_ := Aside0.mk (below_step (by repeat (first | (with_reducible first | exact HB.out | apply below_alloc | apply pw_below_drewN | apply below_drew1) | exact HB.out)) hb); have n1_ := Aside0.mk (hbox); have n2_ := Aside0.mk ((by rw [hg]; exact (below_size (by repeat (first | (with_reducible first | exact HB.out | apply below_alloc | apply pw_below_drewN | apply below_drew1) | exact HB.out))) : w.heap.size ≤ gb125)); have n3_ := Aside0.mk ((by rw [hg]; exact (below_size (by repeat (first | (with_reducible first | exact HB.out | apply below_alloc | apply pw_below_drewN | apply below_drew1) | exact HB.out))) : w.heap.size ≤ gb125)); clear HB; have HB := n0_; have BK125 := n1_; have GW125 := n2_; have GE125 := n3_; clear n0_ n1_ n2_ n3_; clear hb hbox hg))
  (try simp only [Act.put, List.setIfInBounds_toArray, List.set_cons_zero, List.set_cons_succ])
  go_cut [35] (fun v35 wc => ∃ (kq : Nat) (x35_1 : Bool), v35 = .bool x35_1 ∧ Aside0 (doorwardref10_Put.j0 kq x35_1 a0_0 a0_1 a0_2 a0_3 = some (r1, r2)) ∧ Aside0 (kq ≤ k) ∧ Aside0 (wc.heap[gb125]? = some (.cells #[.int .i64 a0_0, .int .i64 a0_1, .int .i64 a0_2, .int .u32 a0_3] 28 (0, 0))) ∧ Aside0 (Below w.heap.size w wc))
  case first =>
    have H := HC2.out
    clear HC2
    by_cases c4 : a0_0 < 0
    · rw [if_pos c4] at H
      have c4b0 : decide (a0_0 < 0) = true := decide_eq_true c4
      clear c4
      (first | rw [c4b0] | (simp only [i64_w, i32_w]; rw [c4b0]) | skip)
      have H' := Aside0.mk H
      clear H
      have hcz5_0 : w3.cell? ⟨gb125, 0, none⟩ = some (.int .i64 a0_0) := (blk_cell BK125.out 0).trans rfl
      have hcz5_1 : w3.cell? ⟨gb125, 1, none⟩ = some (.int .i64 a0_1) := (blk_cell BK125.out 1).trans rfl
      have hcz5_2 : w3.cell? ⟨gb125, 2, none⟩ = some (.int .i64 a0_2) := (blk_cell BK125.out 2).trans rfl
      have hcz5_3 : w3.cell? ⟨gb125, 3, none⟩ = some (.int .u32 a0_3) := (blk_cell BK125.out 3).trans rfl
      have hfz5_0 := blk_frozen BK125.out 0
      have hfz5_1 := blk_frozen BK125.out 1
      have hfz5_2 := blk_frozen BK125.out 2
      have hfz5_3 := blk_frozen BK125.out 3
      go_wp2
      go_meet
      case rel => exact ⟨_, (true), (by first | rfl | (simp; done) | (simp [*]; done)), H', ⟨by first | omega | exact Nat.le_refl _⟩, ⟨by (with_reducible repeat (first | refine blk_drewN ?_ _ | refine blk_drew ?_ | refine blk_alloc ?_ _)); exact BK125.out⟩, ⟨by repeat (first | (with_reducible first | exact HB.out | apply below_alloc | apply pw_below_drewN | apply below_drew1 | refine below_set ?_ GE125.out) | exact HB.out)⟩⟩
    · rw [if_neg c4] at H
      have c4b0 : decide (a0_0 < 0) = false := decide_eq_false c4
      clear c4
      (first | rw [c4b0] | (simp only [i64_w, i32_w]; rw [c4b0]) | skip)
      by_cases c6 : a0_0 > 65535
      · rw [if_pos c6] at H
        have c6b0 : decide (65535 < a0_0) = true := decide_eq_true c6
        clear c6
        have H' := Aside0.mk H
        clear H
        have hcz7_0 : w3.cell? ⟨gb125, 0, none⟩ = some (.int .i64 a0_0) := (blk_cell BK125.out 0).trans rfl
        have hcz7_1 : w3.cell? ⟨gb125, 1, none⟩ = some (.int .i64 a0_1) := (blk_cell BK125.out 1).trans rfl
        have hcz7_2 : w3.cell? ⟨gb125, 2, none⟩ = some (.int .i64 a0_2) := (blk_cell BK125.out 2).trans rfl
        have hcz7_3 : w3.cell? ⟨gb125, 3, none⟩ = some (.int .u32 a0_3) := (blk_cell BK125.out 3).trans rfl
        have hfz7_0 := blk_frozen BK125.out 0
        have hfz7_1 := blk_frozen BK125.out 1
        have hfz7_2 := blk_frozen BK125.out 2
        have hfz7_3 := blk_frozen BK125.out 3
        go_wp2
        go_meet
        case rel => exact ⟨_, (true), (by first | rfl | (simp; done) | (simp [*]; done)), H', ⟨by first | omega | exact Nat.le_refl _⟩, ⟨by (with_reducible repeat (first | refine blk_drewN ?_ _ | refine blk_drew ?_ | refine blk_alloc ?_ _)); exact BK125.out⟩, ⟨by repeat (first | (with_reducible first | exact HB.out | apply below_alloc | apply pw_below_drewN | apply below_drew1 | refine below_set ?_ GE125.out) | exact HB.out)⟩⟩
      · rw [if_neg c6] at H
        have c6b0 : decide (65535 < a0_0) = false := decide_eq_false c6
        clear c6
        by_cases c8 : a0_1 < 0
        · rw [if_pos c8] at H
          have c8b0 : decide (a0_1 < 0) = true := decide_eq_true c8
          clear c8
          have H' := Aside0.mk H
          clear H
          have hcz9_0 : w3.cell? ⟨gb125, 0, none⟩ = some (.int .i64 a0_0) := (blk_cell BK125.out 0).trans rfl
          have hcz9_1 : w3.cell? ⟨gb125, 1, none⟩ = some (.int .i64 a0_1) := (blk_cell BK125.out 1).trans rfl
          have hcz9_2 : w3.cell? ⟨gb125, 2, none⟩ = some (.int .i64 a0_2) := (blk_cell BK125.out 2).trans rfl
          have hcz9_3 : w3.cell? ⟨gb125, 3, none⟩ = some (.int .u32 a0_3) := (blk_cell BK125.out 3).trans rfl
          have hfz9_0 := blk_frozen BK125.out 0
          have hfz9_1 := blk_frozen BK125.out 1
          have hfz9_2 := blk_frozen BK125.out 2
          have hfz9_3 := blk_frozen BK125.out 3
          go_wp2
          go_meet
          case rel => exact ⟨_, (true), (by first | rfl | (simp; done) | (simp [*]; done)), H', ⟨by first | omega | exact Nat.le_refl _⟩, ⟨by (with_reducible repeat (first | refine blk_drewN ?_ _ | refine blk_drew ?_ | refine blk_alloc ?_ _)); exact BK125.out⟩, ⟨by repeat (first | (with_reducible first | exact HB.out | apply below_alloc | apply pw_below_drewN | apply below_drew1 | refine below_set ?_ GE125.out) | exact HB.out)⟩⟩
        · rw [if_neg c8] at H
          have c8b0 : decide (a0_1 < 0) = false := decide_eq_false c8
          clear c8
          by_cases c10 : a0_1 > 255
          · rw [if_pos c10] at H
            have c10b0 : decide (255 < a0_1) = true := decide_eq_true c10
            clear c10
            have H' := Aside0.mk H
            clear H
            have hcz11_0 : w3.cell? ⟨gb125, 0, none⟩ = some (.int .i64 a0_0) := (blk_cell BK125.out 0).trans rfl
            have hcz11_1 : w3.cell? ⟨gb125, 1, none⟩ = some (.int .i64 a0_1) := (blk_cell BK125.out 1).trans rfl
            have hcz11_2 : w3.cell? ⟨gb125, 2, none⟩ = some (.int .i64 a0_2) := (blk_cell BK125.out 2).trans rfl
            have hcz11_3 : w3.cell? ⟨gb125, 3, none⟩ = some (.int .u32 a0_3) := (blk_cell BK125.out 3).trans rfl
            have hfz11_0 := blk_frozen BK125.out 0
            have hfz11_1 := blk_frozen BK125.out 1
            have hfz11_2 := blk_frozen BK125.out 2
            have hfz11_3 := blk_frozen BK125.out 3
            go_wp2
            go_meet
            case rel => exact ⟨_, (true), (by first | rfl | (simp; done) | (simp [*]; done)), H', ⟨by first | omega | exact Nat.le_refl _⟩, ⟨by (with_reducible repeat (first | refine blk_drewN ?_ _ | refine blk_drew ?_ | refine blk_alloc ?_ _)); exact BK125.out⟩, ⟨by repeat (first | (with_reducible first | exact HB.out | apply below_alloc | apply pw_below_drewN | apply below_drew1 | refine below_set ?_ GE125.out) | exact HB.out)⟩⟩
          · rw [if_neg c10] at H
            have c10b0 : decide (255 < a0_1) = false := decide_eq_false c10
            clear c10
            by_cases c12 : a0_2 < 0
            · rw [if_pos c12] at H
              have c12b0 : decide (a0_2 < 0) = true := decide_eq_true c12
              clear c12
              have H' := Aside0.mk H
              clear H
              have hcz13_0 : w3.cell? ⟨gb125, 0, none⟩ = some (.int .i64 a0_0) := (blk_cell BK125.out 0).trans rfl
              have hcz13_1 : w3.cell? ⟨gb125, 1, none⟩ = some (.int .i64 a0_1) := (blk_cell BK125.out 1).trans rfl
              have hcz13_2 : w3.cell? ⟨gb125, 2, none⟩ = some (.int .i64 a0_2) := (blk_cell BK125.out 2).trans rfl
              have hcz13_3 : w3.cell? ⟨gb125, 3, none⟩ = some (.int .u32 a0_3) := (blk_cell BK125.out 3).trans rfl
              have hfz13_0 := blk_frozen BK125.out 0
              have hfz13_1 := blk_frozen BK125.out 1
              have hfz13_2 := blk_frozen BK125.out 2
              have hfz13_3 := blk_frozen BK125.out 3
              go_wp2
              go_meet
              case rel => exact ⟨_, (true), (by first | rfl | (simp; done) | (simp [*]; done)), H', ⟨by first | omega | exact Nat.le_refl _⟩, ⟨by (with_reducible repeat (first | refine blk_drewN ?_ _ | refine blk_drew ?_ | refine blk_alloc ?_ _)); exact BK125.out⟩, ⟨by repeat (first | (with_reducible first | exact HB.out | apply below_alloc | apply pw_below_drewN | apply below_drew1 | refine below_set ?_ GE125.out) | exact HB.out)⟩⟩
            · rw [if_neg c12] at H
              have c12b0 : decide (a0_2 < 0) = false := decide_eq_false c12
              clear c12
              have H' := Aside0.mk H
              clear H
              have hcz14_0 : w3.cell? ⟨gb125, 0, none⟩ = some (.int .i64 a0_0) := (blk_cell BK125.out 0).trans rfl
              have hcz14_1 : w3.cell? ⟨gb125, 1, none⟩ = some (.int .i64 a0_1) := (blk_cell BK125.out 1).trans rfl
              have hcz14_2 : w3.cell? ⟨gb125, 2, none⟩ = some (.int .i64 a0_2) := (blk_cell BK125.out 2).trans rfl
              have hcz14_3 : w3.cell? ⟨gb125, 3, none⟩ = some (.int .u32 a0_3) := (blk_cell BK125.out 3).trans rfl
              have hfz14_0 := blk_frozen BK125.out 0
              have hfz14_1 := blk_frozen BK125.out 1
              have hfz14_2 := blk_frozen BK125.out 2
              have hfz14_3 := blk_frozen BK125.out 3
              go_wp2
              go_meet
              case rel => exact ⟨_, (decide (a0_2 > 255)), (by first | rfl | (simp; done) | (simp [*]; done)), H', ⟨by first | omega | exact Nat.le_refl _⟩, ⟨by (with_reducible repeat (first | refine blk_drewN ?_ _ | refine blk_drew ?_ | refine blk_alloc ?_ _)); exact BK125.out⟩, ⟨by repeat (first | (with_reducible first | exact HB.out | apply below_alloc | apply pw_below_drewN | apply below_drew1 | refine below_set ?_ GE125.out) | exact HB.out)⟩⟩
  case rest =>
    clear HC2
    try clear c1
    try clear p2
    try clear c4
    try clear c4b0
    try clear c6
    try clear c6b0
    try clear c8
    try clear c8b0
    try clear c10
    try clear c10b0
    try clear c12
    try clear c12b0
    try clear hcz11_0
    try clear hcz11_1
    try clear hcz11_2
    try clear hcz11_3
    try clear hcz13_0
    try clear hcz13_1
    try clear hcz13_2
    try clear hcz13_3
    try clear hcz14_0
    try clear hcz14_1
    try clear hcz14_2
    try clear hcz14_3
    try clear hcz5_0
    try clear hcz5_1
    try clear hcz5_2
    try clear hcz5_3
    try clear hcz7_0
    try clear hcz7_1
    try clear hcz7_2
    try clear hcz7_3
    try clear hcz9_0
    try clear hcz9_1
    try clear hcz9_2
    try clear hcz9_3
    try clear hfz11_0
    try clear hfz11_1
    try clear hfz11_2
    try clear hfz11_3
    try clear hfz13_0
    try clear hfz13_1
    try clear hfz13_2
    try clear hfz13_3
    try clear hfz14_0
    try clear hfz14_1
    try clear hfz14_2
    try clear hfz14_3
    try clear hfz5_0
    try clear hfz5_1
    try clear hfz5_2
    try clear hfz5_3
    try clear hfz7_0
    try clear hfz7_1
    try clear hfz7_2
    try clear hfz7_3
    try clear hfz9_0
    try clear hfz9_1
    try clear hfz9_2
    try clear hfz9_3
    obtain ⟨kq, x35_1, rfl, HA, HJ1, BK125, HB⟩ := hcut
    cases kq with
    | zero => exact absurd HA.out (by simp [doorwardref10_Put.j0])
    | succ kj1 =>
      have H := HA.out
      clear HA
      simp only [doorwardref10_Put.j0] at H
      by_cases c15 : x35_1 = true
      · subst c15
        have H1 : (some ((⟨#[]⟩ : ByteArray), 1)) = some (r1, r2) := by rw [if_pos rfl] at H; exact H
        clear H
        have H := H1
        clear H1
        simp only [Option.some.injEq, Prod.mk.injEq] at H
        obtain ⟨rfl, rfl⟩ := H
        go_wp2
        go_ret2
        exact ⟨by first | rfl | (simp [errW_none, errW_some] <;> rfl) | (simp [*, errW_none, errW_some] <;> rfl), by repeat (first | (with_reducible first | exact HB.out | apply below_alloc | apply pw_below_drewN | apply below_drew1 | refine below_set ?_ GE125.out) | exact HB.out)⟩
      · replace c15 := Bool.eq_false_iff.mpr c15
        subst c15
        have H1 : ((doorwardref01_Bytes.f kj1 (IntKind.u64.wrap (a0_0)) 2).bind fun bt126 => ((doorwardref01_Bytes.f kj1 (IntKind.u64.wrap (a0_3)) 4).bind fun bt128 => ((some (([(a0_1) % 256, (a0_2) % 256] : List Int) : List Int)).bind fun y130 => (if bt126.1.size + (strOfNums y130).size ≤ 9223372036854775807 then (if (bt126.1 ++ (strOfNums y130)).size + bt128.1.size ≤ 9223372036854775807 then (some ((bt126.1 ++ (strOfNums y130)) ++ bt128.1, 0)) else (none)) else (none))))) = some (r1, r2) := by rw [if_neg (show ¬ (false = true) by decide)] at H; exact H
        clear H
        have H := H1
        clear H1
        replace H := Option.bind_eq_some_iff.mp H
        obtain ⟨⟨t126, t127⟩, A160, H⟩ := H
        replace H : ((doorwardref01_Bytes.f kj1 (IntKind.u64.wrap (a0_3)) 4).bind fun bt128 => ((some (([(a0_1) % 256, (a0_2) % 256] : List Int) : List Int)).bind fun y130 => (if t126.size + (strOfNums y130).size ≤ 9223372036854775807 then (if (t126 ++ (strOfNums y130)).size + bt128.1.size ≤ 9223372036854775807 then (some ((t126 ++ (strOfNums y130)) ++ bt128.1, 0)) else (none)) else (none)))) = some (r1, r2) := H
        have A16 := Aside0.mk A160
        clear A160
        replace H := Option.bind_eq_some_iff.mp H
        obtain ⟨⟨t128, t129⟩, A170, H⟩ := H
        replace H : ((some (([(a0_1) % 256, (a0_2) % 256] : List Int) : List Int)).bind fun y130 => (if t126.size + (strOfNums y130).size ≤ 9223372036854775807 then (if (t126 ++ (strOfNums y130)).size + t128.size ≤ 9223372036854775807 then (some ((t126 ++ (strOfNums y130)) ++ t128, 0)) else (none)) else (none))) = some (r1, r2) := H
        have A17 := Aside0.mk A170
        clear A170
        obtain ⟨y130, hy130⟩ : ∃ y_ : List Int, y_ = (([(a0_1) % 256, (a0_2) % 256] : List Int)) := ⟨_, rfl⟩
        replace H : (if t126.size + (strOfNums y130).size ≤ 9223372036854775807 then (if (t126 ++ (strOfNums y130)).size + t128.size ≤ 9223372036854775807 then (some ((t126 ++ (strOfNums y130)) ++ t128, 0)) else (none)) else (none)) = some (r1, r2) := by first | (rw [hy130]; with_reducible exact H) | (have H2_ := (Option.bind_some _ _).symm.trans H; rw [hy130]; with_reducible exact H2_) | (have H2_ := (Option.bind_some _ _).symm.trans H; with_reducible exact H2_) | with_reducible exact H | (rw [hy130]; exact H) | exact H
        have Ny130 := Aside0.mk hy130
        clear hy130
        by_cases c18 : t126.size + (strOfNums y130).size ≤ 9223372036854775807
        · rw [if_pos c18] at H
          have c18b0 := eq_true c18
          have c18b1 : decide (t126.size + (strOfNums y130).size ≤ 9223372036854775807) = true := decide_eq_true c18
          try have c18b2 : (9223372036854775807 < t126.size + (strOfNums y130).size) = False := eq_false (Nat.not_lt.2 c18)
          by_cases c19 : (t126 ++ (strOfNums y130)).size + t128.size ≤ 9223372036854775807
          · rw [if_pos c19] at H
            have c19b0 := eq_true c19
            have c19b1 : decide ((t126 ++ (strOfNums y130)).size + t128.size ≤ 9223372036854775807) = true := decide_eq_true c19
            try have c19b2 : (9223372036854775807 < (t126 ++ (strOfNums y130)).size + t128.size) = False := eq_false (Nat.not_lt.2 c19)
            simp only [Option.some.injEq, Prod.mk.injEq] at H
            obtain ⟨rfl, rfl⟩ := H
            have hcz20_0 : wc.cell? ⟨gb125, 0, none⟩ = some (.int .i64 a0_0) := (blk_cell BK125.out 0).trans rfl
            have hcz20_1 : wc.cell? ⟨gb125, 1, none⟩ = some (.int .i64 a0_1) := (blk_cell BK125.out 1).trans rfl
            have hcz20_2 : wc.cell? ⟨gb125, 2, none⟩ = some (.int .i64 a0_2) := (blk_cell BK125.out 2).trans rfl
            have hcz20_3 : wc.cell? ⟨gb125, 3, none⟩ = some (.int .u32 a0_3) := (blk_cell BK125.out 3).trans rfl
            have hfz20_0 := blk_frozen BK125.out 0
            have hfz20_1 := blk_frozen BK125.out 1
            have hfz20_2 := blk_frozen BK125.out 2
            have hfz20_3 := blk_frozen BK125.out 3
            go_wp2_with (first | ((with_reducible refine gate_callee (f := 92) rfl ?_); refine goesL_ (some 40) rfl rfl Try.func92 (by kernel_rfl) rfl #[.int .u64 (IntKind.u64.wrap (a0_0)), .int .i64 2] rfl (by (try simp only [List.map_toArray, List.map_cons, List.map_nil]); first | done | rfl | (simp only [List.length_drop, List.length_take]; rfl)) ?_; (with_reducible refine (doorwardref01_Bytes.calls kj1 (IntKind.u64.wrap (a0_0)) 2 t126 t127 _ A16.out).mono ?_); rintro e w21 ⟨rfl, hb⟩; refine ⟨_, rfl, ?_⟩; have n0_ := Aside0.mk (blk_below (g := gb125) (o := .cells #[.int .i64 a0_0, .int .i64 a0_1, .int .i64 a0_2, .int .u32 a0_3] 28 (0, 0)) (by (with_reducible repeat (first | refine blk_drewN ?_ _ | refine blk_drew ?_ | refine blk_alloc ?_ _)); exact BK125.out) hb); have n1_ := Aside0.mk (below_step (by repeat (first | (with_reducible first | exact HB.out | apply below_alloc | apply pw_below_drewN | apply below_drew1 | refine below_set ?_ GE125.out) | exact HB.out)) hb); clear BK125; clear HB; have BK125 := n0_; have HB := n1_; clear n0_ n1_; (try clear hb); (try clear hb2); (try clear hk); (try clear hi); have hcz22_0 : w21.cell? ⟨gb125, 0, none⟩ = some (.int .i64 a0_0) := (blk_cell BK125.out 0).trans rfl; have hcz22_1 : w21.cell? ⟨gb125, 1, none⟩ = some (.int .i64 a0_1) := (blk_cell BK125.out 1).trans rfl; have hcz22_2 : w21.cell? ⟨gb125, 2, none⟩ = some (.int .i64 a0_2) := (blk_cell BK125.out 2).trans rfl; have hcz22_3 : w21.cell? ⟨gb125, 3, none⟩ = some (.int .u32 a0_3) := (blk_cell BK125.out 3).trans rfl; have hfz22_0 := blk_frozen BK125.out 0; have hfz22_1 := blk_frozen BK125.out 1; have hfz22_2 := blk_frozen BK125.out 2; have hfz22_3 := blk_frozen BK125.out 3) | ((with_reducible refine gate_callee (f := 92) rfl ?_); refine goesL_ (some 47) rfl rfl Try.func92 (by kernel_rfl) rfl #[.int .u64 (IntKind.u64.wrap (a0_3)), .int .i64 4] rfl (by (try simp only [List.map_toArray, List.map_cons, List.map_nil]); first | done | rfl | (simp only [List.length_drop, List.length_take]; rfl)) ?_; (with_reducible refine (doorwardref01_Bytes.calls kj1 (IntKind.u64.wrap (a0_3)) 4 t128 t129 _ A17.out).mono ?_); rintro e w23 ⟨rfl, hb⟩; refine ⟨_, rfl, ?_⟩; have n0_ := Aside0.mk (blk_below (g := gb125) (o := .cells #[.int .i64 a0_0, .int .i64 a0_1, .int .i64 a0_2, .int .u32 a0_3] 28 (0, 0)) (by (with_reducible repeat (first | refine blk_drewN ?_ _ | refine blk_drew ?_ | refine blk_alloc ?_ _)); exact BK125.out) hb); have n1_ := Aside0.mk (below_step (by repeat (first | (with_reducible first | exact HB.out | apply below_alloc | apply pw_below_drewN | apply below_drew1 | refine below_set ?_ GE125.out) | exact HB.out)) hb); clear BK125; clear HB; have BK125 := n0_; have HB := n1_; clear n0_ n1_; (try clear hb); (try clear hb2); (try clear hk); (try clear hi); have hcz24_0 : w23.cell? ⟨gb125, 0, none⟩ = some (.int .i64 a0_0) := (blk_cell BK125.out 0).trans rfl; have hcz24_1 : w23.cell? ⟨gb125, 1, none⟩ = some (.int .i64 a0_1) := (blk_cell BK125.out 1).trans rfl; have hcz24_2 : w23.cell? ⟨gb125, 2, none⟩ = some (.int .i64 a0_2) := (blk_cell BK125.out 2).trans rfl; have hcz24_3 : w23.cell? ⟨gb125, 3, none⟩ = some (.int .u32 a0_3) := (blk_cell BK125.out 3).trans rfl; have hfz24_0 := blk_frozen BK125.out 0; have hfz24_1 := blk_frozen BK125.out 1; have hfz24_2 := blk_frozen BK125.out 2; have hfz24_3 := blk_frozen BK125.out 3) | ((with_reducible refine gate_dst (N := 57) rfl ?_); refine Kd.R_lit (Kd.int .u8) _ 5 ?hg (N := 57) ?hd (xs := ([(a0_1) % 256, (a0_2) % 256] : List Int)) (inner := [.int .u8 ((a0_1) % 256), .int .u8 ((a0_2) % 256)]) (ok := fun _ => True) (okp := fun _ => True) ?hr ?hp (fun _ hk => hk) trivial (Below.refl _ _) (Nat.le_refl _) (by simp) ?_; (case hd => rfl); (case hg => rfl); (case hr => first | (go_simp; done) | (go_simp; rfl)); (case hp => exact (Reps.one (show Kd.M (Kd.int .u8) _ _ _ ((a0_1) % 256) [.int .u8 ((a0_1) % 256)] from rfl) (Reps.one (show Kd.M (Kd.int .u8) _ _ _ ((a0_2) % 256) [.int .u8 ((a0_2) % 256)] from rfl) (Reps.none _ _)))); intro v131 w25 ho26 hb hg_ hnew_; clear hg_ hnew_; (first | rw [← Ny130.out] at ho26 | (simp only [Int.reduceToNat] at ho26; rw [← Ny130.out] at ho26)); have n0_ := Aside0.mk (Kd.R_lower ho26 (below_size (by repeat (first | (with_reducible first | exact HB.out | apply below_alloc | apply pw_below_drewN | apply below_drew1 | refine below_set ?_ GE125.out) | exact HB.out)))); have n1_ := Aside0.mk (blk_below (g := gb125) (o := .cells #[.int .i64 a0_0, .int .i64 a0_1, .int .i64 a0_2, .int .u32 a0_3] 28 (0, 0)) (by (with_reducible repeat (first | refine blk_drewN ?_ _ | refine blk_drew ?_ | refine blk_alloc ?_ _)); exact BK125.out) hb); have n2_ := Aside0.mk (below_step (by repeat (first | (with_reducible first | exact HB.out | apply below_alloc | apply pw_below_drewN | apply below_drew1 | refine below_set ?_ GE125.out) | exact HB.out)) hb); clear BK125; clear HB; have HO132 := n0_; have BK125 := n1_; have HB := n2_; clear n0_ n1_ n2_; clear hb ho26; have hcv27 := own_string (P := Try.prog) Try.underlying22 Try.underlying5 Try.underlying9 (Kd.own_of_R HO132.out)))
            go_ret2
            exact ⟨by first | rfl | (simp [errW_none, errW_some] <;> rfl) | (simp [*, errW_none, errW_some] <;> rfl), by repeat (first | (with_reducible first | exact HB.out | apply below_alloc | apply pw_below_drewN | apply below_drew1 | refine below_set ?_ GE125.out) | exact HB.out)⟩
          · rw [if_neg c19] at H
            exact absurd H (by simp)
        · rw [if_neg c18] at H
          exact absurd H (by simp)

/-! ### doorwardref10_Known: function 45 -/
def doorwardref10_Known.j0 : Nat → Int → Bool → Option (Bool)
  | 0, _, _ => none
  | k + 1, x0, x11 => if x11 = true then (some false) else (if (Int.tmod x0 8) = 0 then (if x0 = 32 then (some true) else (if x0 = 128 then (some true) else (if x0 = 0 then (some true) else (some (x0 == 96))))) else (if (Int.tmod x0 8) = 1 then (if x0 = 1 then (some true) else (if x0 = 97 then (some true) else (some (x0 == 129)))) else (if (Int.tmod x0 8) = 2 then (some (x0 == 2)) else (if (Int.tmod x0 8) = 3 then (some (x0 == 3)) else (if (Int.tmod x0 8) = 4 then (if (wrap64 (Int.tdiv (Int.tmod (wrap64 (Int.tdiv x0 8)) 32) 2)) = 8 then (some ((Int.tmod (Int.tmod (wrap64 (Int.tdiv x0 8)) 32) 2) == 0)) else (if (wrap64 (Int.tdiv (Int.tmod (wrap64 (Int.tdiv x0 8)) 32) 2)) ≤ 7 then (some true) else (some ((wrap64 (Int.tdiv (Int.tmod (wrap64 (Int.tdiv x0 8)) 32) 2)) == 10)))) else (if (Int.tmod x0 8) = 5 then (if (wrap64 (Int.tdiv (Int.tmod (wrap64 (Int.tdiv x0 8)) 32) 2)) ≥ 1 then (if (wrap64 (Int.tdiv (Int.tmod (wrap64 (Int.tdiv x0 8)) 32) 2)) ≤ 4 then (some true) else (if (wrap64 (Int.tdiv (Int.tmod (wrap64 (Int.tdiv x0 8)) 32) 2)) = 0 then (some ((Int.tmod (Int.tmod (wrap64 (Int.tdiv x0 8)) 32) 2) == 0)) else (some false))) else (if (wrap64 (Int.tdiv (Int.tmod (wrap64 (Int.tdiv x0 8)) 32) 2)) = 0 then (some ((Int.tmod (Int.tmod (wrap64 (Int.tdiv x0 8)) 32) 2) == 0)) else (some false))) else (if (Int.tmod x0 8) = 6 then (if x0 = 6 then (some true) else (some (x0 == 22))) else (if x0 = 7 then (some true) else (some (x0 == 135))))))))))
def doorwardref10_Known.f (k : Nat) (a0 : Int) : Option (Bool) := if a0 < 0 then (doorwardref10_Known.j0 k a0 true) else (doorwardref10_Known.j0 k a0 (decide (a0 > 255)))
theorem doorwardref10_Known.mono_l : ∀ k, (∀ y0 y1, LeO (doorwardref10_Known.j0 k y0 y1) (doorwardref10_Known.j0 (k + 1) y0 y1))
  | 0 => fun _ _ r h => by simp [doorwardref10_Known.j0] at h
  | k + 1 => by
    have ih0 := doorwardref10_Known.mono_l k
    · intro y0 y1
      unfold doorwardref10_Known.j0
      repeat' first
      | (with_reducible exact ih0 _ _)
      | (with_reducible exact LeO.refl _)
      | (with_reducible exact LeO.none _)
      | (with_reducible refine LeO.ite ?_ ?_)
      | (with_reducible refine LeO.bind ?_ (fun _ => ?_))
      | exact ih0 _ _
      | exact LeO.none _
      | refine LeO.ite ?_ ?_
      | refine LeO.bind ?_ (fun _ => ?_)
theorem doorwardref10_Known.mono : ∀ a0 k, LeO (doorwardref10_Known.f k a0) (doorwardref10_Known.f (k + 1) a0) := by
  intro a0 k
  have ih0 := doorwardref10_Known.mono_l k
  unfold doorwardref10_Known.f
  repeat' first
      | (with_reducible exact ih0 _ _)
      | (with_reducible exact LeO.refl _)
      | (with_reducible exact LeO.none _)
      | (with_reducible refine LeO.ite ?_ ?_)
      | (with_reducible refine LeO.bind ?_ (fun _ => ?_))
      | exact ih0 _ _
      | exact LeO.none _
      | refine LeO.ite ?_ ?_
      | refine LeO.bind ?_ (fun _ => ?_)
set_option maxHeartbeats 8000000 in
set_option maxRecDepth 100000 in
theorem doorwardref10_Known.calls (k : Nat) (a0 : Int) (r : Bool) (w : World) (h : doorwardref10_Known.f k a0 = some r) :
    Calls Try.prog 45 #[.int .i64 a0] w fun e w' => e = .returned (.bool r) ∧ Drawn0 w w' := by
  have H : (if a0 < 0 then (doorwardref10_Known.j0 k a0 true) else (doorwardref10_Known.j0 k a0 (decide (a0 > 255)))) = some r := h
  clear h
  have HC2 := Aside0.mk H
  clear H
  go_enter Try.func45, Try.ntmps45
  go_upto_region 1 with (fail)
  go_cut [11] (fun v11 wc => ∃ (kq : Nat) (x11_1 : Bool), v11 = .bool x11_1 ∧ Aside0 (doorwardref10_Known.j0 kq a0 x11_1 = some r) ∧ Aside0 (kq ≤ k) ∧ Drawn0 w wc)
  case first =>
    have H := HC2.out
    clear HC2
    by_cases c3 : a0 < 0
    · rw [if_pos c3] at H
      have c3b0 : decide (a0 < 0) = true := decide_eq_true c3
      clear c3
      (first | rw [c3b0] | (simp only [i64_w, i32_w]; rw [c3b0]) | skip)
      have H' := Aside0.mk H
      clear H
      go_wp2
      go_meet
      case rel => exact ⟨_, (true), (by first | rfl | (simp; done) | (simp [*]; done)), H', ⟨by first | omega | exact Nat.le_refl _⟩, by repeat (first | exact Drawn0.refl _ | apply Drawn0.step)⟩
    · rw [if_neg c3] at H
      have c3b0 : decide (a0 < 0) = false := decide_eq_false c3
      clear c3
      (first | rw [c3b0] | (simp only [i64_w, i32_w]; rw [c3b0]) | skip)
      have H' := Aside0.mk H
      clear H
      go_wp2
      go_meet
      case rel => exact ⟨_, (decide (a0 > 255)), (by first | rfl | (simp; done) | (simp [*]; done)), H', ⟨by first | omega | exact Nat.le_refl _⟩, by repeat (first | exact Drawn0.refl _ | apply Drawn0.step)⟩
  case rest =>
    clear HC2
    try clear p2
    try clear c3
    try clear c3b0
    obtain ⟨kq, x11_1, rfl, HA, HJ1, ⟨mc1, rfl⟩⟩ := hcut
    cases kq with
    | zero => exact absurd HA.out (by simp [doorwardref10_Known.j0])
    | succ kj1 =>
      have H := HA.out
      clear HA
      simp only [doorwardref10_Known.j0] at H
      by_cases c4 : x11_1 = true
      · subst c4
        have H1 : (some false) = some r := by rw [if_pos rfl] at H; exact H
        clear H
        have H := H1
        clear H1
        obtain rfl := Option.some.inj H
        go_wp2
        go_ret
        exact ⟨by first | rfl | (simp; done) | (simp [*]; done), by repeat (first | exact Drawn0.refl _ | apply Drawn0.step)⟩
      · replace c4 := Bool.eq_false_iff.mpr c4
        subst c4
        have H1 : (if (Int.tmod a0 8) = 0 then (if a0 = 32 then (some true) else (if a0 = 128 then (some true) else (if a0 = 0 then (some true) else (some (a0 == 96))))) else (if (Int.tmod a0 8) = 1 then (if a0 = 1 then (some true) else (if a0 = 97 then (some true) else (some (a0 == 129)))) else (if (Int.tmod a0 8) = 2 then (some (a0 == 2)) else (if (Int.tmod a0 8) = 3 then (some (a0 == 3)) else (if (Int.tmod a0 8) = 4 then (if (wrap64 (Int.tdiv (Int.tmod (wrap64 (Int.tdiv a0 8)) 32) 2)) = 8 then (some ((Int.tmod (Int.tmod (wrap64 (Int.tdiv a0 8)) 32) 2) == 0)) else (if (wrap64 (Int.tdiv (Int.tmod (wrap64 (Int.tdiv a0 8)) 32) 2)) ≤ 7 then (some true) else (some ((wrap64 (Int.tdiv (Int.tmod (wrap64 (Int.tdiv a0 8)) 32) 2)) == 10)))) else (if (Int.tmod a0 8) = 5 then (if (wrap64 (Int.tdiv (Int.tmod (wrap64 (Int.tdiv a0 8)) 32) 2)) ≥ 1 then (if (wrap64 (Int.tdiv (Int.tmod (wrap64 (Int.tdiv a0 8)) 32) 2)) ≤ 4 then (some true) else (if (wrap64 (Int.tdiv (Int.tmod (wrap64 (Int.tdiv a0 8)) 32) 2)) = 0 then (some ((Int.tmod (Int.tmod (wrap64 (Int.tdiv a0 8)) 32) 2) == 0)) else (some false))) else (if (wrap64 (Int.tdiv (Int.tmod (wrap64 (Int.tdiv a0 8)) 32) 2)) = 0 then (some ((Int.tmod (Int.tmod (wrap64 (Int.tdiv a0 8)) 32) 2) == 0)) else (some false))) else (if (Int.tmod a0 8) = 6 then (if a0 = 6 then (some true) else (some (a0 == 22))) else (if a0 = 7 then (some true) else (some (a0 == 135)))))))))) = some r := by rw [if_neg (show ¬ (false = true) by decide)] at H; exact H
        clear H
        have H := H1
        clear H1
        by_cases c5 : (Int.tmod a0 8) = 0
        · rw [if_pos c5] at H
          have c5b0 : ((Int.tmod a0 8) == 0) = true := beq_iff_eq.mpr c5
          have c5b1 : ((Int.tmod a0 8) != 0) = false := bne_eq_false_iff_eq.mpr c5
          clear c5
          by_cases c6 : a0 = 32
          · rw [if_pos c6] at H
            have c6b0 : (a0 == 32) = true := beq_iff_eq.mpr c6
            have c6b1 : (a0 != 32) = false := bne_eq_false_iff_eq.mpr c6
            clear c6
            obtain rfl := Option.some.inj H
            go_wp2
            go_ret
            exact ⟨by first | rfl | (simp; done) | (simp [*]; done), by repeat (first | exact Drawn0.refl _ | apply Drawn0.step)⟩
          · rw [if_neg c6] at H
            have c6b0 : (a0 == 32) = false := beq_eq_false_iff_ne.mpr c6
            have c6b1 : (a0 != 32) = true := bne_iff_ne.mpr c6
            by_cases c7 : a0 = 128
            · rw [if_pos c7] at H
              have c7b0 : (a0 == 128) = true := beq_iff_eq.mpr c7
              have c7b1 : (a0 != 128) = false := bne_eq_false_iff_eq.mpr c7
              clear c7
              obtain rfl := Option.some.inj H
              go_wp2
              go_ret
              exact ⟨by first | rfl | (simp; done) | (simp [*]; done), by repeat (first | exact Drawn0.refl _ | apply Drawn0.step)⟩
            · rw [if_neg c7] at H
              have c7b0 : (a0 == 128) = false := beq_eq_false_iff_ne.mpr c7
              have c7b1 : (a0 != 128) = true := bne_iff_ne.mpr c7
              by_cases c8 : a0 = 0
              · rw [if_pos c8] at H
                have c8b0 : (a0 == 0) = true := beq_iff_eq.mpr c8
                have c8b1 : (a0 != 0) = false := bne_eq_false_iff_eq.mpr c8
                clear c8
                obtain rfl := Option.some.inj H
                go_wp2
                go_ret
                exact ⟨by first | rfl | (simp; done) | (simp [*]; done), by repeat (first | exact Drawn0.refl _ | apply Drawn0.step)⟩
              · rw [if_neg c8] at H
                have c8b0 : (a0 == 0) = false := beq_eq_false_iff_ne.mpr c8
                have c8b1 : (a0 != 0) = true := bne_iff_ne.mpr c8
                obtain rfl := Option.some.inj H
                go_wp2
                go_ret
                exact ⟨by first | rfl | (simp; done) | (simp [*]; done), by repeat (first | exact Drawn0.refl _ | apply Drawn0.step)⟩
        · rw [if_neg c5] at H
          have c5b0 : ((Int.tmod a0 8) == 0) = false := beq_eq_false_iff_ne.mpr c5
          have c5b1 : ((Int.tmod a0 8) != 0) = true := bne_iff_ne.mpr c5
          by_cases c9 : (Int.tmod a0 8) = 1
          · rw [if_pos c9] at H
            have c9b0 : ((Int.tmod a0 8) == 1) = true := beq_iff_eq.mpr c9
            have c9b1 : ((Int.tmod a0 8) != 1) = false := bne_eq_false_iff_eq.mpr c9
            clear c9
            by_cases c10 : a0 = 1
            · rw [if_pos c10] at H
              have c10b0 : (a0 == 1) = true := beq_iff_eq.mpr c10
              have c10b1 : (a0 != 1) = false := bne_eq_false_iff_eq.mpr c10
              clear c10
              obtain rfl := Option.some.inj H
              go_wp2
              go_ret
              exact ⟨by first | rfl | (simp; done) | (simp [*]; done), by repeat (first | exact Drawn0.refl _ | apply Drawn0.step)⟩
            · rw [if_neg c10] at H
              have c10b0 : (a0 == 1) = false := beq_eq_false_iff_ne.mpr c10
              have c10b1 : (a0 != 1) = true := bne_iff_ne.mpr c10
              by_cases c11 : a0 = 97
              · rw [if_pos c11] at H
                have c11b0 : (a0 == 97) = true := beq_iff_eq.mpr c11
                have c11b1 : (a0 != 97) = false := bne_eq_false_iff_eq.mpr c11
                clear c11
                obtain rfl := Option.some.inj H
                go_wp2
                go_ret
                exact ⟨by first | rfl | (simp; done) | (simp [*]; done), by repeat (first | exact Drawn0.refl _ | apply Drawn0.step)⟩
              · rw [if_neg c11] at H
                have c11b0 : (a0 == 97) = false := beq_eq_false_iff_ne.mpr c11
                have c11b1 : (a0 != 97) = true := bne_iff_ne.mpr c11
                obtain rfl := Option.some.inj H
                go_wp2
                go_ret
                exact ⟨by first | rfl | (simp; done) | (simp [*]; done), by repeat (first | exact Drawn0.refl _ | apply Drawn0.step)⟩
          · rw [if_neg c9] at H
            have c9b0 : ((Int.tmod a0 8) == 1) = false := beq_eq_false_iff_ne.mpr c9
            have c9b1 : ((Int.tmod a0 8) != 1) = true := bne_iff_ne.mpr c9
            by_cases c12 : (Int.tmod a0 8) = 2
            · rw [if_pos c12] at H
              have c12b0 : ((Int.tmod a0 8) == 2) = true := beq_iff_eq.mpr c12
              have c12b1 : ((Int.tmod a0 8) != 2) = false := bne_eq_false_iff_eq.mpr c12
              clear c12
              obtain rfl := Option.some.inj H
              go_wp2
              go_ret
              exact ⟨by first | rfl | (simp; done) | (simp [*]; done), by repeat (first | exact Drawn0.refl _ | apply Drawn0.step)⟩
            · rw [if_neg c12] at H
              have c12b0 : ((Int.tmod a0 8) == 2) = false := beq_eq_false_iff_ne.mpr c12
              have c12b1 : ((Int.tmod a0 8) != 2) = true := bne_iff_ne.mpr c12
              by_cases c13 : (Int.tmod a0 8) = 3
              · rw [if_pos c13] at H
                have c13b0 : ((Int.tmod a0 8) == 3) = true := beq_iff_eq.mpr c13
                have c13b1 : ((Int.tmod a0 8) != 3) = false := bne_eq_false_iff_eq.mpr c13
                clear c13
                obtain rfl := Option.some.inj H
                go_wp2
                go_ret
                exact ⟨by first | rfl | (simp; done) | (simp [*]; done), by repeat (first | exact Drawn0.refl _ | apply Drawn0.step)⟩
              · rw [if_neg c13] at H
                have c13b0 : ((Int.tmod a0 8) == 3) = false := beq_eq_false_iff_ne.mpr c13
                have c13b1 : ((Int.tmod a0 8) != 3) = true := bne_iff_ne.mpr c13
                by_cases c14 : (Int.tmod a0 8) = 4
                · rw [if_pos c14] at H
                  have c14b0 : ((Int.tmod a0 8) == 4) = true := beq_iff_eq.mpr c14
                  have c14b1 : ((Int.tmod a0 8) != 4) = false := bne_eq_false_iff_eq.mpr c14
                  clear c14
                  by_cases c15 : (wrap64 (Int.tdiv (Int.tmod (wrap64 (Int.tdiv a0 8)) 32) 2)) = 8
                  · rw [if_pos c15] at H
                    have c15b0 : ((wrap64 (Int.tdiv (Int.tmod (wrap64 (Int.tdiv a0 8)) 32) 2)) == 8) = true := beq_iff_eq.mpr c15
                    have c15b1 : ((wrap64 (Int.tdiv (Int.tmod (wrap64 (Int.tdiv a0 8)) 32) 2)) != 8) = false := bne_eq_false_iff_eq.mpr c15
                    clear c15
                    obtain rfl := Option.some.inj H
                    go_wp2
                    go_ret
                    exact ⟨by first | rfl | (simp; done) | (simp [*]; done), by repeat (first | exact Drawn0.refl _ | apply Drawn0.step)⟩
                  · rw [if_neg c15] at H
                    have c15b0 : ((wrap64 (Int.tdiv (Int.tmod (wrap64 (Int.tdiv a0 8)) 32) 2)) == 8) = false := beq_eq_false_iff_ne.mpr c15
                    have c15b1 : ((wrap64 (Int.tdiv (Int.tmod (wrap64 (Int.tdiv a0 8)) 32) 2)) != 8) = true := bne_iff_ne.mpr c15
                    by_cases c16 : (wrap64 (Int.tdiv (Int.tmod (wrap64 (Int.tdiv a0 8)) 32) 2)) ≤ 7
                    · rw [if_pos c16] at H
                      have c16b0 : decide ((wrap64 (Int.tdiv (Int.tmod (wrap64 (Int.tdiv a0 8)) 32) 2)) ≤ 7) = true := decide_eq_true c16
                      clear c16
                      obtain rfl := Option.some.inj H
                      go_wp2
                      go_ret
                      exact ⟨by first | rfl | (simp; done) | (simp [*]; done), by repeat (first | exact Drawn0.refl _ | apply Drawn0.step)⟩
                    · rw [if_neg c16] at H
                      have c16b0 : decide ((wrap64 (Int.tdiv (Int.tmod (wrap64 (Int.tdiv a0 8)) 32) 2)) ≤ 7) = false := decide_eq_false c16
                      clear c16
                      obtain rfl := Option.some.inj H
                      go_wp2
                      go_ret
                      exact ⟨by first | rfl | (simp; done) | (simp [*]; done), by repeat (first | exact Drawn0.refl _ | apply Drawn0.step)⟩
                · rw [if_neg c14] at H
                  have c14b0 : ((Int.tmod a0 8) == 4) = false := beq_eq_false_iff_ne.mpr c14
                  have c14b1 : ((Int.tmod a0 8) != 4) = true := bne_iff_ne.mpr c14
                  by_cases c17 : (Int.tmod a0 8) = 5
                  · rw [if_pos c17] at H
                    have c17b0 : ((Int.tmod a0 8) == 5) = true := beq_iff_eq.mpr c17
                    have c17b1 : ((Int.tmod a0 8) != 5) = false := bne_eq_false_iff_eq.mpr c17
                    clear c17
                    by_cases c18 : (wrap64 (Int.tdiv (Int.tmod (wrap64 (Int.tdiv a0 8)) 32) 2)) ≥ 1
                    · rw [if_pos c18] at H
                      have c18b0 : decide (1 ≤ (wrap64 (Int.tdiv (Int.tmod (wrap64 (Int.tdiv a0 8)) 32) 2))) = true := decide_eq_true c18
                      clear c18
                      by_cases c19 : (wrap64 (Int.tdiv (Int.tmod (wrap64 (Int.tdiv a0 8)) 32) 2)) ≤ 4
                      · rw [if_pos c19] at H
                        have c19b0 : decide ((wrap64 (Int.tdiv (Int.tmod (wrap64 (Int.tdiv a0 8)) 32) 2)) ≤ 4) = true := decide_eq_true c19
                        clear c19
                        obtain rfl := Option.some.inj H
                        go_wp2
                        go_ret
                        exact ⟨by first | rfl | (simp; done) | (simp [*]; done), by repeat (first | exact Drawn0.refl _ | apply Drawn0.step)⟩
                      · rw [if_neg c19] at H
                        have c19b0 : decide ((wrap64 (Int.tdiv (Int.tmod (wrap64 (Int.tdiv a0 8)) 32) 2)) ≤ 4) = false := decide_eq_false c19
                        clear c19
                        by_cases c20 : (wrap64 (Int.tdiv (Int.tmod (wrap64 (Int.tdiv a0 8)) 32) 2)) = 0
                        · rw [if_pos c20] at H
                          have c20b0 : ((wrap64 (Int.tdiv (Int.tmod (wrap64 (Int.tdiv a0 8)) 32) 2)) == 0) = true := beq_iff_eq.mpr c20
                          have c20b1 : ((wrap64 (Int.tdiv (Int.tmod (wrap64 (Int.tdiv a0 8)) 32) 2)) != 0) = false := bne_eq_false_iff_eq.mpr c20
                          clear c20
                          obtain rfl := Option.some.inj H
                          go_wp2
                          go_ret
                          exact ⟨by first | rfl | (simp; done) | (simp [*]; done), by repeat (first | exact Drawn0.refl _ | apply Drawn0.step)⟩
                        · rw [if_neg c20] at H
                          have c20b0 : ((wrap64 (Int.tdiv (Int.tmod (wrap64 (Int.tdiv a0 8)) 32) 2)) == 0) = false := beq_eq_false_iff_ne.mpr c20
                          have c20b1 : ((wrap64 (Int.tdiv (Int.tmod (wrap64 (Int.tdiv a0 8)) 32) 2)) != 0) = true := bne_iff_ne.mpr c20
                          obtain rfl := Option.some.inj H
                          go_wp2
                          go_ret
                          exact ⟨by first | rfl | (simp; done) | (simp [*]; done), by repeat (first | exact Drawn0.refl _ | apply Drawn0.step)⟩
                    · rw [if_neg c18] at H
                      have c18b0 : decide (1 ≤ (wrap64 (Int.tdiv (Int.tmod (wrap64 (Int.tdiv a0 8)) 32) 2))) = false := decide_eq_false c18
                      clear c18
                      by_cases c21 : (wrap64 (Int.tdiv (Int.tmod (wrap64 (Int.tdiv a0 8)) 32) 2)) = 0
                      · rw [if_pos c21] at H
                        have c21b0 : ((wrap64 (Int.tdiv (Int.tmod (wrap64 (Int.tdiv a0 8)) 32) 2)) == 0) = true := beq_iff_eq.mpr c21
                        have c21b1 : ((wrap64 (Int.tdiv (Int.tmod (wrap64 (Int.tdiv a0 8)) 32) 2)) != 0) = false := bne_eq_false_iff_eq.mpr c21
                        clear c21
                        obtain rfl := Option.some.inj H
                        go_wp2
                        go_ret
                        exact ⟨by first | rfl | (simp; done) | (simp [*]; done), by repeat (first | exact Drawn0.refl _ | apply Drawn0.step)⟩
                      · rw [if_neg c21] at H
                        have c21b0 : ((wrap64 (Int.tdiv (Int.tmod (wrap64 (Int.tdiv a0 8)) 32) 2)) == 0) = false := beq_eq_false_iff_ne.mpr c21
                        have c21b1 : ((wrap64 (Int.tdiv (Int.tmod (wrap64 (Int.tdiv a0 8)) 32) 2)) != 0) = true := bne_iff_ne.mpr c21
                        obtain rfl := Option.some.inj H
                        go_wp2
                        go_ret
                        exact ⟨by first | rfl | (simp; done) | (simp [*]; done), by repeat (first | exact Drawn0.refl _ | apply Drawn0.step)⟩
                  · rw [if_neg c17] at H
                    have c17b0 : ((Int.tmod a0 8) == 5) = false := beq_eq_false_iff_ne.mpr c17
                    have c17b1 : ((Int.tmod a0 8) != 5) = true := bne_iff_ne.mpr c17
                    by_cases c22 : (Int.tmod a0 8) = 6
                    · rw [if_pos c22] at H
                      have c22b0 : ((Int.tmod a0 8) == 6) = true := beq_iff_eq.mpr c22
                      have c22b1 : ((Int.tmod a0 8) != 6) = false := bne_eq_false_iff_eq.mpr c22
                      clear c22
                      by_cases c23 : a0 = 6
                      · rw [if_pos c23] at H
                        have c23b0 : (a0 == 6) = true := beq_iff_eq.mpr c23
                        have c23b1 : (a0 != 6) = false := bne_eq_false_iff_eq.mpr c23
                        clear c23
                        obtain rfl := Option.some.inj H
                        go_wp2
                        go_ret
                        exact ⟨by first | rfl | (simp; done) | (simp [*]; done), by repeat (first | exact Drawn0.refl _ | apply Drawn0.step)⟩
                      · rw [if_neg c23] at H
                        have c23b0 : (a0 == 6) = false := beq_eq_false_iff_ne.mpr c23
                        have c23b1 : (a0 != 6) = true := bne_iff_ne.mpr c23
                        obtain rfl := Option.some.inj H
                        go_wp2
                        go_ret
                        exact ⟨by first | rfl | (simp; done) | (simp [*]; done), by repeat (first | exact Drawn0.refl _ | apply Drawn0.step)⟩
                    · rw [if_neg c22] at H
                      have c22b0 : ((Int.tmod a0 8) == 6) = false := beq_eq_false_iff_ne.mpr c22
                      have c22b1 : ((Int.tmod a0 8) != 6) = true := bne_iff_ne.mpr c22
                      by_cases c24 : a0 = 7
                      · rw [if_pos c24] at H
                        have c24b0 : (a0 == 7) = true := beq_iff_eq.mpr c24
                        have c24b1 : (a0 != 7) = false := bne_eq_false_iff_eq.mpr c24
                        clear c24
                        obtain rfl := Option.some.inj H
                        go_wp2
                        go_ret
                        exact ⟨by first | rfl | (simp; done) | (simp [*]; done), by repeat (first | exact Drawn0.refl _ | apply Drawn0.step)⟩
                      · rw [if_neg c24] at H
                        have c24b0 : (a0 == 7) = false := beq_eq_false_iff_ne.mpr c24
                        have c24b1 : (a0 != 7) = true := bne_iff_ne.mpr c24
                        obtain rfl := Option.some.inj H
                        go_wp2
                        go_ret
                        exact ⟨by first | rfl | (simp; done) | (simp [*]; done), by repeat (first | exact Drawn0.refl _ | apply Drawn0.step)⟩

/-! ### doorwardref01_Number: function 94 -/
def doorwardref01_Number.l0 : Nat → ByteArray → Int → Int → Option (Int)
  | 0, _, _, _ => none
  | k + 1, x0, x3, x4 => if x4 ≥ 0 then (if 0 ≤ x4 then (if x4 < (x0.size : Int) then (doorwardref01_Number.l0 k x0 (IntKind.u64.wrap ((IntKind.u64.wrap (256 * x3)) + (IntKind.u64.wrap (bt x0 x4)))) (wrap64 (x4 - 1))) else (none)) else (none)) else (some x3)
def doorwardref01_Number.f (k : Nat) (a0 : ByteArray) : Option (Int) := doorwardref01_Number.l0 k a0 0 (wrap64 ((a0.size : Int) - 1))
theorem doorwardref01_Number.mono_l : ∀ k, (∀ y0 y1 y2, LeO (doorwardref01_Number.l0 k y0 y1 y2) (doorwardref01_Number.l0 (k + 1) y0 y1 y2))
  | 0 => fun _ _ _ r h => by simp [doorwardref01_Number.l0] at h
  | k + 1 => by
    have ih0 := doorwardref01_Number.mono_l k
    · intro y0 y1 y2
      unfold doorwardref01_Number.l0
      repeat' first
      | (with_reducible exact ih0 _ _ _)
      | (with_reducible exact LeO.refl _)
      | (with_reducible exact LeO.none _)
      | (with_reducible refine LeO.ite ?_ ?_)
      | (with_reducible refine LeO.bind ?_ (fun _ => ?_))
      | exact ih0 _ _ _
      | exact LeO.none _
      | refine LeO.ite ?_ ?_
      | refine LeO.bind ?_ (fun _ => ?_)
theorem doorwardref01_Number.mono : ∀ a0 k, LeO (doorwardref01_Number.f k a0) (doorwardref01_Number.f (k + 1) a0) := by
  intro a0 k
  have ih0 := doorwardref01_Number.mono_l k
  unfold doorwardref01_Number.f
  repeat' first
      | (with_reducible exact ih0 _ _ _)
      | (with_reducible exact LeO.refl _)
      | (with_reducible exact LeO.none _)
      | (with_reducible refine LeO.ite ?_ ?_)
      | (with_reducible refine LeO.bind ?_ (fun _ => ?_))
      | exact ih0 _ _ _
      | exact LeO.none _
      | refine LeO.ite ?_ ?_
      | refine LeO.bind ?_ (fun _ => ?_)
set_option maxHeartbeats 8000000 in
set_option maxRecDepth 100000 in
theorem doorwardref01_Number.calls (k : Nat) (a0 : ByteArray) (r : Int) (w : World) (h : doorwardref01_Number.f k a0 = some r) :
    Calls Try.prog 94 #[.string a0] w fun e w' => e = .returned (.int .u64 r) ∧ Drawn0 w w' := by
  have H : (doorwardref01_Number.l0 k a0 0 (wrap64 ((a0.size : Int) - 1))) = some r := h
  clear h
  have H' := Aside0.mk H
  clear H
  go_enter Try.func94, Try.ntmps94
  go_wp2
  go_loopg [3, 4] k (fun kq v3 v4 w' => ∃ (x3_1 : Int) (x4_1 : Int), v3 = .int .u64 x3_1 ∧ v4 = .int .i64 x4_1 ∧ Aside0 (doorwardref01_Number.l0 kq a0 x3_1 x4_1 = some r) ∧ Aside0 (kq ≤ k) ∧ Drawn0 w w')
  case atStart => exact ⟨(0), (wrap64 ((a0.size : Int) - 1)), (by first | rfl | (simp; done) | (simp [*]; done)), (by first | rfl | (simp; done) | (simp [*]; done)), H', ⟨Nat.le_refl _⟩, by repeat (first | exact Drawn0.refl _ | apply Drawn0.step)⟩
  case round =>
    clear H'
    obtain ⟨x3_1, x4_1, rfl, rfl, HA, HK1, ⟨m1, rfl⟩⟩ := hrel
    cases gk with
    | zero => exact absurd HA.out (by simp [doorwardref01_Number.l0])
    | succ k1 =>
      have H := HA.out
      clear HA
      simp only [doorwardref01_Number.l0] at H
      by_cases c2 : x4_1 ≥ 0
      · rw [if_pos c2] at H
        have c2b0 : decide (0 ≤ x4_1) = true := decide_eq_true c2
        clear c2
        by_cases c3 : 0 ≤ x4_1
        · rw [if_pos c3] at H
          have c3b0 : decide (0 ≤ x4_1) = true := decide_eq_true c3
          clear c3
          by_cases c4 : x4_1 < (a0.size : Int)
          · rw [if_pos c4] at H
            have c4b0 : decide (x4_1 < (a0.size : Int)) = true := decide_eq_true c4
            clear c4
            have H' := Aside0.mk H
            clear H
            have p5 : 0 ≤ (x4_1 : Int) := of_decide_eq_true (by first | (with_reducible assumption) | assumption)
            have q5 : x4_1 < (a0.size : Int) := of_decide_eq_true (by first | (with_reducible assumption) | assumption)
            have hx5 := bt_at a0 x4_1
            replace p5 := eq_true p5
            replace q5 := eq_true q5
            go_wp2
            go_roundg k1
            case measure => have := HK1.out; omega
            case rel => exact ⟨(IntKind.u64.wrap ((IntKind.u64.wrap (256 * x3_1)) + (IntKind.u64.wrap (bt a0 x4_1)))), (wrap64 (x4_1 - 1)), (by first | rfl | (simp; done) | (simp [*]; done)), (by first | rfl | (simp; done) | (simp [*]; done)), H', ⟨by have := HK1.out; omega⟩, by repeat (first | exact Drawn0.refl _ | apply Drawn0.step)⟩
          · rw [if_neg c4] at H
            exact absurd H (by simp)
        · rw [if_neg c3] at H
          exact absurd H (by simp)
      · rw [if_neg c2] at H
        have c2b0 : decide (0 ≤ x4_1) = false := decide_eq_false c2
        clear c2
        obtain rfl := Option.some.inj H
        go_wp2
        go_ret
        exact ⟨by first | rfl | (simp; done) | (simp [*]; done), by repeat (first | exact Drawn0.refl _ | apply Drawn0.step)⟩

end Go.Proofs.Ytefkhcijgiagdaa.I1
