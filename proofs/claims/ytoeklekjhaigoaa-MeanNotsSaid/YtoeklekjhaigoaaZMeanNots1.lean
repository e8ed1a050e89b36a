/- MeanNots: a condition and the one that says it is not so: not both hold, one does. -/
import Derived.Test.YtoeklekjhaigoaaZMeanNots0
section
namespace Go.Proofs.Ytoeklekjhaigoaa.M0
open Go.Proofs.Ytoeklekjhaigoaa.Al Go.RowKit Go.Proofs.YtoeklekjhaigoaaW.PrintWords Go.Proofs.YtoeklekjhaigoaaW.PrintLast Go.Proofs.YtoeklekjhaigoaaW.PrintMore
attribute [local go_sem] max2_int min2_int max_two min_two max_three min_three max_four min_four IntKind.wrap_u32 IntKind.wrap_u8   -- for this text's walks alone
set_option linter.unusedVariables false
open Go.Proofs.Ytoeklekjhaigoaa.Le Go.Proofs.Ytoeklekjhaigoaa.C1 Go.Proofs.Ytoeklekjhaigoaa.C2 Go.Proofs.Ytoeklekjhaigoaa.HAct Go.Proofs.Ytoeklekjhaigoaa.W0 Go.Proofs.Ytoeklekjhaigoaa.HFrom Go.Proofs.Ytoeklekjhaigoaa.W1 Go.Proofs.Ytoeklekjhaigoaa.R01 Go.Proofs.Ytoeklekjhaigoaa.HPack Go.Proofs.Ytoeklekjhaigoaa.HUnpack Go.Proofs.Ytoeklekjhaigoaa.HRefPack
set_option linter.unusedSimpArgs false
def mean_none.f (a0_0 : Int) (l0_1 : List (S46)) (a0_2 : Int) (a0_3 : Int) (a0_4 : ByteArray) (a0_5 : Int) : Option (Bool) := if a0_0 = 0 then (if a0_2 = 0 then (if a0_3 = 0 then (if a0_4.toList = ([] : List UInt8) then (if a0_5 = 0 then (some ((l0_1.length : Int) == 0)) else (some false)) else (some false)) else (some false)) else (some false)) else (some false)
set_option maxHeartbeats 8000000 in
set_option maxRecDepth 100000 in
theorem mean_none.calls (a0_0 : Int) (A0_1 : Option Addr) (c0_1 : Nat) (l0_1 : List (S46)) (a0_2 : Int) (a0_3 : Int) (a0_4 : ByteArray) (a0_5 : Int) (r : Bool) (w : World) (hr0_1 : Kd.C k46 w A0_1 l0_1.length l0_1) (hc0_1 : l0_1.length ≤ c0_1) (h : mean_none.f a0_0 l0_1 a0_2 a0_3 a0_4 a0_5 = some r) :
    Calls Try.prog 88 #[.agg #[.int .i64 a0_0, .slice A0_1 l0_1.length c0_1, .int .i64 a0_2, .int .u64 a0_3, .string a0_4, .int .u64 a0_5]] w fun e w' => e = .returned (.bool r) ∧ Below w.heap.size w w' := by
  have hu46 := Try.underlying46
  have HR0_1 := amk hr0_1
  have HC0_1 := amk hc0_1
  clear hr0_1 hc0_1
  have HB := amk (Below.refl w.heap.size w)
  have H : (if a0_0 = 0 then (if a0_2 = 0 then (if a0_3 = 0 then (if a0_4.toList = ([] : List UInt8) then (if a0_5 = 0 then (some ((l0_1.length : Int) == 0)) else (some false)) else (some false)) else (some false)) else (some false)) else (some false)) = some r := h
  clear h
  by_cases c2 : a0_0 = 0
  · rw [if_pos c2] at H
    have c2b0 : (a0_0 == 0) = true := beq_iff_eq.mpr c2
    have c2b1 : (a0_0 != 0) = false := bne_eq_false_iff_eq.mpr c2
    clear c2
    by_cases c3 : a0_2 = 0
    · rw [if_pos c3] at H
      have c3b0 : (a0_2 == 0) = true := beq_iff_eq.mpr c3
      have c3b1 : (a0_2 != 0) = false := bne_eq_false_iff_eq.mpr c3
      clear c3
      by_cases c4 : a0_3 = 0
      · rw [if_pos c4] at H
        have c4b0 : (a0_3 == 0) = true := beq_iff_eq.mpr c4
        have c4b1 : (a0_3 != 0) = false := bne_eq_false_iff_eq.mpr c4
        clear c4
        by_cases c5 : a0_4.toList = ([] : List UInt8)
        · rw [if_pos c5] at H
          have c5b0 : (a0_4.toList == ([] : List UInt8)) = true := beq_iff_eq.mpr c5
          have c5b1 : (a0_4.toList != ([] : List UInt8)) = false := bne_eq_false_iff_eq.mpr c5
          clear c5
          by_cases c6 : a0_5 = 0
          · rw [if_pos c6] at H
            have c6b0 : (a0_5 == 0) = true := beq_iff_eq.mpr c6
            have c6b1 : (a0_5 != 0) = false := bne_eq_false_iff_eq.mpr c6
            clear c6
            obtain rfl := Option.some.inj H
            go_enter Try.func88, Try.ntmps88
            go_wp2_with (first | ((with_reducible refine gate_dst (N := 1) rfl ?_); (try (refine gate_guard (by rfl) ?_; dsimp only)); refine box_event ?hg (N := 1) ?hd (cs := #[.int .i64 a0_0, .slice A0_1 l0_1.length c0_1, .int .i64 a0_2, .int .u64 a0_3, .string a0_4, .int .u64 a0_5]) (t := 46) ?hr ?_; (case hd => rfl); (case hg => rfl); (case hr => first | (go_simp; done) | (go_simp; rfl)); intro gb134 hg w7 hbox hb; have n0_ := amk (below_step (by repeat (first | (with_reducible first | exact HB.out | apply bal | apply pbd | apply below_drew1) | exact HB.out)) hb); have n1_ := amk (hbox); have n2_ := amk ((by rw [hg]; exact (below_size (by repeat (first | (with_reducible first | exact HB.out | apply bal | apply pbd | apply below_drew1) | exact HB.out))) : w.heap.size ≤ gb134)); have n3_ := amk ((by rw [hg]; exact (below_size (by repeat (first | (with_reducible first | exact HB.out | apply bal | apply pbd | apply below_drew1) | exact HB.out))) : w.heap.size ≤ gb134)); clear HB; have HB := n0_; have BK134 := n1_; have GW134 := n2_; have GE134 := n3_; clear n0_ n1_ n2_ n3_; clear hb hbox hg; have hcz8_0 : w7.cell? ⟨gb134, 0, none⟩ = some (.int .i64 a0_0) := (blk_cell BK134.out 0).trans rfl; have hcz8_1 : w7.cell? ⟨gb134, 1, none⟩ = some (.slice A0_1 l0_1.length c0_1) := (blk_cell BK134.out 1).trans rfl; have hcz8_2 : w7.cell? ⟨gb134, 2, none⟩ = some (.int .i64 a0_2) := (blk_cell BK134.out 2).trans rfl; have hcz8_3 : w7.cell? ⟨gb134, 3, none⟩ = some (.int .u64 a0_3) := (blk_cell BK134.out 3).trans rfl; have hcz8_4 : w7.cell? ⟨gb134, 4, none⟩ = some (.string a0_4) := (blk_cell BK134.out 4).trans rfl; have hcz8_5 : w7.cell? ⟨gb134, 5, none⟩ = some (.int .u64 a0_5) := (blk_cell BK134.out 5).trans rfl; have hfz8_0 := blk_frozen BK134.out 0; have hfz8_1 := blk_frozen BK134.out 1; have hfz8_2 := blk_frozen BK134.out 2; have hfz8_3 := blk_frozen BK134.out 3; have hfz8_4 := blk_frozen BK134.out 4; have hfz8_5 := blk_frozen BK134.out 5))
            go_ret
            exact ⟨by first | rfl | (simp [errW_none, errW_some] <;> rfl) | (simp [*, errW_none, errW_some] <;> rfl), by repeat (first | (with_reducible first | exact HB.out | apply bal | apply pbd | apply below_drew1 | refine below_set ?_ GE134.out) | exact HB.out)⟩
          · rw [if_neg c6] at H
            have c6b0 : (a0_5 == 0) = false := beq_eq_false_iff_ne.mpr c6
            have c6b1 : (a0_5 != 0) = true := bne_iff_ne.mpr c6
            obtain rfl := Option.some.inj H
            go_enter Try.func88, Try.ntmps88
            go_wp2_with (first | ((with_reducible refine gate_dst (N := 1) rfl ?_); (try (refine gate_guard (by rfl) ?_; dsimp only)); refine box_event ?hg (N := 1) ?hd (cs := #[.int .i64 a0_0, .slice A0_1 l0_1.length c0_1, .int .i64 a0_2, .int .u64 a0_3, .string a0_4, .int .u64 a0_5]) (t := 46) ?hr ?_; (case hd => rfl); (case hg => rfl); (case hr => first | (go_simp; done) | (go_simp; rfl)); intro gb134 hg w9 hbox hb; have n0_ := amk (below_step (by repeat (first | (with_reducible first | exact HB.out | apply bal | apply pbd | apply below_drew1) | exact HB.out)) hb); have n1_ := amk (hbox); have n2_ := amk ((by rw [hg]; exact (below_size (by repeat (first | (with_reducible first | exact HB.out | apply bal | apply pbd | apply below_drew1) | exact HB.out))) : w.heap.size ≤ gb134)); have n3_ := amk ((by rw [hg]; exact (below_size (by repeat (first | (with_reducible first | exact HB.out | apply bal | apply pbd | apply below_drew1) | exact HB.out))) : w.heap.size ≤ gb134)); clear HB; have HB := n0_; have BK134 := n1_; have GW134 := n2_; have GE134 := n3_; clear n0_ n1_ n2_ n3_; clear hb hbox hg; have hcz10_0 : w9.cell? ⟨gb134, 0, none⟩ = some (.int .i64 a0_0) := (blk_cell BK134.out 0).trans rfl; have hcz10_1 : w9.cell? ⟨gb134, 1, none⟩ = some (.slice A0_1 l0_1.length c0_1) := (blk_cell BK134.out 1).trans rfl; have hcz10_2 : w9.cell? ⟨gb134, 2, none⟩ = some (.int .i64 a0_2) := (blk_cell BK134.out 2).trans rfl; have hcz10_3 : w9.cell? ⟨gb134, 3, none⟩ = some (.int .u64 a0_3) := (blk_cell BK134.out 3).trans rfl; have hcz10_4 : w9.cell? ⟨gb134, 4, none⟩ = some (.string a0_4) := (blk_cell BK134.out 4).trans rfl; have hcz10_5 : w9.cell? ⟨gb134, 5, none⟩ = some (.int .u64 a0_5) := (blk_cell BK134.out 5).trans rfl; have hfz10_0 := blk_frozen BK134.out 0; have hfz10_1 := blk_frozen BK134.out 1; have hfz10_2 := blk_frozen BK134.out 2; have hfz10_3 := blk_frozen BK134.out 3; have hfz10_4 := blk_frozen BK134.out 4; have hfz10_5 := blk_frozen BK134.out 5))
            go_ret
            exact ⟨by first | rfl | (simp [errW_none, errW_some] <;> rfl) | (simp [*, errW_none, errW_some] <;> rfl), by repeat (first | (with_reducible first | exact HB.out | apply bal | apply pbd | apply below_drew1 | refine below_set ?_ GE134.out) | exact HB.out)⟩
        · rw [if_neg c5] at H
          have c5b0 : (a0_4.toList == ([] : List UInt8)) = false := beq_eq_false_iff_ne.mpr c5
          have c5b1 : (a0_4.toList != ([] : List UInt8)) = true := bne_iff_ne.mpr c5
          obtain rfl := Option.some.inj H
          go_enter Try.func88, Try.ntmps88
          go_wp2_with (first | ((with_reducible refine gate_dst (N := 1) rfl ?_); (try (refine gate_guard (by rfl) ?_; dsimp only)); refine box_event ?hg (N := 1) ?hd (cs := #[.int .i64 a0_0, .slice A0_1 l0_1.length c0_1, .int .i64 a0_2, .int .u64 a0_3, .string a0_4, .int .u64 a0_5]) (t := 46) ?hr ?_; (case hd => rfl); (case hg => rfl); (case hr => first | (go_simp; done) | (go_simp; rfl)); intro gb134 hg w11 hbox hb; have n0_ := amk (below_step (by repeat (first | (with_reducible first | exact HB.out | apply bal | apply pbd | apply below_drew1) | exact HB.out)) hb); have n1_ := amk (hbox); have n2_ := amk ((by rw [hg]; exact (below_size (by repeat (first | (with_reducible first | exact HB.out | apply bal | apply pbd | apply below_drew1) | exact HB.out))) : w.heap.size ≤ gb134)); have n3_ := amk ((by rw [hg]; exact (below_size (by repeat (first | (with_reducible first | exact HB.out | apply bal | apply pbd | apply below_drew1) | exact HB.out))) : w.heap.size ≤ gb134)); clear HB; have HB := n0_; have BK134 := n1_; have GW134 := n2_; have GE134 := n3_; clear n0_ n1_ n2_ n3_; clear hb hbox hg; have hcz12_0 : w11.cell? ⟨gb134, 0, none⟩ = some (.int .i64 a0_0) := (blk_cell BK134.out 0).trans rfl; have hcz12_1 : w11.cell? ⟨gb134, 1, none⟩ = some (.slice A0_1 l0_1.length c0_1) := (blk_cell BK134.out 1).trans rfl; have hcz12_2 : w11.cell? ⟨gb134, 2, none⟩ = some (.int .i64 a0_2) := (blk_cell BK134.out 2).trans rfl; have hcz12_3 : w11.cell? ⟨gb134, 3, none⟩ = some (.int .u64 a0_3) := (blk_cell BK134.out 3).trans rfl; have hcz12_4 : w11.cell? ⟨gb134, 4, none⟩ = some (.string a0_4) := (blk_cell BK134.out 4).trans rfl; have hcz12_5 : w11.cell? ⟨gb134, 5, none⟩ = some (.int .u64 a0_5) := (blk_cell BK134.out 5).trans rfl; have hfz12_0 := blk_frozen BK134.out 0; have hfz12_1 := blk_frozen BK134.out 1; have hfz12_2 := blk_frozen BK134.out 2; have hfz12_3 := blk_frozen BK134.out 3; have hfz12_4 := blk_frozen BK134.out 4; have hfz12_5 := blk_frozen BK134.out 5))
          go_ret
          exact ⟨by first | rfl | (simp [errW_none, errW_some] <;> rfl) | (simp [*, errW_none, errW_some] <;> rfl), by repeat (first | (with_reducible first | exact HB.out | apply bal | apply pbd | apply below_drew1 | refine below_set ?_ GE134.out) | exact HB.out)⟩
      · rw [if_neg c4] at H
        have c4b0 : (a0_3 == 0) = false := beq_eq_false_iff_ne.mpr c4
        have c4b1 : (a0_3 != 0) = true := bne_iff_ne.mpr c4
        obtain rfl := Option.some.inj H
        go_enter Try.func88, Try.ntmps88
        go_wp2_with (first | ((with_reducible refine gate_dst (N := 1) rfl ?_); (try (refine gate_guard (by rfl) ?_; dsimp only)); refine box_event ?hg (N := 1) ?hd (cs := #[.int .i64 a0_0, .slice A0_1 l0_1.length c0_1, .int .i64 a0_2, .int .u64 a0_3, .string a0_4, .int .u64 a0_5]) (t := 46) ?hr ?_; (case hd => rfl); (case hg => rfl); (case hr => first | (go_simp; done) | (go_simp; rfl)); intro gb134 hg w13 hbox hb; have n0_ := amk (below_step (by repeat (first | (with_reducible first | exact HB.out | apply bal | apply pbd | apply below_drew1) | exact HB.out)) hb); have n1_ := amk (hbox); have n2_ := amk ((by rw [hg]; exact (below_size (by repeat (first | (with_reducible first | exact HB.out | apply bal | apply pbd | apply below_drew1) | exact HB.out))) : w.heap.size ≤ gb134)); have n3_ := amk ((by rw [hg]; exact (below_size (by repeat (first | (with_reducible first | exact HB.out | apply bal | apply pbd | apply below_drew1) | exact HB.out))) : w.heap.size ≤ gb134)); clear HB; have HB := n0_; have BK134 := n1_; have GW134 := n2_; have GE134 := n3_; clear n0_ n1_ n2_ n3_; clear hb hbox hg; have hcz14_0 : w13.cell? ⟨gb134, 0, none⟩ = some (.int .i64 a0_0) := (blk_cell BK134.out 0).trans rfl; have hcz14_1 : w13.cell? ⟨gb134, 1, none⟩ = some (.slice A0_1 l0_1.length c0_1) := (blk_cell BK134.out 1).trans rfl; have hcz14_2 : w13.cell? ⟨gb134, 2, none⟩ = some (.int .i64 a0_2) := (blk_cell BK134.out 2).trans rfl; have hcz14_3 : w13.cell? ⟨gb134, 3, none⟩ = some (.int .u64 a0_3) := (blk_cell BK134.out 3).trans rfl; have hcz14_4 : w13.cell? ⟨gb134, 4, none⟩ = some (.string a0_4) := (blk_cell BK134.out 4).trans rfl; have hcz14_5 : w13.cell? ⟨gb134, 5, none⟩ = some (.int .u64 a0_5) := (blk_cell BK134.out 5).trans rfl; have hfz14_0 := blk_frozen BK134.out 0; have hfz14_1 := blk_frozen BK134.out 1; have hfz14_2 := blk_frozen BK134.out 2; have hfz14_3 := blk_frozen BK134.out 3; have hfz14_4 := blk_frozen BK134.out 4; have hfz14_5 := blk_frozen BK134.out 5))
        go_ret
        exact ⟨by first | rfl | (simp [errW_none, errW_some] <;> rfl) | (simp [*, errW_none, errW_some] <;> rfl), by repeat (first | (with_reducible first | exact HB.out | apply bal | apply pbd | apply below_drew1 | refine below_set ?_ GE134.out) | exact HB.out)⟩
    · rw [if_neg c3] at H
      have c3b0 : (a0_2 == 0) = false := beq_eq_false_iff_ne.mpr c3
      have c3b1 : (a0_2 != 0) = true := bne_iff_ne.mpr c3
      obtain rfl := Option.some.inj H
      go_enter Try.func88, Try.ntmps88
      go_wp2_with (first | ((with_reducible refine gate_dst (N := 1) rfl ?_); (try (refine gate_guard (by rfl) ?_; dsimp only)); refine box_event ?hg (N := 1) ?hd (cs := #[.int .i64 a0_0, .slice A0_1 l0_1.length c0_1, .int .i64 a0_2, .int .u64 a0_3, .string a0_4, .int .u64 a0_5]) (t := 46) ?hr ?_; (case hd => rfl); (case hg => rfl); (case hr => first | (go_simp; done) | (go_simp; rfl)); intro gb134 hg w15 hbox hb; have n0_ := amk (below_step (by repeat (first | (with_reducible first | exact HB.out | apply bal | apply pbd | apply below_drew1) | exact HB.out)) hb); have n1_ := amk (hbox); have n2_ := amk ((by rw [hg]; exact (below_size (by repeat (first | (with_reducible first | exact HB.out | apply bal | apply pbd | apply below_drew1) | exact HB.out))) : w.heap.size ≤ gb134)); have n3_ := amk ((by rw [hg]; exact (below_size (by repeat (first | (with_reducible first | exact HB.out | apply bal | apply pbd | apply below_drew1) | exact HB.out))) : w.heap.size ≤ gb134)); clear HB; have HB := n0_; have BK134 := n1_; have GW134 := n2_; have GE134 := n3_; clear n0_ n1_ n2_ n3_; clear hb hbox hg; have hcz16_0 : w15.cell? ⟨gb134, 0, none⟩ = some (.int .i64 a0_0) := (blk_cell BK134.out 0).trans rfl; have hcz16_1 : w15.cell? ⟨gb134, 1, none⟩ = some (.slice A0_1 l0_1.length c0_1) := (blk_cell BK134.out 1).trans rfl; have hcz16_2 : w15.cell? ⟨gb134, 2, none⟩ = some (.int .i64 a0_2) := (blk_cell BK134.out 2).trans rfl; have hcz16_3 : w15.cell? ⟨gb134, 3, none⟩ = some (.int .u64 a0_3) := (blk_cell BK134.out 3).trans rfl; have hcz16_4 : w15.cell? ⟨gb134, 4, none⟩ = some (.string a0_4) := (blk_cell BK134.out 4).trans rfl; have hcz16_5 : w15.cell? ⟨gb134, 5, none⟩ = some (.int .u64 a0_5) := (blk_cell BK134.out 5).trans rfl; have hfz16_0 := blk_frozen BK134.out 0; have hfz16_1 := blk_frozen BK134.out 1; have hfz16_2 := blk_frozen BK134.out 2; have hfz16_3 := blk_frozen BK134.out 3; have hfz16_4 := blk_frozen BK134.out 4; have hfz16_5 := blk_frozen BK134.out 5))
      go_ret
      exact ⟨by first | rfl | (simp [errW_none, errW_some] <;> rfl) | (simp [*, errW_none, errW_some] <;> rfl), by repeat (first | (with_reducible first | exact HB.out | apply bal | apply pbd | apply below_drew1 | refine below_set ?_ GE134.out) | exact HB.out)⟩
  · rw [if_neg c2] at H
    have c2b0 : (a0_0 == 0) = false := beq_eq_false_iff_ne.mpr c2
    have c2b1 : (a0_0 != 0) = true := bne_iff_ne.mpr c2
    obtain rfl := Option.some.inj H
    go_enter Try.func88, Try.ntmps88
    go_wp2_with (first | ((with_reducible refine gate_dst (N := 1) rfl ?_); (try (refine gate_guard (by rfl) ?_; dsimp only)); refine box_event ?hg (N := 1) ?hd (cs := #[.int .i64 a0_0, .slice A0_1 l0_1.length c0_1, .int .i64 a0_2, .int .u64 a0_3, .string a0_4, .int .u64 a0_5]) (t := 46) ?hr ?_; (case hd => rfl); (case hg => rfl); (case hr => first | (go_simp; done) | (go_simp; rfl)); intro gb134 hg w17 hbox hb; have n0_ := amk (below_step (by repeat (first | (with_reducible first | exact HB.out | apply bal | apply pbd | apply below_drew1) | exact HB.out)) hb); have n1_ := amk (hbox); have n2_ := amk ((by rw [hg]; exact (below_size (by repeat (first | (with_reducible first | exact HB.out | apply bal | apply pbd | apply below_drew1) | exact HB.out))) : w.heap.size ≤ gb134)); have n3_ := amk ((by rw [hg]; exact (below_size (by repeat (first | (with_reducible first | exact HB.out | apply bal | apply pbd | apply below_drew1) | exact HB.out))) : w.heap.size ≤ gb134)); clear HB; have HB := n0_; have BK134 := n1_; have GW134 := n2_; have GE134 := n3_; clear n0_ n1_ n2_ n3_; clear hb hbox hg; have hcz18_0 : w17.cell? ⟨gb134, 0, none⟩ = some (.int .i64 a0_0) := (blk_cell BK134.out 0).trans rfl; have hcz18_1 : w17.cell? ⟨gb134, 1, none⟩ = some (.slice A0_1 l0_1.length c0_1) := (blk_cell BK134.out 1).trans rfl; have hcz18_2 : w17.cell? ⟨gb134, 2, none⟩ = some (.int .i64 a0_2) := (blk_cell BK134.out 2).trans rfl; have hcz18_3 : w17.cell? ⟨gb134, 3, none⟩ = some (.int .u64 a0_3) := (blk_cell BK134.out 3).trans rfl; have hcz18_4 : w17.cell? ⟨gb134, 4, none⟩ = some (.string a0_4) := (blk_cell BK134.out 4).trans rfl; have hcz18_5 : w17.cell? ⟨gb134, 5, none⟩ = some (.int .u64 a0_5) := (blk_cell BK134.out 5).trans rfl; have hfz18_0 := blk_frozen BK134.out 0; have hfz18_1 := blk_frozen BK134.out 1; have hfz18_2 := blk_frozen BK134.out 2; have hfz18_3 := blk_frozen BK134.out 3; have hfz18_4 := blk_frozen BK134.out 4; have hfz18_5 := blk_frozen BK134.out 5))
    go_ret
    exact ⟨by first | rfl | (simp [errW_none, errW_some] <;> rfl) | (simp [*, errW_none, errW_some] <;> rfl), by repeat (first | (with_reducible first | exact HB.out | apply bal | apply pbd | apply below_drew1 | refine below_set ?_ GE134.out) | exact HB.out)⟩
end Go.Proofs.Ytoeklekjhaigoaa.M0
end
section
namespace Go.Proofs.Ytoeklekjhaigoaa.QOne
open Go.Proofs.Ytoeklekjhaigoaa.Al Go.RowKit Go.Proofs.YtoeklekjhaigoaaW.PrintWords Go.Proofs.YtoeklekjhaigoaaW.PrintLast Go.Proofs.YtoeklekjhaigoaaW.PrintMore Go.Proofs.Ytoeklekjhaigoaa.M0 Go.Proofs.Ytoeklekjhaigoaa.QCond Go.Proofs.Ytoeklekjhaigoaa.QMean
set_option linter.unusedVariables false
set_option linter.unusedSimpArgs false
theorem rd46 (l : List S46) (i : Nat) (h : i < l.length) : rd_T46 l (i : Int) = l[i] := by
  unfold rd_T46; simp [List.getD, h]
theorem wr_succ (i : Nat) (h : i ≤ 100000) : wrap64 ((i : Int) + 1) = ((i + 1 : Nat) : Int) := by unfold wrap64; omega
theorem bare_f (c : S46) : doorwardref16_bare.f c.f0 c.f1 c.f2 c.f3 c.f4 c.f5 = some (bareB c) := by
  unfold doorwardref16_bare.f bareB
  by_cases h2 : c.f2 = 0
  · by_cases h3 : c.f3 = 0
    · by_cases h4 : c.f4.toList = []
      · by_cases h5 : c.f5 = 0 <;> simp [h2, h3, h4, h5]
      · simp [h2, h3, h4]
    · simp [h2, h3]
  · simp [h2]
theorem sign_f (s : ByteArray) : doorwardref16_sign.f s = some (signOk s) := by
  unfold doorwardref16_sign.f signOk signs
  generalize s.toList = l
  by_cases h1 : l = [61, 61]
  · rw [if_pos h1, h1]; rfl
  rw [if_neg h1]
  by_cases h2 : l = [33, 61]
  · rw [if_pos h2, h2]; rfl
  rw [if_neg h2]
  by_cases h3 : l = [60]
  · rw [if_pos h3, h3]; rfl
  rw [if_neg h3]
  by_cases h4 : l = [60, 61]
  · rw [if_pos h4, h4]; rfl
  rw [if_neg h4]
  by_cases h5 : l = [62]
  · rw [if_pos h5, h5]; rfl
  rw [if_neg h5]
  congr 1
  rw [Bool.eq_iff_iff]
  simp [h1, h2, h3, h4, h5]
theorem none_f0 (c : S46) : mean_none.f c.f0 c.f1 c.f2 c.f3 c.f4 c.f5 = some (noneB c) := by
  unfold mean_none.f noneB bareB
  by_cases h0 : c.f0 = 0
  · by_cases h2 : c.f2 = 0
    · by_cases h3 : c.f3 = 0
      · by_cases h4 : c.f4.toList = []
        · by_cases h5 : c.f5 = 0
          · rw [if_pos h0, if_pos h2, if_pos h3, if_pos h4, if_pos h5, Bool.eq_iff_iff.2 (show ((c.f1.length : Int) == 0) = true ↔ decide (c.f1.length = 0) = true by simp)]
            simp [h0, h2, h3, h4, h5]
          · simp [h0, h2, h3, h4, h5]
        · simp [h0, h2, h3, h4]
      · simp [h0, h2, h3]
    · simp [h0, h2]
  · simp [h0]
theorem idx_loop (s : ByteArray) : ∀ (n i : Nat), 6 - i ≤ n → i ≤ 6 → ∀ k, n < k →
    (slices_Index_string_string.l0 k ([(⟨#[61, 61]⟩ : ByteArray), (⟨#[33, 61]⟩ : ByteArray), (⟨#[60]⟩ : ByteArray), (⟨#[60, 61]⟩ : ByteArray), (⟨#[62]⟩ : ByteArray), (⟨#[62, 61]⟩ : ByteArray)]) s 6 (i : Int)).map (fun t => decide (t ≥ 0)) = some ((signs.drop i).contains s.toList) := by
  intro n
  induction n with
  | zero =>
    intro i h1 h2 k hk
    obtain ⟨k, rfl⟩ : ∃ m, k = m + 1 := ⟨k - 1, by omega⟩
    obtain rfl : i = 6 := by omega
    simp only [slices_Index_string_string.l0]
    rw [if_neg (by omega)]
    rfl
  | succ n ih =>
    intro i h1 h2 k hk
    obtain ⟨k, rfl⟩ : ∃ m, k = m + 1 := ⟨k - 1, by omega⟩
    by_cases h6 : i = 6
    · subst h6
      simp only [slices_Index_string_string.l0]
      rw [if_neg (by omega)]
      rfl
    · have hi := ih (i + 1) (by omega) (by omega) k (by omega)
      simp only [slices_Index_string_string.l0]
      rw [if_pos (by omega), if_pos (by omega), if_pos (by simp; omega), wr_succ i (by omega)]
      have hd : signs.drop i = (rdOf ByteArray.empty [(⟨#[61, 61]⟩ : ByteArray), (⟨#[33, 61]⟩ : ByteArray), (⟨#[60]⟩ : ByteArray), (⟨#[60, 61]⟩ : ByteArray), (⟨#[62]⟩ : ByteArray), (⟨#[62, 61]⟩ : ByteArray)] (i : Int)).toList :: signs.drop (i + 1) := by
        have hi6 : i = 0 ∨ i = 1 ∨ i = 2 ∨ i = 3 ∨ i = 4 ∨ i = 5 := by omega
        rcases hi6 with rfl | rfl | rfl | rfl | rfl | rfl <;> (rw [ByteArray.toList_eq]; rfl)
      rw [hd, List.contains_cons]
      generalize (rdOf ByteArray.empty [(⟨#[61, 61]⟩ : ByteArray), (⟨#[33, 61]⟩ : ByteArray), (⟨#[60]⟩ : ByteArray), (⟨#[60, 61]⟩ : ByteArray), (⟨#[62]⟩ : ByteArray), (⟨#[62, 61]⟩ : ByteArray)] (i : Int)).toList = q
      by_cases hs : s.toList = q
      · rw [if_pos hs, hs]
        simp
      · rw [if_neg hs, hi]
        have : (s.toList == q) = false := by simpa using hs
        rw [this, Bool.false_or]
theorem signs_f (s : ByteArray) (k : Nat) (hk : 7 ≤ k) : (types_signs.f).bind (fun t => slices_Contains_string_string.f k t s) = some (signOk s) := by
  unfold types_signs.f slices_Contains_string_string.f slices_Index_string_string.f
  have h := idx_loop s 6 0 (by omega) (by omega) k (by omega)
  rw [Option.bind_some]
  show (slices_Index_string_string.l0 k _ s 6 0).bind (fun t => some (decide (t ≥ 0))) = _
  have hb : ∀ o : Option Int, (o.bind fun t => some (decide (t ≥ 0))) = o.map fun t => decide (t ≥ 0) := by intro o; cases o <;> rfl
  rw [hb]
  exact h
theorem one_f (c : S46) (k : Nat) (hk : 10 ≤ k) : types_one.f k c.f0 c.f1 c.f2 c.f3 c.f4 c.f5 = some (oneB c) := by
  have j : ∀ b : Bool, b = bareB c → types_one.j0 k b c.f0 c.f1 c.f2 c.f3 c.f4 c.f5 = some (oneB c) := by
    intro b hb
    obtain ⟨k, rfl⟩ : ∃ m, k = m + 1 + 1 := ⟨k - 2, by omega⟩
    simp only [types_one.j0, types_one.j1]
    unfold oneB
    rw [← hb]
    by_cases h4 : c.f0 = 4
    · rw [if_pos h4, if_pos h4]
      by_cases g0 : 0 ≤ c.f2
      · rw [if_pos g0]
        by_cases g6 : c.f2 < 6
        · rw [if_pos g6, decide_eq_true (show 0 ≤ c.f2 ∧ c.f2 < 6 from ⟨g0, g6⟩)]
          have hs := signs_f c.f4 (k + 1) (by omega)
          unfold types_signs.f at hs ⊢
          rw [Option.bind_some] at hs ⊢
          rw [hs, Option.bind_some, Bool.eq_iff_iff.2 (show ((c.f1.length : Int) == 0) = true ↔ decide (c.f1.length = 0) = true by simp)]
          cases signOk c.f4 <;> rfl
        · rw [if_neg g6, decide_eq_false (show ¬ (0 ≤ c.f2 ∧ c.f2 < 6) by omega)]; rfl
      · rw [if_neg g0, decide_eq_false (show ¬ (0 ≤ c.f2 ∧ c.f2 < 6) by omega)]; rfl
    · rw [if_neg h4, if_neg h4]
      by_cases h1 : c.f0 = 1
      · rw [if_pos h1, if_pos (by rw [h1]; rfl), if_pos (Or.inl h1)]
        cases b
        · rfl
        · rw [if_pos rfl, Bool.true_and, decide_eq_decide.2 (show ((c.f1.length : Int) ≥ 2) ↔ 2 ≤ c.f1.length by omega)]
      · rw [if_neg h1]
        by_cases h2 : c.f0 = 2
        · rw [if_pos (by rw [h2]; rfl), if_pos (Or.inr h2)]
          cases b
          · rfl
          · rw [if_pos rfl, Bool.true_and, decide_eq_decide.2 (show ((c.f1.length : Int) ≥ 2) ↔ 2 ≤ c.f1.length by omega)]
        · rw [if_neg (by simpa using h2), if_neg (show ¬ (c.f0 = 1 ∨ c.f0 = 2) by omega)]
          by_cases h3 : c.f0 = 3
          · rw [if_pos h3, if_pos h3]
            cases b
            · rfl
            · rw [if_pos rfl, Bool.true_and, Bool.eq_iff_iff.2 (show ((c.f1.length : Int) == 1) = true ↔ decide (c.f1.length = 1) = true by simp; omega)]
          · rw [if_neg h3, if_neg h3]
  unfold types_one.f
  by_cases h2 : c.f2 = 0
  · rw [if_pos h2]
    by_cases h3 : c.f3 = 0
    · rw [if_pos h3]
      by_cases h4 : c.f4.toList = []
      · rw [if_pos h4]
        refine j _ ?_
        unfold bareB
        rw [decide_eq_true h2, decide_eq_true h3, decide_eq_true h4]
        simp only [Bool.true_and]
        by_cases h5 : c.f5 = 0 <;> simp [h5]
      · rw [if_neg h4]
        exact j _ (by unfold bareB; rw [decide_eq_false h4]; simp)
    · rw [if_neg h3]
      exact j _ (by unfold bareB; rw [decide_eq_false h3]; simp)
  · rw [if_neg h2]
    exact j _ (by unfold bareB; rw [decide_eq_false h2]; simp)
def FitsC (c : S46) : Prop := ∀ k, 4 * nodes c ≤ k → doorwardref16_fits.f k c.f0 c.f1 c.f2 c.f3 c.f4 c.f5 = some (fitsB c)
theorem fits_loop (l : List S46) (hl : l.length ≤ 1000) (h : ∀ c ∈ l, FitsC c) : ∀ (n i : Nat), l.length - i ≤ n → i ≤ l.length → ∀ k, 4 * nodesL (l.drop i) + 1 ≤ k → doorwardref16_fits.l0 k l (l.length : Int) (i : Int) = some (fitsL (l.drop i)) := by
  intro n
  induction n with
  | zero =>
    intro i h1 h2 k hk
    obtain ⟨k, rfl⟩ : ∃ m, k = m + 1 := ⟨k - 1, by omega⟩
    simp only [doorwardref16_fits.l0]
    rw [if_neg (by omega), List.drop_eq_nil_of_le (by omega)]; rfl
  | succ n ih =>
    intro i h1 h2 k hk
    obtain ⟨k, rfl⟩ : ∃ m, k = m + 1 := ⟨k - 1, by omega⟩
    by_cases hlt : i < l.length
    · simp only [doorwardref16_fits.l0]
      rw [if_pos (by omega), if_pos (by omega), if_pos (by omega), rd46 l i hlt, wr_succ i (by omega)]
      rw [List.drop_eq_getElem_cons hlt] at hk ⊢
      rw [nodesL] at hk
      have hp := nodes_pos l[i]
      rw [h l[i] (List.getElem_mem hlt) k (by omega), Option.bind_some, fitsL]
      cases fitsB l[i] with
      | true => rw [if_pos rfl, Bool.true_and]; exact ih (i + 1) (by omega) (by omega) k (by omega)
      | false => rfl
    · simp only [doorwardref16_fits.l0]
      rw [if_neg (by omega), List.drop_eq_nil_of_le (by omega)]; rfl
theorem fits_f : ∀ (n : Nat), n ≤ 1000 → ∀ c : S46, nodes c ≤ n → FitsC c := by
  intro n
  induction n with
  | zero => intro _ c h; have := nodes_pos c; omega
  | succ n ih =>
    intro hn c h k hk
    have e1 := nodes_eq c
    have e2 := len_nodes c.f1
    have hkids : ∀ d ∈ c.f1, FitsC d := by
      intro d hd
      refine ih (by omega) d ?_
      have := nodes_mem hd
      omega
    obtain ⟨k, rfl⟩ : ∃ m, k = m + 4 := ⟨k - 4, by omega⟩
    have hl0 := fits_loop c.f1 (by omega) hkids c.f1.length 0 (by omega) (by omega) (k + 1) (by rw [List.drop_zero]; omega)
    rw [List.drop_zero] at hl0
    rw [fits_eq]
    unfold oneB
    simp only [doorwardref16_fits.f, doorwardref16_fits.j0, doorwardref16_fits.j1, bare_f, sign_f, Option.bind_some]
    by_cases h4 : c.f0 = 4
    · rw [if_pos h4, if_pos h4]
      by_cases g0 : 0 ≤ c.f2
      · rw [if_pos g0]
        by_cases g5 : c.f2 ≤ 5
        · rw [if_pos g5, decide_eq_true (show 0 ≤ c.f2 ∧ c.f2 < 6 by omega), Bool.true_and, Bool.eq_iff_iff.2 (show ((c.f1.length : Int) == 0) = true ↔ decide (c.f1.length = 0) = true by simp)]
          cases signOk c.f4 with
          | true =>
            rw [if_pos rfl, Bool.true_and]
            by_cases hz : c.f1.length = 0
            · rw [List.eq_nil_of_length_eq_zero hz]; rfl
            · rw [decide_eq_false hz]; rfl
          | false => rfl
        · rw [if_neg g5, decide_eq_false (show ¬ (0 ≤ c.f2 ∧ c.f2 < 6) by omega)]; rfl
      · rw [if_neg g0, decide_eq_false (show ¬ (0 ≤ c.f2 ∧ c.f2 < 6) by omega)]; rfl
    · rw [if_neg h4, if_neg h4]
      cases bareB c with
      | false =>
        rw [if_neg (by decide)]
        simp only [if_true]
        split
        · rfl
        · split
          · rfl
          · rfl
      | true =>
        rw [if_pos rfl]
        have two : (if (decide ((c.f1.length : Int) < 2)) = true then some false else doorwardref16_fits.l0 (k + 1) c.f1 (c.f1.length : Int) 0) = some (decide (2 ≤ c.f1.length) && fitsL c.f1) := by
          by_cases g : 2 ≤ c.f1.length
          · rw [if_neg (by rw [decide_eq_true_eq]; omega), decide_eq_true g, Bool.true_and]; exact hl0
          · rw [if_pos (decide_eq_true (by omega)), decide_eq_false g]; rfl
        by_cases h1 : c.f0 = 1
        · rw [if_pos h1, if_neg (by decide), if_neg (by omega), if_pos (Or.inl h1), Bool.true_and]
          exact two
        · rw [if_neg h1]
          by_cases h2 : c.f0 = 2
          · rw [if_pos h2, if_neg (by decide), if_neg (by omega), if_pos (Or.inr h2), Bool.true_and]
            exact two
          · rw [if_neg h2, if_neg (show ¬ (c.f0 = 1 ∨ c.f0 = 2) by omega)]
            by_cases h3 : c.f0 = 3
            · rw [if_neg (by rw [h3]; decide), if_pos h3, if_pos h3, Bool.true_and]
              by_cases g : c.f1.length = 1
              · rw [if_pos (by omega), if_neg (by decide), decide_eq_true g, Bool.true_and]; exact hl0
              · rw [if_neg (by omega), decide_eq_false g]; rfl
            · rw [if_pos (by simpa using h3), if_neg h3]; rfl
end Go.Proofs.Ytoeklekjhaigoaa.QOne
end
section
namespace Go.Proofs.Ytoeklekjhaigoaa.HMany
open Go.Proofs.Ytoeklekjhaigoaa.Al Go.RowKit Go.Proofs.YtoeklekjhaigoaaW.PrintWords Go.Proofs.YtoeklekjhaigoaaW.PrintLast Go.Proofs.YtoeklekjhaigoaaW.PrintMore Go.Proofs.Ytoeklekjhaigoaa.M0 Go.Proofs.Ytoeklekjhaigoaa.QCond
set_option linter.unusedVariables false
set_option linter.unusedSimpArgs false
set_option maxRecDepth 100000
attribute [local go_sem] max2_int min2_int max_two min_two
theorem hInfo46 : (Try.prog.info? 46).map (fun i => (i.zero, i.size, i.bytes)) = some (some (.agg #[(.int .i64 0), (.slice none 0 0), (.int .i64 0), (.int .u64 0), (.string ⟨#[]⟩), (.int .u64 0)]), 6, 72) := by kernel_rfl
abbrev cells46 (c : S46) (A : Option Addr) (n : Nat) : List Value := [.int .i64 c.f0, .slice A c.f1.length n, .int .i64 c.f2, .int .u64 c.f3, .string c.f4, .int .u64 c.f5]
/-- A condition that is read, as an element that may stand in a row: it leads to elder blocks. -/
theorem elder46 {w : World} {c : S46} {A : Option Addr} {n : Nat} (hC : Kd.C k46 w A c.f1.length c.f1) (hn : c.f1.length ≤ n) : Kd.FK k46 w (fun k => k < w.heap.size) c (cells46 c A n) :=
  k46_mkF w _ c hn (Kd.C_F k46_heap hC)
theorem reps_one46 {W : World} {ok : Nat → Prop} {c : S46} {A : Option Addr} {n : Nat} (h : Kd.FK k46 W ok c (cells46 c A n)) : Reps (Kd.FK k46 W ok) k46.sz [c] (cells46 c A n) := by
  have := Reps.snoc (Reps.none (Kd.FK k46 W ok) k46.sz) h rfl
  simpa using this
/-- The queue. -/
structure Qu (w wr : World) (v : Value) (xs : List S46) : Prop where
  N : Kd.N k46 46 wr w.heap.size (fun _ => True) v xs
  B : Below w.heap.size w wr
theorem nodesL_take (l : List S46) (d : Nat) (h : d < l.length) : nodesL (l.drop d) = nodes (rd_T46 l d) + nodesL (l.drop (d + 1)) := by
  rw [List.drop_eq_getElem_cons h, nodesL]
  unfold rd_T46; simp [List.getD, h]
def cutQ (L : Nat) (xs : List S46) : List S46 := xs.take (L + 1)
theorem cut_len (L : Nat) (xs : List S46) : (cutQ L xs).length = min (L + 1) xs.length := by unfold cutQ; rw [List.length_take]
theorem cut_put (L : Nat) (xs ks ys : List S46) (k : Nat) (hk : k < ks.length) (h : cutQ L (xs ++ ks.take k) = ys) (hl : ys.length ≤ L) : cutQ L (xs ++ ks.take (k + 1)) = ys ++ [rd_T46 ks k] := by
  have e := cut_len L (xs ++ ks.take k)
  rw [h] at e
  have hy : ys = xs ++ ks.take k := by rw [← h]; unfold cutQ; rw [List.take_of_length_le]; omega
  have e2 : ks.take (k + 1) = ks.take k ++ [rd_T46 ks k] := by
    rw [List.take_succ_eq_append_getElem hk]; unfold rd_T46; simp [List.getD, hk]
  rw [e2, ← List.append_assoc, ← hy]
  unfold cutQ; rw [List.take_of_length_le]; rw [List.length_append, List.length_singleton]; omega
theorem cut_stay (L : Nat) (xs ks ys : List S46) (k : Nat) (hk : k < ks.length) (h : cutQ L (xs ++ ks.take k) = ys) (hl : L < ys.length) : cutQ L (xs ++ ks.take (k + 1)) = ys := by
  have e := cut_len L (xs ++ ks.take k)
  rw [h] at e
  have e2 : ks.take (k + 1) = ks.take k ++ [rd_T46 ks k] := by
    rw [List.take_succ_eq_append_getElem hk]; unfold rd_T46; simp [List.getD, hk]
  rw [e2, ← List.append_assoc, ← h]
  unfold cutQ; rw [List.take_append_of_le_length (by omega)]
structure Inv (c : S46) (L : Nat) (xs : List S46) (d : Nat) : Prop where
  h1 : xs.length ≤ L + 1
  h2 : 1 ≤ xs.length
  h3 : d ≤ xs.length
  h4 : xs.length ≤ L → d + nodesL (xs.drop d) = nodes c
  h5 : L < xs.length → L + 1 ≤ nodes c
theorem Inv.start (c : S46) (L : Nat) (hL : 1 ≤ L) : Inv c L [c] 0 :=
  ⟨by simp, by simp, by simp, fun _ => by rw [List.drop_zero, nodesL, nodesL]; omega, fun h => by simp at h; omega⟩
theorem Inv.next {c : S46} {L : Nat} {xs ys ks : List S46} {d : Nat} (h : Inv c L xs d) (hd : d < xs.length) (hl : xs.length ≤ L) (hk : (rd_T46 xs d).f1 = ks) (hy : cutQ L (xs ++ ks.take ks.length) = ys) : Inv c L ys (d + 1) := by
  rw [List.take_length] at hy
  have e := cut_len L (xs ++ ks)
  rw [hy, List.length_append] at e
  have e1 := h.h4 hl
  rw [nodesL_take xs d hd, nodes_eq, hk] at e1
  have e2 := len_nodes ks
  have e3 := len_nodes (xs.drop (d + 1))
  rw [List.length_drop] at e3
  refine ⟨by omega, by omega, by omega, fun g => ?_, fun g => by omega⟩
  have hy2 : ys = xs ++ ks := by rw [← hy]; unfold cutQ; rw [List.take_of_length_le]; rw [List.length_append]; omega
  rw [hy2, List.drop_append_of_le_length (by omega), nodesL_append]; omega
theorem Inv.done {c : S46} {L : Nat} {xs : List S46} {d : Nat} (h : Inv c L xs d) (hd : xs.length ≤ d ∨ L < xs.length) : xs.length = min (nodes c) (L + 1) := by
  by_cases hl : xs.length ≤ L
  · have e1 := h.h4 hl
    have : d = xs.length := by have := h.h3; omega
    rw [List.drop_eq_nil_of_le (by omega), nodesL] at e1; omega
  · have := h.h5 (by omega); have := h.h1; omega
theorem own_of (g n c k : Nat) : (some k ≠ (Value.slice (some ⟨g, 0, none⟩) n c).ownBlock) = (k ≠ g) := by simp [Value.ownBlock]
theorem atF46 {w : World} {ok : Nat → Prop} {A : Option Addr} {n : Nat} {xs : List S46} (h : Kd.F k46 w ok A n xs) (i : Int) (h0 : 0 ≤ i) (h1 : i < n) : ∃ ad A1 c1, A = some ad ∧ w.cell? (ad.add (i.toNat * 6)) = some (.int .i64 (rd_T46 xs i).f0) ∧ w.cell? ⟨(ad.add (i.toNat * 6)).block, (ad.add (i.toNat * 6)).off + 1, none⟩ = some (.slice A1 (rd_T46 xs i).f1.length c1) ∧ w.cell? ⟨(ad.add (i.toNat * 6)).block, (ad.add (i.toNat * 6)).off + 2, none⟩ = some (.int .i64 (rd_T46 xs i).f2) ∧ w.cell? ⟨(ad.add (i.toNat * 6)).block, (ad.add (i.toNat * 6)).off + 3, none⟩ = some (.int .u64 (rd_T46 xs i).f3) ∧ w.cell? ⟨(ad.add (i.toNat * 6)).block, (ad.add (i.toNat * 6)).off + 4, none⟩ = some (.string (rd_T46 xs i).f4) ∧ w.cell? ⟨(ad.add (i.toNat * 6)).block, (ad.add (i.toNat * 6)).off + 5, none⟩ = some (.int .u64 (rd_T46 xs i).f5) ∧ (rd_T46 xs i).f1.length ≤ c1 ∧ Kd.FK k46 w ok (rd_T46 xs i) (cells46 (rd_T46 xs i) A1 c1) := by
  obtain ⟨ad, c, e, _, hK, hc0, _⟩ := Kd.F_get h z46 i h0 h1
  have hc : ∀ j u, c[j]? = some u → w.cell? (ad.add (i.toNat * 6 + j)) = some u := hc0
  obtain ⟨A1, c1, rfl, l1, g1⟩ := k46_openF hK
  exact ⟨ad, A1, c1, e, hc 0 _ rfl, by rw [← add_field _ _ 1 (by omega)]; exact hc 1 _ rfl, by rw [← add_field _ _ 2 (by omega)]; exact hc 2 _ rfl, by rw [← add_field _ _ 3 (by omega)]; exact hc 3 _ rfl, by rw [← add_field _ _ 4 (by omega)]; exact hc 4 _ rfl, by rw [← add_field _ _ 5 (by omega)]; exact hc 5 _ rfl, l1, hK⟩
set_option maxHeartbeats 2000000 in
theorem many_any (c : S46) (A1 : Option Addr) (c1 : Nat) (L : Nat) (w : World) (hC : Kd.C k46 w A1 c.f1.length c.f1) (hc1 : c.f1.length ≤ c1) (hL : 1 ≤ L) (hL2 : L ≤ 1000) :
    Calls Try.prog 43 #[.agg #[.int .i64 c.f0, .slice A1 c.f1.length c1, .int .i64 c.f2, .int .u64 c.f3, .string c.f4, .int .u64 c.f5], .int .i64 (L : Int)] w fun e w' => e = .returned (.int .i64 ((min (nodes c) (L + 1) : Nat) : Int)) ∧ Below w.heap.size w w' := by
  have hu46 := Try.underlying46
  have hFK := elder46 hC hc1
  have HB0 := amk (bal (Below.refl w.heap.size w) (.cells #[.int .i64 c.f0, .slice A1 c.f1.length c1, .int .i64 c.f2, .int .u64 c.f3, .string c.f4, .int .u64 c.f5] 46))
  have HF0 := amk (Kd.FK_below hFK HB0.out)
  have HS := amk (Inv.start c L hL)
  clear hC hFK
  go_enter Try.func43, Try.ntmps43
  go_wp2_with ((with_reducible refine gate_dst (N := 10) rfl ?_); refine Kd.N_lit k46 w.heap.size 46 ?hg (N' := 10) ?hd (xs := [c]) (inner := cells46 c A1 c1) (ok := fun _ => True) (okp := fun k => k < w.heap.size) ?hr ?hp (fun _ _ => trivial) trivial HB0.out HB0.out.size (by simp) ?_; (case hd => rfl); (case hg => rfl); (case hr => first | (go_simp; done) | (go_simp; rfl)); (case hp => exact reps_one46 HF0.out); intro v1 w1 hN hb hg hat; have HQ := amk (Qu.mk hN hb); clear hN hb hg hat)
  go_loopw [5, 6] (fun v i wr => ∃ (xs : List S46) (d : Nat), i = .int .i64 d ∧ Aside0 (Qu w wr v xs) ∧ Aside0 (Inv c L xs d)) (fun _ i _ => L + 2 - (intOf i).toNat)
  case atStart => exact ⟨[c], 0, rfl, HQ, HS⟩
  case round =>
    clear HQ HS HF0
    obtain ⟨xs, d, rfl, hq, hi⟩ := hrel
    have hi1 := hi.out.h1
    have hi2 := hi.out.h2
    have hi3 := hi.out.h3
    obtain ⟨g, cap, rfl, hg, hgl, _⟩ := Kd.N_form hq.out.N (by omega)
    by_cases hlt : d < xs.length ∧ xs.length ≤ L
    · obtain ⟨hd, hl⟩ := hlt
      have d1 : decide ((d : Int) < (xs.length : Int)) = true := decide_eq_true (by omega)
      have d2 : decide ((xs.length : Int) ≤ (L : Int)) = true := decide_eq_true (by omega)
      obtain ⟨c', hcl, hFK, hcc, _⟩ := Kd.N_elem hq.out.N z46 (d : Int) (by omega) (by omega)
      obtain ⟨A', n', rfl, hn', hFk⟩ := k46_openF hFK
      have hx1 := hcc 1 _ rfl
      have hrd : xs.getD (d : Int).toNat z46 = rd_T46 xs (d : Int) := rfl
      rw [hrd] at hFK hn' hFk hx1
      simp only [Int.toNat_natCast] at hx1
      rw [show k46.sz = 6 from rfl] at hx1
      generalize hks : (rd_T46 xs (d : Int)).f1 = ks at *
      have HN := amk (fun ys (hy : cutQ L (xs ++ ks.take ks.length) = ys) => hi.out.next hd hl hks hy)
      have HF := amk (show Kd.F k46 wr (fun b => True ∧ some b ≠ (Value.slice (some ⟨g, 0, none⟩) xs.length cap).ownBlock) A' ks.length ks from Kd.F_mono hFk (fun b hb => ⟨trivial, by rw [own_of]; exact hb.2⟩))
      have HY := amk (show cutQ L (xs ++ ks.take 0) = xs from by rw [List.take_zero, List.append_nil]; unfold cutQ; rw [List.take_of_length_le (by omega)])
      have i0 : (0 : Int) ≤ (d : Int) := by omega
      have i1 : (d : Int) < (xs.length : Int) := by omega
      have HD := amk hi3
      have HL := amk hL2
      have hki := Kd.F_max hFk
      clear hks hFK hFk hcc hcl hrd hi hi1 hi2 hi3 hg hgl
      go_wp2
      generalize hv : Value.slice (some ⟨g, 0, none⟩) xs.length cap = v at *
      clear hv
      go_loopw [5, 29] (fun v2 j w2 => ∃ (k : Nat) (ys : List S46), k ≤ ks.length ∧ j = .int .i64 k ∧ Aside0 (cutQ L (xs ++ ks.take k) = ys) ∧ Aside0 (Qu w w2 v2 ys) ∧ Aside0 (Kd.F k46 w2 (fun b => True ∧ some b ≠ v2.ownBlock) A' ks.length ks)) (fun _ j _ => ks.length - (intOf j).toNat)
      case atStart => exact ⟨0, xs, Nat.zero_le _, rfl, HY, hq, HF⟩
      case round =>
        clear HF HY hq hx1
        obtain ⟨k, ys, hk, rfl, hy, hq, hf⟩ := hrel
        by_cases hkl : k < ks.length
        · have e1 : decide ((k : Int) < (ks.length : Int)) = true := decide_eq_true (by omega)
          obtain ⟨ad, Ax, nx, rfl, hx0, hx1, hx2, hx3, hx4, hx5, hnx, hFK⟩ := atF46 hf.out (k : Int) (by omega) (by omega)
          simp only [Int.toNat_natCast] at hx0 hx1 hx2 hx3 hx4 hx5
          have j0 : (0 : Int) ≤ (k : Int) := by omega
          have j1 : (k : Int) < (ks.length : Int) := by omega
          have jw : wrap64 ((k : Int) + 1) = (k : Int) + 1 := by unfold wrap64; omega
          obtain ⟨Ay, cy, rfl⟩ := Kd.N_slice hq.out.N
          by_cases hyl : ys.length ≤ L
          · have e2 : decide ((ys.length : Int) ≤ (L : Int)) = true := decide_eq_true (by omega)
            have HP := amk (cut_put L xs ks ys k hkl hy.out hyl)
            rw [show rd_T46 ks ((k : Nat) : Int) = rd_T46 ks (k : Int) from rfl] at HP
            generalize rd_T46 ks (k : Int) = x at *
            have HA := amk (bal hq.out.B (.cells #[.int .i64 x.f0, .slice Ax x.f1.length nx, .int .i64 x.f2, .int .u64 x.f3, .string x.f4, .int .u64 x.f5] 46))
            have HN1 := amk (Kd.N_alloc hq.out.N (.cells #[.int .i64 x.f0, .slice Ax x.f1.length nx, .int .i64 x.f2, .int .u64 x.f3, .string x.f4, .int .u64 x.f5] 46))
            have HK1 := amk (Kd.FK_below hFK (bal (Below.refl wr.heap.size wr) (.cells #[.int .i64 x.f0, .slice Ax x.f1.length nx, .int .i64 x.f2, .int .u64 x.f3, .string x.f4, .int .u64 x.f5] 46)))
            have HF1 := amk (Kd.F_alloc hf.out (.cells #[.int .i64 x.f0, .slice Ax x.f1.length nx, .int .i64 x.f2, .int .u64 x.f3, .string x.f4, .int .u64 x.f5] 46))
            clear hFK hy hq hf
            go_wp2_with (at_builtin; refine Kd.N_append k46 (w0 := w) w.heap.size rfl (.tmp 37) (.tmp 39) 44 46 _ 72 rfl Try.underlying44 hInfo46 rfl (by decide) (by decide) _ ys x (cells46 x Ax nx) (fun _ => True) _ rfl (by simp [Act.eval, Act.put]) HK1.out (fun _ hk => hk) (fun _ _ => trivial) HN1.out HA.out HA.out.size (by omega) ?_; intro v1 w1 hN1 hb1 hg1 hat1; have HQ1 := amk (Qu.mk hN1 hb1); have HF2 := amk (Kd.F_after HF1.out hg1 hat1); clear hN1 hb1 hg1 hat1)
            refine ⟨⟨k + 1, ys ++ [x], by omega, by rfl, ⟨HP.out⟩, HQ1, HF2⟩, ?_⟩
            simp [intOf]; omega
          · have e2 : decide ((ys.length : Int) ≤ (L : Int)) = false := decide_eq_false (by omega)
            have HP := amk (cut_stay L xs ks ys k hkl hy.out (by omega))
            generalize rd_T46 ks (k : Int) = x at *
            have HQ1 := amk (Qu.mk (Kd.N_alloc hq.out.N (.cells #[.int .i64 x.f0, .slice Ax x.f1.length nx, .int .i64 x.f2, .int .u64 x.f3, .string x.f4, .int .u64 x.f5] 46)) (bal hq.out.B _))
            have HF2 := amk (Kd.F_alloc hf.out (.cells #[.int .i64 x.f0, .slice Ax x.f1.length nx, .int .i64 x.f2, .int .u64 x.f3, .string x.f4, .int .u64 x.f5] 46))
            clear hFK hy hq hf
            go_wp2
            refine ⟨⟨k + 1, ys, by omega, by rfl, ⟨HP.out⟩, HQ1, HF2⟩, ?_⟩
            simp [intOf]; omega
        · obtain rfl : k = ks.length := by omega
          have e1 : decide ((ks.length : Int) < (ks.length : Int)) = false := decide_eq_false (by omega)
          have HI := amk (HN.out ys hy.out)
          have dw : wrap64 ((d : Int) + 1) = (d : Int) + 1 := by have := HD.out; have := HL.out; unfold wrap64; omega
          clear hy hf HN
          go_wp2
          refine ⟨⟨ys, d + 1, by rfl, hq, HI⟩, ?_⟩
          have := HD.out
          simp [intOf]; omega
    · have HE := amk (hi.out.done (by omega))
      have HB := amk hq.out.B
      clear hg hgl hq hi
      by_cases hd : d < xs.length
      · have d1 : decide ((d : Int) < (xs.length : Int)) = true := decide_eq_true (by omega)
        have d2 : decide ((xs.length : Int) ≤ (L : Int)) = false := decide_eq_false (by omega)
        go_wp2
        go_ret
        exact ⟨congrArg (fun n : Nat => Ending.returned (.int .i64 (n : Int))) HE.out, HB.out⟩
      · have d1 : decide ((d : Int) < (xs.length : Int)) = false := decide_eq_false (by omega)
        go_wp2
        go_ret
        exact ⟨congrArg (fun n : Nat => Ending.returned (.int .i64 (n : Int))) HE.out, HB.out⟩
def doorwardref15_Many.f (a0_0 : Int) (l0_1 : List (S46)) (a0_2 : Int) (a0_3 : Int) (a0_4 : ByteArray) (a0_5 : Int) (a1 : Int) : Option (Int) :=
  if 1 ≤ a1 ∧ a1 ≤ 1000 then some ((min (nodes ⟨a0_0, l0_1, a0_2, a0_3, a0_4, a0_5⟩) (a1.toNat + 1) : Nat) : Int) else none
theorem doorwardref15_Many.calls (a0_0 : Int) (A0_1 : Option Addr) (c0_1 : Nat) (l0_1 : List (S46)) (a0_2 : Int) (a0_3 : Int) (a0_4 : ByteArray) (a0_5 : Int) (a1 : Int) (r : Int) (w : World) (hr0_1 : Kd.C k46 w A0_1 l0_1.length l0_1) (hc0_1 : l0_1.length ≤ c0_1) (h : doorwardref15_Many.f a0_0 l0_1 a0_2 a0_3 a0_4 a0_5 a1 = some r) :
    Calls Try.prog 43 #[.agg #[.int .i64 a0_0, .slice A0_1 l0_1.length c0_1, .int .i64 a0_2, .int .u64 a0_3, .string a0_4, .int .u64 a0_5], .int .i64 a1] w fun e w' => e = .returned (.int .i64 r) ∧ Below w.heap.size w w' := by
  unfold doorwardref15_Many.f at h
  split at h
  · rename_i hc
    have h2 := many_any ⟨a0_0, l0_1, a0_2, a0_3, a0_4, a0_5⟩ A0_1 c0_1 a1.toNat w hr0_1 hc0_1 (by omega) (by omega)
    rw [show ((a1.toNat : Nat) : Int) = a1 by omega, Option.some.inj h] at h2
    exact h2
  · cases h
end Go.Proofs.Ytoeklekjhaigoaa.HMany
end
section
namespace Go.Proofs.Ytoeklekjhaigoaa.HCount
open Go.Proofs.Ytoeklekjhaigoaa.Al Go.RowKit Go.Proofs.YtoeklekjhaigoaaW.PrintWords Go.Proofs.YtoeklekjhaigoaaW.PrintLast Go.Proofs.YtoeklekjhaigoaaW.PrintMore Go.Proofs.Ytoeklekjhaigoaa.M0 Go.Proofs.Ytoeklekjhaigoaa.QCond Go.Proofs.Ytoeklekjhaigoaa.QMean Go.Proofs.Ytoeklekjhaigoaa.QOne Go.Proofs.Ytoeklekjhaigoaa.HMany
set_option linter.unusedVariables false
set_option linter.unusedSimpArgs false
set_option maxRecDepth 100000
attribute [local go_sem] max2_int min2_int max_two min_two
/-- The captured queue and the tests counted so far. -/
structure Sq (w0 w : World) (tb qb : Nat) (t : Nat) (v : Value) (xs : List S46) : Prop where
  ht : w.heap[tb]? = some (.cells #[.int .i64 (t : Int)] 3 (0, 0))
  hq : w.heap[qb]? = some (.cells #[v] 44 (0, 0))
  N : Kd.N k46 46 w w0.heap.size (fun k => k ≠ tb ∧ k ≠ qb) v xs
  B : Below w0.heap.size w0 w
  bt : w0.heap.size ≤ tb
  bq : w0.heap.size ≤ qb
  ne : tb ≠ qb
theorem Sq.below {w0 w w1 : World} {tb qb t : Nat} {v : Value} {xs : List S46} (h : Sq w0 w tb qb t v xs) (hb : Below w.heap.size w w1) : Sq w0 w1 tb qb t v xs :=
  ⟨(hb.block _ (blk_lt h.ht)).trans h.ht, (hb.block _ (blk_lt h.hq)).trans h.hq, Kd.N_below h.N hb, below_step h.B hb, h.bt, h.bq, h.ne⟩
theorem Sq.tick {w0 w : World} {tb qb t : Nat} {v : Value} {xs : List S46} (h : Sq w0 w tb qb t v xs) : Sq w0 (w.setCell ⟨tb, 0, none⟩ (.int .i64 ((t : Int) + 1))) tb qb (t + 1) v xs :=
  ⟨by have := blk_put h.ht 0 (.int .i64 ((t : Int) + 1)) rfl; exact this, (Below.heap_setCell _ _ _ _ h.ne.symm).trans h.hq, Kd.N_far h.N (fun k hk => hk.1) _, h.B.setCell (p := ⟨tb, 0, none⟩) h.bt _, h.bt, h.bq, h.ne⟩
theorem Sq.put {w0 w w1 : World} {tb qb t : Nat} {v v1 : Value} {xs ys : List S46} (h : Sq w0 w tb qb t v xs) (hN : Kd.N k46 46 w1 w0.heap.size (fun k => k ≠ tb ∧ k ≠ qb) v1 (xs ++ ys)) (hB : Below w0.heap.size w0 w1) (hg : w.grownBy w1 v.ownBlock) : Sq w0 (w1.setCell ⟨qb, 0, none⟩ v1) tb qb t v1 (xs ++ ys) := by
  have n1 := Kd.N_ne h.N h.ht (by decide)
  have n2 := Kd.N_ne h.N h.hq (by decide)
  have h1 := (hg.block tb (blk_lt h.ht) n1).trans h.ht
  have h2 := (hg.block qb (blk_lt h.hq) n2).trans h.hq
  exact ⟨(Below.heap_setCell _ _ _ _ h.ne).trans h1, blk_put h2 0 _ rfl, Kd.N_far hN (fun k hk => hk.2) _, hB.setCell (p := ⟨qb, 0, none⟩) h.bq _, h.bt, h.bq, h.ne⟩
theorem one_any (c : S46) (A : Option Addr) (n : Nat) (w : World) (hC : Kd.C k46 w A c.f1.length c.f1) (hn : c.f1.length ≤ n) :
    Calls Try.prog 133 #[.agg #[.int .i64 c.f0, .slice A c.f1.length n, .int .i64 c.f2, .int .u64 c.f3, .string c.f4, .int .u64 c.f5]] w fun e w' => e = .returned (.bool (oneB c)) ∧ Below w.heap.size w w' :=
  types_one.calls 10 c.f0 A n c.f1 c.f2 c.f3 c.f4 c.f5 (oneB c) w hC hn (one_f c 10 (Nat.le_refl _))
theorem new_blk (w : World) (a : Addr) (v : Value) (o : Obj) : ((w.setCell a v).alloc o).heap[w.heap.size]? = some o := by
  have e : (w.setCell a v).heap.size = w.heap.size := by simp [World.setCell]
  have := heap_alloc_new (w.setCell a v) o
  rw [e] at this; exact this
/-- What the closure leaves. -/
def SeePost (w0 : World) (tb qb t : Nat) (v : Value) (xs : List S46) (c : S46) (e : Ending) (w' : World) : Prop :=
  if 100 < c.f1.length + xs.length then e = .returned (.bool false) ∧ Sq w0 w' tb qb (t + (if c.f0 = 4 then 1 else 0)) v xs
  else ∃ v', e = .returned (.bool (oneB c)) ∧ Sq w0 w' tb qb (t + (if c.f0 = 4 then 1 else 0)) v' (xs ++ c.f1)
set_option maxHeartbeats 2000000 in
theorem see_c {w0 w : World} {tb qb t : Nat} {v : Value} {xs : List S46} (h : Sq w0 w tb qb t v xs) (c : S46) (A : Option Addr) (n : Nat) (hn : c.f1.length ≤ n) (hF : Kd.F k46 w (fun k => (k ≠ tb ∧ k ≠ qb) ∧ some k ≠ v.ownBlock) A c.f1.length c.f1) (ht : t ≤ 1000) (hx : xs.length ≤ 1000) :
    Calls Try.prog 132 #[.agg #[.int .i64 c.f0, .slice A c.f1.length n, .int .i64 c.f2, .int .u64 c.f3, .string c.f4, .int .u64 c.f5], .pointer (some ⟨tb, 0, none⟩), .pointer (some ⟨qb, 0, none⟩)] w (SeePost w0 tb qb t v xs c) := by
  have hu46 := Try.underlying46
  have hb0 := bal (Below.refl w.heap.size w) (.cells #[.int .i64 c.f0, .slice A c.f1.length n, .int .i64 c.f2, .int .u64 c.f3, .string c.f4, .int .u64 c.f5] 46)
  have HS := amk (h.below hb0)
  have HF := amk (Kd.F_below hF hb0)
  have HX := amk (heap_alloc_new w (.cells #[.int .i64 c.f0, .slice A c.f1.length n, .int .i64 c.f2, .int .u64 c.f3, .string c.f4, .int .u64 c.f5] 46))
  have HU := amk (h.tick.below (bal (Below.refl _ _) (.cells #[.int .i64 c.f0, .slice A c.f1.length n, .int .i64 c.f2, .int .u64 c.f3, .string c.f4, .int .u64 c.f5] 46)))
  have HV := amk (Kd.F_alloc (Kd.F_far hF (p := ⟨tb, 0, none⟩) (fun k hk => hk.1.1) (.int .i64 ((t : Int) + 1))) (.cells #[.int .i64 c.f0, .slice A c.f1.length n, .int .i64 c.f2, .int .u64 c.f3, .string c.f4, .int .u64 c.f5] 46))
  have HY := amk (new_blk w ⟨tb, 0, none⟩ (.int .i64 ((t : Int) + 1)) (.cells #[.int .i64 c.f0, .slice A c.f1.length n, .int .i64 c.f2, .int .u64 c.f3, .string c.f4, .int .u64 c.f5] 46))
  have l1 := blk_lt h.ht
  have l2 := blk_lt h.hq
  have k1 := blk_cell h.ht 0
  have f1 := blk_frozen h.ht 0
  obtain ⟨Av, cv, rfl⟩ := Kd.N_slice h.N
  have hm := Kd.F_max hF
  have tw : wrap64 ((t : Int) + 1) = (t : Int) + 1 := by unfold wrap64; omega
  have sw : wrap64 (100 - (xs.length : Int)) = 100 - (xs.length : Int) := by unfold wrap64; omega
  have HT := amk ht
  have HXL := amk hx
  have HN := amk hn
  have HLT := amk (Kd.N_lt h.N)
  have HLQ := amk l2
  clear h hF hb0 ht hx
  unfold SeePost
  generalize hT : (if c.f0 = 4 then t + 1 else t) = T
  have hT' : t + (if c.f0 = 4 then 1 else 0) = T := by rw [← hT]; split <;> rfl
  rw [hT']
  clear hT'
  by_cases h4 : c.f0 = 4
  · have d4 : (c.f0 == 4) = true := by rw [h4]; rfl
    rw [if_pos h4] at hT
    rw [hT] at HU
    clear hT h4 HS HF HX
    go_enter Try.func132, Try.ntmps132
    go_upto_region 3 with (fail)
    clear k1 f1
    generalize ((w.setCell ⟨tb, 0, none⟩ (.int .i64 ((t : Int) + 1))).alloc (.cells #[.int .i64 c.f0, .slice A c.f1.length n, .int .i64 c.f2, .int .u64 c.f3, .string c.f4, .int .u64 c.f5] 46)) = W at *
    have HS := HU
    have HF := HV
    have HX := HY
    clear HU HV HY tw
    have kq := blk_cell HS.out.hq 0
    have kb1 := blk_cell HX.out 1
    have kb0 := blk_cell HX.out 0
    have kb2 := blk_cell HX.out 2
    have kb3 := blk_cell HX.out 3
    have kb4 := blk_cell HX.out 4
    have kb5 := blk_cell HX.out 5
    by_cases hov : 100 < c.f1.length + xs.length
    · have d5 : decide (100 - (xs.length : Int) < (c.f1.length : Int)) = true := decide_eq_true (by omega)
      have HE := amk HS.out
      have HO := amk hov
      clear HS HF HX hov
      go_wp2
      · go_ret
        exact ⟨rfl, HE.out⟩
      · exact absurd HO.out (by assumption)
    · have d5 : decide (100 - (xs.length : Int) < (c.f1.length : Int)) = false := decide_eq_false (by omega)
      have HO := amk hov
      have hl100 : xs.length + c.f1.length ≤ 100 := by omega
      clear hov
      have HB := amk HS.out.B
      have HNN := amk HS.out.N
      have HFR := amk (fun k (hk : W.heap.size ≤ k) => (show k ≠ tb ∧ k ≠ qb from ⟨by have := blk_lt HS.out.ht; omega, by have := blk_lt HS.out.hq; omega⟩))
      have HPUT := amk (fun w1 v1 => HS.out.put (w1 := w1) (v1 := v1) (ys := c.f1))
      have HX2 := HX
      clear HX
      go_upto_region 6 with (at_builtin; refine Kd.N_append_rows k46 (w0 := w0) w0.heap.size rfl (.tmp 17) (.tmp 19) 44 46 _ 72 rfl Try.underlying44 hInfo46 rfl (by decide) (by decide) _ xs c.f1 A c.f1.length n (fun k => k ≠ tb ∧ k ≠ qb) _ rfl rfl HNN.out HF.out (fun _ hk => hk) HFR.out HB.out HB.out.size (by omega) ?_; intro v1 w1 hN1 hb1 hg1 hat1; obtain ⟨Aq, cq, rfl⟩ := Kd.N_slice hN1; rw [List.length_append] at hN1; have hh2 := (hg1.block qb (blk_lt HS.out.hq) (Kd.N_ne HNN.out HS.out.hq (by decide))).trans HS.out.hq; have k2 := blk_cell hh2 0; have f2 := blk_frozen hh2 0; have HP := amk (HPUT.out w1 _ hN1 hb1 hg1); have HF3 := amk (Kd.F_now (Kd.F_far (Kd.F_grown HF.out hg1 (fun k hk => hk.2)) (p := ⟨qb, 0, none⟩) (fun k hk => hk.1.2) (.slice Aq (xs.length + c.f1.length) cq))); have HX3 := amk ((Below.heap_setCell w1 ⟨qb, 0, none⟩ (.slice Aq (xs.length + c.f1.length) cq) w.heap.size (by have := HLQ.out; simp only; omega)).trans ((hg1.block w.heap.size (blk_lt HX2.out) (fun e => by have := HLT.out _ e.symm; omega)).trans HX2.out)); clear hh2 hN1 hb1 hg1 hat1)
      clear k2 f2 kq kb0 kb1 kb2 kb3 kb4 kb5 HS HF HX2 HB HNN HPUT HFR
      generalize w1.setCell ⟨qb, 0, none⟩ (.slice Aq (xs.length + c.f1.length) cq) = W2 at *
      have kb1 := blk_cell HX3.out 1
      have kb0 := blk_cell HX3.out 0
      have kb2 := blk_cell HX3.out 2
      have kb3 := blk_cell HX3.out 3
      have kb4 := blk_cell HX3.out 4
      have kb5 := blk_cell HX3.out 5
      go_wp2_with (go_at_call 133; refine (one_any c A n _ HF3.out HN.out).mono ?_; rintro e w3 ⟨rfl, hb3⟩; have HE := amk (HP.out.below hb3); clear hb3)
      go_ret
      first | exact ⟨rfl, _, HE.out⟩ | exact ⟨_, rfl, HE.out⟩ | (rw [if_neg HO.out]; exact ⟨_, rfl, HE.out⟩)
  · have d4 : (c.f0 == 4) = false := by simpa using h4
    rw [if_neg h4] at hT
    rw [hT] at HS
    clear hT h4 HU HV HY k1 f1
    go_enter Try.func132, Try.ntmps132
    go_upto_region 3 with (fail)
    generalize (w.alloc (.cells #[.int .i64 c.f0, .slice A c.f1.length n, .int .i64 c.f2, .int .u64 c.f3, .string c.f4, .int .u64 c.f5] 46)) = W at *
    clear tw
    have kq := blk_cell HS.out.hq 0
    have kb1 := blk_cell HX.out 1
    have kb0 := blk_cell HX.out 0
    have kb2 := blk_cell HX.out 2
    have kb3 := blk_cell HX.out 3
    have kb4 := blk_cell HX.out 4
    have kb5 := blk_cell HX.out 5
    by_cases hov : 100 < c.f1.length + xs.length
    · have d5 : decide (100 - (xs.length : Int) < (c.f1.length : Int)) = true := decide_eq_true (by omega)
      have HE := amk HS.out
      have HO := amk hov
      clear HS HF HX hov
      go_wp2
      · go_ret
        exact ⟨rfl, HE.out⟩
      · exact absurd HO.out (by assumption)
    · have d5 : decide (100 - (xs.length : Int) < (c.f1.length : Int)) = false := decide_eq_false (by omega)
      have HO := amk hov
      have hl100 : xs.length + c.f1.length ≤ 100 := by omega
      clear hov
      have HB := amk HS.out.B
      have HNN := amk HS.out.N
      have HFR := amk (fun k (hk : W.heap.size ≤ k) => (show k ≠ tb ∧ k ≠ qb from ⟨by have := blk_lt HS.out.ht; omega, by have := blk_lt HS.out.hq; omega⟩))
      have HPUT := amk (fun w1 v1 => HS.out.put (w1 := w1) (v1 := v1) (ys := c.f1))
      have HX2 := HX
      clear HX
      go_upto_region 6 with (at_builtin; refine Kd.N_append_rows k46 (w0 := w0) w0.heap.size rfl (.tmp 17) (.tmp 19) 44 46 _ 72 rfl Try.underlying44 hInfo46 rfl (by decide) (by decide) _ xs c.f1 A c.f1.length n (fun k => k ≠ tb ∧ k ≠ qb) _ rfl rfl HNN.out HF.out (fun _ hk => hk) HFR.out HB.out HB.out.size (by omega) ?_; intro v1 w1 hN1 hb1 hg1 hat1; obtain ⟨Aq, cq, rfl⟩ := Kd.N_slice hN1; rw [List.length_append] at hN1; have hh2 := (hg1.block qb (blk_lt HS.out.hq) (Kd.N_ne HNN.out HS.out.hq (by decide))).trans HS.out.hq; have k2 := blk_cell hh2 0; have f2 := blk_frozen hh2 0; have HP := amk (HPUT.out w1 _ hN1 hb1 hg1); have HF3 := amk (Kd.F_now (Kd.F_far (Kd.F_grown HF.out hg1 (fun k hk => hk.2)) (p := ⟨qb, 0, none⟩) (fun k hk => hk.1.2) (.slice Aq (xs.length + c.f1.length) cq))); have HX3 := amk ((Below.heap_setCell w1 ⟨qb, 0, none⟩ (.slice Aq (xs.length + c.f1.length) cq) w.heap.size (by have := HLQ.out; simp only; omega)).trans ((hg1.block w.heap.size (blk_lt HX2.out) (fun e => by have := HLT.out _ e.symm; omega)).trans HX2.out)); clear hh2 hN1 hb1 hg1 hat1)
      clear k2 f2 kq kb0 kb1 kb2 kb3 kb4 kb5 HS HF HX2 HB HNN HPUT HFR
      generalize w1.setCell ⟨qb, 0, none⟩ (.slice Aq (xs.length + c.f1.length) cq) = W2 at *
      have kb1 := blk_cell HX3.out 1
      have kb0 := blk_cell HX3.out 0
      have kb2 := blk_cell HX3.out 2
      have kb3 := blk_cell HX3.out 3
      have kb4 := blk_cell HX3.out 4
      have kb5 := blk_cell HX3.out 5
      go_wp2_with (go_at_call 133; refine (one_any c A n _ HF3.out HN.out).mono ?_; rintro e w3 ⟨rfl, hb3⟩; have HE := amk (HP.out.below hb3); clear hb3)
      go_ret
      first | exact ⟨rfl, _, HE.out⟩ | exact ⟨_, rfl, HE.out⟩ | (rw [if_neg HO.out]; exact ⟨_, rfl, HE.out⟩)
def rest (xs : List S46) (d t : Nat) : Option Nat := if (fitsL (xs.drop d) && decide (d + nodesL (xs.drop d) ≤ 100)) = true then some (t + testsL (xs.drop d)) else none
theorem rest_cons (xs : List S46) (d t : Nat) (hd : d < xs.length) : rest xs d t = if (fitsB (rd_T46 xs d) && fitsL (xs.drop (d + 1)) && decide (d + (nodes (rd_T46 xs d) + nodesL (xs.drop (d + 1))) ≤ 100)) = true then some (t + (testsN (rd_T46 xs d) + testsL (xs.drop (d + 1)))) else none := by
  unfold rest
  have e : rd_T46 xs (d : Int) = xs[d] := rd46 xs d hd
  rw [List.drop_eq_getElem_cons hd, fitsL, nodesL, testsL, e]
theorem rest_over (xs : List S46) (d t : Nat) (hd : d < xs.length) (ho : 100 < (rd_T46 xs d).f1.length + xs.length) : rest xs d t = none := by
  rw [rest_cons xs d t hd, if_neg]
  intro h
  rw [Bool.and_eq_true, decide_eq_true_eq] at h
  have h := h.2
  have e1 := nodes_eq (rd_T46 xs d)
  have e2 := len_nodes (rd_T46 xs d).f1
  have e3 := len_nodes (xs.drop (d + 1))
  rw [List.length_drop] at e3
  omega
theorem rest_bad (xs : List S46) (d t : Nat) (hd : d < xs.length) (ho : oneB (rd_T46 xs d) = false) : rest xs d t = none := by
  rw [rest_cons xs d t hd, if_neg]
  intro h
  rw [fits_eq, ho] at h
  simp at h
theorem rest_next (xs : List S46) (d t : Nat) (hd : d < xs.length) (ho : oneB (rd_T46 xs d) = true) : rest xs d t = rest (xs ++ (rd_T46 xs d).f1) (d + 1) (t + (if (rd_T46 xs d).f0 = 4 then 1 else 0)) := by
  rw [rest_cons xs d t hd]
  unfold rest
  rw [List.drop_append_of_le_length (by omega), fitsL_append, nodesL_append, testsL_append, fits_eq, ho, Bool.true_and, nodes_eq, tests_eq]
  generalize nodesL (rd_T46 xs d).f1 = a
  generalize nodesL (xs.drop (d + 1)) = b
  generalize testsL (rd_T46 xs d).f1 = x
  generalize testsL (xs.drop (d + 1)) = y
  generalize (if (rd_T46 xs d).f0 = 4 then 1 else 0) = z
  rw [decide_eq_decide.2 (show d + (a + 1 + b) ≤ 100 ↔ d + 1 + (b + a) ≤ 100 by omega), show t + (z + x + y) = t + z + (y + x) by omega, Bool.and_comm (fitsL (rd_T46 xs d).f1)]
theorem rest_done (xs : List S46) (t : Nat) (h : xs.length ≤ 100) : rest xs xs.length t = some t := by
  unfold rest
  rw [List.drop_eq_nil_of_le (Nat.le_refl _), fitsL, nodesL, testsL, decide_eq_true (by omega)]; rfl
theorem rest_all (c : S46) : rest [c] 0 0 = if rightB c = true then some (testsN c) else none := by
  unfold rest rightB
  rw [List.drop_zero, fitsL, fitsL, nodesL, nodesL, testsL, testsL, Bool.and_true, Nat.zero_add, Nat.zero_add, Nat.add_zero, Nat.add_zero]
theorem count_some {c : S46} {t : Nat} (h : rest [c] 0 0 = some t) : countR c = ((t : Int), true) := by
  rw [rest_all] at h
  unfold countR
  split at h
  · rename_i hr
    rw [if_pos hr, Option.some.inj h]
  · cases h
theorem count_none {c : S46} (h : rest [c] 0 0 = none) : countR c = (0, false) := by
  rw [rest_all] at h
  unfold countR
  split at h
  · cases h
  · rename_i hr
    rw [if_neg hr]
structure CI (c : S46) (xs : List S46) (d t : Nat) : Prop where
  h1 : xs.length ≤ 100
  h2 : 1 ≤ xs.length
  h3 : d ≤ xs.length
  h4 : t ≤ d
  h5 : rest xs d t = rest [c] 0 0
set_option maxHeartbeats 2000000 in
theorem count_any (c : S46) (A1 : Option Addr) (c1 : Nat) (w : World) (hC : Kd.C k46 w A1 c.f1.length c.f1) (hc1 : c.f1.length ≤ c1) :
    Calls Try.prog 101 #[.agg #[.int .i64 c.f0, .slice A1 c.f1.length c1, .int .i64 c.f2, .int .u64 c.f3, .string c.f4, .int .u64 c.f5]] w fun e w' => e = .returned (.tuple #[.int .i64 (countR c).1, .bool (countR c).2]) ∧ Below w.heap.size w w' := by
  have hu46 := Try.underlying46
  have hmf : ∀ (fn : Fn) (first cap : Array Value) (w : World), (Instr.makeFunc fn first cap).run Try.prog w = .ok (.func fn first cap) w := fun _ _ _ _ => rfl
  have hFK := elder46 hC hc1
  have HB0 := amk (bal (Below.refl w.heap.size w) (.cells #[.int .i64 c.f0, .slice A1 c.f1.length c1, .int .i64 c.f2, .int .u64 c.f3, .string c.f4, .int .u64 c.f5] 46))
  have HF0 := amk (Kd.FK_below hFK HB0.out)
  clear hC hFK
  go_enter Try.func101, Try.ntmps101
  go_wp2_with ((with_reducible refine gate_dst (N := 9) rfl ?_); refine Kd.N_lit k46 w.heap.size 46 ?hg (N' := 9) ?hd (xs := [c]) (inner := cells46 c A1 c1) (ok := fun _ => True) (okp := fun k => k < w.heap.size) ?hr ?hp (fun _ _ => trivial) trivial HB0.out HB0.out.size (by simp) ?_; (case hd => rfl); (case hg => rfl); (case hr => first | (go_simp; done) | (go_simp; rfl)); (case hp => exact reps_one46 HF0.out); intro v1 w1 hN hb hg hat; have HQ := amk (Qu.mk hN hb); obtain ⟨Aq, cq, rfl⟩ := Kd.N_slice hN; clear hN hb hg hat)
  have HS := amk (show Sq w ((w1.alloc (.cells #[.slice Aq 1 cq] 44)).alloc (.cells #[.int .i64 0] 3)) (w1.heap.size + 1) w1.heap.size 0 (.slice Aq 1 cq) [c] from by
    have hq := HQ.out
    have e : (w1.alloc (.cells #[.slice Aq 1 cq] 44)).heap.size = w1.heap.size + 1 := by simp
    refine ⟨?_, ?_, ?_, bal (bal hq.B _) _, ?_, hq.B.size, by omega⟩
    · have := heap_alloc_new (w1.alloc (.cells #[.slice Aq 1 cq] 44)) (.cells #[.int .i64 0] 3)
      rw [e] at this; exact this
    · have h1 := heap_alloc_new w1 (.cells #[.slice Aq 1 cq] 44)
      exact (Below.heap_alloc _ _ _ (by rw [e]; omega)).trans h1
    · have h1 := Kd.N_elderB (Kd.N_elderB hq.N w1.heap.size (Nat.le_refl _)) (w1.heap.size + 1) (by omega)
      exact Kd.N_alloc (Kd.N_alloc (Kd.N_mono h1 (fun k hk => ⟨hk.2, hk.1.2⟩)) _) _
    · have := hq.B.size; omega)
  have HI := amk (show CI c [c] 0 0 from ⟨by simp, by simp, by simp, Nat.le_refl _, rfl⟩)
  clear HQ HF0 HB0
  generalize htb : w1.heap.size + 1 = tb at *
  generalize hqb : w1.heap.size = qb at *
  generalize hwr : (w1.alloc (.cells #[.slice Aq 1 cq] 44)).alloc (.cells #[.int .i64 0] 3) = w2 at *
  clear hwr htb hqb
  go_loopw [7] (fun i wr => ∃ (d t : Nat) (v : Value) (xs : List S46), i = .int .i64 d ∧ Aside0 (Sq w wr tb qb t v xs) ∧ Aside0 (CI c xs d t)) (fun i _ => 101 - (intOf i).toNat)
  case atStart => exact ⟨0, 0, _, _, rfl, HS, HI⟩
  case round =>
    clear HS HI
    obtain ⟨d, t, v, xs, rfl, hs, hi⟩ := hrel
    have hi1 := hi.out.h1
    have hi3 := hi.out.h3
    have hi4 := hi.out.h4
    obtain ⟨g, cap, rfl, hg, hgl, _⟩ := Kd.N_form hs.out.N (by have := hi.out.h2; omega)
    have kq := blk_cell hs.out.hq 0
    by_cases hlt : d < xs.length
    · have d1 : decide ((d : Int) < (xs.length : Int)) = true := decide_eq_true (by omega)
      obtain ⟨c', hcl, hFK, hcc, _⟩ := Kd.N_elem hs.out.N z46 (d : Int) (by omega) (by omega)
      obtain ⟨A', n', rfl, hn', hFk⟩ := k46_openF hFK
      have hx0 := hcc 0 _ rfl
      have hx1 := hcc 1 _ rfl
      have hx2 := hcc 2 _ rfl
      have hx3 := hcc 3 _ rfl
      have hx4 := hcc 4 _ rfl
      have hx5 := hcc 5 _ rfl
      have hrd : xs.getD (d : Int).toNat z46 = rd_T46 xs (d : Int) := rfl
      rw [hrd] at hFK hn' hFk hx0 hx1 hx2 hx3 hx4 hx5
      simp only [Int.toNat_natCast] at hx0 hx1 hx2 hx3 hx4 hx5
      rw [show k46.sz = 6 from rfl] at hx0 hx1 hx2 hx3 hx4 hx5
      rw [Nat.add_zero] at hx0
      have HR1 := amk (rest_over xs d t hlt)
      have HR2 := amk (rest_bad xs d t hlt)
      have HR3 := amk (rest_next xs d t hlt)
      have i0 : (0 : Int) ≤ (d : Int) := by omega
      have i1 : (d : Int) < (xs.length : Int) := by omega
      have HF := amk (show Kd.F k46 wr (fun b => (b ≠ tb ∧ b ≠ qb) ∧ some b ≠ (Value.slice (some ⟨g, 0, none⟩) xs.length cap).ownBlock) A' _ _ from Kd.F_mono hFk (fun b hb => ⟨hb.1, by rw [own_of]; exact hb.2⟩))
      generalize hx : rd_T46 xs (d : Int) = x at *
      clear hx
      have HSEE := amk (see_c hs.out x A' n' hn' HF.out (by omega) (by omega))
      have hln : xs.length ≤ 100 := hi1
      have HIS := amk (⟨hlt, hi1, hi4⟩ : d < xs.length ∧ xs.length ≤ 100 ∧ t ≤ d)
      clear hFK hFk hcc hcl hrd hs hi1 hi3 hi4 hg hgl HF hlt
      by_cases hov : 100 < x.f1.length + xs.length
      · have HN := amk (count_none (hi.out.h5.symm.trans (HR1.out hov)))
        unfold SeePost at HSEE
        simp only [if_pos hov] at HSEE
        clear HR1 HR2 HR3 hi
        go_wp2_with (go_at_call 132; refine HSEE.out.mono ?_; rintro e w3 ⟨rfl, hs3⟩; have HE := amk hs3.B; clear hs3)
        go_ret2
        exact ⟨congrArg (fun r : Int × Bool => Ending.returned (.tuple #[.int .i64 r.1, .bool r.2])) HN.out.symm, HE.out⟩
      · unfold SeePost at HSEE
        simp only [if_neg hov] at HSEE
        clear HR1
        cases ho : oneB x with
        | false =>
          have HN := amk (count_none (hi.out.h5.symm.trans (HR2.out ho)))
          rw [ho] at HSEE
          clear HR2 HR3 hi ho hov
          go_wp2_with (go_at_call 132; refine HSEE.out.mono ?_; rintro e w3 ⟨v3, rfl, hs3⟩; have HE := amk hs3.B; clear hs3)
          go_ret2
          exact ⟨congrArg (fun r : Int × Bool => Ending.returned (.tuple #[.int .i64 r.1, .bool r.2])) HN.out.symm, HE.out⟩
        | true =>
          have HN := amk (hi.out.h5.symm.trans (HR3.out ho))
          have HOV := amk hov
          have HI2 := amk hi.out.h2
          rw [ho] at HSEE
          clear HR2 HR3 hi ho hov
          go_wp2_with (go_at_call 132; refine HSEE.out.mono ?_; rintro e w3 ⟨v3, rfl, hs3⟩; have HE := amk hs3; clear hs3)
          refine ⟨⟨d + 1, _, v3, xs ++ x.f1, by rfl, HE, ⟨?_, ?_, ?_, ?_, HN.out.symm⟩⟩, ?_⟩
          · have := HOV.out; rw [List.length_append]; omega
          · have := HI2.out; rw [List.length_append]; omega
          · have := HIS.out; rw [List.length_append]; omega
          · have := HIS.out; split <;> omega
          · have := HIS.out
            simp [intOf]; omega
    · have d1 : decide ((d : Int) < (xs.length : Int)) = false := decide_eq_false (by omega)
      obtain rfl : d = xs.length := by omega
      have HN := amk (count_some (hi.out.h5.symm.trans (rest_done xs t hi1)))
      have kt := blk_cell hs.out.ht 0
      have HE := amk hs.out.B
      clear hi hs hg hgl
      go_wp2
      go_ret2
      exact ⟨congrArg (fun r : Int × Bool => Ending.returned (.tuple #[.int .i64 r.1, .bool r.2])) HN.out.symm, HE.out⟩
def types_count.f (a0_0 : Int) (l0_1 : List (S46)) (a0_2 : Int) (a0_3 : Int) (a0_4 : ByteArray) (a0_5 : Int) : Option (Int × Bool) := some (countR ⟨a0_0, l0_1, a0_2, a0_3, a0_4, a0_5⟩)
theorem types_count.calls (a0_0 : Int) (A0_1 : Option Addr) (c0_1 : Nat) (l0_1 : List (S46)) (a0_2 : Int) (a0_3 : Int) (a0_4 : ByteArray) (a0_5 : Int) (r1 : Int) (r2 : Bool) (w : World) (hr0_1 : Kd.C k46 w A0_1 l0_1.length l0_1) (hc0_1 : l0_1.length ≤ c0_1) (h : types_count.f a0_0 l0_1 a0_2 a0_3 a0_4 a0_5 = some (r1, r2)) :
    Calls Try.prog 101 #[.agg #[.int .i64 a0_0, .slice A0_1 l0_1.length c0_1, .int .i64 a0_2, .int .u64 a0_3, .string a0_4, .int .u64 a0_5]] w fun e w' => e = .returned (.tuple #[.int .i64 r1, .bool r2]) ∧ Below w.heap.size w w' := by
  have h2 := count_any ⟨a0_0, l0_1, a0_2, a0_3, a0_4, a0_5⟩ A0_1 c0_1 w hr0_1 hc0_1
  rw [Option.some.inj h] at h2
  exact h2
end Go.Proofs.Ytoeklekjhaigoaa.HCount
end
section
namespace Go.Proofs.Ytoeklekjhaigoaa.M1
open Go.Proofs.Ytoeklekjhaigoaa.Al Go.RowKit Go.Proofs.YtoeklekjhaigoaaW.PrintWords Go.Proofs.YtoeklekjhaigoaaW.PrintLast Go.Proofs.YtoeklekjhaigoaaW.PrintMore
attribute [local go_sem] max2_int min2_int max_two min_two max_three min_three max_four min_four IntKind.wrap_u32 IntKind.wrap_u8   -- for this text's walks alone
set_option linter.unusedVariables false
open Go.Proofs.Ytoeklekjhaigoaa.Le Go.Proofs.Ytoeklekjhaigoaa.C1 Go.Proofs.Ytoeklekjhaigoaa.C2 Go.Proofs.Ytoeklekjhaigoaa.HAct Go.Proofs.Ytoeklekjhaigoaa.W0 Go.Proofs.Ytoeklekjhaigoaa.HFrom Go.Proofs.Ytoeklekjhaigoaa.W1 Go.Proofs.Ytoeklekjhaigoaa.R01 Go.Proofs.Ytoeklekjhaigoaa.HPack Go.Proofs.Ytoeklekjhaigoaa.HUnpack Go.Proofs.Ytoeklekjhaigoaa.HRefPack Go.Proofs.Ytoeklekjhaigoaa.M0 Go.Proofs.Ytoeklekjhaigoaa.HMany Go.Proofs.Ytoeklekjhaigoaa.HCount
set_option linter.unusedSimpArgs false
def errW : Option Int → Value
  | none => .nilIface
  | some c => .iface 0 (.int .i64 c)
theorem errW_none : errW none = .nilIface := rfl
theorem errW_some (c : Int) : errW (some c) = .iface 0 (.int .i64 c) := rfl
end Go.Proofs.Ytoeklekjhaigoaa.M1
end
section
namespace Go.Proofs.Ytoeklekjhaigoaa.M1
open Go.Proofs.Ytoeklekjhaigoaa.Al Go.RowKit Go.Proofs.YtoeklekjhaigoaaW.PrintWords Go.Proofs.YtoeklekjhaigoaaW.PrintLast Go.Proofs.YtoeklekjhaigoaaW.PrintMore
attribute [local go_sem] max2_int min2_int max_two min_two max_three min_three max_four min_four IntKind.wrap_u32 IntKind.wrap_u8   -- for this text's walks alone
set_option linter.unusedVariables false
open Go.Proofs.Ytoeklekjhaigoaa.Le Go.Proofs.Ytoeklekjhaigoaa.C1 Go.Proofs.Ytoeklekjhaigoaa.C2 Go.Proofs.Ytoeklekjhaigoaa.HAct Go.Proofs.Ytoeklekjhaigoaa.W0 Go.Proofs.Ytoeklekjhaigoaa.HFrom Go.Proofs.Ytoeklekjhaigoaa.W1 Go.Proofs.Ytoeklekjhaigoaa.R01 Go.Proofs.Ytoeklekjhaigoaa.HPack Go.Proofs.Ytoeklekjhaigoaa.HUnpack Go.Proofs.Ytoeklekjhaigoaa.HRefPack Go.Proofs.Ytoeklekjhaigoaa.M0 Go.Proofs.Ytoeklekjhaigoaa.HMany Go.Proofs.Ytoeklekjhaigoaa.HCount
set_option linter.unusedSimpArgs false
def doorwardref16_Right.f (k : Nat) (a0_0 : Int) (l0_1 : List (S46)) (a0_2 : Int) (a0_3 : Int) (a0_4 : ByteArray) (a0_5 : Int) : Option (Bool) := (doorwardref15_Many.f a0_0 l0_1 a0_2 a0_3 a0_4 a0_5 100).bind fun t102 => (if t102 ≤ 100 then ((doorwardref16_fits.f k a0_0 l0_1 a0_2 a0_3 a0_4 a0_5).bind fun t103 => (some t103)) else (some false))
set_option maxHeartbeats 8000000 in
set_option maxRecDepth 100000 in
theorem doorwardref16_Right.calls (k : Nat) (a0_0 : Int) (A0_1 : Option Addr) (c0_1 : Nat) (l0_1 : List (S46)) (a0_2 : Int) (a0_3 : Int) (a0_4 : ByteArray) (a0_5 : Int) (r : Bool) (w : World) (hr0_1 : Kd.C k46 w A0_1 l0_1.length l0_1) (hc0_1 : l0_1.length ≤ c0_1) (h : doorwardref16_Right.f k a0_0 l0_1 a0_2 a0_3 a0_4 a0_5 = some r) :
    Calls Try.prog 47 #[.agg #[.int .i64 a0_0, .slice A0_1 l0_1.length c0_1, .int .i64 a0_2, .int .u64 a0_3, .string a0_4, .int .u64 a0_5]] w fun e w' => e = .returned (.bool r) ∧ Below w.heap.size w w' := by
  have hu46 := Try.underlying46
  have HR0_1 := amk hr0_1
  have HC0_1 := amk hc0_1
  clear hr0_1 hc0_1
  have HB := amk (Below.refl w.heap.size w)
  have H : ((doorwardref15_Many.f a0_0 l0_1 a0_2 a0_3 a0_4 a0_5 100).bind fun t102 => (if t102 ≤ 100 then ((doorwardref16_fits.f k a0_0 l0_1 a0_2 a0_3 a0_4 a0_5).bind fun t103 => (some t103)) else (some false))) = some r := h
  clear h
  replace H := Option.bind_eq_some_iff.mp H
  obtain ⟨t102, A20, H⟩ := H
  replace H : (if t102 ≤ 100 then ((doorwardref16_fits.f k a0_0 l0_1 a0_2 a0_3 a0_4 a0_5).bind fun t103 => (some t103)) else (some false)) = some r := H
  have A2 := amk A20
  clear A20
  by_cases c3 : t102 ≤ 100
  · rw [if_pos c3] at H
    have c3b0 : decide (t102 ≤ 100) = true := decide_eq_true c3
    clear c3
    replace H := Option.bind_eq_some_iff.mp H
    obtain ⟨t103, A40, H⟩ := H
    replace H : (some t103) = some r := H
    have A4 := amk A40
    clear A40
    obtain rfl := Option.some.inj H
    go_enter Try.func47, Try.ntmps47
    go_wp2_with (first | ((with_reducible refine gate_dst (N := 1) rfl ?_); refine box_event ?hg (N := 1) ?hd (cs := #[.int .i64 a0_0, .slice A0_1 l0_1.length c0_1, .int .i64 a0_2, .int .u64 a0_3, .string a0_4, .int .u64 a0_5]) (t := 46) ?hr ?_; (case hd => rfl); (case hg => rfl); (case hr => first | (go_simp; done) | (go_simp; rfl)); intro gb101 hg w5 hbox hb; have n0_ := amk (below_step (by repeat (first | (with_reducible first | exact HB.out | apply bal | apply pbd | apply below_drew1) | exact HB.out)) hb); have n1_ := amk (hbox); have n2_ := amk ((by rw [hg]; exact (below_size (by repeat (first | (with_reducible first | exact HB.out | apply bal | apply pbd | apply below_drew1) | exact HB.out))) : w.heap.size ≤ gb101)); have n3_ := amk ((by rw [hg]; exact (below_size (by repeat (first | (with_reducible first | exact HB.out | apply bal | apply pbd | apply below_drew1) | exact HB.out))) : w.heap.size ≤ gb101)); clear HB; have HB := n0_; have BK101 := n1_; have GW101 := n2_; have GE101 := n3_; clear n0_ n1_ n2_ n3_; clear hb hbox hg; have hcz6_0 : w5.cell? ⟨gb101, 0, none⟩ = some (.int .i64 a0_0) := (blk_cell BK101.out 0).trans rfl; have hcz6_1 : w5.cell? ⟨gb101, 1, none⟩ = some (.slice A0_1 l0_1.length c0_1) := (blk_cell BK101.out 1).trans rfl; have hcz6_2 : w5.cell? ⟨gb101, 2, none⟩ = some (.int .i64 a0_2) := (blk_cell BK101.out 2).trans rfl; have hcz6_3 : w5.cell? ⟨gb101, 3, none⟩ = some (.int .u64 a0_3) := (blk_cell BK101.out 3).trans rfl; have hcz6_4 : w5.cell? ⟨gb101, 4, none⟩ = some (.string a0_4) := (blk_cell BK101.out 4).trans rfl; have hcz6_5 : w5.cell? ⟨gb101, 5, none⟩ = some (.int .u64 a0_5) := (blk_cell BK101.out 5).trans rfl; have hfz6_0 := blk_frozen BK101.out 0; have hfz6_1 := blk_frozen BK101.out 1; have hfz6_2 := blk_frozen BK101.out 2; have hfz6_3 := blk_frozen BK101.out 3; have hfz6_4 := blk_frozen BK101.out 4; have hfz6_5 := blk_frozen BK101.out 5) | ((with_reducible refine gate_callee (f := 43) rfl ?_); refine goesL_ (some 4) rfl rfl Try.func43 (by kernel_rfl) rfl #[.agg #[.int .i64 a0_0, .slice A0_1 l0_1.length c0_1, .int .i64 a0_2, .int .u64 a0_3, .string a0_4, .int .u64 a0_5], .int .i64 100] rfl (by (try simp only [List.map_toArray, List.map_cons, List.map_nil]); first | done | rfl | (simp only [List.length_drop, List.length_take]; rfl)) ?_; (with_reducible refine (doorwardref15_Many.calls a0_0 _ _ l0_1 a0_2 a0_3 a0_4 a0_5 100 t102 _ ?side1 ?side2 A2.out).mono ?_); (case side1 => repeat (first | exact (Kd.C_below HR0_1.out HB.out) | (with_reducible refine Kd.C_alloc ?_ _) | (with_reducible refine Kd.C_drewN ?_ _) | (with_reducible refine Kd.C_drew ?_))); (case side2 => exact HC0_1.out); rintro e w7 ⟨rfl, hb⟩; refine ⟨_, rfl, ?_⟩; have n0_ := amk (blk_below (g := gb101) (o := .cells #[.int .i64 a0_0, .slice A0_1 l0_1.length c0_1, .int .i64 a0_2, .int .u64 a0_3, .string a0_4, .int .u64 a0_5] 46 (0, 0)) (by (with_reducible repeat (first | refine blk_drewN ?_ _ | refine blk_drew ?_ | refine blk_alloc ?_ _)); exact BK101.out) hb); have n1_ := amk (below_step (by repeat (first | (with_reducible first | exact HB.out | apply bal | apply pbd | apply below_drew1 | refine below_set ?_ GE101.out) | exact HB.out)) hb); clear BK101; clear HB; have BK101 := n0_; have HB := n1_; clear n0_ n1_; (try clear hb); (try clear hb2); (try clear hk); (try clear hi); have hcz8_0 : w7.cell? ⟨gb101, 0, none⟩ = some (.int .i64 a0_0) := (blk_cell BK101.out 0).trans rfl; have hcz8_1 : w7.cell? ⟨gb101, 1, none⟩ = some (.slice A0_1 l0_1.length c0_1) := (blk_cell BK101.out 1).trans rfl; have hcz8_2 : w7.cell? ⟨gb101, 2, none⟩ = some (.int .i64 a0_2) := (blk_cell BK101.out 2).trans rfl; have hcz8_3 : w7.cell? ⟨gb101, 3, none⟩ = some (.int .u64 a0_3) := (blk_cell BK101.out 3).trans rfl; have hcz8_4 : w7.cell? ⟨gb101, 4, none⟩ = some (.string a0_4) := (blk_cell BK101.out 4).trans rfl; have hcz8_5 : w7.cell? ⟨gb101, 5, none⟩ = some (.int .u64 a0_5) := (blk_cell BK101.out 5).trans rfl; have hfz8_0 := blk_frozen BK101.out 0; have hfz8_1 := blk_frozen BK101.out 1; have hfz8_2 := blk_frozen BK101.out 2; have hfz8_3 := blk_frozen BK101.out 3; have hfz8_4 := blk_frozen BK101.out 4; have hfz8_5 := blk_frozen BK101.out 5) | (go_at_call 91; (with_reducible refine (doorwardref16_fits.calls k a0_0 _ _ l0_1 a0_2 a0_3 a0_4 a0_5 t103 _ ?side1 ?side2 A4.out).mono ?_); (case side1 => repeat (first | exact (Kd.C_below HR0_1.out HB.out) | (with_reducible refine Kd.C_alloc ?_ _) | (with_reducible refine Kd.C_drewN ?_ _) | (with_reducible refine Kd.C_drew ?_))); (case side2 => exact HC0_1.out); rintro e w9 ⟨rfl, hb⟩; have n0_ := amk (blk_below (g := gb101) (o := .cells #[.int .i64 a0_0, .slice A0_1 l0_1.length c0_1, .int .i64 a0_2, .int .u64 a0_3, .string a0_4, .int .u64 a0_5] 46 (0, 0)) (by (with_reducible repeat (first | refine blk_drewN ?_ _ | refine blk_drew ?_ | refine blk_alloc ?_ _)); exact BK101.out) hb); have n1_ := amk (below_step (by repeat (first | (with_reducible first | exact HB.out | apply bal | apply pbd | apply below_drew1 | refine below_set ?_ GE101.out) | exact HB.out)) hb); clear BK101; clear HB; have BK101 := n0_; have HB := n1_; clear n0_ n1_; (try clear hb); (try clear hb2); (try clear hk); (try clear hi)))
    go_ret
    exact ⟨by first | rfl | (simp [errW_none, errW_some] <;> rfl) | (simp [*, errW_none, errW_some] <;> rfl), by repeat (first | (with_reducible first | exact HB.out | apply bal | apply pbd | apply below_drew1 | refine below_set ?_ GE101.out) | exact HB.out)⟩
  · rw [if_neg c3] at H
    have c3b0 : decide (t102 ≤ 100) = false := decide_eq_false c3
    clear c3
    obtain rfl := Option.some.inj H
    go_enter Try.func47, Try.ntmps47
    go_wp2_with (first | ((with_reducible refine gate_dst (N := 1) rfl ?_); refine box_event ?hg (N := 1) ?hd (cs := #[.int .i64 a0_0, .slice A0_1 l0_1.length c0_1, .int .i64 a0_2, .int .u64 a0_3, .string a0_4, .int .u64 a0_5]) (t := 46) ?hr ?_; (case hd => rfl); (case hg => rfl); (case hr => first | (go_simp; done) | (go_simp; rfl)); intro gb101 hg w10 hbox hb; have n0_ := amk (below_step (by repeat (first | (with_reducible first | exact HB.out | apply bal | apply pbd | apply below_drew1) | exact HB.out)) hb); have n1_ := amk (hbox); have n2_ := amk ((by rw [hg]; exact (below_size (by repeat (first | (with_reducible first | exact HB.out | apply bal | apply pbd | apply below_drew1) | exact HB.out))) : w.heap.size ≤ gb101)); have n3_ := amk ((by rw [hg]; exact (below_size (by repeat (first | (with_reducible first | exact HB.out | apply bal | apply pbd | apply below_drew1) | exact HB.out))) : w.heap.size ≤ gb101)); clear HB; have HB := n0_; have BK101 := n1_; have GW101 := n2_; have GE101 := n3_; clear n0_ n1_ n2_ n3_; clear hb hbox hg; have hcz11_0 : w10.cell? ⟨gb101, 0, none⟩ = some (.int .i64 a0_0) := (blk_cell BK101.out 0).trans rfl; have hcz11_1 : w10.cell? ⟨gb101, 1, none⟩ = some (.slice A0_1 l0_1.length c0_1) := (blk_cell BK101.out 1).trans rfl; have hcz11_2 : w10.cell? ⟨gb101, 2, none⟩ = some (.int .i64 a0_2) := (blk_cell BK101.out 2).trans rfl; have hcz11_3 : w10.cell? ⟨gb101, 3, none⟩ = some (.int .u64 a0_3) := (blk_cell BK101.out 3).trans rfl; have hcz11_4 : w10.cell? ⟨gb101, 4, none⟩ = some (.string a0_4) := (blk_cell BK101.out 4).trans rfl; have hcz11_5 : w10.cell? ⟨gb101, 5, none⟩ = some (.int .u64 a0_5) := (blk_cell BK101.out 5).trans rfl; have hfz11_0 := blk_frozen BK101.out 0; have hfz11_1 := blk_frozen BK101.out 1; have hfz11_2 := blk_frozen BK101.out 2; have hfz11_3 := blk_frozen BK101.out 3; have hfz11_4 := blk_frozen BK101.out 4; have hfz11_5 := blk_frozen BK101.out 5) | ((with_reducible refine gate_callee (f := 43) rfl ?_); refine goesL_ (some 4) rfl rfl Try.func43 (by kernel_rfl) rfl #[.agg #[.int .i64 a0_0, .slice A0_1 l0_1.length c0_1, .int .i64 a0_2, .int .u64 a0_3, .string a0_4, .int .u64 a0_5], .int .i64 100] rfl (by (try simp only [List.map_toArray, List.map_cons, List.map_nil]); first | done | rfl | (simp only [List.length_drop, List.length_take]; rfl)) ?_; (with_reducible refine (doorwardref15_Many.calls a0_0 _ _ l0_1 a0_2 a0_3 a0_4 a0_5 100 t102 _ ?side1 ?side2 A2.out).mono ?_); (case side1 => repeat (first | exact (Kd.C_below HR0_1.out HB.out) | (with_reducible refine Kd.C_alloc ?_ _) | (with_reducible refine Kd.C_drewN ?_ _) | (with_reducible refine Kd.C_drew ?_))); (case side2 => exact HC0_1.out); rintro e w12 ⟨rfl, hb⟩; refine ⟨_, rfl, ?_⟩; have n0_ := amk (blk_below (g := gb101) (o := .cells #[.int .i64 a0_0, .slice A0_1 l0_1.length c0_1, .int .i64 a0_2, .int .u64 a0_3, .string a0_4, .int .u64 a0_5] 46 (0, 0)) (by (with_reducible repeat (first | refine blk_drewN ?_ _ | refine blk_drew ?_ | refine blk_alloc ?_ _)); exact BK101.out) hb); have n1_ := amk (below_step (by repeat (first | (with_reducible first | exact HB.out | apply bal | apply pbd | apply below_drew1 | refine below_set ?_ GE101.out) | exact HB.out)) hb); clear BK101; clear HB; have BK101 := n0_; have HB := n1_; clear n0_ n1_; (try clear hb); (try clear hb2); (try clear hk); (try clear hi)))
    go_ret
    exact ⟨by first | rfl | (simp [errW_none, errW_some] <;> rfl) | (simp [*, errW_none, errW_some] <;> rfl), by repeat (first | (with_reducible first | exact HB.out | apply bal | apply pbd | apply below_drew1 | refine below_set ?_ GE101.out) | exact HB.out)⟩
def types_Right.f (a0_0 : Int) (l0_1 : List (S46)) (a0_2 : Int) (a0_3 : Int) (a0_4 : ByteArray) (a0_5 : Int) : Option (Bool) := (types_count.f a0_0 l0_1 a0_2 a0_3 a0_4 a0_5).bind fun bt108 => (some bt108.2)
set_option maxHeartbeats 8000000 in
set_option maxRecDepth 100000 in
theorem types_Right.calls (a0_0 : Int) (A0_1 : Option Addr) (c0_1 : Nat) (l0_1 : List (S46)) (a0_2 : Int) (a0_3 : Int) (a0_4 : ByteArray) (a0_5 : Int) (r : Bool) (w : World) (hr0_1 : Kd.C k46 w A0_1 l0_1.length l0_1) (hc0_1 : l0_1.length ≤ c0_1) (h : types_Right.f a0_0 l0_1 a0_2 a0_3 a0_4 a0_5 = some r) :
    Calls Try.prog 65 #[.agg #[.int .i64 a0_0, .slice A0_1 l0_1.length c0_1, .int .i64 a0_2, .int .u64 a0_3, .string a0_4, .int .u64 a0_5]] w fun e w' => e = .returned (.bool r) ∧ Below w.heap.size w w' := by
  have hu46 := Try.underlying46
  have HR0_1 := amk hr0_1
  have HC0_1 := amk hc0_1
  clear hr0_1 hc0_1
  have HB := amk (Below.refl w.heap.size w)
  have H : ((types_count.f a0_0 l0_1 a0_2 a0_3 a0_4 a0_5).bind fun bt108 => (some bt108.2)) = some r := h
  clear h
  replace H := Option.bind_eq_some_iff.mp H
  obtain ⟨⟨t108, t109⟩, A20, H⟩ := H
  replace H : (some t109) = some r := H
  have A2 := amk A20
  clear A20
  obtain rfl := Option.some.inj H
  go_enter Try.func65, Try.ntmps65
  go_wp2_with (first | ((with_reducible refine gate_dst (N := 1) rfl ?_); refine box_event ?hg (N := 1) ?hd (cs := #[.int .i64 a0_0, .slice A0_1 l0_1.length c0_1, .int .i64 a0_2, .int .u64 a0_3, .string a0_4, .int .u64 a0_5]) (t := 46) ?hr ?_; (case hd => rfl); (case hg => rfl); (case hr => first | (go_simp; done) | (go_simp; rfl)); intro gb107 hg w3 hbox hb; have n0_ := amk (below_step (by repeat (first | (with_reducible first | exact HB.out | apply bal | apply pbd | apply below_drew1) | exact HB.out)) hb); have n1_ := amk (hbox); have n2_ := amk ((by rw [hg]; exact (below_size (by repeat (first | (with_reducible first | exact HB.out | apply bal | apply pbd | apply below_drew1) | exact HB.out))) : w.heap.size ≤ gb107)); have n3_ := amk ((by rw [hg]; exact (below_size (by repeat (first | (with_reducible first | exact HB.out | apply bal | apply pbd | apply below_drew1) | exact HB.out))) : w.heap.size ≤ gb107)); clear HB; have HB := n0_; have BK107 := n1_; have GW107 := n2_; have GE107 := n3_; clear n0_ n1_ n2_ n3_; clear hb hbox hg; have hcz4_0 : w3.cell? ⟨gb107, 0, none⟩ = some (.int .i64 a0_0) := (blk_cell BK107.out 0).trans rfl; have hcz4_1 : w3.cell? ⟨gb107, 1, none⟩ = some (.slice A0_1 l0_1.length c0_1) := (blk_cell BK107.out 1).trans rfl; have hcz4_2 : w3.cell? ⟨gb107, 2, none⟩ = some (.int .i64 a0_2) := (blk_cell BK107.out 2).trans rfl; have hcz4_3 : w3.cell? ⟨gb107, 3, none⟩ = some (.int .u64 a0_3) := (blk_cell BK107.out 3).trans rfl; have hcz4_4 : w3.cell? ⟨gb107, 4, none⟩ = some (.string a0_4) := (blk_cell BK107.out 4).trans rfl; have hcz4_5 : w3.cell? ⟨gb107, 5, none⟩ = some (.int .u64 a0_5) := (blk_cell BK107.out 5).trans rfl; have hfz4_0 := blk_frozen BK107.out 0; have hfz4_1 := blk_frozen BK107.out 1; have hfz4_2 := blk_frozen BK107.out 2; have hfz4_3 := blk_frozen BK107.out 3; have hfz4_4 := blk_frozen BK107.out 4; have hfz4_5 := blk_frozen BK107.out 5) | ((with_reducible refine gate_callee (f := 101) rfl ?_); refine goesL_ (some 7) rfl rfl Try.func101 (by kernel_rfl) rfl #[.agg #[.int .i64 a0_0, .slice A0_1 l0_1.length c0_1, .int .i64 a0_2, .int .u64 a0_3, .string a0_4, .int .u64 a0_5]] rfl (by (try simp only [List.map_toArray, List.map_cons, List.map_nil]); first | done | rfl | (simp only [List.length_drop, List.length_take]; rfl)) ?_; (with_reducible refine (types_count.calls a0_0 _ _ l0_1 a0_2 a0_3 a0_4 a0_5 t108 t109 _ ?side1 ?side2 A2.out).mono ?_); (case side1 => repeat (first | exact (Kd.C_below HR0_1.out HB.out) | (with_reducible refine Kd.C_alloc ?_ _) | (with_reducible refine Kd.C_drewN ?_ _) | (with_reducible refine Kd.C_drew ?_))); (case side2 => exact HC0_1.out); rintro e w5 ⟨rfl, hb⟩; refine ⟨_, rfl, ?_⟩; have n0_ := amk (blk_below (g := gb107) (o := .cells #[.int .i64 a0_0, .slice A0_1 l0_1.length c0_1, .int .i64 a0_2, .int .u64 a0_3, .string a0_4, .int .u64 a0_5] 46 (0, 0)) (by (with_reducible repeat (first | refine blk_drewN ?_ _ | refine blk_drew ?_ | refine blk_alloc ?_ _)); exact BK107.out) hb); have n1_ := amk (below_step (by repeat (first | (with_reducible first | exact HB.out | apply bal | apply pbd | apply below_drew1 | refine below_set ?_ GE107.out) | exact HB.out)) hb); clear BK107; clear HB; have BK107 := n0_; have HB := n1_; clear n0_ n1_; (try clear hb); (try clear hb2); (try clear hk); (try clear hi)))
  go_ret
  exact ⟨by first | rfl | (simp [errW_none, errW_some] <;> rfl) | (simp [*, errW_none, errW_some] <;> rfl), by repeat (first | (with_reducible first | exact HB.out | apply bal | apply pbd | apply below_drew1 | refine below_set ?_ GE107.out) | exact HB.out)⟩
end Go.Proofs.Ytoeklekjhaigoaa.M1
end
section
namespace Go.Proofs.Ytoeklekjhaigoaa.HHold
open Go.Proofs.Ytoeklekjhaigoaa.Al Go.RowKit Go.Proofs.YtoeklekjhaigoaaW.PrintWords Go.Proofs.YtoeklekjhaigoaaW.PrintLast Go.Proofs.YtoeklekjhaigoaaW.PrintMore Go.Proofs.Ytoeklekjhaigoaa.M0 Go.Proofs.Ytoeklekjhaigoaa.QCond Go.Proofs.Ytoeklekjhaigoaa.QMean Go.Proofs.Ytoeklekjhaigoaa.QOne Go.Proofs.Ytoeklekjhaigoaa.HMany Go.Proofs.Ytoeklekjhaigoaa.WMap Go.Proofs.Ytoeklekjhaigoaa.K49
set_option linter.unusedVariables false
set_option linter.unusedSimpArgs false
set_option maxRecDepth 100000
attribute [local go_sem] max2_int min2_int max_two min_two
def idxN {α : Type} (p : α → Bool) : List α → Option Nat
  | [] => none
  | x :: l => if p x = true then some 0 else (idxN p l).map (· + 1)
def idxI {α : Type} (p : α → Bool) (l : List α) : Int := match idxN p l with | some i => (i : Int) | none => -1
theorem idxN_hit {α : Type} (p : α → Bool) (z : α) : ∀ (l : List α) (k : Nat), k < l.length → (∀ j, j < k → p (l.getD j z) = false) → p (l.getD k z) = true → idxN p l = some k := by
  intro l
  induction l with
  | nil => intro k h; exact absurd h (Nat.not_lt_zero _)
  | cons x l ih =>
    intro k h h1 h2
    unfold idxN
    cases k with
    | zero => rw [if_pos (by simpa using h2)]
    | succ k =>
      have h0 := h1 0 (by omega)
      rw [if_neg (by simpa using h0), ih k (by simpa using h) (fun j hj => by simpa using h1 (j + 1) (by omega)) (by simpa using h2)]
      rfl
theorem idxN_miss {α : Type} (p : α → Bool) (z : α) : ∀ (l : List α), (∀ j, j < l.length → p (l.getD j z) = false) → idxN p l = none := by
  intro l
  induction l with
  | nil => intro _; rfl
  | cons x l ih =>
    intro h1
    unfold idxN
    have h0 := h1 0 (by simp)
    rw [if_neg (by simpa using h0), ih (fun j hj => by simpa using h1 (j + 1) (by simpa using hj))]
    rfl
theorem idxI_any {α : Type} (p : α → Bool) (l : List α) : decide (idxI p l ≥ 0) = l.any p := by
  unfold idxI
  induction l with
  | nil => rfl
  | cons x l ih =>
    unfold idxN
    rw [List.any_cons]
    cases hx : p x with
    | true => rw [if_pos rfl]; rfl
    | false =>
      rw [if_neg (by decide), Bool.false_or, ← ih]
      cases idxN p l with
      | none => rfl
      | some i => exact decide_eq_decide.2 ⟨fun _ => by show (0 : Int) ≤ (i : Int); omega, fun _ => by show (0 : Int) ≤ ((i + 1 : Nat) : Int); omega⟩
set_option maxHeartbeats 2000000 in
theorem idx_c {g : Nat} {lb : Array Value} (p : S46 → Bool) (eg : ∀ args w, (callFunc g args).run Try.prog w = .ok (.enter g args) w) (A : Option Addr) (c0 : Nat) (l : List S46) (w : World) (hC : Kd.C k46 w A l.length l) (hl : l.length ≤ 1000000)
    (hp : ∀ (W : World) (x : S46) (A1 : Option Addr) (n1 : Nat), x ∈ l → Below w.heap.size w W → Kd.C k46 W A1 x.f1.length x.f1 → x.f1.length ≤ n1 → Calls Try.prog g (#[.agg #[.int .i64 x.f0, .slice A1 x.f1.length n1, .int .i64 x.f2, .int .u64 x.f3, .string x.f4, .int .u64 x.f5]] ++ lb) W fun e w' => e = .returned (.bool (p x)) ∧ Below W.heap.size W w') :
    Calls Try.prog 148 #[.slice A l.length c0, .func (.func g) #[] lb] w fun e w' => e = .returned (.int .i64 (idxI p l)) ∧ Below w.heap.size w w' := by
  go_enter Try.func148, Try.ntmps148
  go_wp2
  go_loopg [5, 8] l.length (fun gg _ s8 wr => ∃ kk : Nat, kk ≤ l.length ∧ l.length - kk ≤ gg ∧ s8 = .int .i64 kk ∧ Aside0 (Below w.heap.size w wr) ∧ Aside0 (∀ j, j < kk → p (l.getD j z46) = false))
  case atStart => exact ⟨0, Nat.zero_le _, by omega, rfl, ⟨Below.refl _ w⟩, ⟨fun j hj => absurd hj (Nat.not_lt_zero _)⟩⟩
  case round =>
    obtain ⟨kk, hkk, hg, rfl, BW, AA⟩ := hrel
    by_cases hlt : kk < l.length
    · have hltz : (kk : Int) < (l.length : Int) := by omega
      obtain ⟨ad, A1, n1, e102, hx0, hx1, hx2, hx3, hx4, hx5, hn1, hC1⟩ := at_T46 (Kd.C_below hC BW.out) (kk : Int) (by omega) (by omega)
      cases e102
      have hmem : rd_T46 l (kk : Int) ∈ l := by rw [rd46 l kk hlt]; exact List.getElem_mem hlt
      have hcall := hp wr (rd_T46 l (kk : Int)) A1 n1 hmem BW.out hC1 hn1
      have hrd : rd_T46 l (kk : Int) = l.getD kk z46 := rfl
      rw [hrd] at hx0 hx1 hx2 hx3 hx4 hx5 hcall
      simp only [Int.toNat_natCast] at hx0 hx1 hx2 hx3 hx4 hx5
      clear hrd hC hp hC1 hn1 hmem
      generalize hy : l.getD kk z46 = y at hx0 hx1 hx2 hx3 hx4 hx5 hcall
      have B : Aside0 (l.getD kk z46 = y) := ⟨hy⟩
      clear hy
      cases hq : p y with
      | true =>
        rw [hq] at hcall
        go_wp2_with (go_at_fn g; refine hcall.mono ?_; rintro e w' ⟨rfl, hb'⟩)
        go_ret
        refine ⟨?_, below_step BW.out hb'⟩
        unfold idxI
        rw [idxN_hit p z46 l kk hlt AA.out (by rw [B.out]; exact hq)]; rfl
      | false =>
        rw [hq] at hcall
        go_wp2_with (go_at_fn g; refine hcall.mono ?_; rintro e w' ⟨rfl, hb'⟩)
        go_roundg (l.length - (kk + 1))
        case measure => omega
        case rel =>
          refine ⟨kk + 1, by omega, by omega, by go_num, ⟨below_step BW.out hb'⟩, ⟨fun j hj => ?_⟩⟩
          by_cases e : j = kk
          · subst e
            rw [B.out]; exact hq
          · exact AA.out j (by omega)
    · have hltz : ¬ (kk : Int) < (l.length : Int) := by omega
      obtain rfl : kk = l.length := by omega
      clear hC hp
      go_wp2
      go_ret
      refine ⟨?_, BW.out⟩
      unfold idxI
      rw [idxN_miss p z46 l AA.out]; rfl
theorem contains_c {g : Nat} {lb : Array Value} (p : S46 → Bool) (eg : ∀ args w, (callFunc g args).run Try.prog w = .ok (.enter g args) w) (A : Option Addr) (c0 : Nat) (l : List S46) (w : World) (hC : Kd.C k46 w A l.length l) (hl : l.length ≤ 1000000)
    (hp : ∀ (W : World) (x : S46) (A1 : Option Addr) (n1 : Nat), x ∈ l → Below w.heap.size w W → Kd.C k46 W A1 x.f1.length x.f1 → x.f1.length ≤ n1 → Calls Try.prog g (#[.agg #[.int .i64 x.f0, .slice A1 x.f1.length n1, .int .i64 x.f2, .int .u64 x.f3, .string x.f4, .int .u64 x.f5]] ++ lb) W fun e w' => e = .returned (.bool (p x)) ∧ Below W.heap.size W w') :
    Calls Try.prog 123 #[.slice A l.length c0, .func (.func g) #[] lb] w fun e w' => e = .returned (.bool (l.any p)) ∧ Below w.heap.size w w' := by
  have hI := idx_c p eg A c0 l w hC hl hp
  have hA := amk (idxI_any p l)
  clear hC hp
  generalize idxI p l = i at *
  go_enter Try.func123, Try.ntmps123
  go_wp2_with (go_at_call 148; refine hI.mono ?_; rintro e w1 ⟨rfl, hb1⟩)
  go_ret
  exact ⟨congrArg (fun b : Bool => Ending.returned (.bool b)) hA.out, hb1⟩
theorem zero161 (w : World) : (zeroValue 161).run Try.prog w = .ok .nilFunc w := by kernel_rfl
theorem MapV.look0 {P : Program} {K : TypeId} {w : World} {b n : Nat} {L : Lit → Option Value} {t e : TypeId} {z : Value} (h : MapV P K w b n L) (hK : Maps.Keyed P K) (ht : P.underlying t = some (.map K e)) (hz : (zeroValue e).run P w = .ok z w) {key : Value} {kl : Lit} (hkey : keyOf P K key = some kl) :
    (Instr.lookup t (.map (some b)) key false).run P w = .ok ((L kl).getD z) w := by
  obtain ⟨D, ho, hm, hat⟩ := h
  obtain ⟨v, ps, hrun, hv⟩ := ho.lookup (t := t) (e := e) hK ht hz (zd := .held z) (zp := []) rfl hkey
  rw [hrun]
  have hv' : (some (DataW.held v, []) : Option (DataW Value × List MemPlace)) = some (D.atKey kl (.held z), ps) := hv
  rw [hat] at hv'
  cases hL : L kl with
  | none => rw [hL] at hv'; injection hv' with hv'; injection hv' with h1 _; injection h1 with h1; rw [h1]; rfl
  | some x => rw [hL] at hv'; injection hv' with hv'; injection hv' with h1 _; injection h1 with h1; rw [h1]; rfl
abbrev fnV (f : Nat) : Value := .func (.func f) #[] #[]
/-- The function for a sign. -/
def fnOf (s : List UInt8) : Nat := if s = [62, 61] then 147 else if s = [62] then 146 else if s = [60, 61] then 145 else if s = [60] then 144 else if s = [33, 61] then 143 else 142
def askL (x : Lit) : Option Value :=
  if x.sameKey (.string [62, 61]) = true then some (fnV 147) else if x.sameKey (.string [62]) = true then some (fnV 146) else if x.sameKey (.string [60, 61]) = true then some (fnV 145)
  else if x.sameKey (.string [60]) = true then some (fnV 144) else if x.sameKey (.string [33, 61]) = true then some (fnV 143) else if x.sameKey (.string [61, 61]) = true then some (fnV 142) else none
theorem askL_sign (s : List UInt8) (h : s ∈ signs) : askL (.string s) = some (fnV (fnOf s)) := by
  unfold signs at h
  simp only [List.mem_cons, List.not_mem_nil, or_false] at h
  rcases h with rfl | rfl | rfl | rfl | rfl | rfl <;> rfl
theorem asks_c (w : World) : Calls Try.prog 122 #[] w fun e w' => ∃ b, e = .returned (.map (some b)) ∧ MapV Try.prog 9 w' b 6 askL ∧ Below w.heap.size w w' := by
  have hmm := @run_makeMap Try.prog
  have h0 := MapV.made Try.prog 9 w
  obtain ⟨w1, r1, h1, g1⟩ := h0.store (t := 162) (e := 161) (val := fnV 142) HAct.keyed9 Try.underlying162 (by omega) (HAct.keyS ⟨#[61, 61]⟩ (by decide)) trivial
  obtain ⟨w2, r2, h2, g2⟩ := h1.store (t := 162) (e := 161) (val := fnV 143) HAct.keyed9 Try.underlying162 (by omega) (HAct.keyS ⟨#[33, 61]⟩ (by decide)) trivial
  obtain ⟨w3, r3, h3, g3⟩ := h2.store (t := 162) (e := 161) (val := fnV 144) HAct.keyed9 Try.underlying162 (by omega) (HAct.keyS ⟨#[60]⟩ (by decide)) trivial
  obtain ⟨w4, r4, h4, g4⟩ := h3.store (t := 162) (e := 161) (val := fnV 145) HAct.keyed9 Try.underlying162 (by omega) (HAct.keyS ⟨#[60, 61]⟩ (by decide)) trivial
  obtain ⟨w5, r5, h5, g5⟩ := h4.store (t := 162) (e := 161) (val := fnV 146) HAct.keyed9 Try.underlying162 (by omega) (HAct.keyS ⟨#[62]⟩ (by decide)) trivial
  obtain ⟨w6, r6, h6, g6⟩ := h5.store (t := 162) (e := 161) (val := fnV 147) HAct.keyed9 Try.underlying162 (by omega) (HAct.keyS ⟨#[62, 61]⟩ (by decide)) trivial
  have hb0 : Below w.heap.size w (w.alloc (.map #[] 0)) := Below.alloc (Below.refl w.heap.size w) (Nat.le_refl _) _
  have hb1 := hb0.grown g1 hb0.size (fun k hk => by cases hk; exact Nat.le_refl _)
  have hb2 := hb1.grown g2 hb1.size (fun k hk => by cases hk; exact Nat.le_refl _)
  have hb3 := hb2.grown g3 hb2.size (fun k hk => by cases hk; exact Nat.le_refl _)
  have hb4 := hb3.grown g4 hb3.size (fun k hk => by cases hk; exact Nat.le_refl _)
  have hb5 := hb4.grown g5 hb4.size (fun k hk => by cases hk; exact Nat.le_refl _)
  have hb6 := amk (hb5.grown g6 hb5.size (fun k hk => by cases hk; exact Nat.le_refl _))
  have HM := amk h6
  clear h0 h1 h2 h3 h4 h5 h6 g1 g2 g3 g4 g5 g6 hb0 hb1 hb2 hb3 hb4 hb5
  go_enter Try.func122, Try.ntmps122
  go_wp2
  go_ret
  exact ⟨_, rfl, HM.out, hb6.out⟩
theorem ask142 (a v : Int) (w : World) : Calls Try.prog 142 #[.int .u64 a, .int .u64 v] w fun e w' => e = .returned (.bool (decide (a = v))) ∧ Below w.heap.size w w' := by
  go_enter Try.func142, Try.ntmps142
  go_wp2
  go_ret
  exact ⟨by first | rfl | (congr 2; by_cases h : a = v <;> simp [h]), Below.refl _ _⟩
theorem ask143 (a v : Int) (w : World) : Calls Try.prog 143 #[.int .u64 a, .int .u64 v] w fun e w' => e = .returned (.bool (!decide (a = v))) ∧ Below w.heap.size w w' := by
  go_enter Try.func143, Try.ntmps143
  go_wp2
  go_ret
  exact ⟨by first | rfl | (congr 2; by_cases h : a = v <;> simp [h]), Below.refl _ _⟩
theorem ask144 (a v : Int) (w : World) : Calls Try.prog 144 #[.int .u64 a, .int .u64 v] w fun e w' => e = .returned (.bool (decide (a < v))) ∧ Below w.heap.size w w' := by
  go_enter Try.func144, Try.ntmps144
  go_wp2
  go_ret
  exact ⟨rfl, Below.refl _ _⟩
theorem ask145 (a v : Int) (w : World) : Calls Try.prog 145 #[.int .u64 a, .int .u64 v] w fun e w' => e = .returned (.bool (decide (a ≤ v))) ∧ Below w.heap.size w w' := by
  go_enter Try.func145, Try.ntmps145
  go_wp2
  go_ret
  exact ⟨rfl, Below.refl _ _⟩
theorem ask146 (a v : Int) (w : World) : Calls Try.prog 146 #[.int .u64 a, .int .u64 v] w fun e w' => e = .returned (.bool (decide (v < a))) ∧ Below w.heap.size w w' := by
  go_enter Try.func146, Try.ntmps146
  go_wp2
  go_ret
  exact ⟨rfl, Below.refl _ _⟩
theorem ask147 (a v : Int) (w : World) : Calls Try.prog 147 #[.int .u64 a, .int .u64 v] w fun e w' => e = .returned (.bool (decide (v ≤ a))) ∧ Below w.heap.size w w' := by
  go_enter Try.func147, Try.ntmps147
  go_wp2
  go_ret
  exact ⟨rfl, Below.refl _ _⟩
theorem ask_c (s : List UInt8) (h : s ∈ signs) (a v : Int) (w : World) : Calls Try.prog (fnOf s) #[.int .u64 a, .int .u64 v] w fun e w' => e = .returned (.bool (signB s a v)) ∧ Below w.heap.size w w' := by
  unfold signs at h
  simp only [List.mem_cons, List.not_mem_nil, or_false] at h
  rcases h with rfl | rfl | rfl | rfl | rfl | rfl
  · exact ask142 a v w
  · exact ask143 a v w
  · exact ask144 a v w
  · exact ask145 a v w
  · exact ask146 a v w
  · exact ask147 a v w
theorem eg_ask (s : List UInt8) (h : s ∈ signs) : ∀ args w, (callFunc (fnOf s) args).run Try.prog w = .ok (.enter (fnOf s) args) w := by
  unfold signs at h
  simp only [List.mem_cons, List.not_mem_nil, or_false] at h
  rcases h with rfl | rfl | rfl | rfl | rfl | rfl
  · exact enters_of Try.func142 (by kernel_rfl) rfl
  · exact enters_of Try.func143 (by kernel_rfl) rfl
  · exact enters_of Try.func144 (by kernel_rfl) rfl
  · exact enters_of Try.func145 (by kernel_rfl) rfl
  · exact enters_of Try.func146 (by kernel_rfl) rfl
  · exact enters_of Try.func147 (by kernel_rfl) rfl
end Go.Proofs.Ytoeklekjhaigoaa.HHold
end
section
namespace Go.Proofs.Ytoeklekjhaigoaa.HMean
open Go.Proofs.Ytoeklekjhaigoaa.Al Go.RowKit Go.Proofs.YtoeklekjhaigoaaW.PrintWords Go.Proofs.YtoeklekjhaigoaaW.PrintLast Go.Proofs.YtoeklekjhaigoaaW.PrintMore Go.Proofs.Ytoeklekjhaigoaa.M0 Go.Proofs.Ytoeklekjhaigoaa.QCond Go.Proofs.Ytoeklekjhaigoaa.QMean Go.Proofs.Ytoeklekjhaigoaa.QOne Go.Proofs.Ytoeklekjhaigoaa.HMany Go.Proofs.Ytoeklekjhaigoaa.HHold Go.Proofs.Ytoeklekjhaigoaa.K49 Go.Proofs.Ytoeklekjhaigoaa.WMap
set_option linter.unusedVariables false
set_option linter.unusedSimpArgs false
set_option maxRecDepth 100000
attribute [local go_sem] max2_int min2_int max_two min_two
def HoldsAt (x : S49) (c : S46) : Prop := ∀ (A : Option Addr) (n : Nat) (w : World), Kd.C k46 w A c.f1.length c.f1 → c.f1.length ≤ n →
  Calls Try.prog 89 #[.agg #[.int .i64 c.f0, .slice A c.f1.length n, .int .i64 c.f2, .int .u64 c.f3, .string c.f4, .int .u64 c.f5], .agg #[.int .u32 x.f0, .int .u32 x.f1, .int .u64 x.f2, .int .u64 x.f3.f0, .int .u64 x.f3.f1, .int .u64 x.f3.f2, .int .u64 x.f3.f3, .int .u64 x.f3.f4, .int .u64 x.f3.f5]] w fun e w' => e = .returned (.bool (semB x c)) ∧ Below w.heap.size w w'
theorem does_c {x : S49} {c : S46} (h : HoldsAt x c) {xb : Nat} (A : Option Addr) (n : Nat) (w : World) (hx : w.heap[xb]? = some (.cells #[.int .u32 x.f0, .int .u32 x.f1, .int .u64 x.f2, .int .u64 x.f3.f0, .int .u64 x.f3.f1, .int .u64 x.f3.f2, .int .u64 x.f3.f3, .int .u64 x.f3.f4, .int .u64 x.f3.f5] 49 (0, 0))) (hC : Kd.C k46 w A c.f1.length c.f1) (hn : c.f1.length ≤ n) :
    Calls Try.prog 121 #[.agg #[.int .i64 c.f0, .slice A c.f1.length n, .int .i64 c.f2, .int .u64 c.f3, .string c.f4, .int .u64 c.f5], .pointer (some ⟨xb, 0, none⟩)] w fun e w' => e = .returned (.bool (semB x c)) ∧ Below w.heap.size w w' := by
  have hu46 := Try.underlying46
  have hu49 := Try.underlying49
  have hb := bal (Below.refl w.heap.size w) (.cells #[.int .i64 c.f0, .slice A c.f1.length n, .int .i64 c.f2, .int .u64 c.f3, .string c.f4, .int .u64 c.f5] 46)
  have hx1 := (hb.block xb (blk_lt hx)).trans hx
  have k0 := blk_cell hx1 0
  have k1 := blk_cell hx1 1
  have k2 := blk_cell hx1 2
  have k3 := blk_cell hx1 3
  have k4 := blk_cell hx1 4
  have k5 := blk_cell hx1 5
  have k6 := blk_cell hx1 6
  have k7 := blk_cell hx1 7
  have k8 := blk_cell hx1 8
  have HC := amk (h A n _ (Kd.C_below hC hb) hn)
  have HB := amk hb
  clear h hx hx1 hC hb
  generalize semB x c = r at *
  go_enter Try.func121, Try.ntmps121
  go_wp2_with (go_at_call 89; refine HC.out.mono ?_; rintro e w1 ⟨rfl, hb1⟩; have HE := amk (below_step HB.out hb1); clear hb1)
  go_ret
  exact ⟨rfl, HE.out⟩
theorem not_c {x : S49} {c : S46} (h : HoldsAt x c) {xb db : Nat} (A : Option Addr) (n : Nat) (w : World) (hx : w.heap[xb]? = some (.cells #[.int .u32 x.f0, .int .u32 x.f1, .int .u64 x.f2, .int .u64 x.f3.f0, .int .u64 x.f3.f1, .int .u64 x.f3.f2, .int .u64 x.f3.f3, .int .u64 x.f3.f4, .int .u64 x.f3.f5] 49 (0, 0))) (hd : w.heap[db]? = some (.cells #[.func (.func 121) #[] #[.pointer (some ⟨xb, 0, none⟩)]] 52 (0, 0))) (hC : Kd.C k46 w A c.f1.length c.f1) (hn : c.f1.length ≤ n) :
    Calls Try.prog 124 #[.agg #[.int .i64 c.f0, .slice A c.f1.length n, .int .i64 c.f2, .int .u64 c.f3, .string c.f4, .int .u64 c.f5], .pointer (some ⟨db, 0, none⟩)] w fun e w' => e = .returned (.bool (!semB x c)) ∧ Below w.heap.size w w' := by
  have hu46 := Try.underlying46
  have hb := bal (Below.refl w.heap.size w) (.cells #[.int .i64 c.f0, .slice A c.f1.length n, .int .i64 c.f2, .int .u64 c.f3, .string c.f4, .int .u64 c.f5] 46)
  have hd1 := (hb.block db (blk_lt hd)).trans hd
  have hx1 := (hb.block xb (blk_lt hx)).trans hx
  have k0 := blk_cell hd1 0
  have HC := amk (does_c h A n _ hx1 (Kd.C_below hC hb) hn)
  have HB := amk hb
  clear h hx hx1 hd hd1 hC hb
  generalize semB x c = r at *
  go_enter Try.func124, Try.ntmps124
  go_wp2_with (go_at_call 121; refine HC.out.mono ?_; rintro e w1 ⟨rfl, hb1⟩; have HE := amk (below_step HB.out hb1); clear hb1)
  go_ret
  exact ⟨rfl, HE.out⟩
theorem eg121 : ∀ args w, (callFunc 121 args).run Try.prog w = .ok (.enter 121 args) w := enters_of Try.func121 (by kernel_rfl) rfl
theorem eg124 : ∀ args w, (callFunc 124 args).run Try.prog w = .ok (.enter 124 args) w := enters_of Try.func124 (by kernel_rfl) rfl
theorem any_not (x : S49) (l : List S46) : (!l.any fun k => !semB x k) = semA x l := by
  rw [semA_all]
  induction l with
  | nil => rfl
  | cons c l ih => rw [List.any_cons, List.all_cons, ← ih, Bool.not_or, Bool.not_not]
set_option maxHeartbeats 4000000 in
theorem holds_c (x : S49) : ∀ (m : Nat), m ≤ 1000 → ∀ (c : S46), nodes c ≤ m → fitsB c = true → HoldsAt x c := by
  intro m
  induction m with
  | zero => intro _ c h; have := nodes_pos c; omega
  | succ m ih =>
    intro hm c h hf A n w hC hn
    have ⟨ho, hL⟩ := fits_one hf
    have hsem := sem_eq x c
    have e1 := nodes_eq c
    have e2 := len_nodes c.f1
    have hkid : ∀ d ∈ c.f1, HoldsAt x d := fun d hd => ih (by omega) d (by have := nodes_mem hd; omega) (fits_mem hL hd)
    have hu46 := Try.underlying46
    have hu49 := Try.underlying49
    have hmf : ∀ (fn : Fn) (first cap : Array Value) (w : World), (Instr.makeFunc fn first cap).run Try.prog w = .ok (.func fn first cap) w := fun _ _ _ _ => rfl
    have hb := bal (bal (bal (Below.refl w.heap.size w) (.cells #[.int .i64 c.f0, .slice A c.f1.length n, .int .i64 c.f2, .int .u64 c.f3, .string c.f4, .int .u64 c.f5] 46)) (.cells #[.int .u32 x.f0, .int .u32 x.f1, .int .u64 x.f2, .int .u64 x.f3.f0, .int .u64 x.f3.f1, .int .u64 x.f3.f2, .int .u64 x.f3.f3, .int .u64 x.f3.f4, .int .u64 x.f3.f5] 49)) (.cells #[.func (.func 121) #[] #[.pointer (some ⟨w.heap.size + 1, 0, none⟩)]] 52)
    have s1 : (w.alloc (.cells #[.int .i64 c.f0, .slice A c.f1.length n, .int .i64 c.f2, .int .u64 c.f3, .string c.f4, .int .u64 c.f5] 46)).heap.size = w.heap.size + 1 := by simp
    have s2 : ((w.alloc (.cells #[.int .i64 c.f0, .slice A c.f1.length n, .int .i64 c.f2, .int .u64 c.f3, .string c.f4, .int .u64 c.f5] 46)).alloc (.cells #[.int .u32 x.f0, .int .u32 x.f1, .int .u64 x.f2, .int .u64 x.f3.f0, .int .u64 x.f3.f1, .int .u64 x.f3.f2, .int .u64 x.f3.f3, .int .u64 x.f3.f4, .int .u64 x.f3.f5] 49)).heap.size = w.heap.size + 1 + 1 := by simp
    have hc1 := heap_alloc_new w (.cells #[.int .i64 c.f0, .slice A c.f1.length n, .int .i64 c.f2, .int .u64 c.f3, .string c.f4, .int .u64 c.f5] 46)
    have hx1 := heap_alloc_new (w.alloc (.cells #[.int .i64 c.f0, .slice A c.f1.length n, .int .i64 c.f2, .int .u64 c.f3, .string c.f4, .int .u64 c.f5] 46)) (.cells #[.int .u32 x.f0, .int .u32 x.f1, .int .u64 x.f2, .int .u64 x.f3.f0, .int .u64 x.f3.f1, .int .u64 x.f3.f2, .int .u64 x.f3.f3, .int .u64 x.f3.f4, .int .u64 x.f3.f5] 49)
    have hd1 := heap_alloc_new ((w.alloc (.cells #[.int .i64 c.f0, .slice A c.f1.length n, .int .i64 c.f2, .int .u64 c.f3, .string c.f4, .int .u64 c.f5] 46)).alloc (.cells #[.int .u32 x.f0, .int .u32 x.f1, .int .u64 x.f2, .int .u64 x.f3.f0, .int .u64 x.f3.f1, .int .u64 x.f3.f2, .int .u64 x.f3.f3, .int .u64 x.f3.f4, .int .u64 x.f3.f5] 49)) (.cells #[.func (.func 121) #[] #[.pointer (some ⟨w.heap.size + 1, 0, none⟩)]] 52)
    rw [s1] at hx1
    rw [s2] at hd1
    have hc2 := (Below.heap_alloc (w.alloc (.cells #[.int .i64 c.f0, .slice A c.f1.length n, .int .i64 c.f2, .int .u64 c.f3, .string c.f4, .int .u64 c.f5] 46)) (.cells #[.int .u32 x.f0, .int .u32 x.f1, .int .u64 x.f2, .int .u64 x.f3.f0, .int .u64 x.f3.f1, .int .u64 x.f3.f2, .int .u64 x.f3.f3, .int .u64 x.f3.f4, .int .u64 x.f3.f5] 49) w.heap.size (by rw [s1]; omega)).trans hc1
    have hc3 := (Below.heap_alloc ((w.alloc (.cells #[.int .i64 c.f0, .slice A c.f1.length n, .int .i64 c.f2, .int .u64 c.f3, .string c.f4, .int .u64 c.f5] 46)).alloc (.cells #[.int .u32 x.f0, .int .u32 x.f1, .int .u64 x.f2, .int .u64 x.f3.f0, .int .u64 x.f3.f1, .int .u64 x.f3.f2, .int .u64 x.f3.f3, .int .u64 x.f3.f4, .int .u64 x.f3.f5] 49)) (.cells #[.func (.func 121) #[] #[.pointer (some ⟨w.heap.size + 1, 0, none⟩)]] 52) w.heap.size (by rw [s2]; omega)).trans hc2
    have hx2 := (Below.heap_alloc ((w.alloc (.cells #[.int .i64 c.f0, .slice A c.f1.length n, .int .i64 c.f2, .int .u64 c.f3, .string c.f4, .int .u64 c.f5] 46)).alloc (.cells #[.int .u32 x.f0, .int .u32 x.f1, .int .u64 x.f2, .int .u64 x.f3.f0, .int .u64 x.f3.f1, .int .u64 x.f3.f2, .int .u64 x.f3.f3, .int .u64 x.f3.f4, .int .u64 x.f3.f5] 49)) (.cells #[.func (.func 121) #[] #[.pointer (some ⟨w.heap.size + 1, 0, none⟩)]] 52) (w.heap.size + 1) (by rw [s2]; omega)).trans hx1
    have hC1 := Kd.C_below hC hb
    clear hc1 hc2 hx1 hC hf hL ih
    have HNE := amk (one_kids ho)
    have HT := amk (one_test ho)
    have HS := amk hsem
    have HLEN := amk (show c.f1.length ≤ 1000000 by omega)
    clear ho hsem e1 e2 h s1 s2
    go_enter Try.func89, Try.ntmps89
    go_upto_region 2 with (fail)
    generalize ((w.alloc (.cells #[.int .i64 c.f0, .slice A c.f1.length n, .int .i64 c.f2, .int .u64 c.f3, .string c.f4, .int .u64 c.f5] 46)).alloc (.cells #[.int .u32 x.f0, .int .u32 x.f1, .int .u64 x.f2, .int .u64 x.f3.f0, .int .u64 x.f3.f1, .int .u64 x.f3.f2, .int .u64 x.f3.f3, .int .u64 x.f3.f4, .int .u64 x.f3.f5] 49)).alloc (.cells #[.func (.func 121) #[] #[.pointer (some ⟨w.heap.size + 1, 0, none⟩)]] 52) = W at *
    have k0 := blk_cell hc3 0
    have k1 := blk_cell hc3 1
    have kd := blk_cell hd1 0
    have HB := amk hb
    have HC := amk hC1
    have HX := amk hx2
    have HCC := amk hc3
    have HD := amk hd1
    have HK := amk hkid
    have HN := amk hn
    clear hb hC1 hx2 hc3 hd1 hkid hn
    by_cases h4 : c.f0 = 4
    · have d4 : (c.f0 == 4) = true := by simpa using h4
      obtain ⟨g0, g6, gs⟩ := HT.out h4
      have hs' : c.f4.toList ∈ signs := by unfold signOk at gs; exact List.contains_iff_mem.1 gs
      have S5 := amk (fun (W' : World) (hc : W'.heap[w.heap.size]? = some (.cells #[.int .i64 c.f0, .slice A c.f1.length n, .int .i64 c.f2, .int .u64 c.f3, .string c.f4, .int .u64 c.f5] 46 (0, 0))) (hx : W'.heap[w.heap.size + 1]? = some (.cells #[.int .u32 x.f0, .int .u32 x.f1, .int .u64 x.f2, .int .u64 x.f3.f0, .int .u64 x.f3.f1, .int .u64 x.f3.f2, .int .u64 x.f3.f3, .int .u64 x.f3.f4, .int .u64 x.f3.f5] 49 (0, 0))) => (show W'.cell? ⟨w.heap.size, 4, none⟩ = some (.string c.f4) ∧ W'.cell? ⟨w.heap.size, 2, none⟩ = some (.int .i64 c.f2) ∧ W'.cell? ⟨w.heap.size, 3, none⟩ = some (.int .u64 c.f3) ∧ W'.cell? ⟨w.heap.size, 5, none⟩ = some (.int .u64 c.f5) ∧ W'.cell? ⟨w.heap.size + 1, 3 + c.f2.toNat, none⟩ = some (.int .u64 (argAt x.f3 c.f2)) from ⟨blk_cell hc 4, blk_cell hc 2, blk_cell hc 3, blk_cell hc 5, by
        have hi6 : c.f2 = 0 ∨ c.f2 = 1 ∨ c.f2 = 2 ∨ c.f2 = 3 ∨ c.f2 = 4 ∨ c.f2 = 5 := by omega
        unfold argAt
        rcases hi6 with e | e | e | e | e | e <;> rw [e] <;> exact blk_cell hx _⟩))
      have HE := amk (show signB c.f4.toList (bits BinOp.and IntKind.u64 (argAt x.f3 c.f2) c.f3) c.f5 = semB x c from by rw [HS.out, if_pos h4]; rfl)
      have HQ := amk (ask_c c.f4.toList hs' (bits BinOp.and IntKind.u64 (argAt x.f3 c.f2) c.f3) c.f5)
      have hkey : keyOf Try.prog 9 (.string c.f4) = some (.string c.f4.toList) := by
        have hz : c.f4.size ≤ 2 := by
          rw [ByteArray.toList_eq] at hs'
          have e : c.f4.data.toList.length = c.f4.size := by rw [Array.length_toList]; rfl
          rw [← e]
          generalize c.f4.data.toList = q at hs'
          unfold signs at hs'
          simp only [List.mem_cons, List.not_mem_nil, or_false] at hs'
          rcases hs' with rfl | rfl | rfl | rfl | rfl | rfl <;> decide
        rw [ByteArray.toList_eq]
        exact HAct.keyS c.f4 (by unfold maxLen; omega)
      have HL := amk (fun (W' : World) (b : Nat) (hM : MapV Try.prog 9 W' b 6 askL) => (MapV.look0 hM (t := 162) (e := 161) HAct.keyed9 Try.underlying162 (zero161 W') hkey).trans (by rw [askL_sign _ hs']; rfl : _ = Result.ok (fnV (fnOf c.f4.toList)) W'))
      have eg := eg_ask c.f4.toList hs'
      generalize argAt x.f3 c.f2 = a at *
      generalize fnOf c.f4.toList = fn at *
      generalize signB c.f4.toList (bits BinOp.and IntKind.u64 a c.f3) c.f5 = r at *
      clear h4 HS HT HNE HK HD HC hkey gs hs'
      go_upto_region 4 with (fail)
      go_region_held3 (fun W' : World => W'.cell? ⟨w.heap.size, 4, none⟩ = some (.string c.f4) ∧ W'.cell? ⟨w.heap.size, 2, none⟩ = some (.int .i64 c.f2) ∧ W'.cell? ⟨w.heap.size, 3, none⟩ = some (.int .u64 c.f3) ∧ W'.cell? ⟨w.heap.size, 5, none⟩ = some (.int .u64 c.f5) ∧ W'.cell? ⟨w.heap.size + 1, 3 + c.f2.toNat, none⟩ = some (.int .u64 a)) (first | exact S5.out _ HC1.out HX1.out | exact S5.out _ HCC.out HX.out) (first | (go_at_call 122; (with_reducible refine (asks_c _).mono ?_); rintro e w1 ⟨b, rfl, hM, hb1⟩; have HB1 := amk (below_step (below_drew HB.out) hb1); have hl := HL.out w1 b hM; have HC1 := amk ((hb1.block w.heap.size (blk_lt HCC.out)).trans HCC.out); have HX1 := amk ((hb1.block (w.heap.size + 1) (blk_lt HX.out)).trans HX.out); clear hb1 hM) | (go_at_fn fn; (with_reducible refine (HQ.out _).mono ?_); rintro e w2 ⟨rfl, hb2⟩; have HB2 := amk (below_step HB1.out hb2); have HC1 := amk ((hb2.block w.heap.size (blk_lt HC1.out)).trans HC1.out); have HX1 := amk ((hb2.block (w.heap.size + 1) (blk_lt HX1.out)).trans HX1.out); clear hb2))
      all_goals go_wp2
      all_goals go_ret
      all_goals exact ⟨congrArg (fun b : Bool => Ending.returned (.bool b)) HE.out, HB2.out⟩
    · have d4 : (c.f0 == 4) = false := by simpa using h4
      by_cases h1 : c.f0 = 1
      · have d1 : (c.f0 == 1) = true := by simpa using h1
        have HE := amk (show (!c.f1.any fun k => !semB x k) = semB x c from by rw [HS.out, if_neg h4, if_pos h1, any_not])
        have HQ := amk (contains_c (g := 124) (lb := #[.pointer (some ⟨w.heap.size + 1 + 1, 0, none⟩)]) (fun k => !semB x k) eg124 A n c.f1 W HC.out HLEN.out (fun W2 k A2 n2 hk hW hC2 hn2 => not_c (HK.out k hk) A2 n2 W2 ((hW.block _ (blk_lt HX.out)).trans HX.out) ((hW.block _ (blk_lt HD.out)).trans HD.out) hC2 hn2))
        clear h4 h1 HS HT HNE HK HX HD HCC HC
        go_wp2_with (go_at_call 123; refine HQ.out.mono ?_; rintro e w1 ⟨rfl, hb1⟩; have HB1 := amk (below_step HB.out hb1); clear hb1)
        go_ret
        exact ⟨congrArg (fun b : Bool => Ending.returned (.bool b)) HE.out, HB1.out⟩
      · have d1 : (c.f0 == 1) = false := by simpa using h1
        by_cases h3 : c.f0 = 3
        · have d3 : (c.f0 == 3) = true := by simpa using h3
          have hl1 : c.f1.length = 1 := (HNE.out h4).2 h3
          obtain ⟨ad, A1, n1, hA, hx0, hx1, hx2, hx3, hx4, hx5, hn1, hC1⟩ := at_T46 HC.out 0 (by omega) (by omega)
          have hmem : rd_T46 c.f1 (0 : Int) ∈ c.f1 := by
            have := rd46 c.f1 0 (by omega)
            rw [show ((0 : Nat) : Int) = 0 from rfl] at this
            rw [this]; exact List.getElem_mem _
          have HE := amk (show (!semB x (rd_T46 c.f1 (0 : Int))) = semB x c from by
            rw [HS.out, if_neg h4, if_neg h1, if_pos h3]
            obtain ⟨d, e⟩ := List.length_eq_one_iff.1 hl1
            rw [e, semO, semO, Bool.or_false]; rfl)
          have HQ := amk (fun (W' : World) (hW : Below W.heap.size W W') => does_c (HK.out _ hmem) A1 n1 W' ((hW.block _ (blk_lt HX.out)).trans HX.out) (Kd.C_below hC1 hW) hn1)
          simp only [Int.toNat_zero, Nat.zero_mul, Addr.add_zero'] at hx0 hx1 hx2 hx3 hx4 hx5
          have hi1 : (0 : Int) < (c.f1.length : Int) := by omega
          clear hmem hC1 hn1 h4 h1 h3 HS HT HNE HK HX HD HCC HC
          subst hA
          generalize rd_T46 c.f1 (0 : Int) = y at *
          go_upto_region 8 with (fail)
          go_region_with (go_at_call 121; refine (HQ.out _ (by first | exact below_drew (Below.refl _ _) | exact Below.refl _ _)).mono ?_; rintro e w1 ⟨rfl, hb1⟩; have HB1 := amk (below_step (below_drew HB.out) hb1); clear hb1)
          all_goals go_wp2
          all_goals go_ret
          all_goals exact ⟨congrArg (fun b : Bool => Ending.returned (.bool b)) HE.out, HB1.out⟩
        · have d3 : (c.f0 == 3) = false := by simpa using h3
          have HE := amk (show (c.f1.any fun k => semB x k) = semB x c from by rw [HS.out, if_neg h4, if_neg h1, if_neg h3, semO_any])
          have HQ := amk (contains_c (g := 121) (lb := #[.pointer (some ⟨w.heap.size + 1, 0, none⟩)]) (fun k => semB x k) eg121 A n c.f1 W HC.out HLEN.out (fun W2 k A2 n2 hk hW hC2 hn2 => does_c (HK.out k hk) A2 n2 W2 ((hW.block _ (blk_lt HX.out)).trans HX.out) hC2 hn2))
          clear h4 h1 h3 HS HT HNE HK HX HD HCC HC
          go_wp2_with (go_at_call 123; refine HQ.out.mono ?_; rintro e w1 ⟨rfl, hb1⟩; have HB1 := amk (below_step HB.out hb1); clear hb1)
          go_ret
          exact ⟨congrArg (fun b : Bool => Ending.returned (.bool b)) HE.out, HB1.out⟩
def mean_holds.f (a0_0 : Int) (l0_1 : List (S46)) (a0_2 : Int) (a0_3 : Int) (a0_4 : ByteArray) (a0_5 : Int) (a1_0 a1_1 a1_2 a1_3 a1_4 a1_5 a1_6 a1_7 a1_8 : Int) : Option (Bool) :=
  if (fitsB ⟨a0_0, l0_1, a0_2, a0_3, a0_4, a0_5⟩ && decide (nodes ⟨a0_0, l0_1, a0_2, a0_3, a0_4, a0_5⟩ ≤ 1000)) = true then some (semB ⟨a1_0, a1_1, a1_2, ⟨a1_3, a1_4, a1_5, a1_6, a1_7, a1_8⟩⟩ ⟨a0_0, l0_1, a0_2, a0_3, a0_4, a0_5⟩) else none
theorem mean_holds.calls (a0_0 : Int) (A0_1 : Option Addr) (c0_1 : Nat) (l0_1 : List (S46)) (a0_2 : Int) (a0_3 : Int) (a0_4 : ByteArray) (a0_5 : Int) (a1_0 a1_1 a1_2 a1_3 a1_4 a1_5 a1_6 a1_7 a1_8 : Int) (r : Bool) (w : World) (hr0_1 : Kd.C k46 w A0_1 l0_1.length l0_1) (hc0_1 : l0_1.length ≤ c0_1) (h : mean_holds.f a0_0 l0_1 a0_2 a0_3 a0_4 a0_5 a1_0 a1_1 a1_2 a1_3 a1_4 a1_5 a1_6 a1_7 a1_8 = some r) :
    Calls Try.prog 89 #[.agg #[.int .i64 a0_0, .slice A0_1 l0_1.length c0_1, .int .i64 a0_2, .int .u64 a0_3, .string a0_4, .int .u64 a0_5], .agg #[.int .u32 a1_0, .int .u32 a1_1, .int .u64 a1_2, .int .u64 a1_3, .int .u64 a1_4, .int .u64 a1_5, .int .u64 a1_6, .int .u64 a1_7, .int .u64 a1_8]] w fun e w' => e = .returned (.bool r) ∧ Below w.heap.size w w' := by
  unfold mean_holds.f at h
  split at h
  · rename_i hc
    rw [Bool.and_eq_true, decide_eq_true_eq] at hc
    have h2 := holds_c ⟨a1_0, a1_1, a1_2, ⟨a1_3, a1_4, a1_5, a1_6, a1_7, a1_8⟩⟩ _ hc.2 ⟨a0_0, l0_1, a0_2, a0_3, a0_4, a0_5⟩ (Nat.le_refl _) hc.1 A0_1 c0_1 w hr0_1 hc0_1
    rw [Option.some.inj h] at h2
    exact h2
  · cases h
end Go.Proofs.Ytoeklekjhaigoaa.HMean
end
section
namespace Go.Proofs.Ytoeklekjhaigoaa.M2
open Go.Proofs.Ytoeklekjhaigoaa.Al Go.RowKit Go.Proofs.YtoeklekjhaigoaaW.PrintWords Go.Proofs.YtoeklekjhaigoaaW.PrintLast Go.Proofs.YtoeklekjhaigoaaW.PrintMore
attribute [local go_sem] max2_int min2_int max_two min_two max_three min_three max_four min_four IntKind.wrap_u32 IntKind.wrap_u8   -- for this text's walks alone
set_option linter.unusedVariables false
open Go.Proofs.Ytoeklekjhaigoaa.Le Go.Proofs.Ytoeklekjhaigoaa.C1 Go.Proofs.Ytoeklekjhaigoaa.C2 Go.Proofs.Ytoeklekjhaigoaa.HAct Go.Proofs.Ytoeklekjhaigoaa.W0 Go.Proofs.Ytoeklekjhaigoaa.HFrom Go.Proofs.Ytoeklekjhaigoaa.W1 Go.Proofs.Ytoeklekjhaigoaa.R01 Go.Proofs.Ytoeklekjhaigoaa.HPack Go.Proofs.Ytoeklekjhaigoaa.HUnpack Go.Proofs.Ytoeklekjhaigoaa.HRefPack Go.Proofs.Ytoeklekjhaigoaa.M0 Go.Proofs.Ytoeklekjhaigoaa.HMany Go.Proofs.Ytoeklekjhaigoaa.HCount Go.Proofs.Ytoeklekjhaigoaa.M1 Go.Proofs.Ytoeklekjhaigoaa.HMean
set_option linter.unusedSimpArgs false
def errW : Option Int → Value
  | none => .nilIface
  | some c => .iface 0 (.int .i64 c)
theorem errW_none : errW none = .nilIface := rfl
theorem errW_some (c : Int) : errW (some c) = .iface 0 (.int .i64 c) := rfl
end Go.Proofs.Ytoeklekjhaigoaa.M2
end
section
namespace Go.Proofs.Ytoeklekjhaigoaa.M2
open Go.Proofs.Ytoeklekjhaigoaa.Al Go.RowKit Go.Proofs.YtoeklekjhaigoaaW.PrintWords Go.Proofs.YtoeklekjhaigoaaW.PrintLast Go.Proofs.YtoeklekjhaigoaaW.PrintMore
attribute [local go_sem] max2_int min2_int max_two min_two max_three min_three max_four min_four IntKind.wrap_u32 IntKind.wrap_u8   -- for this text's walks alone
set_option linter.unusedVariables false
open Go.Proofs.Ytoeklekjhaigoaa.Le Go.Proofs.Ytoeklekjhaigoaa.C1 Go.Proofs.Ytoeklekjhaigoaa.C2 Go.Proofs.Ytoeklekjhaigoaa.HAct Go.Proofs.Ytoeklekjhaigoaa.W0 Go.Proofs.Ytoeklekjhaigoaa.HFrom Go.Proofs.Ytoeklekjhaigoaa.W1 Go.Proofs.Ytoeklekjhaigoaa.R01 Go.Proofs.Ytoeklekjhaigoaa.HPack Go.Proofs.Ytoeklekjhaigoaa.HUnpack Go.Proofs.Ytoeklekjhaigoaa.HRefPack Go.Proofs.Ytoeklekjhaigoaa.M0 Go.Proofs.Ytoeklekjhaigoaa.HMany Go.Proofs.Ytoeklekjhaigoaa.HCount Go.Proofs.Ytoeklekjhaigoaa.M1 Go.Proofs.Ytoeklekjhaigoaa.HMean
set_option linter.unusedSimpArgs false
def mean_Holds.f (a0_0 : Int) (l0_1 : List (S46)) (a0_2 : Int) (a0_3 : Int) (a0_4 : ByteArray) (a0_5 : Int) (a1_0 : Int) (a1_1 : Int) (a1_2 : Int) (a1_3 : Int) (a1_4 : Int) (a1_5 : Int) (a1_6 : Int) (a1_7 : Int) (a1_8 : Int) : Option (Bool) := (mean_none.f a0_0 l0_1 a0_2 a0_3 a0_4 a0_5).bind fun t103 => (if t103 = true then (some true) else ((types_Right.f a0_0 l0_1 a0_2 a0_3 a0_4 a0_5).bind fun t104 => (if t104 = true then ((mean_holds.f a0_0 l0_1 a0_2 a0_3 a0_4 a0_5 a1_0 a1_1 a1_2 a1_3 a1_4 a1_5 a1_6 a1_7 a1_8).bind fun t105 => (some t105)) else (some false))))
set_option maxHeartbeats 8000000 in
set_option maxRecDepth 100000 in
theorem mean_Holds.calls (a0_0 : Int) (A0_1 : Option Addr) (c0_1 : Nat) (l0_1 : List (S46)) (a0_2 : Int) (a0_3 : Int) (a0_4 : ByteArray) (a0_5 : Int) (a1_0 : Int) (a1_1 : Int) (a1_2 : Int) (a1_3 : Int) (a1_4 : Int) (a1_5 : Int) (a1_6 : Int) (a1_7 : Int) (a1_8 : Int) (r : Bool) (w : World) (hr0_1 : Kd.C k46 w A0_1 l0_1.length l0_1) (hc0_1 : l0_1.length ≤ c0_1) (h : mean_Holds.f a0_0 l0_1 a0_2 a0_3 a0_4 a0_5 a1_0 a1_1 a1_2 a1_3 a1_4 a1_5 a1_6 a1_7 a1_8 = some r) :
    Calls Try.prog 45 #[.agg #[.int .i64 a0_0, .slice A0_1 l0_1.length c0_1, .int .i64 a0_2, .int .u64 a0_3, .string a0_4, .int .u64 a0_5], .agg #[.int .u32 a1_0, .int .u32 a1_1, .int .u64 a1_2, .int .u64 a1_3, .int .u64 a1_4, .int .u64 a1_5, .int .u64 a1_6, .int .u64 a1_7, .int .u64 a1_8]] w fun e w' => e = .returned (.bool r) ∧ Below w.heap.size w w' := by
  have hu46 := Try.underlying46
  have hu49 := Try.underlying49
  have HR0_1 := amk hr0_1
  have HC0_1 := amk hc0_1
  clear hr0_1 hc0_1
  have HB := amk (Below.refl w.heap.size w)
  have H : ((mean_none.f a0_0 l0_1 a0_2 a0_3 a0_4 a0_5).bind fun t103 => (if t103 = true then (some true) else ((types_Right.f a0_0 l0_1 a0_2 a0_3 a0_4 a0_5).bind fun t104 => (if t104 = true then ((mean_holds.f a0_0 l0_1 a0_2 a0_3 a0_4 a0_5 a1_0 a1_1 a1_2 a1_3 a1_4 a1_5 a1_6 a1_7 a1_8).bind fun t105 => (some t105)) else (some false))))) = some r := h
  clear h
  replace H := Option.bind_eq_some_iff.mp H
  obtain ⟨t103, A30, H⟩ := H
  replace H : (if t103 = true then (some true) else ((types_Right.f a0_0 l0_1 a0_2 a0_3 a0_4 a0_5).bind fun t104 => (if t104 = true then ((mean_holds.f a0_0 l0_1 a0_2 a0_3 a0_4 a0_5 a1_0 a1_1 a1_2 a1_3 a1_4 a1_5 a1_6 a1_7 a1_8).bind fun t105 => (some t105)) else (some false)))) = some r := H
  have A3 := amk A30
  clear A30
  by_cases c4 : t103 = true
  · subst c4
    have H1 : (some true) = some r := by rw [if_pos rfl] at H; exact H
    clear H
    have H := H1
    clear H1
    obtain rfl := Option.some.inj H
    go_enter Try.func45, Try.ntmps45
    go_wp2_with (first | ((with_reducible refine gate_dst (N := 2) rfl ?_); refine box_event ?hg (N := 2) ?hd (cs := #[.int .i64 a0_0, .slice A0_1 l0_1.length c0_1, .int .i64 a0_2, .int .u64 a0_3, .string a0_4, .int .u64 a0_5]) (t := 46) ?hr ?_; (case hd => rfl); (case hg => rfl); (case hr => first | (go_simp; done) | (go_simp; rfl)); intro gb101 hg w5 hbox hb; have n0_ := amk (below_step (by repeat (first | (with_reducible first | exact HB.out | apply bal | apply pbd | apply below_drew1) | exact HB.out)) hb); have n1_ := amk (hbox); have n2_ := amk ((by rw [hg]; exact (below_size (by repeat (first | (with_reducible first | exact HB.out | apply bal | apply pbd | apply below_drew1) | exact HB.out))) : w.heap.size ≤ gb101)); have n3_ := amk ((by rw [hg]; exact (below_size (by repeat (first | (with_reducible first | exact HB.out | apply bal | apply pbd | apply below_drew1) | exact HB.out))) : w.heap.size ≤ gb101)); clear HB; have HB := n0_; have BK101 := n1_; have GW101 := n2_; have GE101 := n3_; clear n0_ n1_ n2_ n3_; clear hb hbox hg) | ((with_reducible refine gate_dst (N := 3) rfl ?_); refine box_event ?hg (N := 3) ?hd (cs := #[.int .u32 a1_0, .int .u32 a1_1, .int .u64 a1_2, .int .u64 a1_3, .int .u64 a1_4, .int .u64 a1_5, .int .u64 a1_6, .int .u64 a1_7, .int .u64 a1_8]) (t := 49) ?hr ?_; (case hd => rfl); (case hg => rfl); (case hr => first | (go_simp; done) | (go_simp; rfl)); intro gb102 hg w6 hbox hb; have n0_ := amk (blk_below (g := gb101) (o := .cells #[.int .i64 a0_0, .slice A0_1 l0_1.length c0_1, .int .i64 a0_2, .int .u64 a0_3, .string a0_4, .int .u64 a0_5] 46 (0, 0)) (by (with_reducible repeat (first | refine blk_drewN ?_ _ | refine blk_drew ?_ | refine blk_alloc ?_ _)); exact BK101.out) hb); have n1_ := amk (below_step (by repeat (first | (with_reducible first | exact HB.out | apply bal | apply pbd | apply below_drew1 | refine below_set ?_ GE101.out) | exact HB.out)) hb); have n2_ := amk (hbox); have n3_ := amk ((by rw [hg]; exact (below_size (by repeat (first | (with_reducible first | exact HB.out | apply bal | apply pbd | apply below_drew1 | refine below_set ?_ GE101.out) | exact HB.out))) : w.heap.size ≤ gb102)); have n4_ := amk ((by rw [hg]; exact (below_size (by repeat (first | (with_reducible first | exact HB.out | apply bal | apply pbd | apply below_drew1 | refine below_set ?_ GE101.out) | exact HB.out))) : w.heap.size ≤ gb102)); have n5_ := amk ((by rw [hg]; exact Nat.ne_of_lt (blk_lt (g := gb101) (o := .cells #[.int .i64 a0_0, .slice A0_1 l0_1.length c0_1, .int .i64 a0_2, .int .u64 a0_3, .string a0_4, .int .u64 a0_5] 46 (0, 0)) (by (with_reducible repeat (first | refine blk_drewN ?_ _ | refine blk_drew ?_ | refine blk_alloc ?_ _)); exact BK101.out)) : gb101 ≠ gb102)); have n6_ := amk ((by rw [hg]; exact Nat.ne_of_gt (blk_lt (g := gb101) (o := .cells #[.int .i64 a0_0, .slice A0_1 l0_1.length c0_1, .int .i64 a0_2, .int .u64 a0_3, .string a0_4, .int .u64 a0_5] 46 (0, 0)) (by (with_reducible repeat (first | refine blk_drewN ?_ _ | refine blk_drew ?_ | refine blk_alloc ?_ _)); exact BK101.out)) : gb102 ≠ gb101)); clear BK101; clear HB; have BK101 := n0_; have HB := n1_; have BK102 := n2_; have GW102 := n3_; have GE102 := n4_; have NB101_102 := n5_; have NB102_101 := n6_; clear n0_ n1_ n2_ n3_ n4_ n5_ n6_; clear hb hbox hg; have hnb7 := NB101_102.out; have hnc7 := NB102_101.out; have hcz8_0 : w6.cell? ⟨gb101, 0, none⟩ = some (.int .i64 a0_0) := (blk_cell BK101.out 0).trans rfl; have hcz8_1 : w6.cell? ⟨gb101, 1, none⟩ = some (.slice A0_1 l0_1.length c0_1) := (blk_cell BK101.out 1).trans rfl; have hcz8_2 : w6.cell? ⟨gb101, 2, none⟩ = some (.int .i64 a0_2) := (blk_cell BK101.out 2).trans rfl; have hcz8_3 : w6.cell? ⟨gb101, 3, none⟩ = some (.int .u64 a0_3) := (blk_cell BK101.out 3).trans rfl; have hcz8_4 : w6.cell? ⟨gb101, 4, none⟩ = some (.string a0_4) := (blk_cell BK101.out 4).trans rfl; have hcz8_5 : w6.cell? ⟨gb101, 5, none⟩ = some (.int .u64 a0_5) := (blk_cell BK101.out 5).trans rfl; have hfz8_0 := blk_frozen BK101.out 0; have hfz8_1 := blk_frozen BK101.out 1; have hfz8_2 := blk_frozen BK101.out 2; have hfz8_3 := blk_frozen BK101.out 3; have hfz8_4 := blk_frozen BK101.out 4; have hfz8_5 := blk_frozen BK101.out 5) | ((with_reducible refine gate_callee (f := 88) rfl ?_); refine goesL_ (some 6) rfl rfl Try.func88 (by kernel_rfl) rfl #[.agg #[.int .i64 a0_0, .slice A0_1 l0_1.length c0_1, .int .i64 a0_2, .int .u64 a0_3, .string a0_4, .int .u64 a0_5]] rfl (by (try simp only [List.map_toArray, List.map_cons, List.map_nil]); first | done | rfl | (simp only [List.length_drop, List.length_take]; rfl)) ?_; (with_reducible refine (mean_none.calls a0_0 _ _ l0_1 a0_2 a0_3 a0_4 a0_5 true _ ?side1 ?side2 A3.out).mono ?_); (case side1 => repeat (first | exact (Kd.C_below HR0_1.out HB.out) | (with_reducible refine Kd.C_alloc ?_ _) | (with_reducible refine Kd.C_drewN ?_ _) | (with_reducible refine Kd.C_drew ?_))); (case side2 => exact HC0_1.out); rintro e w9 ⟨rfl, hb⟩; refine ⟨_, rfl, ?_⟩; have n0_ := amk (blk_below (g := gb101) (o := .cells #[.int .i64 a0_0, .slice A0_1 l0_1.length c0_1, .int .i64 a0_2, .int .u64 a0_3, .string a0_4, .int .u64 a0_5] 46 (0, 0)) (by (with_reducible repeat (first | refine blk_drewN ?_ _ | refine blk_drew ?_ | refine blk_alloc ?_ _)); exact BK101.out) hb); have n1_ := amk (blk_below (g := gb102) (o := .cells #[.int .u32 a1_0, .int .u32 a1_1, .int .u64 a1_2, .int .u64 a1_3, .int .u64 a1_4, .int .u64 a1_5, .int .u64 a1_6, .int .u64 a1_7, .int .u64 a1_8] 49 (0, 0)) (by (with_reducible repeat (first | refine blk_drewN ?_ _ | refine blk_drew ?_ | refine blk_alloc ?_ _)); exact BK102.out) hb); have n2_ := amk (below_step (by repeat (first | (with_reducible first | exact HB.out | apply bal | apply pbd | apply below_drew1 | refine below_set ?_ GE101.out | refine below_set ?_ GE102.out) | exact HB.out)) hb); clear BK101; clear BK102; clear HB; have BK101 := n0_; have BK102 := n1_; have HB := n2_; clear n0_ n1_ n2_; (try clear hb); (try clear hb2); (try clear hk); (try clear hi)))
    go_ret
    exact ⟨by first | rfl | (simp [errW_none, errW_some] <;> rfl) | (simp [*, errW_none, errW_some] <;> rfl), by repeat (first | (with_reducible first | exact HB.out | apply bal | apply pbd | apply below_drew1 | refine below_set ?_ GE101.out | refine below_set ?_ GE102.out) | exact HB.out)⟩
  · replace c4 := Bool.eq_false_iff.mpr c4
    subst c4
    have H1 : ((types_Right.f a0_0 l0_1 a0_2 a0_3 a0_4 a0_5).bind fun t104 => (if t104 = true then ((mean_holds.f a0_0 l0_1 a0_2 a0_3 a0_4 a0_5 a1_0 a1_1 a1_2 a1_3 a1_4 a1_5 a1_6 a1_7 a1_8).bind fun t105 => (some t105)) else (some false))) = some r := by rw [if_neg (show ¬ (false = true) by decide)] at H; exact H
    clear H
    have H := H1
    clear H1
    replace H := Option.bind_eq_some_iff.mp H
    obtain ⟨t104, A100, H⟩ := H
    replace H : (if t104 = true then ((mean_holds.f a0_0 l0_1 a0_2 a0_3 a0_4 a0_5 a1_0 a1_1 a1_2 a1_3 a1_4 a1_5 a1_6 a1_7 a1_8).bind fun t105 => (some t105)) else (some false)) = some r := H
    have A10 := amk A100
    clear A100
    by_cases c11 : t104 = true
    · subst c11
      have H1 : ((mean_holds.f a0_0 l0_1 a0_2 a0_3 a0_4 a0_5 a1_0 a1_1 a1_2 a1_3 a1_4 a1_5 a1_6 a1_7 a1_8).bind fun t105 => (some t105)) = some r := by rw [if_pos rfl] at H; exact H
      clear H
      have H := H1
      clear H1
      replace H := Option.bind_eq_some_iff.mp H
      obtain ⟨t105, A120, H⟩ := H
      replace H : (some t105) = some r := H
      have A12 := amk A120
      clear A120
      obtain rfl := Option.some.inj H
      go_enter Try.func45, Try.ntmps45
      go_wp2_with (first | ((with_reducible refine gate_dst (N := 2) rfl ?_); refine box_event ?hg (N := 2) ?hd (cs := #[.int .i64 a0_0, .slice A0_1 l0_1.length c0_1, .int .i64 a0_2, .int .u64 a0_3, .string a0_4, .int .u64 a0_5]) (t := 46) ?hr ?_; (case hd => rfl); (case hg => rfl); (case hr => first | (go_simp; done) | (go_simp; rfl)); intro gb101 hg w13 hbox hb; have n0_ := amk (below_step (by repeat (first | (with_reducible first | exact HB.out | apply bal | apply pbd | apply below_drew1) | exact HB.out)) hb); have n1_ := amk (hbox); have n2_ := amk ((by rw [hg]; exact (below_size (by repeat (first | (with_reducible first | exact HB.out | apply bal | apply pbd | apply below_drew1) | exact HB.out))) : w.heap.size ≤ gb101)); have n3_ := amk ((by rw [hg]; exact (below_size (by repeat (first | (with_reducible first | exact HB.out | apply bal | apply pbd | apply below_drew1) | exact HB.out))) : w.heap.size ≤ gb101)); clear HB; have HB := n0_; have BK101 := n1_; have GW101 := n2_; have GE101 := n3_; clear n0_ n1_ n2_ n3_; clear hb hbox hg) | ((with_reducible refine gate_dst (N := 3) rfl ?_); refine box_event ?hg (N := 3) ?hd (cs := #[.int .u32 a1_0, .int .u32 a1_1, .int .u64 a1_2, .int .u64 a1_3, .int .u64 a1_4, .int .u64 a1_5, .int .u64 a1_6, .int .u64 a1_7, .int .u64 a1_8]) (t := 49) ?hr ?_; (case hd => rfl); (case hg => rfl); (case hr => first | (go_simp; done) | (go_simp; rfl)); intro gb102 hg w14 hbox hb; have n0_ := amk (blk_below (g := gb101) (o := .cells #[.int .i64 a0_0, .slice A0_1 l0_1.length c0_1, .int .i64 a0_2, .int .u64 a0_3, .string a0_4, .int .u64 a0_5] 46 (0, 0)) (by (with_reducible repeat (first | refine blk_drewN ?_ _ | refine blk_drew ?_ | refine blk_alloc ?_ _)); exact BK101.out) hb); have n1_ := amk (below_step (by repeat (first | (with_reducible first | exact HB.out | apply bal | apply pbd | apply below_drew1 | refine below_set ?_ GE101.out) | exact HB.out)) hb); have n2_ := amk (hbox); have n3_ := amk ((by rw [hg]; exact (below_size (by repeat (first | (with_reducible first | exact HB.out | apply bal | apply pbd | apply below_drew1 | refine below_set ?_ GE101.out) | exact HB.out))) : w.heap.size ≤ gb102)); have n4_ := amk ((by rw [hg]; exact (below_size (by repeat (first | (with_reducible first | exact HB.out | apply bal | apply pbd | apply below_drew1 | refine below_set ?_ GE101.out) | exact HB.out))) : w.heap.size ≤ gb102)); have n5_ := amk ((by rw [hg]; exact Nat.ne_of_lt (blk_lt (g := gb101) (o := .cells #[.int .i64 a0_0, .slice A0_1 l0_1.length c0_1, .int .i64 a0_2, .int .u64 a0_3, .string a0_4, .int .u64 a0_5] 46 (0, 0)) (by (with_reducible repeat (first | refine blk_drewN ?_ _ | refine blk_drew ?_ | refine blk_alloc ?_ _)); exact BK101.out)) : gb101 ≠ gb102)); have n6_ := amk ((by rw [hg]; exact Nat.ne_of_gt (blk_lt (g := gb101) (o := .cells #[.int .i64 a0_0, .slice A0_1 l0_1.length c0_1, .int .i64 a0_2, .int .u64 a0_3, .string a0_4, .int .u64 a0_5] 46 (0, 0)) (by (with_reducible repeat (first | refine blk_drewN ?_ _ | refine blk_drew ?_ | refine blk_alloc ?_ _)); exact BK101.out)) : gb102 ≠ gb101)); clear BK101; clear HB; have BK101 := n0_; have HB := n1_; have BK102 := n2_; have GW102 := n3_; have GE102 := n4_; have NB101_102 := n5_; have NB102_101 := n6_; clear n0_ n1_ n2_ n3_ n4_ n5_ n6_; clear hb hbox hg; have hnb15 := NB101_102.out; have hnc15 := NB102_101.out; have hcz16_0 : w14.cell? ⟨gb101, 0, none⟩ = some (.int .i64 a0_0) := (blk_cell BK101.out 0).trans rfl; have hcz16_1 : w14.cell? ⟨gb101, 1, none⟩ = some (.slice A0_1 l0_1.length c0_1) := (blk_cell BK101.out 1).trans rfl; have hcz16_2 : w14.cell? ⟨gb101, 2, none⟩ = some (.int .i64 a0_2) := (blk_cell BK101.out 2).trans rfl; have hcz16_3 : w14.cell? ⟨gb101, 3, none⟩ = some (.int .u64 a0_3) := (blk_cell BK101.out 3).trans rfl; have hcz16_4 : w14.cell? ⟨gb101, 4, none⟩ = some (.string a0_4) := (blk_cell BK101.out 4).trans rfl; have hcz16_5 : w14.cell? ⟨gb101, 5, none⟩ = some (.int .u64 a0_5) := (blk_cell BK101.out 5).trans rfl; have hfz16_0 := blk_frozen BK101.out 0; have hfz16_1 := blk_frozen BK101.out 1; have hfz16_2 := blk_frozen BK101.out 2; have hfz16_3 := blk_frozen BK101.out 3; have hfz16_4 := blk_frozen BK101.out 4; have hfz16_5 := blk_frozen BK101.out 5) | ((with_reducible refine gate_callee (f := 88) rfl ?_); refine goesL_ (some 6) rfl rfl Try.func88 (by kernel_rfl) rfl #[.agg #[.int .i64 a0_0, .slice A0_1 l0_1.length c0_1, .int .i64 a0_2, .int .u64 a0_3, .string a0_4, .int .u64 a0_5]] rfl (by (try simp only [List.map_toArray, List.map_cons, List.map_nil]); first | done | rfl | (simp only [List.length_drop, List.length_take]; rfl)) ?_; (with_reducible refine (mean_none.calls a0_0 _ _ l0_1 a0_2 a0_3 a0_4 a0_5 false _ ?side1 ?side2 A3.out).mono ?_); (case side1 => repeat (first | exact (Kd.C_below HR0_1.out HB.out) | (with_reducible refine Kd.C_alloc ?_ _) | (with_reducible refine Kd.C_drewN ?_ _) | (with_reducible refine Kd.C_drew ?_))); (case side2 => exact HC0_1.out); rintro e w17 ⟨rfl, hb⟩; refine ⟨_, rfl, ?_⟩; have n0_ := amk (blk_below (g := gb101) (o := .cells #[.int .i64 a0_0, .slice A0_1 l0_1.length c0_1, .int .i64 a0_2, .int .u64 a0_3, .string a0_4, .int .u64 a0_5] 46 (0, 0)) (by (with_reducible repeat (first | refine blk_drewN ?_ _ | refine blk_drew ?_ | refine blk_alloc ?_ _)); exact BK101.out) hb); have n1_ := amk (blk_below (g := gb102) (o := .cells #[.int .u32 a1_0, .int .u32 a1_1, .int .u64 a1_2, .int .u64 a1_3, .int .u64 a1_4, .int .u64 a1_5, .int .u64 a1_6, .int .u64 a1_7, .int .u64 a1_8] 49 (0, 0)) (by (with_reducible repeat (first | refine blk_drewN ?_ _ | refine blk_drew ?_ | refine blk_alloc ?_ _)); exact BK102.out) hb); have n2_ := amk (below_step (by repeat (first | (with_reducible first | exact HB.out | apply bal | apply pbd | apply below_drew1 | refine below_set ?_ GE101.out | refine below_set ?_ GE102.out) | exact HB.out)) hb); clear BK101; clear BK102; clear HB; have BK101 := n0_; have BK102 := n1_; have HB := n2_; clear n0_ n1_ n2_; (try clear hb); (try clear hb2); (try clear hk); (try clear hi); have hcz18_0 : w17.cell? ⟨gb101, 0, none⟩ = some (.int .i64 a0_0) := (blk_cell BK101.out 0).trans rfl; have hcz18_1 : w17.cell? ⟨gb101, 1, none⟩ = some (.slice A0_1 l0_1.length c0_1) := (blk_cell BK101.out 1).trans rfl; have hcz18_2 : w17.cell? ⟨gb101, 2, none⟩ = some (.int .i64 a0_2) := (blk_cell BK101.out 2).trans rfl; have hcz18_3 : w17.cell? ⟨gb101, 3, none⟩ = some (.int .u64 a0_3) := (blk_cell BK101.out 3).trans rfl; have hcz18_4 : w17.cell? ⟨gb101, 4, none⟩ = some (.string a0_4) := (blk_cell BK101.out 4).trans rfl; have hcz18_5 : w17.cell? ⟨gb101, 5, none⟩ = some (.int .u64 a0_5) := (blk_cell BK101.out 5).trans rfl; have hfz18_0 := blk_frozen BK101.out 0; have hfz18_1 := blk_frozen BK101.out 1; have hfz18_2 := blk_frozen BK101.out 2; have hfz18_3 := blk_frozen BK101.out 3; have hfz18_4 := blk_frozen BK101.out 4; have hfz18_5 := blk_frozen BK101.out 5) | (go_at_call 65; (with_reducible refine (types_Right.calls a0_0 _ _ l0_1 a0_2 a0_3 a0_4 a0_5 true _ ?side1 ?side2 A10.out).mono ?_); (case side1 => repeat (first | exact (Kd.C_below HR0_1.out HB.out) | (with_reducible refine Kd.C_alloc ?_ _) | (with_reducible refine Kd.C_drewN ?_ _) | (with_reducible refine Kd.C_drew ?_))); (case side2 => exact HC0_1.out); rintro e w19 ⟨rfl, hb⟩; have n0_ := amk (blk_below (g := gb101) (o := .cells #[.int .i64 a0_0, .slice A0_1 l0_1.length c0_1, .int .i64 a0_2, .int .u64 a0_3, .string a0_4, .int .u64 a0_5] 46 (0, 0)) (by (with_reducible repeat (first | refine blk_drewN ?_ _ | refine blk_drew ?_ | refine blk_alloc ?_ _)); exact BK101.out) hb); have n1_ := amk (blk_below (g := gb102) (o := .cells #[.int .u32 a1_0, .int .u32 a1_1, .int .u64 a1_2, .int .u64 a1_3, .int .u64 a1_4, .int .u64 a1_5, .int .u64 a1_6, .int .u64 a1_7, .int .u64 a1_8] 49 (0, 0)) (by (with_reducible repeat (first | refine blk_drewN ?_ _ | refine blk_drew ?_ | refine blk_alloc ?_ _)); exact BK102.out) hb); have n2_ := amk (below_step (by repeat (first | (with_reducible first | exact HB.out | apply bal | apply pbd | apply below_drew1 | refine below_set ?_ GE101.out | refine below_set ?_ GE102.out) | exact HB.out)) hb); clear BK101; clear BK102; clear HB; have BK101 := n0_; have BK102 := n1_; have HB := n2_; clear n0_ n1_ n2_; (try clear hb); (try clear hb2); (try clear hk); (try clear hi); have hcz20_0 : w19.cell? ⟨gb101, 0, none⟩ = some (.int .i64 a0_0) := (blk_cell BK101.out 0).trans rfl; have hcz20_1 : w19.cell? ⟨gb101, 1, none⟩ = some (.slice A0_1 l0_1.length c0_1) := (blk_cell BK101.out 1).trans rfl; have hcz20_2 : w19.cell? ⟨gb101, 2, none⟩ = some (.int .i64 a0_2) := (blk_cell BK101.out 2).trans rfl; have hcz20_3 : w19.cell? ⟨gb101, 3, none⟩ = some (.int .u64 a0_3) := (blk_cell BK101.out 3).trans rfl; have hcz20_4 : w19.cell? ⟨gb101, 4, none⟩ = some (.string a0_4) := (blk_cell BK101.out 4).trans rfl; have hcz20_5 : w19.cell? ⟨gb101, 5, none⟩ = some (.int .u64 a0_5) := (blk_cell BK101.out 5).trans rfl; have hfz20_0 := blk_frozen BK101.out 0; have hfz20_1 := blk_frozen BK101.out 1; have hfz20_2 := blk_frozen BK101.out 2; have hfz20_3 := blk_frozen BK101.out 3; have hfz20_4 := blk_frozen BK101.out 4; have hfz20_5 := blk_frozen BK101.out 5; have hcz21_0 : w19.cell? ⟨gb102, 0, none⟩ = some (.int .u32 a1_0) := (blk_cell BK102.out 0).trans rfl; have hcz21_1 : w19.cell? ⟨gb102, 1, none⟩ = some (.int .u32 a1_1) := (blk_cell BK102.out 1).trans rfl; have hcz21_2 : w19.cell? ⟨gb102, 2, none⟩ = some (.int .u64 a1_2) := (blk_cell BK102.out 2).trans rfl; have hcz21_3 : w19.cell? ⟨gb102, 3, none⟩ = some (.int .u64 a1_3) := (blk_cell BK102.out 3).trans rfl; have hcz21_4 : w19.cell? ⟨gb102, 4, none⟩ = some (.int .u64 a1_4) := (blk_cell BK102.out 4).trans rfl; have hcz21_5 : w19.cell? ⟨gb102, 5, none⟩ = some (.int .u64 a1_5) := (blk_cell BK102.out 5).trans rfl; have hcz21_6 : w19.cell? ⟨gb102, 6, none⟩ = some (.int .u64 a1_6) := (blk_cell BK102.out 6).trans rfl; have hcz21_7 : w19.cell? ⟨gb102, 7, none⟩ = some (.int .u64 a1_7) := (blk_cell BK102.out 7).trans rfl; have hcz21_8 : w19.cell? ⟨gb102, 8, none⟩ = some (.int .u64 a1_8) := (blk_cell BK102.out 8).trans rfl; have hfz21_0 := blk_frozen BK102.out 0; have hfz21_1 := blk_frozen BK102.out 1; have hfz21_2 := blk_frozen BK102.out 2; have hfz21_3 := blk_frozen BK102.out 3; have hfz21_4 := blk_frozen BK102.out 4; have hfz21_5 := blk_frozen BK102.out 5; have hfz21_6 := blk_frozen BK102.out 6; have hfz21_7 := blk_frozen BK102.out 7; have hfz21_8 := blk_frozen BK102.out 8) | (go_at_call 89; (with_reducible refine (mean_holds.calls a0_0 _ _ l0_1 a0_2 a0_3 a0_4 a0_5 a1_0 a1_1 a1_2 a1_3 a1_4 a1_5 a1_6 a1_7 a1_8 t105 _ ?side1 ?side2 A12.out).mono ?_); (case side1 => repeat (first | exact (Kd.C_below HR0_1.out HB.out) | (with_reducible refine Kd.C_alloc ?_ _) | (with_reducible refine Kd.C_drewN ?_ _) | (with_reducible refine Kd.C_drew ?_))); (case side2 => exact HC0_1.out); rintro e w22 ⟨rfl, hb⟩; have n0_ := amk (blk_below (g := gb101) (o := .cells #[.int .i64 a0_0, .slice A0_1 l0_1.length c0_1, .int .i64 a0_2, .int .u64 a0_3, .string a0_4, .int .u64 a0_5] 46 (0, 0)) (by (with_reducible repeat (first | refine blk_drewN ?_ _ | refine blk_drew ?_ | refine blk_alloc ?_ _)); exact BK101.out) hb); have n1_ := amk (blk_below (g := gb102) (o := .cells #[.int .u32 a1_0, .int .u32 a1_1, .int .u64 a1_2, .int .u64 a1_3, .int .u64 a1_4, .int .u64 a1_5, .int .u64 a1_6, .int .u64 a1_7, .int .u64 a1_8] 49 (0, 0)) (by (with_reducible repeat (first | refine blk_drewN ?_ _ | refine blk_drew ?_ | refine blk_alloc ?_ _)); exact BK102.out) hb); have n2_ := amk (below_step (by repeat (first | (with_reducible first | exact HB.out | apply bal | apply pbd | apply below_drew1 | refine below_set ?_ GE101.out | refine below_set ?_ GE102.out) | exact HB.out)) hb); clear BK101; clear BK102; clear HB; have BK101 := n0_; have BK102 := n1_; have HB := n2_; clear n0_ n1_ n2_; (try clear hb); (try clear hb2); (try clear hk); (try clear hi)))
      go_ret
      exact ⟨by first | rfl | (simp [errW_none, errW_some] <;> rfl) | (simp [*, errW_none, errW_some] <;> rfl), by repeat (first | (with_reducible first | exact HB.out | apply bal | apply pbd | apply below_drew1 | refine below_set ?_ GE101.out | refine below_set ?_ GE102.out) | exact HB.out)⟩
    · replace c11 := Bool.eq_false_iff.mpr c11
      subst c11
      have H1 : (some false) = some r := by rw [if_neg (show ¬ (false = true) by decide)] at H; exact H
      clear H
      have H := H1
      clear H1
      obtain rfl := Option.some.inj H
      go_enter Try.func45, Try.ntmps45
      go_wp2_with (first | ((with_reducible refine gate_dst (N := 2) rfl ?_); refine box_event ?hg (N := 2) ?hd (cs := #[.int .i64 a0_0, .slice A0_1 l0_1.length c0_1, .int .i64 a0_2, .int .u64 a0_3, .string a0_4, .int .u64 a0_5]) (t := 46) ?hr ?_; (case hd => rfl); (case hg => rfl); (case hr => first | (go_simp; done) | (go_simp; rfl)); intro gb101 hg w23 hbox hb; have n0_ := amk (below_step (by repeat (first | (with_reducible first | exact HB.out | apply bal | apply pbd | apply below_drew1) | exact HB.out)) hb); have n1_ := amk (hbox); have n2_ := amk ((by rw [hg]; exact (below_size (by repeat (first | (with_reducible first | exact HB.out | apply bal | apply pbd | apply below_drew1) | exact HB.out))) : w.heap.size ≤ gb101)); have n3_ := amk ((by rw [hg]; exact (below_size (by repeat (first | (with_reducible first | exact HB.out | apply bal | apply pbd | apply below_drew1) | exact HB.out))) : w.heap.size ≤ gb101)); clear HB; have HB := n0_; have BK101 := n1_; have GW101 := n2_; have GE101 := n3_; clear n0_ n1_ n2_ n3_; clear hb hbox hg) | ((with_reducible refine gate_dst (N := 3) rfl ?_); refine box_event ?hg (N := 3) ?hd (cs := #[.int .u32 a1_0, .int .u32 a1_1, .int .u64 a1_2, .int .u64 a1_3, .int .u64 a1_4, .int .u64 a1_5, .int .u64 a1_6, .int .u64 a1_7, .int .u64 a1_8]) (t := 49) ?hr ?_; (case hd => rfl); (case hg => rfl); (case hr => first | (go_simp; done) | (go_simp; rfl)); intro gb102 hg w24 hbox hb; have n0_ := amk (blk_below (g := gb101) (o := .cells #[.int .i64 a0_0, .slice A0_1 l0_1.length c0_1, .int .i64 a0_2, .int .u64 a0_3, .string a0_4, .int .u64 a0_5] 46 (0, 0)) (by (with_reducible repeat (first | refine blk_drewN ?_ _ | refine blk_drew ?_ | refine blk_alloc ?_ _)); exact BK101.out) hb); have n1_ := amk (below_step (by repeat (first | (with_reducible first | exact HB.out | apply bal | apply pbd | apply below_drew1 | refine below_set ?_ GE101.out) | exact HB.out)) hb); have n2_ := amk (hbox); have n3_ := amk ((by rw [hg]; exact (below_size (by repeat (first | (with_reducible first | exact HB.out | apply bal | apply pbd | apply below_drew1 | refine below_set ?_ GE101.out) | exact HB.out))) : w.heap.size ≤ gb102)); have n4_ := amk ((by rw [hg]; exact (below_size (by repeat (first | (with_reducible first | exact HB.out | apply bal | apply pbd | apply below_drew1 | refine below_set ?_ GE101.out) | exact HB.out))) : w.heap.size ≤ gb102)); have n5_ := amk ((by rw [hg]; exact Nat.ne_of_lt (blk_lt (g := gb101) (o := .cells #[.int .i64 a0_0, .slice A0_1 l0_1.length c0_1, .int .i64 a0_2, .int .u64 a0_3, .string a0_4, .int .u64 a0_5] 46 (0, 0)) (by (with_reducible repeat (first | refine blk_drewN ?_ _ | refine blk_drew ?_ | refine blk_alloc ?_ _)); exact BK101.out)) : gb101 ≠ gb102)); have n6_ := amk ((by rw [hg]; exact Nat.ne_of_gt (blk_lt (g := gb101) (o := .cells #[.int .i64 a0_0, .slice A0_1 l0_1.length c0_1, .int .i64 a0_2, .int .u64 a0_3, .string a0_4, .int .u64 a0_5] 46 (0, 0)) (by (with_reducible repeat (first | refine blk_drewN ?_ _ | refine blk_drew ?_ | refine blk_alloc ?_ _)); exact BK101.out)) : gb102 ≠ gb101)); clear BK101; clear HB; have BK101 := n0_; have HB := n1_; have BK102 := n2_; have GW102 := n3_; have GE102 := n4_; have NB101_102 := n5_; have NB102_101 := n6_; clear n0_ n1_ n2_ n3_ n4_ n5_ n6_; clear hb hbox hg; have hnb25 := NB101_102.out; have hnc25 := NB102_101.out; have hcz26_0 : w24.cell? ⟨gb101, 0, none⟩ = some (.int .i64 a0_0) := (blk_cell BK101.out 0).trans rfl; have hcz26_1 : w24.cell? ⟨gb101, 1, none⟩ = some (.slice A0_1 l0_1.length c0_1) := (blk_cell BK101.out 1).trans rfl; have hcz26_2 : w24.cell? ⟨gb101, 2, none⟩ = some (.int .i64 a0_2) := (blk_cell BK101.out 2).trans rfl; have hcz26_3 : w24.cell? ⟨gb101, 3, none⟩ = some (.int .u64 a0_3) := (blk_cell BK101.out 3).trans rfl; have hcz26_4 : w24.cell? ⟨gb101, 4, none⟩ = some (.string a0_4) := (blk_cell BK101.out 4).trans rfl; have hcz26_5 : w24.cell? ⟨gb101, 5, none⟩ = some (.int .u64 a0_5) := (blk_cell BK101.out 5).trans rfl; have hfz26_0 := blk_frozen BK101.out 0; have hfz26_1 := blk_frozen BK101.out 1; have hfz26_2 := blk_frozen BK101.out 2; have hfz26_3 := blk_frozen BK101.out 3; have hfz26_4 := blk_frozen BK101.out 4; have hfz26_5 := blk_frozen BK101.out 5) | ((with_reducible refine gate_callee (f := 88) rfl ?_); refine goesL_ (some 6) rfl rfl Try.func88 (by kernel_rfl) rfl #[.agg #[.int .i64 a0_0, .slice A0_1 l0_1.length c0_1, .int .i64 a0_2, .int .u64 a0_3, .string a0_4, .int .u64 a0_5]] rfl (by (try simp only [List.map_toArray, List.map_cons, List.map_nil]); first | done | rfl | (simp only [List.length_drop, List.length_take]; rfl)) ?_; (with_reducible refine (mean_none.calls a0_0 _ _ l0_1 a0_2 a0_3 a0_4 a0_5 false _ ?side1 ?side2 A3.out).mono ?_); (case side1 => repeat (first | exact (Kd.C_below HR0_1.out HB.out) | (with_reducible refine Kd.C_alloc ?_ _) | (with_reducible refine Kd.C_drewN ?_ _) | (with_reducible refine Kd.C_drew ?_))); (case side2 => exact HC0_1.out); rintro e w27 ⟨rfl, hb⟩; refine ⟨_, rfl, ?_⟩; have n0_ := amk (blk_below (g := gb101) (o := .cells #[.int .i64 a0_0, .slice A0_1 l0_1.length c0_1, .int .i64 a0_2, .int .u64 a0_3, .string a0_4, .int .u64 a0_5] 46 (0, 0)) (by (with_reducible repeat (first | refine blk_drewN ?_ _ | refine blk_drew ?_ | refine blk_alloc ?_ _)); exact BK101.out) hb); have n1_ := amk (blk_below (g := gb102) (o := .cells #[.int .u32 a1_0, .int .u32 a1_1, .int .u64 a1_2, .int .u64 a1_3, .int .u64 a1_4, .int .u64 a1_5, .int .u64 a1_6, .int .u64 a1_7, .int .u64 a1_8] 49 (0, 0)) (by (with_reducible repeat (first | refine blk_drewN ?_ _ | refine blk_drew ?_ | refine blk_alloc ?_ _)); exact BK102.out) hb); have n2_ := amk (below_step (by repeat (first | (with_reducible first | exact HB.out | apply bal | apply pbd | apply below_drew1 | refine below_set ?_ GE101.out | refine below_set ?_ GE102.out) | exact HB.out)) hb); clear BK101; clear BK102; clear HB; have BK101 := n0_; have BK102 := n1_; have HB := n2_; clear n0_ n1_ n2_; (try clear hb); (try clear hb2); (try clear hk); (try clear hi); have hcz28_0 : w27.cell? ⟨gb101, 0, none⟩ = some (.int .i64 a0_0) := (blk_cell BK101.out 0).trans rfl; have hcz28_1 : w27.cell? ⟨gb101, 1, none⟩ = some (.slice A0_1 l0_1.length c0_1) := (blk_cell BK101.out 1).trans rfl; have hcz28_2 : w27.cell? ⟨gb101, 2, none⟩ = some (.int .i64 a0_2) := (blk_cell BK101.out 2).trans rfl; have hcz28_3 : w27.cell? ⟨gb101, 3, none⟩ = some (.int .u64 a0_3) := (blk_cell BK101.out 3).trans rfl; have hcz28_4 : w27.cell? ⟨gb101, 4, none⟩ = some (.string a0_4) := (blk_cell BK101.out 4).trans rfl; have hcz28_5 : w27.cell? ⟨gb101, 5, none⟩ = some (.int .u64 a0_5) := (blk_cell BK101.out 5).trans rfl; have hfz28_0 := blk_frozen BK101.out 0; have hfz28_1 := blk_frozen BK101.out 1; have hfz28_2 := blk_frozen BK101.out 2; have hfz28_3 := blk_frozen BK101.out 3; have hfz28_4 := blk_frozen BK101.out 4; have hfz28_5 := blk_frozen BK101.out 5) | (go_at_call 65; (with_reducible refine (types_Right.calls a0_0 _ _ l0_1 a0_2 a0_3 a0_4 a0_5 false _ ?side1 ?side2 A10.out).mono ?_); (case side1 => repeat (first | exact (Kd.C_below HR0_1.out HB.out) | (with_reducible refine Kd.C_alloc ?_ _) | (with_reducible refine Kd.C_drewN ?_ _) | (with_reducible refine Kd.C_drew ?_))); (case side2 => exact HC0_1.out); rintro e w29 ⟨rfl, hb⟩; have n0_ := amk (blk_below (g := gb101) (o := .cells #[.int .i64 a0_0, .slice A0_1 l0_1.length c0_1, .int .i64 a0_2, .int .u64 a0_3, .string a0_4, .int .u64 a0_5] 46 (0, 0)) (by (with_reducible repeat (first | refine blk_drewN ?_ _ | refine blk_drew ?_ | refine blk_alloc ?_ _)); exact BK101.out) hb); have n1_ := amk (blk_below (g := gb102) (o := .cells #[.int .u32 a1_0, .int .u32 a1_1, .int .u64 a1_2, .int .u64 a1_3, .int .u64 a1_4, .int .u64 a1_5, .int .u64 a1_6, .int .u64 a1_7, .int .u64 a1_8] 49 (0, 0)) (by (with_reducible repeat (first | refine blk_drewN ?_ _ | refine blk_drew ?_ | refine blk_alloc ?_ _)); exact BK102.out) hb); have n2_ := amk (below_step (by repeat (first | (with_reducible first | exact HB.out | apply bal | apply pbd | apply below_drew1 | refine below_set ?_ GE101.out | refine below_set ?_ GE102.out) | exact HB.out)) hb); clear BK101; clear BK102; clear HB; have BK101 := n0_; have BK102 := n1_; have HB := n2_; clear n0_ n1_ n2_; (try clear hb); (try clear hb2); (try clear hk); (try clear hi)))
      go_ret
      exact ⟨by first | rfl | (simp [errW_none, errW_some] <;> rfl) | (simp [*, errW_none, errW_some] <;> rfl), by repeat (first | (with_reducible first | exact HB.out | apply bal | apply pbd | apply below_drew1 | refine below_set ?_ GE101.out | refine below_set ?_ GE102.out) | exact HB.out)⟩
def slices_Index_uint32_uint32.l0 : Nat → List Int → Int → Int → Int → Option (Int)
  | 0, _, _, _, _ => none
  | k + 1, x0, x1, x7, x8 => if x8 < x7 then (if 0 ≤ x8 then (if x8 < (x0.length : Int) then (if x1 = (rd x0 x8) then (some x8) else (slices_Index_uint32_uint32.l0 k x0 x1 x7 (wrap64 (x8 + 1)))) else (none)) else (none)) else (some (-1))
def slices_Index_uint32_uint32.f (k : Nat) (l0 : List Int) (a1 : Int) : Option (Int) := slices_Index_uint32_uint32.l0 k l0 a1 (l0.length : Int) 0
set_option maxHeartbeats 8000000 in
set_option maxRecDepth 100000 in
theorem slices_Index_uint32_uint32.calls (k : Nat) (A0 : Option Addr) (c0 : Nat) (l0 : List Int) (a1 : Int) (r : Int) (w : World) (hr0 : Kd.C (Kd.int .u32) w A0 l0.length l0) (hc0 : l0.length ≤ c0) (h : slices_Index_uint32_uint32.f k l0 a1 = some r) :
    Calls Try.prog 127 #[.slice A0 l0.length c0, .int .u32 a1] w fun e w' => e = .returned (.int .i64 r) ∧ Drawn0 w w' := by
  have HR0 := amk hr0
  have HC0 := amk hc0
  clear hr0 hc0
  have H : (slices_Index_uint32_uint32.l0 k l0 a1 (l0.length : Int) 0) = some r := h
  clear h
  have H' := amk H
  clear H
  go_enter Try.func127, Try.ntmps127
  go_wp2
  go_loopg [8] k (fun kq v8 w' => ∃ (x8_1 : Int), v8 = .int .i64 x8_1 ∧ Aside0 (slices_Index_uint32_uint32.l0 kq l0 a1 (l0.length : Int) x8_1 = some r) ∧ Aside0 (kq ≤ k) ∧ Drawn0 w w')
  case atStart => exact ⟨(0), (by first | rfl | (simp; done) | (simp [*]; done)), H', ⟨Nat.le_refl _⟩, by repeat (first | exact Drawn0.refl _ | apply Drawn0.step)⟩
  case round =>
    clear H'
    try clear c1
    try clear p2
    obtain ⟨x8_1, rfl, HA, HK1, ⟨m1, rfl⟩⟩ := hrel
    cases gk with
    | zero => exact absurd HA.out (by simp [slices_Index_uint32_uint32.l0])
    | succ k1 =>
      have H := HA.out
      clear HA
      simp only [slices_Index_uint32_uint32.l0] at H
      by_cases c3 : x8_1 < (l0.length : Int)
      · rw [if_pos c3] at H
        have c3b0 : decide (x8_1 < (l0.length : Int)) = true := decide_eq_true c3
        clear c3
        by_cases c4 : 0 ≤ x8_1
        · rw [if_pos c4] at H
          have c4b0 : decide (0 ≤ x8_1) = true := decide_eq_true c4
          clear c4
          by_cases c5 : x8_1 < (l0.length : Int)
          · rw [if_pos c5] at H
            have c5b0 : decide (x8_1 < (l0.length : Int)) = true := decide_eq_true c5
            clear c5
            by_cases c6 : a1 = (rd l0 x8_1)
            · rw [if_pos c6] at H
              have c6b0 : (a1 == (rd l0 x8_1)) = true := beq_iff_eq.mpr c6
              have c6b1 : (a1 != (rd l0 x8_1)) = false := bne_eq_false_iff_eq.mpr c6
              clear c6
              obtain rfl := Option.some.inj H
              have p117 : 0 ≤ (x8_1 : Int) := of_decide_eq_true (by first | (with_reducible assumption) | assumption)
              have q117 : x8_1 < (l0.length : Int) := of_decide_eq_true (by first | (with_reducible assumption) | assumption)
              obtain ⟨ad117, e117, hx117_0⟩ := Kd.at_int HR0.out x8_1 p117 q117
              cases e117
              replace p117 := eq_true p117
              replace q117 := eq_true q117
              go_wp2
              go_ret
              exact ⟨by first | rfl | (simp; done) | (simp [*]; done), by repeat (first | exact Drawn0.refl _ | apply Drawn0.step)⟩
            · rw [if_neg c6] at H
              have c6b0 : (a1 == (rd l0 x8_1)) = false := beq_eq_false_iff_ne.mpr c6
              have c6b1 : (a1 != (rd l0 x8_1)) = true := bne_iff_ne.mpr c6
              have H' := amk H
              clear H
              have p117 : 0 ≤ (x8_1 : Int) := of_decide_eq_true (by first | (with_reducible assumption) | assumption)
              have q117 : x8_1 < (l0.length : Int) := of_decide_eq_true (by first | (with_reducible assumption) | assumption)
              obtain ⟨ad117, e117, hx117_0⟩ := Kd.at_int HR0.out x8_1 p117 q117
              cases e117
              replace p117 := eq_true p117
              replace q117 := eq_true q117
              go_wp2
              go_roundg k1
              case measure => have := HK1.out; omega
              case rel => exact ⟨(wrap64 (x8_1 + 1)), (by first | rfl | (simp; done) | (simp [*]; done)), H', ⟨by have := HK1.out; omega⟩, by repeat (first | exact Drawn0.refl _ | apply Drawn0.step)⟩
          · rw [if_neg c5] at H
            exact absurd H (by simp)
        · rw [if_neg c4] at H
          exact absurd H (by simp)
      · rw [if_neg c3] at H
        have c3b0 : decide (x8_1 < (l0.length : Int)) = false := decide_eq_false c3
        clear c3
        obtain rfl := Option.some.inj H
        go_wp2
        go_ret
        exact ⟨by first | rfl | (simp; done) | (simp [*]; done), by repeat (first | exact Drawn0.refl _ | apply Drawn0.step)⟩
def slices_Contains_uint32_uint32.f (k : Nat) (l0 : List Int) (a1 : Int) : Option (Bool) := (slices_Index_uint32_uint32.f k l0 a1).bind fun t118 => (some (decide (t118 ≥ 0)))
set_option maxHeartbeats 8000000 in
set_option maxRecDepth 100000 in
theorem slices_Contains_uint32_uint32.calls (k : Nat) (A0 : Option Addr) (c0 : Nat) (l0 : List Int) (a1 : Int) (r : Bool) (w : World) (hr0 : Kd.C (Kd.int .u32) w A0 l0.length l0) (hc0 : l0.length ≤ c0) (h : slices_Contains_uint32_uint32.f k l0 a1 = some r) :
    Calls Try.prog 92 #[.slice A0 l0.length c0, .int .u32 a1] w fun e w' => e = .returned (.bool r) ∧ Drawn0 w w' := by
  have HR0 := amk hr0
  have HC0 := amk hc0
  clear hr0 hc0
  have H : ((slices_Index_uint32_uint32.f k l0 a1).bind fun t118 => (some (decide (t118 ≥ 0)))) = some r := h
  clear h
  replace H := Option.bind_eq_some_iff.mp H
  obtain ⟨t118, A30, H⟩ := H
  replace H : (some (decide (t118 ≥ 0))) = some r := H
  have A3 := amk A30
  clear A30
  obtain rfl := Option.some.inj H
  go_enter Try.func92, Try.ntmps92
  go_wp2_with (first | ((with_reducible refine gate_callee (f := 127) rfl ?_); refine goesL_ (some 7) rfl rfl Try.func127 (by kernel_rfl) rfl #[.slice A0 l0.length c0, .int .u32 a1] rfl (by (try simp only [List.map_toArray, List.map_cons, List.map_nil]); first | done | rfl | (simp only [List.length_drop, List.length_take]; rfl)) ?_; (with_reducible refine (slices_Index_uint32_uint32.calls k _ _ l0 a1 t118 _ ?side1 ?side2 A3.out).mono ?_); (case side1 => repeat (first | exact HR0.out | (with_reducible refine Kd.C_alloc ?_ _) | (with_reducible refine Kd.C_drewN ?_ _) | (with_reducible refine Kd.C_drew ?_))); (case side2 => exact HC0.out); rintro e w' ⟨rfl, ⟨nd, rfl⟩⟩; refine ⟨_, rfl, ?_⟩))
  go_ret
  exact ⟨by first | rfl | (simp; done) | (simp [*]; done), by repeat (first | exact Drawn0.refl _ | apply Drawn0.step)⟩
def mean_Eval.l0 : Nat → List (S58) → Int → Int → Int → Int → List (S58) → Int → Int → Int → Int → Int → Int → Int → Int → Int → Option (Int)
  | 0, _, _, _, _, _, _, _, _, _, _, _, _, _, _, _ => none
  | k + 1, x13, x14, x15, x120000, x120001, x120002, x121000, x121001, x121002, x121003, x121004, x121005, x121006, x121007, x121008 => if x15 < x14 then (if 0 ≤ x15 then (if x15 < (x13.length : Int) then ((slices_Contains_uint32_uint32.f k ((rd_T58 x13 x15).f0) x121000).bind fun t123 => (if t123 = true then ((mean_Holds.f ((rd_T58 x13 x15).f1.f0) ((rd_T58 x13 x15).f1.f1) ((rd_T58 x13 x15).f1.f2) ((rd_T58 x13 x15).f1.f3) ((rd_T58 x13 x15).f1.f4) ((rd_T58 x13 x15).f1.f5) x121000 x121001 x121002 x121003 x121004 x121005 x121006 x121007 x121008).bind fun t124 => (if t124 = true then (some ((rd_T58 x13 x15).f2)) else (mean_Eval.l0 k x13 x14 (wrap64 (x15 + 1)) x120000 x120001 x120002 x121000 x121001 x121002 x121003 x121004 x121005 x121006 x121007 x121008))) else (mean_Eval.l0 k x13 x14 (wrap64 (x15 + 1)) x120000 x120001 x120002 x121000 x121001 x121002 x121003 x121004 x121005 x121006 x121007 x121008))) else (none)) else (none)) else (some x120001)
def mean_Eval.f (k : Nat) (a0_0 : Int) (a0_1 : Int) (l0_2 : List (S58)) (a1_0 : Int) (a1_1 : Int) (a1_2 : Int) (a1_3 : Int) (a1_4 : Int) (a1_5 : Int) (a1_6 : Int) (a1_7 : Int) (a1_8 : Int) : Option (Int) := if a1_1 = a0_0 then (mean_Eval.l0 k l0_2 (l0_2.length : Int) 0 a0_0 a0_1 l0_2 a1_0 a1_1 a1_2 a1_3 a1_4 a1_5 a1_6 a1_7 a1_8) else (some 2147483648)
set_option maxHeartbeats 8000000 in
set_option maxRecDepth 100000 in
theorem mean_Eval.calls (k : Nat) (a0_0 : Int) (a0_1 : Int) (A0_2 : Option Addr) (c0_2 : Nat) (l0_2 : List (S58)) (a1_0 : Int) (a1_1 : Int) (a1_2 : Int) (a1_3 : Int) (a1_4 : Int) (a1_5 : Int) (a1_6 : Int) (a1_7 : Int) (a1_8 : Int) (r : Int) (w : World) (hr0_2 : Kd.C k58 w A0_2 l0_2.length l0_2) (hc0_2 : l0_2.length ≤ c0_2) (h : mean_Eval.f k a0_0 a0_1 l0_2 a1_0 a1_1 a1_2 a1_3 a1_4 a1_5 a1_6 a1_7 a1_8 = some r) :
    Calls Try.prog 50 #[.agg #[.int .u32 a0_0, .int .u32 a0_1, .slice A0_2 l0_2.length c0_2], .agg #[.int .u32 a1_0, .int .u32 a1_1, .int .u64 a1_2, .int .u64 a1_3, .int .u64 a1_4, .int .u64 a1_5, .int .u64 a1_6, .int .u64 a1_7, .int .u64 a1_8]] w fun e w' => e = .returned (.int .u32 r) ∧ Below w.heap.size w w' := by
  have hu56 := Try.underlying56
  have hu49 := Try.underlying49
  have hu58 := Try.underlying58
  have hu46 := Try.underlying46
  have HR0_2 := amk hr0_2
  have HC0_2 := amk hc0_2
  clear hr0_2 hc0_2
  have HB := amk (Below.refl w.heap.size w)
  have H : (if a1_1 = a0_0 then (mean_Eval.l0 k l0_2 (l0_2.length : Int) 0 a0_0 a0_1 l0_2 a1_0 a1_1 a1_2 a1_3 a1_4 a1_5 a1_6 a1_7 a1_8) else (some 2147483648)) = some r := h
  clear h
  by_cases c3 : a1_1 = a0_0
  · rw [if_pos c3] at H
    have c3b0 : (a1_1 == a0_0) = true := beq_iff_eq.mpr c3
    have c3b1 : (a1_1 != a0_0) = false := bne_eq_false_iff_eq.mpr c3
    clear c3
    have H' := amk H
    clear H
    go_enter Try.func50, Try.ntmps50
    go_wp2_with (first | ((with_reducible refine gate_dst (N := 2) rfl ?_); refine box_event ?hg (N := 2) ?hd (cs := #[.int .u32 a0_0, .int .u32 a0_1, .slice A0_2 l0_2.length c0_2]) (t := 56) ?hr ?_; (case hd => rfl); (case hg => rfl); (case hr => first | (go_simp; done) | (go_simp; rfl)); intro gb119 hg w4 hbox hb; have n0_ := amk (below_step (by repeat (first | (with_reducible first | exact HB.out | apply bal | apply pbd | apply below_drew1) | exact HB.out)) hb); have n1_ := amk (hbox); have n2_ := amk ((by rw [hg]; exact (below_size (by repeat (first | (with_reducible first | exact HB.out | apply bal | apply pbd | apply below_drew1) | exact HB.out))) : w.heap.size ≤ gb119)); have n3_ := amk ((by rw [hg]; exact (below_size (by repeat (first | (with_reducible first | exact HB.out | apply bal | apply pbd | apply below_drew1) | exact HB.out))) : w.heap.size ≤ gb119)); clear HB; have HB := n0_; have BK119 := n1_; have GW119 := n2_; have GE119 := n3_; clear n0_ n1_ n2_ n3_; clear hb hbox hg) | ((with_reducible refine gate_dst (N := 3) rfl ?_); refine box_event ?hg (N := 3) ?hd (cs := #[.int .u32 a1_0, .int .u32 a1_1, .int .u64 a1_2, .int .u64 a1_3, .int .u64 a1_4, .int .u64 a1_5, .int .u64 a1_6, .int .u64 a1_7, .int .u64 a1_8]) (t := 49) ?hr ?_; (case hd => rfl); (case hg => rfl); (case hr => first | (go_simp; done) | (go_simp; rfl)); intro gb120 hg w5 hbox hb; have n0_ := amk (blk_below (g := gb119) (o := .cells #[.int .u32 a0_0, .int .u32 a0_1, .slice A0_2 l0_2.length c0_2] 56 (0, 0)) (by (with_reducible repeat (first | refine blk_drewN ?_ _ | refine blk_drew ?_ | refine blk_alloc ?_ _)); exact BK119.out) hb); have n1_ := amk (below_step (by repeat (first | (with_reducible first | exact HB.out | apply bal | apply pbd | apply below_drew1 | refine below_set ?_ GE119.out) | exact HB.out)) hb); have n2_ := amk (hbox); have n3_ := amk ((by rw [hg]; exact (below_size (by repeat (first | (with_reducible first | exact HB.out | apply bal | apply pbd | apply below_drew1 | refine below_set ?_ GE119.out) | exact HB.out))) : w.heap.size ≤ gb120)); have n4_ := amk ((by rw [hg]; exact (below_size (by repeat (first | (with_reducible first | exact HB.out | apply bal | apply pbd | apply below_drew1 | refine below_set ?_ GE119.out) | exact HB.out))) : w.heap.size ≤ gb120)); have n5_ := amk ((by rw [hg]; exact Nat.ne_of_lt (blk_lt (g := gb119) (o := .cells #[.int .u32 a0_0, .int .u32 a0_1, .slice A0_2 l0_2.length c0_2] 56 (0, 0)) (by (with_reducible repeat (first | refine blk_drewN ?_ _ | refine blk_drew ?_ | refine blk_alloc ?_ _)); exact BK119.out)) : gb119 ≠ gb120)); have n6_ := amk ((by rw [hg]; exact Nat.ne_of_gt (blk_lt (g := gb119) (o := .cells #[.int .u32 a0_0, .int .u32 a0_1, .slice A0_2 l0_2.length c0_2] 56 (0, 0)) (by (with_reducible repeat (first | refine blk_drewN ?_ _ | refine blk_drew ?_ | refine blk_alloc ?_ _)); exact BK119.out)) : gb120 ≠ gb119)); clear BK119; clear HB; have BK119 := n0_; have HB := n1_; have BK120 := n2_; have GW120 := n3_; have GE120 := n4_; have NB119_120 := n5_; have NB120_119 := n6_; clear n0_ n1_ n2_ n3_ n4_ n5_ n6_; clear hb hbox hg; have hnb6 := NB120_119.out; have hnc6 := NB119_120.out; have hcz7_0 : w5.cell? ⟨gb120, 0, none⟩ = some (.int .u32 a1_0) := (blk_cell BK120.out 0).trans rfl; have hcz7_1 : w5.cell? ⟨gb120, 1, none⟩ = some (.int .u32 a1_1) := (blk_cell BK120.out 1).trans rfl; have hcz7_2 : w5.cell? ⟨gb120, 2, none⟩ = some (.int .u64 a1_2) := (blk_cell BK120.out 2).trans rfl; have hcz7_3 : w5.cell? ⟨gb120, 3, none⟩ = some (.int .u64 a1_3) := (blk_cell BK120.out 3).trans rfl; have hcz7_4 : w5.cell? ⟨gb120, 4, none⟩ = some (.int .u64 a1_4) := (blk_cell BK120.out 4).trans rfl; have hcz7_5 : w5.cell? ⟨gb120, 5, none⟩ = some (.int .u64 a1_5) := (blk_cell BK120.out 5).trans rfl; have hcz7_6 : w5.cell? ⟨gb120, 6, none⟩ = some (.int .u64 a1_6) := (blk_cell BK120.out 6).trans rfl; have hcz7_7 : w5.cell? ⟨gb120, 7, none⟩ = some (.int .u64 a1_7) := (blk_cell BK120.out 7).trans rfl; have hcz7_8 : w5.cell? ⟨gb120, 8, none⟩ = some (.int .u64 a1_8) := (blk_cell BK120.out 8).trans rfl; have hfz7_0 := blk_frozen BK120.out 0; have hfz7_1 := blk_frozen BK120.out 1; have hfz7_2 := blk_frozen BK120.out 2; have hfz7_3 := blk_frozen BK120.out 3; have hfz7_4 := blk_frozen BK120.out 4; have hfz7_5 := blk_frozen BK120.out 5; have hfz7_6 := blk_frozen BK120.out 6; have hfz7_7 := blk_frozen BK120.out 7; have hfz7_8 := blk_frozen BK120.out 8; have hcz8_0 : w5.cell? ⟨gb119, 0, none⟩ = some (.int .u32 a0_0) := (blk_cell BK119.out 0).trans rfl; have hcz8_1 : w5.cell? ⟨gb119, 1, none⟩ = some (.int .u32 a0_1) := (blk_cell BK119.out 1).trans rfl; have hcz8_2 : w5.cell? ⟨gb119, 2, none⟩ = some (.slice A0_2 l0_2.length c0_2) := (blk_cell BK119.out 2).trans rfl; have hfz8_0 := blk_frozen BK119.out 0; have hfz8_1 := blk_frozen BK119.out 1; have hfz8_2 := blk_frozen BK119.out 2))
    go_loopg [15] k (fun kq v15 w' => ∃ (x15_1 : Int), v15 = .int .i64 x15_1 ∧ Aside0 (mean_Eval.l0 kq l0_2 (l0_2.length : Int) x15_1 a0_0 a0_1 l0_2 a1_0 a1_1 a1_2 a1_3 a1_4 a1_5 a1_6 a1_7 a1_8 = some r) ∧ Aside0 (kq ≤ k) ∧ Aside0 (w'.heap[gb119]? = some (.cells #[.int .u32 a0_0, .int .u32 a0_1, (.slice A0_2 l0_2.length c0_2)] 56 (0, 0))) ∧ Aside0 (w'.heap[gb120]? = some (.cells #[.int .u32 a1_0, .int .u32 a1_1, .int .u64 a1_2, .int .u64 a1_3, .int .u64 a1_4, .int .u64 a1_5, .int .u64 a1_6, .int .u64 a1_7, .int .u64 a1_8] 49 (0, 0))) ∧ Aside0 (Below w.heap.size w w'))
    case atStart => exact ⟨(0), (by first | rfl | (simp; done) | (simp [*]; done)), H', ⟨Nat.le_refl _⟩, ⟨by (with_reducible repeat (first | refine blk_drewN ?_ _ | refine blk_drew ?_ | refine blk_alloc ?_ _)); exact BK119.out⟩, ⟨by (with_reducible repeat (first | refine blk_drewN ?_ _ | refine blk_drew ?_ | refine blk_alloc ?_ _)); exact BK120.out⟩, ⟨by repeat (first | (with_reducible first | exact HB.out | apply bal | apply pbd | apply below_drew1 | refine below_set ?_ GE119.out | refine below_set ?_ GE120.out) | exact HB.out)⟩⟩
    case round =>
      clear H'
      try clear p2
      try clear c3
      try clear c3b0
      try clear c3b1
      try clear c5
      try clear c6
      try clear hcz7_0
      try clear hcz7_1
      try clear hcz7_2
      try clear hcz7_3
      try clear hcz7_4
      try clear hcz7_5
      try clear hcz7_6
      try clear hcz7_7
      try clear hcz7_8
      try clear hcz8_0
      try clear hcz8_1
      try clear hcz8_2
      try clear hfz7_0
      try clear hfz7_1
      try clear hfz7_2
      try clear hfz7_3
      try clear hfz7_4
      try clear hfz7_5
      try clear hfz7_6
      try clear hfz7_7
      try clear hfz7_8
      try clear hfz8_0
      try clear hfz8_1
      try clear hfz8_2
      obtain ⟨x15_1, rfl, HA, HK1, BK119, BK120, HB⟩ := hrel
      cases gk with
      | zero => exact absurd HA.out (by simp [mean_Eval.l0])
      | succ k1 =>
        have H := HA.out
        clear HA
        simp only [mean_Eval.l0] at H
        by_cases c9 : x15_1 < (l0_2.length : Int)
        · rw [if_pos c9] at H
          have c9b0 : decide (x15_1 < (l0_2.length : Int)) = true := decide_eq_true c9
          clear c9
          by_cases c10 : 0 ≤ x15_1
          · rw [if_pos c10] at H
            have c10b0 : decide (0 ≤ x15_1) = true := decide_eq_true c10
            clear c10
            by_cases c11 : x15_1 < (l0_2.length : Int)
            · rw [if_pos c11] at H
              have c11b0 : decide (x15_1 < (l0_2.length : Int)) = true := decide_eq_true c11
              clear c11
              replace H := Option.bind_eq_some_iff.mp H
              obtain ⟨t123, A120, H⟩ := H
              replace H : (if t123 = true then ((mean_Holds.f ((rd_T58 l0_2 x15_1).f1.f0) ((rd_T58 l0_2 x15_1).f1.f1) ((rd_T58 l0_2 x15_1).f1.f2) ((rd_T58 l0_2 x15_1).f1.f3) ((rd_T58 l0_2 x15_1).f1.f4) ((rd_T58 l0_2 x15_1).f1.f5) a1_0 a1_1 a1_2 a1_3 a1_4 a1_5 a1_6 a1_7 a1_8).bind fun t124 => (if t124 = true then (some ((rd_T58 l0_2 x15_1).f2)) else (mean_Eval.l0 k1 l0_2 (l0_2.length : Int) (wrap64 (x15_1 + 1)) a0_0 a0_1 l0_2 a1_0 a1_1 a1_2 a1_3 a1_4 a1_5 a1_6 a1_7 a1_8))) else (mean_Eval.l0 k1 l0_2 (l0_2.length : Int) (wrap64 (x15_1 + 1)) a0_0 a0_1 l0_2 a1_0 a1_1 a1_2 a1_3 a1_4 a1_5 a1_6 a1_7 a1_8)) = some r := H
              have A12 := amk A120
              clear A120
              by_cases c13 : t123 = true
              · subst c13
                have H1 : ((mean_Holds.f ((rd_T58 l0_2 x15_1).f1.f0) ((rd_T58 l0_2 x15_1).f1.f1) ((rd_T58 l0_2 x15_1).f1.f2) ((rd_T58 l0_2 x15_1).f1.f3) ((rd_T58 l0_2 x15_1).f1.f4) ((rd_T58 l0_2 x15_1).f1.f5) a1_0 a1_1 a1_2 a1_3 a1_4 a1_5 a1_6 a1_7 a1_8).bind fun t124 => (if t124 = true then (some ((rd_T58 l0_2 x15_1).f2)) else (mean_Eval.l0 k1 l0_2 (l0_2.length : Int) (wrap64 (x15_1 + 1)) a0_0 a0_1 l0_2 a1_0 a1_1 a1_2 a1_3 a1_4 a1_5 a1_6 a1_7 a1_8))) = some r := by rw [if_pos rfl] at H; exact H
                clear H
                have H := H1
                clear H1
                replace H := Option.bind_eq_some_iff.mp H
                obtain ⟨t124, A140, H⟩ := H
                replace H : (if t124 = true then (some ((rd_T58 l0_2 x15_1).f2)) else (mean_Eval.l0 k1 l0_2 (l0_2.length : Int) (wrap64 (x15_1 + 1)) a0_0 a0_1 l0_2 a1_0 a1_1 a1_2 a1_3 a1_4 a1_5 a1_6 a1_7 a1_8)) = some r := H
                have A14 := amk A140
                clear A140
                by_cases c15 : t124 = true
                · subst c15
                  have H1 : (some ((rd_T58 l0_2 x15_1).f2)) = some r := by rw [if_pos rfl] at H; exact H
                  clear H
                  have H := H1
                  clear H1
                  obtain rfl := Option.some.inj H
                  have p121 : 0 ≤ (x15_1 : Int) := of_decide_eq_true (by first | (with_reducible assumption) | assumption)
                  have q121 : x15_1 < (l0_2.length : Int) := of_decide_eq_true (by first | (with_reducible assumption) | assumption)
                  obtain ⟨ad121, A121_0, c121_0, A121_2, c121_2, e121, hx121_0, hx121_1, hx121_2, hx121_3, hx121_4, hx121_5, hx121_6, hx121_7, hl121_0, hi121_0, hl121_2, hi121_2⟩ := at_T58 HR0_2.out x15_1 p121 q121
                  cases e121
                  replace hx121_0 := (HB.out.cell (World.block_lt_of_cell? w _ hx121_0)).trans hx121_0
                  replace hx121_1 := (HB.out.cell (World.block_lt_of_cell? w _ hx121_1)).trans hx121_1
                  replace hx121_2 := (HB.out.cell (World.block_lt_of_cell? w _ hx121_2)).trans hx121_2
                  replace hx121_3 := (HB.out.cell (World.block_lt_of_cell? w _ hx121_3)).trans hx121_3
                  replace hx121_4 := (HB.out.cell (World.block_lt_of_cell? w _ hx121_4)).trans hx121_4
                  replace hx121_5 := (HB.out.cell (World.block_lt_of_cell? w _ hx121_5)).trans hx121_5
                  replace hx121_6 := (HB.out.cell (World.block_lt_of_cell? w _ hx121_6)).trans hx121_6
                  replace hx121_7 := (HB.out.cell (World.block_lt_of_cell? w _ hx121_7)).trans hx121_7
                  have HR121_0 := amk hi121_0
                  have HC121_0 := amk hl121_0
                  clear hi121_0 hl121_0
                  have HR121_2 := amk hi121_2
                  have HC121_2 := amk hl121_2
                  clear hi121_2 hl121_2
                  replace p121 := eq_true p121
                  replace q121 := eq_true q121
                  go_wp2_with (first | ((with_reducible refine gate_dst (N := 6) rfl ?_); refine box_event ?hg (N := 6) ?hd (cs := #[.slice none 0 0, .int .i64 0, .slice none 0 0, .int .i64 0, .int .u64 0, .string (⟨#[]⟩ : ByteArray), .int .u64 0, .int .u32 0]) (t := 58) ?hr ?_; (case hd => rfl); (case hg => rfl); (case hr => first | (go_simp; done) | (go_simp; rfl)); intro gb122 hg w16 hbox hb; have n0_ := amk (blk_below (g := gb119) (o := .cells #[.int .u32 a0_0, .int .u32 a0_1, .slice (some ad121) l0_2.length c0_2] 56 (0, 0)) (by (with_reducible repeat (first | refine blk_drewN ?_ _ | refine blk_drew ?_ | refine blk_alloc ?_ _)); exact BK119.out) hb); have n1_ := amk (blk_below (g := gb120) (o := .cells #[.int .u32 a1_0, .int .u32 a1_1, .int .u64 a1_2, .int .u64 a1_3, .int .u64 a1_4, .int .u64 a1_5, .int .u64 a1_6, .int .u64 a1_7, .int .u64 a1_8] 49 (0, 0)) (by (with_reducible repeat (first | refine blk_drewN ?_ _ | refine blk_drew ?_ | refine blk_alloc ?_ _)); exact BK120.out) hb); have n2_ := amk (below_step (by repeat (first | (with_reducible first | exact HB.out | apply bal | apply pbd | apply below_drew1 | refine below_set ?_ GE119.out | refine below_set ?_ GE120.out) | exact HB.out)) hb); have n3_ := amk (hbox); have n4_ := amk ((by rw [hg]; exact (below_size (by repeat (first | (with_reducible first | exact HB.out | apply bal | apply pbd | apply below_drew1 | refine below_set ?_ GE119.out | refine below_set ?_ GE120.out) | exact HB.out))) : w.heap.size ≤ gb122)); have n5_ := amk ((by rw [hg]; exact (below_size (by repeat (first | (with_reducible first | exact HB.out | apply bal | apply pbd | apply below_drew1 | refine below_set ?_ GE119.out | refine below_set ?_ GE120.out) | exact HB.out))) : w.heap.size ≤ gb122)); have n6_ := amk ((by rw [hg]; exact Nat.ne_of_lt (blk_lt (g := gb119) (o := .cells #[.int .u32 a0_0, .int .u32 a0_1, .slice (some ad121) l0_2.length c0_2] 56 (0, 0)) (by (with_reducible repeat (first | refine blk_drewN ?_ _ | refine blk_drew ?_ | refine blk_alloc ?_ _)); exact BK119.out)) : gb119 ≠ gb122)); have n7_ := amk ((by rw [hg]; exact Nat.ne_of_gt (blk_lt (g := gb119) (o := .cells #[.int .u32 a0_0, .int .u32 a0_1, .slice (some ad121) l0_2.length c0_2] 56 (0, 0)) (by (with_reducible repeat (first | refine blk_drewN ?_ _ | refine blk_drew ?_ | refine blk_alloc ?_ _)); exact BK119.out)) : gb122 ≠ gb119)); have n8_ := amk ((by rw [hg]; exact Nat.ne_of_lt (blk_lt (g := gb120) (o := .cells #[.int .u32 a1_0, .int .u32 a1_1, .int .u64 a1_2, .int .u64 a1_3, .int .u64 a1_4, .int .u64 a1_5, .int .u64 a1_6, .int .u64 a1_7, .int .u64 a1_8] 49 (0, 0)) (by (with_reducible repeat (first | refine blk_drewN ?_ _ | refine blk_drew ?_ | refine blk_alloc ?_ _)); exact BK120.out)) : gb120 ≠ gb122)); have n9_ := amk ((by rw [hg]; exact Nat.ne_of_gt (blk_lt (g := gb120) (o := .cells #[.int .u32 a1_0, .int .u32 a1_1, .int .u64 a1_2, .int .u64 a1_3, .int .u64 a1_4, .int .u64 a1_5, .int .u64 a1_6, .int .u64 a1_7, .int .u64 a1_8] 49 (0, 0)) (by (with_reducible repeat (first | refine blk_drewN ?_ _ | refine blk_drew ?_ | refine blk_alloc ?_ _)); exact BK120.out)) : gb122 ≠ gb120)); clear BK119; clear BK120; clear HB; have BK119 := n0_; have BK120 := n1_; have HB := n2_; have BK122 := n3_; have GW122 := n4_; have GE122 := n5_; have NB119_122 := n6_; have NB122_119 := n7_; have NB120_122 := n8_; have NB122_120 := n9_; clear n0_ n1_ n2_ n3_ n4_ n5_ n6_ n7_ n8_ n9_; clear hb hbox hg; have hnb17 := NB122_119.out; have hnc17 := NB119_122.out; have hnb18 := NB122_120.out; have hnc18 := NB120_122.out; have hcz19_0 : w16.cell? ⟨gb122, 0, none⟩ = some (.slice none 0 0) := (blk_cell BK122.out 0).trans rfl; have hcz19_1 : w16.cell? ⟨gb122, 1, none⟩ = some (.int .i64 0) := (blk_cell BK122.out 1).trans rfl; have hcz19_2 : w16.cell? ⟨gb122, 2, none⟩ = some (.slice none 0 0) := (blk_cell BK122.out 2).trans rfl; have hcz19_3 : w16.cell? ⟨gb122, 3, none⟩ = some (.int .i64 0) := (blk_cell BK122.out 3).trans rfl; have hcz19_4 : w16.cell? ⟨gb122, 4, none⟩ = some (.int .u64 0) := (blk_cell BK122.out 4).trans rfl; have hcz19_5 : w16.cell? ⟨gb122, 5, none⟩ = some (.string (⟨#[]⟩ : ByteArray)) := (blk_cell BK122.out 5).trans rfl; have hcz19_6 : w16.cell? ⟨gb122, 6, none⟩ = some (.int .u64 0) := (blk_cell BK122.out 6).trans rfl; have hcz19_7 : w16.cell? ⟨gb122, 7, none⟩ = some (.int .u32 0) := (blk_cell BK122.out 7).trans rfl; have hfz19_0 := blk_frozen BK122.out 0; have hfz19_1 := blk_frozen BK122.out 1; have hfz19_2 := blk_frozen BK122.out 2; have hfz19_3 := blk_frozen BK122.out 3; have hfz19_4 := blk_frozen BK122.out 4; have hfz19_5 := blk_frozen BK122.out 5; have hfz19_6 := blk_frozen BK122.out 6; have hfz19_7 := blk_frozen BK122.out 7; have hnb20 := NB120_119.out; have hnc20 := NB119_120.out; have hcz21_0 : w16.cell? ⟨gb120, 0, none⟩ = some (.int .u32 a1_0) := (blk_cell BK120.out 0).trans rfl; have hcz21_1 : w16.cell? ⟨gb120, 1, none⟩ = some (.int .u32 a1_1) := (blk_cell BK120.out 1).trans rfl; have hcz21_2 : w16.cell? ⟨gb120, 2, none⟩ = some (.int .u64 a1_2) := (blk_cell BK120.out 2).trans rfl; have hcz21_3 : w16.cell? ⟨gb120, 3, none⟩ = some (.int .u64 a1_3) := (blk_cell BK120.out 3).trans rfl; have hcz21_4 : w16.cell? ⟨gb120, 4, none⟩ = some (.int .u64 a1_4) := (blk_cell BK120.out 4).trans rfl; have hcz21_5 : w16.cell? ⟨gb120, 5, none⟩ = some (.int .u64 a1_5) := (blk_cell BK120.out 5).trans rfl; have hcz21_6 : w16.cell? ⟨gb120, 6, none⟩ = some (.int .u64 a1_6) := (blk_cell BK120.out 6).trans rfl; have hcz21_7 : w16.cell? ⟨gb120, 7, none⟩ = some (.int .u64 a1_7) := (blk_cell BK120.out 7).trans rfl; have hcz21_8 : w16.cell? ⟨gb120, 8, none⟩ = some (.int .u64 a1_8) := (blk_cell BK120.out 8).trans rfl; have hfz21_0 := blk_frozen BK120.out 0; have hfz21_1 := blk_frozen BK120.out 1; have hfz21_2 := blk_frozen BK120.out 2; have hfz21_3 := blk_frozen BK120.out 3; have hfz21_4 := blk_frozen BK120.out 4; have hfz21_5 := blk_frozen BK120.out 5; have hfz21_6 := blk_frozen BK120.out 6; have hfz21_7 := blk_frozen BK120.out 7; have hfz21_8 := blk_frozen BK120.out 8) | ((with_reducible refine gate_callee (f := 92) rfl ?_); refine goesL_ (some 23) rfl rfl Try.func92 (by kernel_rfl) rfl #[.slice A121_0 ((rd_T58 l0_2 x15_1).f0).length c121_0, .int .u32 a1_0] rfl (by (try simp only [List.map_toArray, List.map_cons, List.map_nil]); first | done | rfl | (simp only [List.length_drop, List.length_take]; rfl)) ?_; (with_reducible refine (slices_Contains_uint32_uint32.calls k1 _ _ ((rd_T58 l0_2 x15_1).f0) a1_0 true _ ?side1 ?side2 A12.out).mono ?_); (case side1 => exact Kd.C_below HR121_0.out (by repeat (first | (with_reducible first | exact HB.out | apply bal | apply pbd | apply below_drew1 | refine below_set ?_ GE119.out | refine below_set ?_ GE120.out | refine below_set ?_ GE122.out) | exact HB.out))); (case side2 => exact HC121_0.out); rintro e w' ⟨rfl, ⟨nd, rfl⟩⟩; refine ⟨_, rfl, ?_⟩) | (go_at_call 45; (with_reducible refine (mean_Holds.calls ((rd_T58 l0_2 x15_1).f1.f0) _ _ ((rd_T58 l0_2 x15_1).f1.f1) ((rd_T58 l0_2 x15_1).f1.f2) ((rd_T58 l0_2 x15_1).f1.f3) ((rd_T58 l0_2 x15_1).f1.f4) ((rd_T58 l0_2 x15_1).f1.f5) a1_0 a1_1 a1_2 a1_3 a1_4 a1_5 a1_6 a1_7 a1_8 true _ ?side1 ?side2 A14.out).mono ?_); (case side1 => exact Kd.C_below HR121_2.out (by repeat (first | (with_reducible first | exact HB.out | apply bal | apply pbd | apply below_drew1 | refine below_set ?_ GE119.out | refine below_set ?_ GE120.out | refine below_set ?_ GE122.out) | exact HB.out))); (case side2 => exact HC121_2.out); rintro e w22 ⟨rfl, hb⟩; have n0_ := amk (blk_below (g := gb119) (o := .cells #[.int .u32 a0_0, .int .u32 a0_1, .slice (some ad121) l0_2.length c0_2] 56 (0, 0)) (by (with_reducible repeat (first | refine blk_drewN ?_ _ | refine blk_drew ?_ | refine blk_alloc ?_ _)); refine blk_far ?_ NB119_122.out _; (with_reducible repeat (first | refine blk_drewN ?_ _ | refine blk_drew ?_ | refine blk_alloc ?_ _)); refine blk_far ?_ NB119_122.out _; (with_reducible repeat (first | refine blk_drewN ?_ _ | refine blk_drew ?_ | refine blk_alloc ?_ _)); refine blk_far ?_ NB119_122.out _; (with_reducible repeat (first | refine blk_drewN ?_ _ | refine blk_drew ?_ | refine blk_alloc ?_ _)); refine blk_far ?_ NB119_122.out _; (with_reducible repeat (first | refine blk_drewN ?_ _ | refine blk_drew ?_ | refine blk_alloc ?_ _)); refine blk_far ?_ NB119_122.out _; (with_reducible repeat (first | refine blk_drewN ?_ _ | refine blk_drew ?_ | refine blk_alloc ?_ _)); refine blk_far ?_ NB119_122.out _; (with_reducible repeat (first | refine blk_drewN ?_ _ | refine blk_drew ?_ | refine blk_alloc ?_ _)); refine blk_far ?_ NB119_122.out _; (with_reducible repeat (first | refine blk_drewN ?_ _ | refine blk_drew ?_ | refine blk_alloc ?_ _)); refine blk_far ?_ NB119_122.out _; (with_reducible repeat (first | refine blk_drewN ?_ _ | refine blk_drew ?_ | refine blk_alloc ?_ _)); exact BK119.out) hb); have n1_ := amk (blk_below (g := gb120) (o := .cells #[.int .u32 a1_0, .int .u32 a1_1, .int .u64 a1_2, .int .u64 a1_3, .int .u64 a1_4, .int .u64 a1_5, .int .u64 a1_6, .int .u64 a1_7, .int .u64 a1_8] 49 (0, 0)) (by (with_reducible repeat (first | refine blk_drewN ?_ _ | refine blk_drew ?_ | refine blk_alloc ?_ _)); refine blk_far ?_ NB120_122.out _; (with_reducible repeat (first | refine blk_drewN ?_ _ | refine blk_drew ?_ | refine blk_alloc ?_ _)); refine blk_far ?_ NB120_122.out _; (with_reducible repeat (first | refine blk_drewN ?_ _ | refine blk_drew ?_ | refine blk_alloc ?_ _)); refine blk_far ?_ NB120_122.out _; (with_reducible repeat (first | refine blk_drewN ?_ _ | refine blk_drew ?_ | refine blk_alloc ?_ _)); refine blk_far ?_ NB120_122.out _; (with_reducible repeat (first | refine blk_drewN ?_ _ | refine blk_drew ?_ | refine blk_alloc ?_ _)); refine blk_far ?_ NB120_122.out _; (with_reducible repeat (first | refine blk_drewN ?_ _ | refine blk_drew ?_ | refine blk_alloc ?_ _)); refine blk_far ?_ NB120_122.out _; (with_reducible repeat (first | refine blk_drewN ?_ _ | refine blk_drew ?_ | refine blk_alloc ?_ _)); refine blk_far ?_ NB120_122.out _; (with_reducible repeat (first | refine blk_drewN ?_ _ | refine blk_drew ?_ | refine blk_alloc ?_ _)); refine blk_far ?_ NB120_122.out _; (with_reducible repeat (first | refine blk_drewN ?_ _ | refine blk_drew ?_ | refine blk_alloc ?_ _)); exact BK120.out) hb); have n2_ := amk (blk_below (g := gb122) (o := .cells #[.slice A121_0 ((rd_T58 l0_2 x15_1).f0).length c121_0, .int .i64 ((rd_T58 l0_2 x15_1).f1.f0), .slice A121_2 ((rd_T58 l0_2 x15_1).f1.f1).length c121_2, .int .i64 ((rd_T58 l0_2 x15_1).f1.f2), .int .u64 ((rd_T58 l0_2 x15_1).f1.f3), .string ((rd_T58 l0_2 x15_1).f1.f4), .int .u64 ((rd_T58 l0_2 x15_1).f1.f5), .int .u32 ((rd_T58 l0_2 x15_1).f2)] 58 (0, 0)) (by (with_reducible repeat (first | refine blk_drewN ?_ _ | refine blk_drew ?_ | refine blk_alloc ?_ _)); refine blk_put (cs := #[.slice A121_0 ((rd_T58 l0_2 x15_1).f0).length c121_0, .int .i64 ((rd_T58 l0_2 x15_1).f1.f0), .slice A121_2 ((rd_T58 l0_2 x15_1).f1.f1).length c121_2, .int .i64 ((rd_T58 l0_2 x15_1).f1.f2), .int .u64 ((rd_T58 l0_2 x15_1).f1.f3), .string ((rd_T58 l0_2 x15_1).f1.f4), .int .u64 ((rd_T58 l0_2 x15_1).f1.f5), .int .u32 0]) ?_ 7 _ rfl; (with_reducible repeat (first | refine blk_drewN ?_ _ | refine blk_drew ?_ | refine blk_alloc ?_ _)); refine blk_put (cs := #[.slice A121_0 ((rd_T58 l0_2 x15_1).f0).length c121_0, .int .i64 ((rd_T58 l0_2 x15_1).f1.f0), .slice A121_2 ((rd_T58 l0_2 x15_1).f1.f1).length c121_2, .int .i64 ((rd_T58 l0_2 x15_1).f1.f2), .int .u64 ((rd_T58 l0_2 x15_1).f1.f3), .string ((rd_T58 l0_2 x15_1).f1.f4), .int .u64 0, .int .u32 0]) ?_ 6 _ rfl; (with_reducible repeat (first | refine blk_drewN ?_ _ | refine blk_drew ?_ | refine blk_alloc ?_ _)); refine blk_put (cs := #[.slice A121_0 ((rd_T58 l0_2 x15_1).f0).length c121_0, .int .i64 ((rd_T58 l0_2 x15_1).f1.f0), .slice A121_2 ((rd_T58 l0_2 x15_1).f1.f1).length c121_2, .int .i64 ((rd_T58 l0_2 x15_1).f1.f2), .int .u64 ((rd_T58 l0_2 x15_1).f1.f3), .string (⟨#[]⟩ : ByteArray), .int .u64 0, .int .u32 0]) ?_ 5 _ rfl; (with_reducible repeat (first | refine blk_drewN ?_ _ | refine blk_drew ?_ | refine blk_alloc ?_ _)); refine blk_put (cs := #[.slice A121_0 ((rd_T58 l0_2 x15_1).f0).length c121_0, .int .i64 ((rd_T58 l0_2 x15_1).f1.f0), .slice A121_2 ((rd_T58 l0_2 x15_1).f1.f1).length c121_2, .int .i64 ((rd_T58 l0_2 x15_1).f1.f2), .int .u64 0, .string (⟨#[]⟩ : ByteArray), .int .u64 0, .int .u32 0]) ?_ 4 _ rfl; (with_reducible repeat (first | refine blk_drewN ?_ _ | refine blk_drew ?_ | refine blk_alloc ?_ _)); refine blk_put (cs := #[.slice A121_0 ((rd_T58 l0_2 x15_1).f0).length c121_0, .int .i64 ((rd_T58 l0_2 x15_1).f1.f0), .slice A121_2 ((rd_T58 l0_2 x15_1).f1.f1).length c121_2, .int .i64 0, .int .u64 0, .string (⟨#[]⟩ : ByteArray), .int .u64 0, .int .u32 0]) ?_ 3 _ rfl; (with_reducible repeat (first | refine blk_drewN ?_ _ | refine blk_drew ?_ | refine blk_alloc ?_ _)); refine blk_put (cs := #[.slice A121_0 ((rd_T58 l0_2 x15_1).f0).length c121_0, .int .i64 ((rd_T58 l0_2 x15_1).f1.f0), .slice none 0 0, .int .i64 0, .int .u64 0, .string (⟨#[]⟩ : ByteArray), .int .u64 0, .int .u32 0]) ?_ 2 _ rfl; (with_reducible repeat (first | refine blk_drewN ?_ _ | refine blk_drew ?_ | refine blk_alloc ?_ _)); refine blk_put (cs := #[.slice A121_0 ((rd_T58 l0_2 x15_1).f0).length c121_0, .int .i64 0, .slice none 0 0, .int .i64 0, .int .u64 0, .string (⟨#[]⟩ : ByteArray), .int .u64 0, .int .u32 0]) ?_ 1 _ rfl; (with_reducible repeat (first | refine blk_drewN ?_ _ | refine blk_drew ?_ | refine blk_alloc ?_ _)); refine blk_put (cs := #[.slice none 0 0, .int .i64 0, .slice none 0 0, .int .i64 0, .int .u64 0, .string (⟨#[]⟩ : ByteArray), .int .u64 0, .int .u32 0]) ?_ 0 _ rfl; (with_reducible repeat (first | refine blk_drewN ?_ _ | refine blk_drew ?_ | refine blk_alloc ?_ _)); exact BK122.out) hb); have n3_ := amk (below_step (by repeat (first | (with_reducible first | exact HB.out | apply bal | apply pbd | apply below_drew1 | refine below_set ?_ GE119.out | refine below_set ?_ GE120.out | refine below_set ?_ GE122.out) | exact HB.out)) hb); clear BK119; clear BK120; clear BK122; clear HB; have BK119 := n0_; have BK120 := n1_; have BK122 := n2_; have HB := n3_; clear n0_ n1_ n2_ n3_; (try clear hb); (try clear hb2); (try clear hk); (try clear hi); have hcz23_0 : w22.cell? ⟨gb122, 0, none⟩ = some (.slice A121_0 ((rd_T58 l0_2 x15_1).f0).length c121_0) := (blk_cell BK122.out 0).trans rfl; have hcz23_1 : w22.cell? ⟨gb122, 1, none⟩ = some (.int .i64 ((rd_T58 l0_2 x15_1).f1.f0)) := (blk_cell BK122.out 1).trans rfl; have hcz23_2 : w22.cell? ⟨gb122, 2, none⟩ = some (.slice A121_2 ((rd_T58 l0_2 x15_1).f1.f1).length c121_2) := (blk_cell BK122.out 2).trans rfl; have hcz23_3 : w22.cell? ⟨gb122, 3, none⟩ = some (.int .i64 ((rd_T58 l0_2 x15_1).f1.f2)) := (blk_cell BK122.out 3).trans rfl; have hcz23_4 : w22.cell? ⟨gb122, 4, none⟩ = some (.int .u64 ((rd_T58 l0_2 x15_1).f1.f3)) := (blk_cell BK122.out 4).trans rfl; have hcz23_5 : w22.cell? ⟨gb122, 5, none⟩ = some (.string ((rd_T58 l0_2 x15_1).f1.f4)) := (blk_cell BK122.out 5).trans rfl; have hcz23_6 : w22.cell? ⟨gb122, 6, none⟩ = some (.int .u64 ((rd_T58 l0_2 x15_1).f1.f5)) := (blk_cell BK122.out 6).trans rfl; have hcz23_7 : w22.cell? ⟨gb122, 7, none⟩ = some (.int .u32 ((rd_T58 l0_2 x15_1).f2)) := (blk_cell BK122.out 7).trans rfl; have hfz23_0 := blk_frozen BK122.out 0; have hfz23_1 := blk_frozen BK122.out 1; have hfz23_2 := blk_frozen BK122.out 2; have hfz23_3 := blk_frozen BK122.out 3; have hfz23_4 := blk_frozen BK122.out 4; have hfz23_5 := blk_frozen BK122.out 5; have hfz23_6 := blk_frozen BK122.out 6; have hfz23_7 := blk_frozen BK122.out 7))
                  go_ret
                  exact ⟨by first | rfl | (simp [errW_none, errW_some] <;> rfl) | (simp [*, errW_none, errW_some] <;> rfl), by repeat (first | (with_reducible first | exact HB.out | apply bal | apply pbd | apply below_drew1 | refine below_set ?_ GE119.out | refine below_set ?_ GE120.out | refine below_set ?_ GE122.out) | exact HB.out)⟩
                · replace c15 := Bool.eq_false_iff.mpr c15
                  subst c15
                  have H1 : (mean_Eval.l0 k1 l0_2 (l0_2.length : Int) (wrap64 (x15_1 + 1)) a0_0 a0_1 l0_2 a1_0 a1_1 a1_2 a1_3 a1_4 a1_5 a1_6 a1_7 a1_8) = some r := by rw [if_neg (show ¬ (false = true) by decide)] at H; exact H
                  clear H
                  have H := H1
                  clear H1
                  have H' := amk H
                  clear H
                  have p121 : 0 ≤ (x15_1 : Int) := of_decide_eq_true (by first | (with_reducible assumption) | assumption)
                  have q121 : x15_1 < (l0_2.length : Int) := of_decide_eq_true (by first | (with_reducible assumption) | assumption)
                  obtain ⟨ad121, A121_0, c121_0, A121_2, c121_2, e121, hx121_0, hx121_1, hx121_2, hx121_3, hx121_4, hx121_5, hx121_6, hx121_7, hl121_0, hi121_0, hl121_2, hi121_2⟩ := at_T58 HR0_2.out x15_1 p121 q121
                  cases e121
                  replace hx121_0 := (HB.out.cell (World.block_lt_of_cell? w _ hx121_0)).trans hx121_0
                  replace hx121_1 := (HB.out.cell (World.block_lt_of_cell? w _ hx121_1)).trans hx121_1
                  replace hx121_2 := (HB.out.cell (World.block_lt_of_cell? w _ hx121_2)).trans hx121_2
                  replace hx121_3 := (HB.out.cell (World.block_lt_of_cell? w _ hx121_3)).trans hx121_3
                  replace hx121_4 := (HB.out.cell (World.block_lt_of_cell? w _ hx121_4)).trans hx121_4
                  replace hx121_5 := (HB.out.cell (World.block_lt_of_cell? w _ hx121_5)).trans hx121_5
                  replace hx121_6 := (HB.out.cell (World.block_lt_of_cell? w _ hx121_6)).trans hx121_6
                  replace hx121_7 := (HB.out.cell (World.block_lt_of_cell? w _ hx121_7)).trans hx121_7
                  have HR121_0 := amk hi121_0
                  have HC121_0 := amk hl121_0
                  clear hi121_0 hl121_0
                  have HR121_2 := amk hi121_2
                  have HC121_2 := amk hl121_2
                  clear hi121_2 hl121_2
                  replace p121 := eq_true p121
                  replace q121 := eq_true q121
                  go_wp2_with (first | ((with_reducible refine gate_dst (N := 6) rfl ?_); refine box_event ?hg (N := 6) ?hd (cs := #[.slice none 0 0, .int .i64 0, .slice none 0 0, .int .i64 0, .int .u64 0, .string (⟨#[]⟩ : ByteArray), .int .u64 0, .int .u32 0]) (t := 58) ?hr ?_; (case hd => rfl); (case hg => rfl); (case hr => first | (go_simp; done) | (go_simp; rfl)); intro gb122 hg w24 hbox hb; have n0_ := amk (blk_below (g := gb119) (o := .cells #[.int .u32 a0_0, .int .u32 a0_1, .slice (some ad121) l0_2.length c0_2] 56 (0, 0)) (by (with_reducible repeat (first | refine blk_drewN ?_ _ | refine blk_drew ?_ | refine blk_alloc ?_ _)); exact BK119.out) hb); have n1_ := amk (blk_below (g := gb120) (o := .cells #[.int .u32 a1_0, .int .u32 a1_1, .int .u64 a1_2, .int .u64 a1_3, .int .u64 a1_4, .int .u64 a1_5, .int .u64 a1_6, .int .u64 a1_7, .int .u64 a1_8] 49 (0, 0)) (by (with_reducible repeat (first | refine blk_drewN ?_ _ | refine blk_drew ?_ | refine blk_alloc ?_ _)); exact BK120.out) hb); have n2_ := amk (below_step (by repeat (first | (with_reducible first | exact HB.out | apply bal | apply pbd | apply below_drew1 | refine below_set ?_ GE119.out | refine below_set ?_ GE120.out) | exact HB.out)) hb); have n3_ := amk (hbox); have n4_ := amk ((by rw [hg]; exact (below_size (by repeat (first | (with_reducible first | exact HB.out | apply bal | apply pbd | apply below_drew1 | refine below_set ?_ GE119.out | refine below_set ?_ GE120.out) | exact HB.out))) : w.heap.size ≤ gb122)); have n5_ := amk ((by rw [hg]; exact (below_size (by repeat (first | (with_reducible first | exact HB.out | apply bal | apply pbd | apply below_drew1 | refine below_set ?_ GE119.out | refine below_set ?_ GE120.out) | exact HB.out))) : w.heap.size ≤ gb122)); have n6_ := amk ((by rw [hg]; exact Nat.ne_of_lt (blk_lt (g := gb119) (o := .cells #[.int .u32 a0_0, .int .u32 a0_1, .slice (some ad121) l0_2.length c0_2] 56 (0, 0)) (by (with_reducible repeat (first | refine blk_drewN ?_ _ | refine blk_drew ?_ | refine blk_alloc ?_ _)); exact BK119.out)) : gb119 ≠ gb122)); have n7_ := amk ((by rw [hg]; exact Nat.ne_of_gt (blk_lt (g := gb119) (o := .cells #[.int .u32 a0_0, .int .u32 a0_1, .slice (some ad121) l0_2.length c0_2] 56 (0, 0)) (by (with_reducible repeat (first | refine blk_drewN ?_ _ | refine blk_drew ?_ | refine blk_alloc ?_ _)); exact BK119.out)) : gb122 ≠ gb119)); have n8_ := amk ((by rw [hg]; exact Nat.ne_of_lt (blk_lt (g := gb120) (o := .cells #[.int .u32 a1_0, .int .u32 a1_1, .int .u64 a1_2, .int .u64 a1_3, .int .u64 a1_4, .int .u64 a1_5, .int .u64 a1_6, .int .u64 a1_7, .int .u64 a1_8] 49 (0, 0)) (by (with_reducible repeat (first | refine blk_drewN ?_ _ | refine blk_drew ?_ | refine blk_alloc ?_ _)); exact BK120.out)) : gb120 ≠ gb122)); have n9_ := amk ((by rw [hg]; exact Nat.ne_of_gt (blk_lt (g := gb120) (o := .cells #[.int .u32 a1_0, .int .u32 a1_1, .int .u64 a1_2, .int .u64 a1_3, .int .u64 a1_4, .int .u64 a1_5, .int .u64 a1_6, .int .u64 a1_7, .int .u64 a1_8] 49 (0, 0)) (by (with_reducible repeat (first | refine blk_drewN ?_ _ | refine blk_drew ?_ | refine blk_alloc ?_ _)); exact BK120.out)) : gb122 ≠ gb120)); clear BK119; clear BK120; clear HB; have BK119 := n0_; have BK120 := n1_; have HB := n2_; have BK122 := n3_; have GW122 := n4_; have GE122 := n5_; have NB119_122 := n6_; have NB122_119 := n7_; have NB120_122 := n8_; have NB122_120 := n9_; clear n0_ n1_ n2_ n3_ n4_ n5_ n6_ n7_ n8_ n9_; clear hb hbox hg; have hnb25 := NB122_119.out; have hnc25 := NB119_122.out; have hnb26 := NB122_120.out; have hnc26 := NB120_122.out; have hcz27_0 : w24.cell? ⟨gb122, 0, none⟩ = some (.slice none 0 0) := (blk_cell BK122.out 0).trans rfl; have hcz27_1 : w24.cell? ⟨gb122, 1, none⟩ = some (.int .i64 0) := (blk_cell BK122.out 1).trans rfl; have hcz27_2 : w24.cell? ⟨gb122, 2, none⟩ = some (.slice none 0 0) := (blk_cell BK122.out 2).trans rfl; have hcz27_3 : w24.cell? ⟨gb122, 3, none⟩ = some (.int .i64 0) := (blk_cell BK122.out 3).trans rfl; have hcz27_4 : w24.cell? ⟨gb122, 4, none⟩ = some (.int .u64 0) := (blk_cell BK122.out 4).trans rfl; have hcz27_5 : w24.cell? ⟨gb122, 5, none⟩ = some (.string (⟨#[]⟩ : ByteArray)) := (blk_cell BK122.out 5).trans rfl; have hcz27_6 : w24.cell? ⟨gb122, 6, none⟩ = some (.int .u64 0) := (blk_cell BK122.out 6).trans rfl; have hcz27_7 : w24.cell? ⟨gb122, 7, none⟩ = some (.int .u32 0) := (blk_cell BK122.out 7).trans rfl; have hfz27_0 := blk_frozen BK122.out 0; have hfz27_1 := blk_frozen BK122.out 1; have hfz27_2 := blk_frozen BK122.out 2; have hfz27_3 := blk_frozen BK122.out 3; have hfz27_4 := blk_frozen BK122.out 4; have hfz27_5 := blk_frozen BK122.out 5; have hfz27_6 := blk_frozen BK122.out 6; have hfz27_7 := blk_frozen BK122.out 7; have hnb28 := NB120_119.out; have hnc28 := NB119_120.out; have hcz29_0 : w24.cell? ⟨gb120, 0, none⟩ = some (.int .u32 a1_0) := (blk_cell BK120.out 0).trans rfl; have hcz29_1 : w24.cell? ⟨gb120, 1, none⟩ = some (.int .u32 a1_1) := (blk_cell BK120.out 1).trans rfl; have hcz29_2 : w24.cell? ⟨gb120, 2, none⟩ = some (.int .u64 a1_2) := (blk_cell BK120.out 2).trans rfl; have hcz29_3 : w24.cell? ⟨gb120, 3, none⟩ = some (.int .u64 a1_3) := (blk_cell BK120.out 3).trans rfl; have hcz29_4 : w24.cell? ⟨gb120, 4, none⟩ = some (.int .u64 a1_4) := (blk_cell BK120.out 4).trans rfl; have hcz29_5 : w24.cell? ⟨gb120, 5, none⟩ = some (.int .u64 a1_5) := (blk_cell BK120.out 5).trans rfl; have hcz29_6 : w24.cell? ⟨gb120, 6, none⟩ = some (.int .u64 a1_6) := (blk_cell BK120.out 6).trans rfl; have hcz29_7 : w24.cell? ⟨gb120, 7, none⟩ = some (.int .u64 a1_7) := (blk_cell BK120.out 7).trans rfl; have hcz29_8 : w24.cell? ⟨gb120, 8, none⟩ = some (.int .u64 a1_8) := (blk_cell BK120.out 8).trans rfl; have hfz29_0 := blk_frozen BK120.out 0; have hfz29_1 := blk_frozen BK120.out 1; have hfz29_2 := blk_frozen BK120.out 2; have hfz29_3 := blk_frozen BK120.out 3; have hfz29_4 := blk_frozen BK120.out 4; have hfz29_5 := blk_frozen BK120.out 5; have hfz29_6 := blk_frozen BK120.out 6; have hfz29_7 := blk_frozen BK120.out 7; have hfz29_8 := blk_frozen BK120.out 8) | ((with_reducible refine gate_callee (f := 92) rfl ?_); refine goesL_ (some 23) rfl rfl Try.func92 (by kernel_rfl) rfl #[.slice A121_0 ((rd_T58 l0_2 x15_1).f0).length c121_0, .int .u32 a1_0] rfl (by (try simp only [List.map_toArray, List.map_cons, List.map_nil]); first | done | rfl | (simp only [List.length_drop, List.length_take]; rfl)) ?_; (with_reducible refine (slices_Contains_uint32_uint32.calls k1 _ _ ((rd_T58 l0_2 x15_1).f0) a1_0 true _ ?side1 ?side2 A12.out).mono ?_); (case side1 => exact Kd.C_below HR121_0.out (by repeat (first | (with_reducible first | exact HB.out | apply bal | apply pbd | apply below_drew1 | refine below_set ?_ GE119.out | refine below_set ?_ GE120.out | refine below_set ?_ GE122.out) | exact HB.out))); (case side2 => exact HC121_0.out); rintro e w' ⟨rfl, ⟨nd, rfl⟩⟩; refine ⟨_, rfl, ?_⟩) | (go_at_call 45; (with_reducible refine (mean_Holds.calls ((rd_T58 l0_2 x15_1).f1.f0) _ _ ((rd_T58 l0_2 x15_1).f1.f1) ((rd_T58 l0_2 x15_1).f1.f2) ((rd_T58 l0_2 x15_1).f1.f3) ((rd_T58 l0_2 x15_1).f1.f4) ((rd_T58 l0_2 x15_1).f1.f5) a1_0 a1_1 a1_2 a1_3 a1_4 a1_5 a1_6 a1_7 a1_8 false _ ?side1 ?side2 A14.out).mono ?_); (case side1 => exact Kd.C_below HR121_2.out (by repeat (first | (with_reducible first | exact HB.out | apply bal | apply pbd | apply below_drew1 | refine below_set ?_ GE119.out | refine below_set ?_ GE120.out | refine below_set ?_ GE122.out) | exact HB.out))); (case side2 => exact HC121_2.out); rintro e w30 ⟨rfl, hb⟩; have n0_ := amk (blk_below (g := gb119) (o := .cells #[.int .u32 a0_0, .int .u32 a0_1, .slice (some ad121) l0_2.length c0_2] 56 (0, 0)) (by (with_reducible repeat (first | refine blk_drewN ?_ _ | refine blk_drew ?_ | refine blk_alloc ?_ _)); refine blk_far ?_ NB119_122.out _; (with_reducible repeat (first | refine blk_drewN ?_ _ | refine blk_drew ?_ | refine blk_alloc ?_ _)); refine blk_far ?_ NB119_122.out _; (with_reducible repeat (first | refine blk_drewN ?_ _ | refine blk_drew ?_ | refine blk_alloc ?_ _)); refine blk_far ?_ NB119_122.out _; (with_reducible repeat (first | refine blk_drewN ?_ _ | refine blk_drew ?_ | refine blk_alloc ?_ _)); refine blk_far ?_ NB119_122.out _; (with_reducible repeat (first | refine blk_drewN ?_ _ | refine blk_drew ?_ | refine blk_alloc ?_ _)); refine blk_far ?_ NB119_122.out _; (with_reducible repeat (first | refine blk_drewN ?_ _ | refine blk_drew ?_ | refine blk_alloc ?_ _)); refine blk_far ?_ NB119_122.out _; (with_reducible repeat (first | refine blk_drewN ?_ _ | refine blk_drew ?_ | refine blk_alloc ?_ _)); refine blk_far ?_ NB119_122.out _; (with_reducible repeat (first | refine blk_drewN ?_ _ | refine blk_drew ?_ | refine blk_alloc ?_ _)); refine blk_far ?_ NB119_122.out _; (with_reducible repeat (first | refine blk_drewN ?_ _ | refine blk_drew ?_ | refine blk_alloc ?_ _)); exact BK119.out) hb); have n1_ := amk (blk_below (g := gb120) (o := .cells #[.int .u32 a1_0, .int .u32 a1_1, .int .u64 a1_2, .int .u64 a1_3, .int .u64 a1_4, .int .u64 a1_5, .int .u64 a1_6, .int .u64 a1_7, .int .u64 a1_8] 49 (0, 0)) (by (with_reducible repeat (first | refine blk_drewN ?_ _ | refine blk_drew ?_ | refine blk_alloc ?_ _)); refine blk_far ?_ NB120_122.out _; (with_reducible repeat (first | refine blk_drewN ?_ _ | refine blk_drew ?_ | refine blk_alloc ?_ _)); refine blk_far ?_ NB120_122.out _; (with_reducible repeat (first | refine blk_drewN ?_ _ | refine blk_drew ?_ | refine blk_alloc ?_ _)); refine blk_far ?_ NB120_122.out _; (with_reducible repeat (first | refine blk_drewN ?_ _ | refine blk_drew ?_ | refine blk_alloc ?_ _)); refine blk_far ?_ NB120_122.out _; (with_reducible repeat (first | refine blk_drewN ?_ _ | refine blk_drew ?_ | refine blk_alloc ?_ _)); refine blk_far ?_ NB120_122.out _; (with_reducible repeat (first | refine blk_drewN ?_ _ | refine blk_drew ?_ | refine blk_alloc ?_ _)); refine blk_far ?_ NB120_122.out _; (with_reducible repeat (first | refine blk_drewN ?_ _ | refine blk_drew ?_ | refine blk_alloc ?_ _)); refine blk_far ?_ NB120_122.out _; (with_reducible repeat (first | refine blk_drewN ?_ _ | refine blk_drew ?_ | refine blk_alloc ?_ _)); refine blk_far ?_ NB120_122.out _; (with_reducible repeat (first | refine blk_drewN ?_ _ | refine blk_drew ?_ | refine blk_alloc ?_ _)); exact BK120.out) hb); have n2_ := amk (blk_below (g := gb122) (o := .cells #[.slice A121_0 ((rd_T58 l0_2 x15_1).f0).length c121_0, .int .i64 ((rd_T58 l0_2 x15_1).f1.f0), .slice A121_2 ((rd_T58 l0_2 x15_1).f1.f1).length c121_2, .int .i64 ((rd_T58 l0_2 x15_1).f1.f2), .int .u64 ((rd_T58 l0_2 x15_1).f1.f3), .string ((rd_T58 l0_2 x15_1).f1.f4), .int .u64 ((rd_T58 l0_2 x15_1).f1.f5), .int .u32 ((rd_T58 l0_2 x15_1).f2)] 58 (0, 0)) (by (with_reducible repeat (first | refine blk_drewN ?_ _ | refine blk_drew ?_ | refine blk_alloc ?_ _)); refine blk_put (cs := #[.slice A121_0 ((rd_T58 l0_2 x15_1).f0).length c121_0, .int .i64 ((rd_T58 l0_2 x15_1).f1.f0), .slice A121_2 ((rd_T58 l0_2 x15_1).f1.f1).length c121_2, .int .i64 ((rd_T58 l0_2 x15_1).f1.f2), .int .u64 ((rd_T58 l0_2 x15_1).f1.f3), .string ((rd_T58 l0_2 x15_1).f1.f4), .int .u64 ((rd_T58 l0_2 x15_1).f1.f5), .int .u32 0]) ?_ 7 _ rfl; (with_reducible repeat (first | refine blk_drewN ?_ _ | refine blk_drew ?_ | refine blk_alloc ?_ _)); refine blk_put (cs := #[.slice A121_0 ((rd_T58 l0_2 x15_1).f0).length c121_0, .int .i64 ((rd_T58 l0_2 x15_1).f1.f0), .slice A121_2 ((rd_T58 l0_2 x15_1).f1.f1).length c121_2, .int .i64 ((rd_T58 l0_2 x15_1).f1.f2), .int .u64 ((rd_T58 l0_2 x15_1).f1.f3), .string ((rd_T58 l0_2 x15_1).f1.f4), .int .u64 0, .int .u32 0]) ?_ 6 _ rfl; (with_reducible repeat (first | refine blk_drewN ?_ _ | refine blk_drew ?_ | refine blk_alloc ?_ _)); refine blk_put (cs := #[.slice A121_0 ((rd_T58 l0_2 x15_1).f0).length c121_0, .int .i64 ((rd_T58 l0_2 x15_1).f1.f0), .slice A121_2 ((rd_T58 l0_2 x15_1).f1.f1).length c121_2, .int .i64 ((rd_T58 l0_2 x15_1).f1.f2), .int .u64 ((rd_T58 l0_2 x15_1).f1.f3), .string (⟨#[]⟩ : ByteArray), .int .u64 0, .int .u32 0]) ?_ 5 _ rfl; (with_reducible repeat (first | refine blk_drewN ?_ _ | refine blk_drew ?_ | refine blk_alloc ?_ _)); refine blk_put (cs := #[.slice A121_0 ((rd_T58 l0_2 x15_1).f0).length c121_0, .int .i64 ((rd_T58 l0_2 x15_1).f1.f0), .slice A121_2 ((rd_T58 l0_2 x15_1).f1.f1).length c121_2, .int .i64 ((rd_T58 l0_2 x15_1).f1.f2), .int .u64 0, .string (⟨#[]⟩ : ByteArray), .int .u64 0, .int .u32 0]) ?_ 4 _ rfl; (with_reducible repeat (first | refine blk_drewN ?_ _ | refine blk_drew ?_ | refine blk_alloc ?_ _)); refine blk_put (cs := #[.slice A121_0 ((rd_T58 l0_2 x15_1).f0).length c121_0, .int .i64 ((rd_T58 l0_2 x15_1).f1.f0), .slice A121_2 ((rd_T58 l0_2 x15_1).f1.f1).length c121_2, .int .i64 0, .int .u64 0, .string (⟨#[]⟩ : ByteArray), .int .u64 0, .int .u32 0]) ?_ 3 _ rfl; (with_reducible repeat (first | refine blk_drewN ?_ _ | refine blk_drew ?_ | refine blk_alloc ?_ _)); refine blk_put (cs := #[.slice A121_0 ((rd_T58 l0_2 x15_1).f0).length c121_0, .int .i64 ((rd_T58 l0_2 x15_1).f1.f0), .slice none 0 0, .int .i64 0, .int .u64 0, .string (⟨#[]⟩ : ByteArray), .int .u64 0, .int .u32 0]) ?_ 2 _ rfl; (with_reducible repeat (first | refine blk_drewN ?_ _ | refine blk_drew ?_ | refine blk_alloc ?_ _)); refine blk_put (cs := #[.slice A121_0 ((rd_T58 l0_2 x15_1).f0).length c121_0, .int .i64 0, .slice none 0 0, .int .i64 0, .int .u64 0, .string (⟨#[]⟩ : ByteArray), .int .u64 0, .int .u32 0]) ?_ 1 _ rfl; (with_reducible repeat (first | refine blk_drewN ?_ _ | refine blk_drew ?_ | refine blk_alloc ?_ _)); refine blk_put (cs := #[.slice none 0 0, .int .i64 0, .slice none 0 0, .int .i64 0, .int .u64 0, .string (⟨#[]⟩ : ByteArray), .int .u64 0, .int .u32 0]) ?_ 0 _ rfl; (with_reducible repeat (first | refine blk_drewN ?_ _ | refine blk_drew ?_ | refine blk_alloc ?_ _)); exact BK122.out) hb); have n3_ := amk (below_step (by repeat (first | (with_reducible first | exact HB.out | apply bal | apply pbd | apply below_drew1 | refine below_set ?_ GE119.out | refine below_set ?_ GE120.out | refine below_set ?_ GE122.out) | exact HB.out)) hb); clear BK119; clear BK120; clear BK122; clear HB; have BK119 := n0_; have BK120 := n1_; have BK122 := n2_; have HB := n3_; clear n0_ n1_ n2_ n3_; (try clear hb); (try clear hb2); (try clear hk); (try clear hi)))
                  go_roundg k1
                  case measure => have := HK1.out; omega
                  case rel => exact ⟨(wrap64 (x15_1 + 1)), (by first | rfl | (simp; done) | (simp [*]; done)), H', ⟨by have := HK1.out; omega⟩, ⟨by (with_reducible repeat (first | refine blk_drewN ?_ _ | refine blk_drew ?_ | refine blk_alloc ?_ _)); exact BK119.out⟩, ⟨by (with_reducible repeat (first | refine blk_drewN ?_ _ | refine blk_drew ?_ | refine blk_alloc ?_ _)); exact BK120.out⟩, ⟨by repeat (first | (with_reducible first | exact HB.out | apply bal | apply pbd | apply below_drew1 | refine below_set ?_ GE119.out | refine below_set ?_ GE120.out | refine below_set ?_ GE122.out) | exact HB.out)⟩⟩
              · replace c13 := Bool.eq_false_iff.mpr c13
                subst c13
                have H1 : (mean_Eval.l0 k1 l0_2 (l0_2.length : Int) (wrap64 (x15_1 + 1)) a0_0 a0_1 l0_2 a1_0 a1_1 a1_2 a1_3 a1_4 a1_5 a1_6 a1_7 a1_8) = some r := by rw [if_neg (show ¬ (false = true) by decide)] at H; exact H
                clear H
                have H := H1
                clear H1
                have H' := amk H
                clear H
                have p121 : 0 ≤ (x15_1 : Int) := of_decide_eq_true (by first | (with_reducible assumption) | assumption)
                have q121 : x15_1 < (l0_2.length : Int) := of_decide_eq_true (by first | (with_reducible assumption) | assumption)
                obtain ⟨ad121, A121_0, c121_0, A121_2, c121_2, e121, hx121_0, hx121_1, hx121_2, hx121_3, hx121_4, hx121_5, hx121_6, hx121_7, hl121_0, hi121_0, hl121_2, hi121_2⟩ := at_T58 HR0_2.out x15_1 p121 q121
                cases e121
                replace hx121_0 := (HB.out.cell (World.block_lt_of_cell? w _ hx121_0)).trans hx121_0
                replace hx121_1 := (HB.out.cell (World.block_lt_of_cell? w _ hx121_1)).trans hx121_1
                replace hx121_2 := (HB.out.cell (World.block_lt_of_cell? w _ hx121_2)).trans hx121_2
                replace hx121_3 := (HB.out.cell (World.block_lt_of_cell? w _ hx121_3)).trans hx121_3
                replace hx121_4 := (HB.out.cell (World.block_lt_of_cell? w _ hx121_4)).trans hx121_4
                replace hx121_5 := (HB.out.cell (World.block_lt_of_cell? w _ hx121_5)).trans hx121_5
                replace hx121_6 := (HB.out.cell (World.block_lt_of_cell? w _ hx121_6)).trans hx121_6
                replace hx121_7 := (HB.out.cell (World.block_lt_of_cell? w _ hx121_7)).trans hx121_7
                have HR121_0 := amk hi121_0
                have HC121_0 := amk hl121_0
                clear hi121_0 hl121_0
                have HR121_2 := amk hi121_2
                have HC121_2 := amk hl121_2
                clear hi121_2 hl121_2
                replace p121 := eq_true p121
                replace q121 := eq_true q121
                go_wp2_with (first | ((with_reducible refine gate_dst (N := 6) rfl ?_); refine box_event ?hg (N := 6) ?hd (cs := #[.slice none 0 0, .int .i64 0, .slice none 0 0, .int .i64 0, .int .u64 0, .string (⟨#[]⟩ : ByteArray), .int .u64 0, .int .u32 0]) (t := 58) ?hr ?_; (case hd => rfl); (case hg => rfl); (case hr => first | (go_simp; done) | (go_simp; rfl)); intro gb122 hg w31 hbox hb; have n0_ := amk (blk_below (g := gb119) (o := .cells #[.int .u32 a0_0, .int .u32 a0_1, .slice (some ad121) l0_2.length c0_2] 56 (0, 0)) (by (with_reducible repeat (first | refine blk_drewN ?_ _ | refine blk_drew ?_ | refine blk_alloc ?_ _)); exact BK119.out) hb); have n1_ := amk (blk_below (g := gb120) (o := .cells #[.int .u32 a1_0, .int .u32 a1_1, .int .u64 a1_2, .int .u64 a1_3, .int .u64 a1_4, .int .u64 a1_5, .int .u64 a1_6, .int .u64 a1_7, .int .u64 a1_8] 49 (0, 0)) (by (with_reducible repeat (first | refine blk_drewN ?_ _ | refine blk_drew ?_ | refine blk_alloc ?_ _)); exact BK120.out) hb); have n2_ := amk (below_step (by repeat (first | (with_reducible first | exact HB.out | apply bal | apply pbd | apply below_drew1 | refine below_set ?_ GE119.out | refine below_set ?_ GE120.out) | exact HB.out)) hb); have n3_ := amk (hbox); have n4_ := amk ((by rw [hg]; exact (below_size (by repeat (first | (with_reducible first | exact HB.out | apply bal | apply pbd | apply below_drew1 | refine below_set ?_ GE119.out | refine below_set ?_ GE120.out) | exact HB.out))) : w.heap.size ≤ gb122)); have n5_ := amk ((by rw [hg]; exact (below_size (by repeat (first | (with_reducible first | exact HB.out | apply bal | apply pbd | apply below_drew1 | refine below_set ?_ GE119.out | refine below_set ?_ GE120.out) | exact HB.out))) : w.heap.size ≤ gb122)); have n6_ := amk ((by rw [hg]; exact Nat.ne_of_lt (blk_lt (g := gb119) (o := .cells #[.int .u32 a0_0, .int .u32 a0_1, .slice (some ad121) l0_2.length c0_2] 56 (0, 0)) (by (with_reducible repeat (first | refine blk_drewN ?_ _ | refine blk_drew ?_ | refine blk_alloc ?_ _)); exact BK119.out)) : gb119 ≠ gb122)); have n7_ := amk ((by rw [hg]; exact Nat.ne_of_gt (blk_lt (g := gb119) (o := .cells #[.int .u32 a0_0, .int .u32 a0_1, .slice (some ad121) l0_2.length c0_2] 56 (0, 0)) (by (with_reducible repeat (first | refine blk_drewN ?_ _ | refine blk_drew ?_ | refine blk_alloc ?_ _)); exact BK119.out)) : gb122 ≠ gb119)); have n8_ := amk ((by rw [hg]; exact Nat.ne_of_lt (blk_lt (g := gb120) (o := .cells #[.int .u32 a1_0, .int .u32 a1_1, .int .u64 a1_2, .int .u64 a1_3, .int .u64 a1_4, .int .u64 a1_5, .int .u64 a1_6, .int .u64 a1_7, .int .u64 a1_8] 49 (0, 0)) (by (with_reducible repeat (first | refine blk_drewN ?_ _ | refine blk_drew ?_ | refine blk_alloc ?_ _)); exact BK120.out)) : gb120 ≠ gb122)); have n9_ := amk ((by rw [hg]; exact Nat.ne_of_gt (blk_lt (g := gb120) (o := .cells #[.int .u32 a1_0, .int .u32 a1_1, .int .u64 a1_2, .int .u64 a1_3, .int .u64 a1_4, .int .u64 a1_5, .int .u64 a1_6, .int .u64 a1_7, .int .u64 a1_8] 49 (0, 0)) (by (with_reducible repeat (first | refine blk_drewN ?_ _ | refine blk_drew ?_ | refine blk_alloc ?_ _)); exact BK120.out)) : gb122 ≠ gb120)); clear BK119; clear BK120; clear HB; have BK119 := n0_; have BK120 := n1_; have HB := n2_; have BK122 := n3_; have GW122 := n4_; have GE122 := n5_; have NB119_122 := n6_; have NB122_119 := n7_; have NB120_122 := n8_; have NB122_120 := n9_; clear n0_ n1_ n2_ n3_ n4_ n5_ n6_ n7_ n8_ n9_; clear hb hbox hg; have hnb32 := NB122_119.out; have hnc32 := NB119_122.out; have hnb33 := NB122_120.out; have hnc33 := NB120_122.out; have hcz34_0 : w31.cell? ⟨gb122, 0, none⟩ = some (.slice none 0 0) := (blk_cell BK122.out 0).trans rfl; have hcz34_1 : w31.cell? ⟨gb122, 1, none⟩ = some (.int .i64 0) := (blk_cell BK122.out 1).trans rfl; have hcz34_2 : w31.cell? ⟨gb122, 2, none⟩ = some (.slice none 0 0) := (blk_cell BK122.out 2).trans rfl; have hcz34_3 : w31.cell? ⟨gb122, 3, none⟩ = some (.int .i64 0) := (blk_cell BK122.out 3).trans rfl; have hcz34_4 : w31.cell? ⟨gb122, 4, none⟩ = some (.int .u64 0) := (blk_cell BK122.out 4).trans rfl; have hcz34_5 : w31.cell? ⟨gb122, 5, none⟩ = some (.string (⟨#[]⟩ : ByteArray)) := (blk_cell BK122.out 5).trans rfl; have hcz34_6 : w31.cell? ⟨gb122, 6, none⟩ = some (.int .u64 0) := (blk_cell BK122.out 6).trans rfl; have hcz34_7 : w31.cell? ⟨gb122, 7, none⟩ = some (.int .u32 0) := (blk_cell BK122.out 7).trans rfl; have hfz34_0 := blk_frozen BK122.out 0; have hfz34_1 := blk_frozen BK122.out 1; have hfz34_2 := blk_frozen BK122.out 2; have hfz34_3 := blk_frozen BK122.out 3; have hfz34_4 := blk_frozen BK122.out 4; have hfz34_5 := blk_frozen BK122.out 5; have hfz34_6 := blk_frozen BK122.out 6; have hfz34_7 := blk_frozen BK122.out 7; have hnb35 := NB120_119.out; have hnc35 := NB119_120.out; have hcz36_0 : w31.cell? ⟨gb120, 0, none⟩ = some (.int .u32 a1_0) := (blk_cell BK120.out 0).trans rfl; have hcz36_1 : w31.cell? ⟨gb120, 1, none⟩ = some (.int .u32 a1_1) := (blk_cell BK120.out 1).trans rfl; have hcz36_2 : w31.cell? ⟨gb120, 2, none⟩ = some (.int .u64 a1_2) := (blk_cell BK120.out 2).trans rfl; have hcz36_3 : w31.cell? ⟨gb120, 3, none⟩ = some (.int .u64 a1_3) := (blk_cell BK120.out 3).trans rfl; have hcz36_4 : w31.cell? ⟨gb120, 4, none⟩ = some (.int .u64 a1_4) := (blk_cell BK120.out 4).trans rfl; have hcz36_5 : w31.cell? ⟨gb120, 5, none⟩ = some (.int .u64 a1_5) := (blk_cell BK120.out 5).trans rfl; have hcz36_6 : w31.cell? ⟨gb120, 6, none⟩ = some (.int .u64 a1_6) := (blk_cell BK120.out 6).trans rfl; have hcz36_7 : w31.cell? ⟨gb120, 7, none⟩ = some (.int .u64 a1_7) := (blk_cell BK120.out 7).trans rfl; have hcz36_8 : w31.cell? ⟨gb120, 8, none⟩ = some (.int .u64 a1_8) := (blk_cell BK120.out 8).trans rfl; have hfz36_0 := blk_frozen BK120.out 0; have hfz36_1 := blk_frozen BK120.out 1; have hfz36_2 := blk_frozen BK120.out 2; have hfz36_3 := blk_frozen BK120.out 3; have hfz36_4 := blk_frozen BK120.out 4; have hfz36_5 := blk_frozen BK120.out 5; have hfz36_6 := blk_frozen BK120.out 6; have hfz36_7 := blk_frozen BK120.out 7; have hfz36_8 := blk_frozen BK120.out 8) | ((with_reducible refine gate_callee (f := 92) rfl ?_); refine goesL_ (some 23) rfl rfl Try.func92 (by kernel_rfl) rfl #[.slice A121_0 ((rd_T58 l0_2 x15_1).f0).length c121_0, .int .u32 a1_0] rfl (by (try simp only [List.map_toArray, List.map_cons, List.map_nil]); first | done | rfl | (simp only [List.length_drop, List.length_take]; rfl)) ?_; (with_reducible refine (slices_Contains_uint32_uint32.calls k1 _ _ ((rd_T58 l0_2 x15_1).f0) a1_0 false _ ?side1 ?side2 A12.out).mono ?_); (case side1 => exact Kd.C_below HR121_0.out (by repeat (first | (with_reducible first | exact HB.out | apply bal | apply pbd | apply below_drew1 | refine below_set ?_ GE119.out | refine below_set ?_ GE120.out | refine below_set ?_ GE122.out) | exact HB.out))); (case side2 => exact HC121_0.out); rintro e w' ⟨rfl, ⟨nd, rfl⟩⟩; refine ⟨_, rfl, ?_⟩))
                go_roundg k1
                case measure => have := HK1.out; omega
                case rel => exact ⟨(wrap64 (x15_1 + 1)), (by first | rfl | (simp; done) | (simp [*]; done)), H', ⟨by have := HK1.out; omega⟩, ⟨by (with_reducible repeat (first | refine blk_drewN ?_ _ | refine blk_drew ?_ | refine blk_alloc ?_ _)); refine blk_far ?_ NB119_122.out _; (with_reducible repeat (first | refine blk_drewN ?_ _ | refine blk_drew ?_ | refine blk_alloc ?_ _)); refine blk_far ?_ NB119_122.out _; (with_reducible repeat (first | refine blk_drewN ?_ _ | refine blk_drew ?_ | refine blk_alloc ?_ _)); refine blk_far ?_ NB119_122.out _; (with_reducible repeat (first | refine blk_drewN ?_ _ | refine blk_drew ?_ | refine blk_alloc ?_ _)); refine blk_far ?_ NB119_122.out _; (with_reducible repeat (first | refine blk_drewN ?_ _ | refine blk_drew ?_ | refine blk_alloc ?_ _)); refine blk_far ?_ NB119_122.out _; (with_reducible repeat (first | refine blk_drewN ?_ _ | refine blk_drew ?_ | refine blk_alloc ?_ _)); refine blk_far ?_ NB119_122.out _; (with_reducible repeat (first | refine blk_drewN ?_ _ | refine blk_drew ?_ | refine blk_alloc ?_ _)); refine blk_far ?_ NB119_122.out _; (with_reducible repeat (first | refine blk_drewN ?_ _ | refine blk_drew ?_ | refine blk_alloc ?_ _)); refine blk_far ?_ NB119_122.out _; (with_reducible repeat (first | refine blk_drewN ?_ _ | refine blk_drew ?_ | refine blk_alloc ?_ _)); exact BK119.out⟩, ⟨by (with_reducible repeat (first | refine blk_drewN ?_ _ | refine blk_drew ?_ | refine blk_alloc ?_ _)); refine blk_far ?_ NB120_122.out _; (with_reducible repeat (first | refine blk_drewN ?_ _ | refine blk_drew ?_ | refine blk_alloc ?_ _)); refine blk_far ?_ NB120_122.out _; (with_reducible repeat (first | refine blk_drewN ?_ _ | refine blk_drew ?_ | refine blk_alloc ?_ _)); refine blk_far ?_ NB120_122.out _; (with_reducible repeat (first | refine blk_drewN ?_ _ | refine blk_drew ?_ | refine blk_alloc ?_ _)); refine blk_far ?_ NB120_122.out _; (with_reducible repeat (first | refine blk_drewN ?_ _ | refine blk_drew ?_ | refine blk_alloc ?_ _)); refine blk_far ?_ NB120_122.out _; (with_reducible repeat (first | refine blk_drewN ?_ _ | refine blk_drew ?_ | refine blk_alloc ?_ _)); refine blk_far ?_ NB120_122.out _; (with_reducible repeat (first | refine blk_drewN ?_ _ | refine blk_drew ?_ | refine blk_alloc ?_ _)); refine blk_far ?_ NB120_122.out _; (with_reducible repeat (first | refine blk_drewN ?_ _ | refine blk_drew ?_ | refine blk_alloc ?_ _)); refine blk_far ?_ NB120_122.out _; (with_reducible repeat (first | refine blk_drewN ?_ _ | refine blk_drew ?_ | refine blk_alloc ?_ _)); exact BK120.out⟩, ⟨by repeat (first | (with_reducible first | exact HB.out | apply bal | apply pbd | apply below_drew1 | refine below_set ?_ GE119.out | refine below_set ?_ GE120.out | refine below_set ?_ GE122.out) | exact HB.out)⟩⟩
            · rw [if_neg c11] at H
              exact absurd H (by simp)
          · rw [if_neg c10] at H
            exact absurd H (by simp)
        · rw [if_neg c9] at H
          have c9b0 : decide (x15_1 < (l0_2.length : Int)) = false := decide_eq_false c9
          clear c9
          obtain rfl := Option.some.inj H
          have hnb37 := NB119_120.out
          have hnc37 := NB120_119.out
          have hcz38_0 : wr.cell? ⟨gb119, 0, none⟩ = some (.int .u32 a0_0) := (blk_cell BK119.out 0).trans rfl
          have hcz38_1 : wr.cell? ⟨gb119, 1, none⟩ = some (.int .u32 a0_1) := (blk_cell BK119.out 1).trans rfl
          have hcz38_2 : wr.cell? ⟨gb119, 2, none⟩ = some (.slice A0_2 l0_2.length c0_2) := (blk_cell BK119.out 2).trans rfl
          have hfz38_0 := blk_frozen BK119.out 0
          have hfz38_1 := blk_frozen BK119.out 1
          have hfz38_2 := blk_frozen BK119.out 2
          go_wp2
          go_ret
          exact ⟨by first | rfl | (simp [errW_none, errW_some] <;> rfl) | (simp [*, errW_none, errW_some] <;> rfl), by repeat (first | (with_reducible first | exact HB.out | apply bal | apply pbd | apply below_drew1 | refine below_set ?_ GE119.out | refine below_set ?_ GE120.out) | exact HB.out)⟩
  · rw [if_neg c3] at H
    have c3b0 : (a1_1 == a0_0) = false := beq_eq_false_iff_ne.mpr c3
    have c3b1 : (a1_1 != a0_0) = true := bne_iff_ne.mpr c3
    obtain rfl := Option.some.inj H
    go_enter Try.func50, Try.ntmps50
    go_wp2_with (first | ((with_reducible refine gate_dst (N := 2) rfl ?_); refine box_event ?hg (N := 2) ?hd (cs := #[.int .u32 a0_0, .int .u32 a0_1, .slice A0_2 l0_2.length c0_2]) (t := 56) ?hr ?_; (case hd => rfl); (case hg => rfl); (case hr => first | (go_simp; done) | (go_simp; rfl)); intro gb119 hg w39 hbox hb; have n0_ := amk (below_step (by repeat (first | (with_reducible first | exact HB.out | apply bal | apply pbd | apply below_drew1) | exact HB.out)) hb); have n1_ := amk (hbox); have n2_ := amk ((by rw [hg]; exact (below_size (by repeat (first | (with_reducible first | exact HB.out | apply bal | apply pbd | apply below_drew1) | exact HB.out))) : w.heap.size ≤ gb119)); have n3_ := amk ((by rw [hg]; exact (below_size (by repeat (first | (with_reducible first | exact HB.out | apply bal | apply pbd | apply below_drew1) | exact HB.out))) : w.heap.size ≤ gb119)); clear HB; have HB := n0_; have BK119 := n1_; have GW119 := n2_; have GE119 := n3_; clear n0_ n1_ n2_ n3_; clear hb hbox hg) | ((with_reducible refine gate_dst (N := 3) rfl ?_); refine box_event ?hg (N := 3) ?hd (cs := #[.int .u32 a1_0, .int .u32 a1_1, .int .u64 a1_2, .int .u64 a1_3, .int .u64 a1_4, .int .u64 a1_5, .int .u64 a1_6, .int .u64 a1_7, .int .u64 a1_8]) (t := 49) ?hr ?_; (case hd => rfl); (case hg => rfl); (case hr => first | (go_simp; done) | (go_simp; rfl)); intro gb120 hg w40 hbox hb; have n0_ := amk (blk_below (g := gb119) (o := .cells #[.int .u32 a0_0, .int .u32 a0_1, .slice A0_2 l0_2.length c0_2] 56 (0, 0)) (by (with_reducible repeat (first | refine blk_drewN ?_ _ | refine blk_drew ?_ | refine blk_alloc ?_ _)); exact BK119.out) hb); have n1_ := amk (below_step (by repeat (first | (with_reducible first | exact HB.out | apply bal | apply pbd | apply below_drew1 | refine below_set ?_ GE119.out) | exact HB.out)) hb); have n2_ := amk (hbox); have n3_ := amk ((by rw [hg]; exact (below_size (by repeat (first | (with_reducible first | exact HB.out | apply bal | apply pbd | apply below_drew1 | refine below_set ?_ GE119.out) | exact HB.out))) : w.heap.size ≤ gb120)); have n4_ := amk ((by rw [hg]; exact (below_size (by repeat (first | (with_reducible first | exact HB.out | apply bal | apply pbd | apply below_drew1 | refine below_set ?_ GE119.out) | exact HB.out))) : w.heap.size ≤ gb120)); have n5_ := amk ((by rw [hg]; exact Nat.ne_of_lt (blk_lt (g := gb119) (o := .cells #[.int .u32 a0_0, .int .u32 a0_1, .slice A0_2 l0_2.length c0_2] 56 (0, 0)) (by (with_reducible repeat (first | refine blk_drewN ?_ _ | refine blk_drew ?_ | refine blk_alloc ?_ _)); exact BK119.out)) : gb119 ≠ gb120)); have n6_ := amk ((by rw [hg]; exact Nat.ne_of_gt (blk_lt (g := gb119) (o := .cells #[.int .u32 a0_0, .int .u32 a0_1, .slice A0_2 l0_2.length c0_2] 56 (0, 0)) (by (with_reducible repeat (first | refine blk_drewN ?_ _ | refine blk_drew ?_ | refine blk_alloc ?_ _)); exact BK119.out)) : gb120 ≠ gb119)); clear BK119; clear HB; have BK119 := n0_; have HB := n1_; have BK120 := n2_; have GW120 := n3_; have GE120 := n4_; have NB119_120 := n5_; have NB120_119 := n6_; clear n0_ n1_ n2_ n3_ n4_ n5_ n6_; clear hb hbox hg; have hnb41 := NB120_119.out; have hnc41 := NB119_120.out; have hcz42_0 : w40.cell? ⟨gb120, 0, none⟩ = some (.int .u32 a1_0) := (blk_cell BK120.out 0).trans rfl; have hcz42_1 : w40.cell? ⟨gb120, 1, none⟩ = some (.int .u32 a1_1) := (blk_cell BK120.out 1).trans rfl; have hcz42_2 : w40.cell? ⟨gb120, 2, none⟩ = some (.int .u64 a1_2) := (blk_cell BK120.out 2).trans rfl; have hcz42_3 : w40.cell? ⟨gb120, 3, none⟩ = some (.int .u64 a1_3) := (blk_cell BK120.out 3).trans rfl; have hcz42_4 : w40.cell? ⟨gb120, 4, none⟩ = some (.int .u64 a1_4) := (blk_cell BK120.out 4).trans rfl; have hcz42_5 : w40.cell? ⟨gb120, 5, none⟩ = some (.int .u64 a1_5) := (blk_cell BK120.out 5).trans rfl; have hcz42_6 : w40.cell? ⟨gb120, 6, none⟩ = some (.int .u64 a1_6) := (blk_cell BK120.out 6).trans rfl; have hcz42_7 : w40.cell? ⟨gb120, 7, none⟩ = some (.int .u64 a1_7) := (blk_cell BK120.out 7).trans rfl; have hcz42_8 : w40.cell? ⟨gb120, 8, none⟩ = some (.int .u64 a1_8) := (blk_cell BK120.out 8).trans rfl; have hfz42_0 := blk_frozen BK120.out 0; have hfz42_1 := blk_frozen BK120.out 1; have hfz42_2 := blk_frozen BK120.out 2; have hfz42_3 := blk_frozen BK120.out 3; have hfz42_4 := blk_frozen BK120.out 4; have hfz42_5 := blk_frozen BK120.out 5; have hfz42_6 := blk_frozen BK120.out 6; have hfz42_7 := blk_frozen BK120.out 7; have hfz42_8 := blk_frozen BK120.out 8; have hcz43_0 : w40.cell? ⟨gb119, 0, none⟩ = some (.int .u32 a0_0) := (blk_cell BK119.out 0).trans rfl; have hcz43_1 : w40.cell? ⟨gb119, 1, none⟩ = some (.int .u32 a0_1) := (blk_cell BK119.out 1).trans rfl; have hcz43_2 : w40.cell? ⟨gb119, 2, none⟩ = some (.slice A0_2 l0_2.length c0_2) := (blk_cell BK119.out 2).trans rfl; have hfz43_0 := blk_frozen BK119.out 0; have hfz43_1 := blk_frozen BK119.out 1; have hfz43_2 := blk_frozen BK119.out 2))
    go_ret
    exact ⟨by first | rfl | (simp [errW_none, errW_some] <;> rfl) | (simp [*, errW_none, errW_some] <;> rfl), by repeat (first | (with_reducible first | exact HB.out | apply bal | apply pbd | apply below_drew1 | refine below_set ?_ GE119.out | refine below_set ?_ GE120.out) | exact HB.out)⟩
end Go.Proofs.Ytoeklekjhaigoaa.M2
end
section
namespace Go.Proofs.Ytoeklekjhaigoaa.M2
open Go.Proofs.Ytoeklekjhaigoaa.Al Go.RowKit Go.Proofs.YtoeklekjhaigoaaW.PrintWords Go.Proofs.YtoeklekjhaigoaaW.PrintLast Go.Proofs.YtoeklekjhaigoaaW.PrintMore
attribute [local go_sem] max2_int min2_int max_two min_two max_three min_three max_four min_four IntKind.wrap_u32 IntKind.wrap_u8   -- for this text's walks alone
set_option linter.unusedVariables false
open Go.Proofs.Ytoeklekjhaigoaa.Le Go.Proofs.Ytoeklekjhaigoaa.C1 Go.Proofs.Ytoeklekjhaigoaa.C2 Go.Proofs.Ytoeklekjhaigoaa.HAct Go.Proofs.Ytoeklekjhaigoaa.W0 Go.Proofs.Ytoeklekjhaigoaa.HFrom Go.Proofs.Ytoeklekjhaigoaa.W1 Go.Proofs.Ytoeklekjhaigoaa.R01 Go.Proofs.Ytoeklekjhaigoaa.HPack Go.Proofs.Ytoeklekjhaigoaa.HUnpack Go.Proofs.Ytoeklekjhaigoaa.HRefPack Go.Proofs.Ytoeklekjhaigoaa.M0 Go.Proofs.Ytoeklekjhaigoaa.HMany Go.Proofs.Ytoeklekjhaigoaa.HCount Go.Proofs.Ytoeklekjhaigoaa.M1 Go.Proofs.Ytoeklekjhaigoaa.HMean
set_option linter.unusedSimpArgs false
def doorwardlaw18_alive.f (k : Nat)  : Option (Bool) := (mean_Eval.f k 5 7 ([] : List (S58)) 0 5 0 0 0 0 0 0 0).bind fun t157 => (if t157 = 7 then ((mean_Holds.f 0 ([] : List (S46)) 0 0 (⟨#[]⟩ : ByteArray) 0 0 0 0 0 0 0 0 0 0).bind fun t158 => (some t158)) else (some false))
set_option maxHeartbeats 8000000 in
set_option maxRecDepth 100000 in
theorem doorwardlaw18_alive.calls (k : Nat)  (r : Bool) (w : World) (h : doorwardlaw18_alive.f k  = some r) :
    Calls Try.prog 44 #[] w fun e w' => e = .returned (.bool r) ∧ Below w.heap.size w w' := by
  have hu56 := Try.underlying56
  have hu49 := Try.underlying49
  have hu46 := Try.underlying46
  have HB := amk (Below.refl w.heap.size w)
  have H : ((mean_Eval.f k 5 7 ([] : List (S58)) 0 5 0 0 0 0 0 0 0).bind fun t157 => (if t157 = 7 then ((mean_Holds.f 0 ([] : List (S46)) 0 0 (⟨#[]⟩ : ByteArray) 0 0 0 0 0 0 0 0 0 0).bind fun t158 => (some t158)) else (some false))) = some r := h
  clear h
  replace H := Option.bind_eq_some_iff.mp H
  obtain ⟨t157, A10, H⟩ := H
  replace H : (if t157 = 7 then ((mean_Holds.f 0 ([] : List (S46)) 0 0 (⟨#[]⟩ : ByteArray) 0 0 0 0 0 0 0 0 0 0).bind fun t158 => (some t158)) else (some false)) = some r := H
  have A1 := amk A10
  clear A10
  by_cases c2 : t157 = 7
  · rw [if_pos c2] at H
    have c2b0 : (t157 == 7) = true := beq_iff_eq.mpr c2
    have c2b1 : (t157 != 7) = false := bne_eq_false_iff_eq.mpr c2
    clear c2
    replace H := Option.bind_eq_some_iff.mp H
    obtain ⟨t158, A30, H⟩ := H
    replace H : (some t158) = some r := H
    have A3 := amk A30
    clear A30
    obtain rfl := Option.some.inj H
    go_enter Try.func44, Try.ntmps44
    go_wp2_with (first | ((with_reducible refine gate_callee (f := 50) rfl ?_); refine goesL_ (some 3) rfl rfl Try.func50 (by kernel_rfl) rfl #[.agg #[.int .u32 5, .int .u32 7, .slice none 0 0], .agg #[.int .u32 0, .int .u32 5, .int .u64 0, .int .u64 0, .int .u64 0, .int .u64 0, .int .u64 0, .int .u64 0, .int .u64 0]] rfl (by (try simp only [List.map_toArray, List.map_cons, List.map_nil]); first | done | rfl | (simp only [List.length_drop, List.length_take]; rfl)) ?_; (refine (mean_Eval.calls k 5 7 _ _ ([] : List (S58)) 0 5 0 0 0 0 0 0 0 t157 _ ?side1 ?side2 A1.out).mono ?_); (case side1 => exact Kd.C_nil _ _); (case side2 => exact Nat.le_refl _); rintro e w4 ⟨rfl, hb⟩; refine ⟨_, rfl, ?_⟩; have n0_ := amk (below_step (by repeat (first | (with_reducible first | exact HB.out | apply bal | apply pbd | apply below_drew1) | exact HB.out)) hb); clear HB; have HB := n0_; clear n0_; (try clear hb); (try clear hb2); (try clear hk); (try clear hi)) | (go_at_call 45; (refine (mean_Holds.calls 0 _ _ ([] : List (S46)) 0 0 (⟨#[]⟩ : ByteArray) 0 0 0 0 0 0 0 0 0 0 t158 _ ?side1 ?side2 A3.out).mono ?_); (case side1 => exact Kd.C_nil _ _); (case side2 => exact Nat.le_refl _); rintro e w5 ⟨rfl, hb⟩; have n0_ := amk (below_step (by repeat (first | (with_reducible first | exact HB.out | apply bal | apply pbd | apply below_drew1) | exact HB.out)) hb); clear HB; have HB := n0_; clear n0_; (try clear hb); (try clear hb2); (try clear hk); (try clear hi)))
    go_ret
    exact ⟨by first | rfl | (simp [errW_none, errW_some] <;> rfl) | (simp [*, errW_none, errW_some] <;> rfl), by repeat (first | (with_reducible first | exact HB.out | apply bal | apply pbd | apply below_drew1) | exact HB.out)⟩
  · rw [if_neg c2] at H
    have c2b0 : (t157 == 7) = false := beq_eq_false_iff_ne.mpr c2
    have c2b1 : (t157 != 7) = true := bne_iff_ne.mpr c2
    obtain rfl := Option.some.inj H
    go_enter Try.func44, Try.ntmps44
    go_wp2_with (first | ((with_reducible refine gate_callee (f := 50) rfl ?_); refine goesL_ (some 3) rfl rfl Try.func50 (by kernel_rfl) rfl #[.agg #[.int .u32 5, .int .u32 7, .slice none 0 0], .agg #[.int .u32 0, .int .u32 5, .int .u64 0, .int .u64 0, .int .u64 0, .int .u64 0, .int .u64 0, .int .u64 0, .int .u64 0]] rfl (by (try simp only [List.map_toArray, List.map_cons, List.map_nil]); first | done | rfl | (simp only [List.length_drop, List.length_take]; rfl)) ?_; (refine (mean_Eval.calls k 5 7 _ _ ([] : List (S58)) 0 5 0 0 0 0 0 0 0 t157 _ ?side1 ?side2 A1.out).mono ?_); (case side1 => exact Kd.C_nil _ _); (case side2 => exact Nat.le_refl _); rintro e w6 ⟨rfl, hb⟩; refine ⟨_, rfl, ?_⟩; have n0_ := amk (below_step (by repeat (first | (with_reducible first | exact HB.out | apply bal | apply pbd | apply below_drew1) | exact HB.out)) hb); clear HB; have HB := n0_; clear n0_; (try clear hb); (try clear hb2); (try clear hk); (try clear hi)))
    go_ret
    exact ⟨by first | rfl | (simp [errW_none, errW_some] <;> rfl) | (simp [*, errW_none, errW_some] <;> rfl), by repeat (first | (with_reducible first | exact HB.out | apply bal | apply pbd | apply below_drew1) | exact HB.out)⟩
end Go.Proofs.Ytoeklekjhaigoaa.M2
end
section
namespace Go.Proofs.Ytoeklekjhaigoaa.QHolds
open Go.Proofs.Ytoeklekjhaigoaa.Al Go.RowKit Go.Proofs.YtoeklekjhaigoaaW.PrintWords Go.Proofs.YtoeklekjhaigoaaW.PrintLast Go.Proofs.YtoeklekjhaigoaaW.PrintMore Go.Proofs.Ytoeklekjhaigoaa.M0 Go.Proofs.Ytoeklekjhaigoaa.M1 Go.Proofs.Ytoeklekjhaigoaa.M2 Go.Proofs.Ytoeklekjhaigoaa.HMany Go.Proofs.Ytoeklekjhaigoaa.HCount Go.Proofs.Ytoeklekjhaigoaa.HMean Go.Proofs.Ytoeklekjhaigoaa.QCond Go.Proofs.Ytoeklekjhaigoaa.QMean Go.Proofs.Ytoeklekjhaigoaa.QOne Go.Proofs.Ytoeklekjhaigoaa.K49
set_option linter.unusedVariables false
set_option linter.unusedSimpArgs false
theorem eta46 (c : S46) : (⟨c.f0, c.f1, c.f2, c.f3, c.f4, c.f5⟩ : S46) = c := by cases c; rfl
theorem many_f (c : S46) (L : Int) (h1 : 1 ≤ L) (h2 : L ≤ 1000) : doorwardref15_Many.f c.f0 c.f1 c.f2 c.f3 c.f4 c.f5 L = some ((min (nodes c) (L.toNat + 1) : Nat) : Int) := by
  unfold doorwardref15_Many.f
  rw [if_pos ⟨h1, h2⟩, eta46]
theorem right_f (c : S46) (k : Nat) (hk : 400 ≤ k) : doorwardref16_Right.f k c.f0 c.f1 c.f2 c.f3 c.f4 c.f5 = some (rightB c) := by
  unfold doorwardref16_Right.f
  rw [many_f c 100 (by omega) (by omega), Option.bind_some]
  unfold rightB
  by_cases h : nodes c ≤ 100
  · rw [if_pos (by simp only [Int.reduceToNat]; omega), fits_f 100 (by omega) c h k (by omega), Option.bind_some, decide_eq_true h, Bool.and_true]
  · rw [if_neg (by simp only [Int.reduceToNat]; omega), decide_eq_false h, Bool.and_false]
theorem typesRight_f (c : S46) : types_Right.f c.f0 c.f1 c.f2 c.f3 c.f4 c.f5 = some (rightB c) := by
  unfold types_Right.f types_count.f
  rw [Option.bind_some, eta46]
  show some (countR c).2 = _
  unfold countR
  cases rightB c <;> rfl
theorem meanHolds_f (c : S46) (x : S49) : mean_Holds.f c.f0 c.f1 c.f2 c.f3 c.f4 c.f5 x.f0 x.f1 x.f2 x.f3.f0 x.f3.f1 x.f3.f2 x.f3.f3 x.f3.f4 x.f3.f5 = some (holdsB x c) := by
  unfold mean_Holds.f
  rw [none_f0, Option.bind_some, typesRight_f, Option.bind_some]
  unfold holdsB
  cases noneB c with
  | true => rfl
  | false =>
    rw [if_neg (by decide), Bool.false_or]
    by_cases h : rightB c = true
    · have ⟨hf, hn⟩ := right_fits h
      rw [if_pos h, h, Bool.true_and]
      unfold mean_holds.f
      rw [eta46]
      show ((if (fitsB c && decide (nodes c ≤ 1000)) = true then some (semB x c) else none).bind _) = _
      rw [if_pos (show (fitsB c && decide (nodes c ≤ 1000)) = true by rw [hf, decide_eq_true (by omega)]; rfl)]
      rfl
    · rw [if_neg h]
      have h : rightB c = false := by simpa using h
      rw [h]; rfl
theorem count_none {α : Type} (p : α → Bool) (l : List α) : (((l.countP p : Nat) : Int) == 0) = !l.any p := by
  rw [Bool.eq_iff_iff, beq_iff_eq, Bool.not_eq_true', List.any_eq_false]
  have := List.countP_eq_zero (p := p) (l := l)
  constructor
  · intro h a ha
    simpa using this.1 (by omega) a ha
  · intro h
    have := this.2 (fun a ha => by simpa using h a ha)
    omega
theorem count_some {α : Type} (p : α → Bool) (l : List α) : decide (((l.countP p : Nat) : Int) > 0) = l.any p := by
  have h := count_none p l
  cases ha : l.any p with
  | true => rw [ha] at h; rw [decide_eq_true_eq]; have : ¬ ((l.countP p : Nat) : Int) = 0 := by simpa using h
            omega
  | false => rw [ha] at h; rw [decide_eq_false_iff_not]; have : ((l.countP p : Nat) : Int) = 0 := by simpa using h
             omega
def hitB (x : S49) (r : S58) : Bool := r.f0.contains x.f0 && holdsB x r.f1
def evalR (x : S49) (d : Int) : List S58 → Int
  | [] => d
  | r :: l => if hitB x r = true then r.f2 else evalR x d l
def evalB (x : S49) (arch d : Int) (l : List S58) : Int := if x.f1 = arch then evalR x d l else 2147483648
def fewR (r : S58) : Bool := decide (r.f0.length ≤ 60) && decide (nodes r.f1 ≤ 100)
theorem rd58 (l : List S58) (i : Nat) (h : i < l.length) : rd_T58 l (i : Int) = l[i] := by
  unfold rd_T58; simp [List.getD, h]
theorem idx_loop32 (v : Int) (l : List Int) (hl : l.length ≤ 1000) : ∀ (n i : Nat), l.length - i ≤ n → i ≤ l.length → ∀ k, n < k → (slices_Index_uint32_uint32.l0 k l v (l.length : Int) (i : Int)).map (fun t => decide (t ≥ 0)) = some ((l.drop i).contains v) := by
  intro n
  induction n with
  | zero =>
    intro i h1 h2 k hk
    obtain ⟨k, rfl⟩ : ∃ m, k = m + 1 := ⟨k - 1, by omega⟩
    simp only [slices_Index_uint32_uint32.l0]
    rw [if_neg (by omega), List.drop_eq_nil_of_le (by omega)]; rfl
  | succ n ih =>
    intro i h1 h2 k hk
    obtain ⟨k, rfl⟩ : ∃ m, k = m + 1 := ⟨k - 1, by omega⟩
    by_cases hlt : i < l.length
    · have ih' := ih (i + 1) (by omega) (by omega) k (by omega)
      simp only [slices_Index_uint32_uint32.l0]
      rw [if_pos (by omega), if_pos (by omega), if_pos (by omega), wr_succ i (by omega), List.drop_eq_getElem_cons hlt, List.contains_cons]
      have e : rd l (i : Int) = l[i] := by unfold rd; simp [List.getD, hlt]
      rw [e]
      by_cases q : v = l[i]
      · rw [if_pos q, ← q]; simp
      · rw [if_neg q, ih']
        have : (v == l[i]) = false := by simpa using q
        rw [this, Bool.false_or]
    · simp only [slices_Index_uint32_uint32.l0]
      rw [if_neg (by omega), List.drop_eq_nil_of_le (by omega)]; rfl
theorem contains_f (v : Int) (l : List Int) (hl : l.length ≤ 1000) (k : Nat) (hk : l.length < k) : slices_Contains_uint32_uint32.f k l v = some (l.contains v) := by
  unfold slices_Contains_uint32_uint32.f slices_Index_uint32_uint32.f
  have h := idx_loop32 v l hl l.length 0 (by omega) (by omega) k hk
  have hb : ∀ o : Option Int, (o.bind fun t => some (decide (t ≥ 0))) = o.map fun t => decide (t ≥ 0) := by intro o; cases o <;> rfl
  rw [hb]
  exact h
theorem eval_loop (x : S49) (a d : Int) (R l : List S58) (hl : l.length ≤ 40) (hr : l.all fewR = true) : ∀ (n i : Nat), l.length - i ≤ n → i ≤ l.length → ∀ k, n + 100 ≤ k → mean_Eval.l0 k l (l.length : Int) (i : Int) a d R x.f0 x.f1 x.f2 x.f3.f0 x.f3.f1 x.f3.f2 x.f3.f3 x.f3.f4 x.f3.f5 = some (evalR x d (l.drop i)) := by
  intro n
  induction n with
  | zero =>
    intro i h1 h2 k hk
    obtain ⟨k, rfl⟩ : ∃ m, k = m + 1 := ⟨k - 1, by omega⟩
    simp only [mean_Eval.l0]
    rw [if_neg (by omega), List.drop_eq_nil_of_le (by omega)]; rfl
  | succ n ih =>
    intro i h1 h2 k hk
    obtain ⟨k, rfl⟩ : ∃ m, k = m + 1 := ⟨k - 1, by omega⟩
    by_cases hlt : i < l.length
    · have ih' := ih (i + 1) (by omega) (by omega) k (by omega)
      have hf := List.all_eq_true.1 hr l[i] (List.getElem_mem hlt)
      unfold fewR at hf
      rw [Bool.and_eq_true, decide_eq_true_eq, decide_eq_true_eq] at hf
      simp only [mean_Eval.l0]
      rw [if_pos (by omega), if_pos (by omega), if_pos (by omega), rd58 l i hlt, wr_succ i (by omega), contains_f _ _ (by omega) k (by omega), Option.bind_some, meanHolds_f, Option.bind_some, ih', List.drop_eq_getElem_cons hlt]
      rw [evalR]
      unfold hitB
      cases l[i].f0.contains x.f0 with
      | true =>
        rw [if_pos rfl, Bool.true_and]
        cases holdsB x l[i].f1 <;> rfl
      | false => rfl
    · simp only [mean_Eval.l0]
      rw [if_neg (by omega), List.drop_eq_nil_of_le (by omega)]; rfl
theorem eval_f (x : S49) (a d : Int) (l : List S58) (hl : l.length ≤ 40) (hr : l.all fewR = true) (k : Nat) (hk : 200 ≤ k) : mean_Eval.f k a d l x.f0 x.f1 x.f2 x.f3.f0 x.f3.f1 x.f3.f2 x.f3.f3 x.f3.f4 x.f3.f5 = some (evalB x a d l) := by
  unfold mean_Eval.f evalB
  split
  · have := eval_loop x a d l l hl hr l.length 0 (by omega) (by omega) k (by omega)
    rw [List.drop_zero] at this
    exact this
  · rfl
theorem alive_f (k : Nat) (hk : 200 ≤ k) : doorwardlaw18_alive.f k = some true := by
  unfold doorwardlaw18_alive.f
  have h1 := eval_f ⟨0, 5, 0, ⟨0, 0, 0, 0, 0, 0⟩⟩ 5 7 [] (by simp) rfl k hk
  have h2 := meanHolds_f ⟨0, [], 0, 0, ⟨#[]⟩, 0⟩ ⟨0, 0, 0, ⟨0, 0, 0, 0, 0, 0⟩⟩
  have e1 : evalB ⟨0, 5, 0, ⟨0, 0, 0, 0, 0, 0⟩⟩ 5 7 [] = 7 := rfl
  have e2 : holdsB ⟨0, 0, 0, ⟨0, 0, 0, 0, 0, 0⟩⟩ ⟨0, [], 0, 0, ⟨#[]⟩, 0⟩ = true := by
    unfold holdsB noneB bareB
    simp [ByteArray.toList_empty]
  rw [e1] at h1
  rw [e2] at h2
  refine (congrArg (fun o : Option Int => o.bind _) h1).trans ?_
  rw [Option.bind_some, if_pos rfl]
  refine (congrArg (fun o : Option Bool => o.bind _) h2).trans ?_
  rfl
end Go.Proofs.Ytoeklekjhaigoaa.QHolds
end
section
namespace Go.Proofs.Ytoeklekjhaigoaa.HKit
open Go.Proofs.Ytoeklekjhaigoaa.Al Go.RowKit Go.Proofs.YtoeklekjhaigoaaW.PrintWords Go.Proofs.YtoeklekjhaigoaaW.PrintLast Go.Proofs.YtoeklekjhaigoaaW.PrintMore Go.Proofs.Ytoeklekjhaigoaa.M0 Go.Proofs.Ytoeklekjhaigoaa.M1 Go.Proofs.Ytoeklekjhaigoaa.M2 Go.Proofs.Ytoeklekjhaigoaa.QCond Go.Proofs.Ytoeklekjhaigoaa.QMean Go.Proofs.Ytoeklekjhaigoaa.QOne Go.Proofs.Ytoeklekjhaigoaa.HMany Go.Proofs.Ytoeklekjhaigoaa.HCount Go.Proofs.Ytoeklekjhaigoaa.HMean Go.Proofs.Ytoeklekjhaigoaa.QHolds Go.Proofs.Ytoeklekjhaigoaa.K49
set_option linter.unusedVariables false
set_option linter.unusedSimpArgs false
set_option maxRecDepth 100000
attribute [local go_sem] max2_int min2_int max_two min_two
structure Bx (W : World) (b : Nat) (c : S46) (A : Option Addr) (n : Nat) : Prop where
  H : W.heap[b]? = some (.cells #[.int .i64 c.f0, .slice A c.f1.length n, .int .i64 c.f2, .int .u64 c.f3, .string c.f4, .int .u64 c.f5] 46 (0, 0))
  C : Kd.C k46 W A c.f1.length c.f1
  L : c.f1.length ≤ n
def Xx (W : World) (b : Nat) (x : S49) : Prop := W.heap[b]? = some (.cells #[.int .u32 x.f0, .int .u32 x.f1, .int .u64 x.f2, .int .u64 x.f3.f0, .int .u64 x.f3.f1, .int .u64 x.f3.f2, .int .u64 x.f3.f3, .int .u64 x.f3.f4, .int .u64 x.f3.f5] 49 (0, 0))
section
variable {w W W1 : World} {b b2 xb n n2 : Nat} {c d : S46} {A A2 : Option Addr} {x : S49}
theorem Bx.below (h : Bx W b c A n) (hb : Below W.heap.size W W1) : Bx W1 b c A n := ⟨(hb.block _ (blk_lt h.H)).trans h.H, Kd.C_below h.C hb, h.L⟩
theorem Bx.drew (h : Bx W b c A n) : Bx W.drew b c A n := h.below (below_drew (Below.refl _ _))
theorem Xx.below (h : Xx W b x) (hb : Below W.heap.size W W1) : Xx W1 b x := (hb.block _ (blk_lt h)).trans h
theorem Xx.drew (h : Xx W b x) : Xx W.drew b x := h
theorem Bx.new (w : World) (hC : Kd.C k46 w A c.f1.length c.f1) (hn : c.f1.length ≤ n) : Bx (w.alloc (.cells #[.int .i64 c.f0, .slice A c.f1.length n, .int .i64 c.f2, .int .u64 c.f3, .string c.f4, .int .u64 c.f5] 46)) w.heap.size c A n :=
  ⟨heap_alloc_new _ _, Kd.C_below hC (bal (Below.refl _ _) _), hn⟩
theorem Xx.new (w : World) (x : S49) : Xx (w.alloc (.cells #[.int .u32 x.f0, .int .u32 x.f1, .int .u64 x.f2, .int .u64 x.f3.f0, .int .u64 x.f3.f1, .int .u64 x.f3.f2, .int .u64 x.f3.f3, .int .u64 x.f3.f4, .int .u64 x.f3.f5] 49)) w.heap.size x := heap_alloc_new _ _
theorem Bx.alloc (h : Bx W b c A n) (o : Obj) : Bx (W.alloc o) b c A n := h.below (bal (Below.refl _ _) o)
theorem Xx.alloc (h : Xx W b x) (o : Obj) : Xx (W.alloc o) b x := h.below (bal (Below.refl _ _) o)
theorem Bx.six (h : Bx W b c A n) : W.cell? ⟨b, 0, none⟩ = some (.int .i64 c.f0) ∧ W.cell? ⟨b, 1, none⟩ = some (.slice A c.f1.length n) ∧ W.cell? ⟨b, 2, none⟩ = some (.int .i64 c.f2) ∧ W.cell? ⟨b, 3, none⟩ = some (.int .u64 c.f3) ∧ W.cell? ⟨b, 4, none⟩ = some (.string c.f4) ∧ W.cell? ⟨b, 5, none⟩ = some (.int .u64 c.f5) :=
  ⟨blk_cell h.H 0, blk_cell h.H 1, blk_cell h.H 2, blk_cell h.H 3, blk_cell h.H 4, blk_cell h.H 5⟩
theorem Xx.nine (h : Xx W b x) : W.cell? ⟨b, 0, none⟩ = some (.int .u32 x.f0) ∧ W.cell? ⟨b, 1, none⟩ = some (.int .u32 x.f1) ∧ W.cell? ⟨b, 2, none⟩ = some (.int .u64 x.f2) ∧ W.cell? ⟨b, 3, none⟩ = some (.int .u64 x.f3.f0) ∧ W.cell? ⟨b, 4, none⟩ = some (.int .u64 x.f3.f1) ∧ W.cell? ⟨b, 5, none⟩ = some (.int .u64 x.f3.f2) ∧ W.cell? ⟨b, 6, none⟩ = some (.int .u64 x.f3.f3) ∧ W.cell? ⟨b, 7, none⟩ = some (.int .u64 x.f3.f4) ∧ W.cell? ⟨b, 8, none⟩ = some (.int .u64 x.f3.f5) :=
  ⟨blk_cell h 0, blk_cell h 1, blk_cell h 2, blk_cell h 3, blk_cell h 4, blk_cell h 5, blk_cell h 6, blk_cell h 7, blk_cell h 8⟩
theorem many_w (hC : Kd.C k46 W A c.f1.length c.f1) (hn : c.f1.length ≤ n) (L : Int) (h1 : 1 ≤ L) (h2 : L ≤ 1000) :
    Calls Try.prog 43 #[.agg #[.int .i64 c.f0, .slice A c.f1.length n, .int .i64 c.f2, .int .u64 c.f3, .string c.f4, .int .u64 c.f5], .int .i64 L] W fun e w' => e = .returned (.int .i64 ((min (nodes c) (L.toNat + 1) : Nat) : Int)) ∧ Below W.heap.size W w' :=
  doorwardref15_Many.calls c.f0 A n c.f1 c.f2 c.f3 c.f4 c.f5 L _ W hC hn (many_f c L h1 h2)
theorem right_w (hC : Kd.C k46 W A c.f1.length c.f1) (hn : c.f1.length ≤ n) : Calls Try.prog 47 #[.agg #[.int .i64 c.f0, .slice A c.f1.length n, .int .i64 c.f2, .int .u64 c.f3, .string c.f4, .int .u64 c.f5]] W fun e w' => e = .returned (.bool (rightB c)) ∧ Below W.heap.size W w' :=
  doorwardref16_Right.calls 400 c.f0 A n c.f1 c.f2 c.f3 c.f4 c.f5 _ W hC hn (right_f c 400 (by omega))
theorem holds_w (x : S49) (hC : Kd.C k46 W A c.f1.length c.f1) (hn : c.f1.length ≤ n) : Calls Try.prog 45 #[.agg #[.int .i64 c.f0, .slice A c.f1.length n, .int .i64 c.f2, .int .u64 c.f3, .string c.f4, .int .u64 c.f5], .agg #[.int .u32 x.f0, .int .u32 x.f1, .int .u64 x.f2, .int .u64 x.f3.f0, .int .u64 x.f3.f1, .int .u64 x.f3.f2, .int .u64 x.f3.f3, .int .u64 x.f3.f4, .int .u64 x.f3.f5]] W fun e w' => e = .returned (.bool (holdsB x c)) ∧ Below W.heap.size W w' :=
  mean_Holds.calls c.f0 A n c.f1 c.f2 c.f3 c.f4 c.f5 x.f0 x.f1 x.f2 x.f3.f0 x.f3.f1 x.f3.f2 x.f3.f3 x.f3.f4 x.f3.f5 _ W hC hn (meanHolds_f c x)
theorem alive_w (W : World) : Calls Try.prog 44 #[] W fun e w' => e = .returned (.bool true) ∧ Below W.heap.size W w' :=
  doorwardlaw18_alive.calls 200 true W (alive_f 200 (by omega))
end
end Go.Proofs.Ytoeklekjhaigoaa.HKit
end
section
namespace Go.Proofs.Ytoeklekjhaigoaa.HNot
open Go.Proofs.Ytoeklekjhaigoaa.Al Go.RowKit Go.Proofs.YtoeklekjhaigoaaW.PrintWords Go.Proofs.YtoeklekjhaigoaaW.PrintLast Go.Proofs.YtoeklekjhaigoaaW.PrintMore Go.Proofs.Ytoeklekjhaigoaa.M0 Go.Proofs.Ytoeklekjhaigoaa.M1 Go.Proofs.Ytoeklekjhaigoaa.M2 Go.Proofs.Ytoeklekjhaigoaa.QCond Go.Proofs.Ytoeklekjhaigoaa.QMean Go.Proofs.Ytoeklekjhaigoaa.QOne Go.Proofs.Ytoeklekjhaigoaa.HMany Go.Proofs.Ytoeklekjhaigoaa.HCount Go.Proofs.Ytoeklekjhaigoaa.HMean Go.Proofs.Ytoeklekjhaigoaa.QHolds Go.Proofs.Ytoeklekjhaigoaa.HKit Go.Proofs.Ytoeklekjhaigoaa.K49
set_option linter.unusedVariables false
set_option linter.unusedSimpArgs false
set_option maxRecDepth 100000
attribute [local go_sem] max2_int min2_int max_two min_two
set_option maxHeartbeats 2000000 in
theorem not_f {W : World} {c : S46} {A : Option Addr} {n : Nat} {ok : Nat → Prop} (hK : Kd.FK k46 W ok c (cells46 c A n)) :
    Calls Try.prog 48 #[.agg #[.int .i64 c.f0, .slice A c.f1.length n, .int .i64 c.f2, .int .u64 c.f3, .string c.f4, .int .u64 c.f5]] W fun e w' => ∃ A1 n1, e = .returned (.agg #[.int .i64 3, .slice A1 1 n1, .int .i64 0, .int .u64 0, .string ⟨#[]⟩, .int .u64 0]) ∧ Kd.F k46 w' (fun k => ok k ∨ W.heap.size ≤ k) A1 1 [c] ∧ 1 ≤ n1 ∧ Below W.heap.size W w' := by
  have hu46 := Try.underlying46
  have hC2 := Kd.FK_bound hK
  have hb := bal (bal (Below.refl W.heap.size W) (.cells #[.int .i64 c.f0, .slice A c.f1.length n, .int .i64 c.f2, .int .u64 c.f3, .string c.f4, .int .u64 c.f5] 46)) (.cells #[.int .i64 0, .slice none 0 0, .int .i64 0, .int .u64 0, .string ⟨#[]⟩, .int .u64 0] 46)
  have HC := amk (Kd.FK_below hC2 hb)
  have s1 : (W.alloc (.cells #[.int .i64 c.f0, .slice A c.f1.length n, .int .i64 c.f2, .int .u64 c.f3, .string c.f4, .int .u64 c.f5] 46)).heap.size = W.heap.size + 1 := by simp
  have hd1 := heap_alloc_new (W.alloc (.cells #[.int .i64 c.f0, .slice A c.f1.length n, .int .i64 c.f2, .int .u64 c.f3, .string c.f4, .int .u64 c.f5] 46)) (.cells #[.int .i64 0, .slice none 0 0, .int .i64 0, .int .u64 0, .string ⟨#[]⟩, .int .u64 0] 46)
  rw [s1] at hd1
  have hc1 := (Below.heap_alloc (W.alloc (.cells #[.int .i64 c.f0, .slice A c.f1.length n, .int .i64 c.f2, .int .u64 c.f3, .string c.f4, .int .u64 c.f5] 46)) (.cells #[.int .i64 0, .slice none 0 0, .int .i64 0, .int .u64 0, .string ⟨#[]⟩, .int .u64 0] 46) W.heap.size (by rw [s1]; omega)).trans (heap_alloc_new W (.cells #[.int .i64 c.f0, .slice A c.f1.length n, .int .i64 c.f2, .int .u64 c.f3, .string c.f4, .int .u64 c.f5] 46))
  clear hK hC2 s1
  go_enter Try.func48, Try.ntmps48
  go_upto_region 1 with (fail)
  generalize (W.alloc (.cells #[.int .i64 c.f0, .slice A c.f1.length n, .int .i64 c.f2, .int .u64 c.f3, .string c.f4, .int .u64 c.f5] 46)).alloc (.cells #[.int .i64 0, .slice none 0 0, .int .i64 0, .int .u64 0, .string ⟨#[]⟩, .int .u64 0] 46) = W2 at *
  have k0 := blk_cell hc1 0
  have k1 := blk_cell hc1 1
  have k2 := blk_cell hc1 2
  have k3 := blk_cell hc1 3
  have k4 := blk_cell hc1 4
  have k5 := blk_cell hc1 5
  have HB := amk hb
  have HD := amk hd1
  clear hb hc1 hd1
  go_wp2_with ((with_reducible refine gate_dst (N := 4) rfl ?_); refine Kd.N_lit k46 W.heap.size 46 ?hg (N' := 4) ?hd (xs := [c]) (inner := cells46 c A n) (ok := fun k => (ok k ∨ W.heap.size ≤ k) ∧ k ≠ W.heap.size + 1) (okp := fun k => ok k ∧ k < W.heap.size) ?hr ?hp (fun k hk => ⟨Or.inl hk.1, by have := hk.2; omega⟩) ⟨Or.inr HB.out.size, by have := blk_lt HD.out; omega⟩ HB.out HB.out.size (by simp) ?_; (case hd => rfl); (case hg => rfl); (case hr => first | (go_simp; done) | (go_simp; rfl)); (case hp => exact reps_one46 HC.out); intro v1 w1 hN hb1 hg1 hat; obtain ⟨A3, n3, rfl⟩ := Kd.N_slice hN; have HR := amk (Kd.N_reads' hN).2.1; have HF := amk (Kd.N_F hN); have hd2 := (hg1.block (W.heap.size + 1) (blk_lt HD.out) (by simp)).trans HD.out; have e0 := blk_cell hd2 0; have e1 := blk_cell hd2 1; have e2 := blk_cell hd2 2; have e3 := blk_cell hd2 3; have e4 := blk_cell hd2 4; have e5 := blk_cell hd2 5; have f0 := blk_frozen hd2 0; have f1 := blk_frozen hd2 1; have f2 := blk_frozen hd2 2; have f3 := blk_frozen hd2 3; have f4 := blk_frozen hd2 4; have f5 := blk_frozen hd2 5; have HB1 := amk hb1; have HD2 := amk hd2; clear hN hb1 hg1 hat)
  have p0 := blk_put HD2.out 0 (.int .i64 3) rfl
  have p1 := blk_put p0 1 (.slice A3 1 n3) rfl
  have p2 := blk_put p1 2 (.int .i64 0) rfl
  have p3 := blk_put p2 3 (.int .u64 0) rfl
  have p4 := blk_put p3 4 (.string ⟨#[]⟩) rfl
  have p5 := blk_put p4 5 (.int .u64 0) rfl
  refine bodyPost_ret (v := .agg #[.int .i64 3, .slice A3 1 n3, .int .i64 0, .int .u64 0, .string ⟨#[]⟩, .int .u64 0]) (results_cell_row (p := 2) (by kernel_rfl) _ _ (W.heap.size + 1) 46 #[.int .i64 3, .slice A3 1 n3, .int .i64 0, .int .u64 0, .string ⟨#[]⟩, .int .u64 0] (0, 0) _ rfl p5 Try.underlying46 rfl (by kernel_rfl)) rfl ?_
  have hk : ∀ k, ((ok k ∨ W.heap.size ≤ k) ∧ k ≠ W.heap.size + 1) → k ≠ W.heap.size + 1 := fun _ h => h.2
  refine ⟨A3, n3, rfl, Kd.F_mono (Kd.F_far (p := ⟨W.heap.size + 1, 5, none⟩) (Kd.F_far (p := ⟨W.heap.size + 1, 4, none⟩) (Kd.F_far (p := ⟨W.heap.size + 1, 3, none⟩) (Kd.F_far (p := ⟨W.heap.size + 1, 2, none⟩) (Kd.F_far (p := ⟨W.heap.size + 1, 1, none⟩) (Kd.F_far (p := ⟨W.heap.size + 1, 0, none⟩) HF.out hk _) hk _) hk _) hk _) hk _) hk _) (fun _ h => h.1), HR.out, ?_⟩
  have hg : W.heap.size ≤ W.heap.size + 1 := by omega
  exact (((((HB1.out.setCell (p := ⟨W.heap.size + 1, 0, none⟩) hg _).setCell (p := ⟨W.heap.size + 1, 1, none⟩) hg _).setCell (p := ⟨W.heap.size + 1, 2, none⟩) hg _).setCell (p := ⟨W.heap.size + 1, 3, none⟩) hg _).setCell (p := ⟨W.heap.size + 1, 4, none⟩) hg _).setCell (p := ⟨W.heap.size + 1, 5, none⟩) hg _
theorem not_w {W : World} {c : S46} {A : Option Addr} {n : Nat} (hC : Kd.C k46 W A c.f1.length c.f1) (hn : c.f1.length ≤ n) :
    Calls Try.prog 48 #[.agg #[.int .i64 c.f0, .slice A c.f1.length n, .int .i64 c.f2, .int .u64 c.f3, .string c.f4, .int .u64 c.f5]] W fun e w' => ∃ A1 n1, e = .returned (.agg #[.int .i64 3, .slice A1 1 n1, .int .i64 0, .int .u64 0, .string ⟨#[]⟩, .int .u64 0]) ∧ Kd.C k46 w' A1 1 [c] ∧ 1 ≤ n1 ∧ Below W.heap.size W w' := by
  refine (not_f (elder46 hC hn)).mono ?_
  rintro e w1 ⟨A1, n1, he, hF, hn1, hb⟩
  exact ⟨A1, n1, he, Kd.F_now hF, hn1, hb⟩
theorem not2_w {W : World} {c : S46} {A : Option Addr} {n : Nat} (hC : Kd.C k46 W A 1 [c]) (hn : 1 ≤ n) :
    Calls Try.prog 48 #[.agg #[.int .i64 3, .slice A 1 n, .int .i64 0, .int .u64 0, .string ⟨#[]⟩, .int .u64 0]] W fun e w' => ∃ A1 n1, e = .returned (.agg #[.int .i64 3, .slice A1 1 n1, .int .i64 0, .int .u64 0, .string ⟨#[]⟩, .int .u64 0]) ∧ Kd.C k46 w' A1 1 [notC c] ∧ 1 ≤ n1 ∧ Below W.heap.size W w' :=
  not_w (c := notC c) hC hn
theorem hold1_w {W : World} {c : S46} {A : Option Addr} {n : Nat} (x : S49) (hC : Kd.C k46 W A 1 [c]) (hn : 1 ≤ n) :
    Calls Try.prog 45 #[.agg #[.int .i64 3, .slice A 1 n, .int .i64 0, .int .u64 0, .string ⟨#[]⟩, .int .u64 0], .agg #[.int .u32 x.f0, .int .u32 x.f1, .int .u64 x.f2, .int .u64 x.f3.f0, .int .u64 x.f3.f1, .int .u64 x.f3.f2, .int .u64 x.f3.f3, .int .u64 x.f3.f4, .int .u64 x.f3.f5]] W fun e w' => e = .returned (.bool (holdsB x (notC c))) ∧ Below W.heap.size W w' :=
  holds_w (c := notC c) x hC hn
theorem holds_not1 {x : S49} {c : S46} (h : fitsB c = true) (hn : nodes c ≤ 40) : holdsB x (notC c) = !semB x c := by
  rw [holds_right (right_not h (by omega)), sem_not]
theorem holds_not2 {x : S49} {c : S46} (h : fitsB c = true) (hn : nodes c ≤ 40) : holdsB x (notC (notC c)) = semB x c := by
  rw [holds_right (right_not (fits_not h) (by rw [nodes_not]; omega)), sem_not, sem_not, Bool.not_not]
theorem holds_morgan {x : S49} {c : S46} (h : fitsB c = true) (hk : c.f0 = 1 ∨ c.f0 = 2) (hn : nodes c ≤ 40) : holdsB x (manyC (3 - c.f0) (c.f1.map notC)) = !semB x c := by
  rw [holds_right (right_morgan h hk hn), sem_morgan x c h hk]
theorem s15 {W' : World} {c : S46} {A : Option Addr} {n b xb : Nat} {x : S49} (h : Bx W' b c A n) (k : Xx W' xb x) : W'.cell? ⟨b, 0, none⟩ = some (.int .i64 c.f0) ∧ W'.cell? ⟨b, 1, none⟩ = some (.slice A c.f1.length n) ∧ W'.cell? ⟨b, 2, none⟩ = some (.int .i64 c.f2) ∧ W'.cell? ⟨b, 3, none⟩ = some (.int .u64 c.f3) ∧ W'.cell? ⟨b, 4, none⟩ = some (.string c.f4) ∧ W'.cell? ⟨b, 5, none⟩ = some (.int .u64 c.f5) ∧ W'.cell? ⟨xb, 0, none⟩ = some (.int .u32 x.f0) ∧ W'.cell? ⟨xb, 1, none⟩ = some (.int .u32 x.f1) ∧ W'.cell? ⟨xb, 2, none⟩ = some (.int .u64 x.f2) ∧ W'.cell? ⟨xb, 3, none⟩ = some (.int .u64 x.f3.f0) ∧ W'.cell? ⟨xb, 4, none⟩ = some (.int .u64 x.f3.f1) ∧ W'.cell? ⟨xb, 5, none⟩ = some (.int .u64 x.f3.f2) ∧ W'.cell? ⟨xb, 6, none⟩ = some (.int .u64 x.f3.f3) ∧ W'.cell? ⟨xb, 7, none⟩ = some (.int .u64 x.f3.f4) ∧ W'.cell? ⟨xb, 8, none⟩ = some (.int .u64 x.f3.f5) := by
  obtain ⟨a0, a1, a2, a3, a4, a5⟩ := h.six
  exact ⟨a0, a1, a2, a3, a4, a5, k.nine⟩
end Go.Proofs.Ytoeklekjhaigoaa.HNot
end
section
namespace Go.Proofs.Ytoeklekjhaigoaa.HNots0
open Go.Proofs.Ytoeklekjhaigoaa.Al Go.RowKit Go.Proofs.YtoeklekjhaigoaaW.PrintWords Go.Proofs.YtoeklekjhaigoaaW.PrintLast Go.Proofs.YtoeklekjhaigoaaW.PrintMore Go.Proofs.Ytoeklekjhaigoaa.M0 Go.Proofs.Ytoeklekjhaigoaa.M1 Go.Proofs.Ytoeklekjhaigoaa.M2 Go.Proofs.Ytoeklekjhaigoaa.QCond Go.Proofs.Ytoeklekjhaigoaa.QMean Go.Proofs.Ytoeklekjhaigoaa.QOne Go.Proofs.Ytoeklekjhaigoaa.HMany Go.Proofs.Ytoeklekjhaigoaa.HCount Go.Proofs.Ytoeklekjhaigoaa.HMean Go.Proofs.Ytoeklekjhaigoaa.QHolds Go.Proofs.Ytoeklekjhaigoaa.HKit Go.Proofs.Ytoeklekjhaigoaa.HNot Go.Proofs.Ytoeklekjhaigoaa.K49
set_option linter.unusedVariables false
set_option linter.unusedSimpArgs false
set_option maxRecDepth 100000
attribute [local go_sem] max2_int min2_int max_two min_two
set_option maxHeartbeats 8000000 in
theorem nots_many (c : S46) (x : S49) (A : Option Addr) (n : Nat) (w : World) (hC : Kd.C k46 w A c.f1.length c.f1) (hn : c.f1.length ≤ n) (hcb : 40 < nodes c) :
    Calls Try.prog 9 #[.agg #[.int .i64 c.f0, .slice A c.f1.length n, .int .i64 c.f2, .int .u64 c.f3, .string c.f4, .int .u64 c.f5], .agg #[.int .u32 x.f0, .int .u32 x.f1, .int .u64 x.f2, .int .u64 x.f3.f0, .int .u64 x.f3.f1, .int .u64 x.f3.f2, .int .u64 x.f3.f3, .int .u64 x.f3.f4, .int .u64 x.f3.f5]] w fun e w' => e = .returned (.bool true) ∧ Below w.heap.size w w' := by
  have hu46 := Try.underlying46
  have hu49 := Try.underlying49
  have s1 : (w.alloc (.cells #[.int .i64 c.f0, .slice A c.f1.length n, .int .i64 c.f2, .int .u64 c.f3, .string c.f4, .int .u64 c.f5] 46)).heap.size = w.heap.size + 1 := by simp
  have HC := amk ((Bx.new w hC hn).alloc (.cells #[.int .u32 x.f0, .int .u32 x.f1, .int .u64 x.f2, .int .u64 x.f3.f0, .int .u64 x.f3.f1, .int .u64 x.f3.f2, .int .u64 x.f3.f3, .int .u64 x.f3.f4, .int .u64 x.f3.f5] 49))
  have HX0 := Xx.new (w.alloc (.cells #[.int .i64 c.f0, .slice A c.f1.length n, .int .i64 c.f2, .int .u64 c.f3, .string c.f4, .int .u64 c.f5] 46)) x
  rw [s1] at HX0
  have HX := amk HX0
  have HB := amk (bal (bal (Below.refl w.heap.size w) (.cells #[.int .i64 c.f0, .slice A c.f1.length n, .int .i64 c.f2, .int .u64 c.f3, .string c.f4, .int .u64 c.f5] 46)) (.cells #[.int .u32 x.f0, .int .u32 x.f1, .int .u64 x.f2, .int .u64 x.f3.f0, .int .u64 x.f3.f1, .int .u64 x.f3.f2, .int .u64 x.f3.f3, .int .u64 x.f3.f4, .int .u64 x.f3.f5] 49))
  have HM := amk (fun (W : World) (h : Kd.C k46 W A c.f1.length c.f1) => many_w h hn 40 (by omega) (by omega))
  have HR := amk (fun (W : World) (h : Kd.C k46 W A c.f1.length c.f1) => right_w h hn)
  have HA := amk alive_w
  have nc : decide (40 < ((min (nodes c) ((40 : Int).toNat + 1) : Nat) : Int)) = decide (40 < nodes c) := decide_eq_decide.2 (by simp only [Int.reduceToNat]; omega)
  clear s1 HX0 hC
  go_enter Try.func9, Try.ntmps9
  go_upto_region 1 with (fail)
  generalize (w.alloc (.cells #[.int .i64 c.f0, .slice A c.f1.length n, .int .i64 c.f2, .int .u64 c.f3, .string c.f4, .int .u64 c.f5] 46)).alloc (.cells #[.int .u32 x.f0, .int .u32 x.f1, .int .u64 x.f2, .int .u64 x.f3.f0, .int .u64 x.f3.f1, .int .u64 x.f3.f2, .int .u64 x.f3.f3, .int .u64 x.f3.f4, .int .u64 x.f3.f5] 49) = W at *
  obtain ⟨k0, k1, k2, k3, k4, k5⟩ := HC.out.six
  generalize ((min (nodes c) ((40 : Int).toNat + 1) : Nat) : Int) = mc at *
  have e1 : decide (40 < mc) = true := nc.trans (decide_eq_true hcb)
  clear nc hcb
  go_wp2_with (first | (go_at_call 43; (with_reducible refine (HM.out _ HC.out.C).mono ?_); rintro e w1 ⟨rfl, hb1⟩; have HC := amk (HC.out.below hb1); have HX := amk (HX.out.below hb1); have HB := amk (below_step HB.out hb1); obtain ⟨k0, k1, k2, k3, k4, k5⟩ := HC.out.six; clear hb1) | (go_at_call 47; (with_reducible refine (HR.out _ HC.out.C).mono ?_); rintro e w1 ⟨rfl, hb1⟩; have HC := amk (HC.out.below hb1); have HX := amk (HX.out.below hb1); have HB := amk (below_step HB.out hb1); obtain ⟨k0, k1, k2, k3, k4, k5⟩ := HC.out.six; clear hb1) | (go_at_call 44; (with_reducible refine (HA.out _).mono ?_); rintro e w1 ⟨rfl, hb1⟩; have HC := amk (HC.out.below hb1); have HX := amk (HX.out.below hb1); have HB := amk (below_step HB.out hb1); obtain ⟨k0, k1, k2, k3, k4, k5⟩ := HC.out.six; clear hb1))
  go_ret
  exact ⟨rfl, HB.out⟩
set_option maxHeartbeats 8000000 in
theorem nots_wrong (c : S46) (x : S49) (A : Option Addr) (n : Nat) (w : World) (hC : Kd.C k46 w A c.f1.length c.f1) (hn : c.f1.length ≤ n) (hcb : ¬ 40 < nodes c) (hr : rightB c = false) :
    Calls Try.prog 9 #[.agg #[.int .i64 c.f0, .slice A c.f1.length n, .int .i64 c.f2, .int .u64 c.f3, .string c.f4, .int .u64 c.f5], .agg #[.int .u32 x.f0, .int .u32 x.f1, .int .u64 x.f2, .int .u64 x.f3.f0, .int .u64 x.f3.f1, .int .u64 x.f3.f2, .int .u64 x.f3.f3, .int .u64 x.f3.f4, .int .u64 x.f3.f5]] w fun e w' => e = .returned (.bool true) ∧ Below w.heap.size w w' := by
  have hu46 := Try.underlying46
  have hu49 := Try.underlying49
  have s1 : (w.alloc (.cells #[.int .i64 c.f0, .slice A c.f1.length n, .int .i64 c.f2, .int .u64 c.f3, .string c.f4, .int .u64 c.f5] 46)).heap.size = w.heap.size + 1 := by simp
  have HC := amk ((Bx.new w hC hn).alloc (.cells #[.int .u32 x.f0, .int .u32 x.f1, .int .u64 x.f2, .int .u64 x.f3.f0, .int .u64 x.f3.f1, .int .u64 x.f3.f2, .int .u64 x.f3.f3, .int .u64 x.f3.f4, .int .u64 x.f3.f5] 49))
  have HX0 := Xx.new (w.alloc (.cells #[.int .i64 c.f0, .slice A c.f1.length n, .int .i64 c.f2, .int .u64 c.f3, .string c.f4, .int .u64 c.f5] 46)) x
  rw [s1] at HX0
  have HX := amk HX0
  have HB := amk (bal (bal (Below.refl w.heap.size w) (.cells #[.int .i64 c.f0, .slice A c.f1.length n, .int .i64 c.f2, .int .u64 c.f3, .string c.f4, .int .u64 c.f5] 46)) (.cells #[.int .u32 x.f0, .int .u32 x.f1, .int .u64 x.f2, .int .u64 x.f3.f0, .int .u64 x.f3.f1, .int .u64 x.f3.f2, .int .u64 x.f3.f3, .int .u64 x.f3.f4, .int .u64 x.f3.f5] 49))
  have HM := amk (fun (W : World) (h : Kd.C k46 W A c.f1.length c.f1) => many_w h hn 40 (by omega) (by omega))
  have HR := amk (fun (W : World) (h : Kd.C k46 W A c.f1.length c.f1) => right_w h hn)
  have HA := amk alive_w
  have nc : decide (40 < ((min (nodes c) ((40 : Int).toNat + 1) : Nat) : Int)) = decide (40 < nodes c) := decide_eq_decide.2 (by simp only [Int.reduceToNat]; omega)
  simp only [hr] at HR
  clear s1 HX0 hC
  go_enter Try.func9, Try.ntmps9
  go_upto_region 1 with (fail)
  generalize (w.alloc (.cells #[.int .i64 c.f0, .slice A c.f1.length n, .int .i64 c.f2, .int .u64 c.f3, .string c.f4, .int .u64 c.f5] 46)).alloc (.cells #[.int .u32 x.f0, .int .u32 x.f1, .int .u64 x.f2, .int .u64 x.f3.f0, .int .u64 x.f3.f1, .int .u64 x.f3.f2, .int .u64 x.f3.f3, .int .u64 x.f3.f4, .int .u64 x.f3.f5] 49) = W at *
  obtain ⟨k0, k1, k2, k3, k4, k5⟩ := HC.out.six
  generalize ((min (nodes c) ((40 : Int).toNat + 1) : Nat) : Int) = mc at *
  have e1 : decide (40 < mc) = false := nc.trans (decide_eq_false hcb)
  clear nc hcb hr
  go_wp2_with (first | (go_at_call 43; (with_reducible refine (HM.out _ HC.out.C).mono ?_); rintro e w1 ⟨rfl, hb1⟩; have HC := amk (HC.out.below hb1); have HX := amk (HX.out.below hb1); have HB := amk (below_step HB.out hb1); obtain ⟨k0, k1, k2, k3, k4, k5⟩ := HC.out.six; clear hb1) | (go_at_call 47; (with_reducible refine (HR.out _ HC.out.C).mono ?_); rintro e w1 ⟨rfl, hb1⟩; have HC := amk (HC.out.below hb1); have HX := amk (HX.out.below hb1); have HB := amk (below_step HB.out hb1); obtain ⟨k0, k1, k2, k3, k4, k5⟩ := HC.out.six; clear hb1) | (go_at_call 44; (with_reducible refine (HA.out _).mono ?_); rintro e w1 ⟨rfl, hb1⟩; have HC := amk (HC.out.below hb1); have HX := amk (HX.out.below hb1); have HB := amk (below_step HB.out hb1); obtain ⟨k0, k1, k2, k3, k4, k5⟩ := HC.out.six; clear hb1))
  go_ret
  exact ⟨rfl, HB.out⟩
end Go.Proofs.Ytoeklekjhaigoaa.HNots0
end
section
namespace Go.Proofs.Ytoeklekjhaigoaa.HNots
open Go.Proofs.Ytoeklekjhaigoaa.Al Go.RowKit Go.Proofs.YtoeklekjhaigoaaW.PrintWords Go.Proofs.YtoeklekjhaigoaaW.PrintLast Go.Proofs.YtoeklekjhaigoaaW.PrintMore Go.Proofs.Ytoeklekjhaigoaa.M0 Go.Proofs.Ytoeklekjhaigoaa.M1 Go.Proofs.Ytoeklekjhaigoaa.M2 Go.Proofs.Ytoeklekjhaigoaa.QCond Go.Proofs.Ytoeklekjhaigoaa.QMean Go.Proofs.Ytoeklekjhaigoaa.QOne Go.Proofs.Ytoeklekjhaigoaa.HMany Go.Proofs.Ytoeklekjhaigoaa.HCount Go.Proofs.Ytoeklekjhaigoaa.HMean Go.Proofs.Ytoeklekjhaigoaa.QHolds Go.Proofs.Ytoeklekjhaigoaa.HKit Go.Proofs.Ytoeklekjhaigoaa.HNot Go.Proofs.Ytoeklekjhaigoaa.K49
set_option linter.unusedVariables false
set_option linter.unusedSimpArgs false
set_option maxRecDepth 100000
attribute [local go_sem] max2_int min2_int max_two min_two
structure Nw (w wr : World) (c : S46) (x : S49) (A : Option Addr) (n db : Nat) (K : Int) (v : Value) (k : Nat) : Prop where
  hc : Bx wr w.heap.size c A n
  hx : Xx wr (w.heap.size + 1) x
  B : Below w.heap.size w wr
  hlo : w.heap.size + 1 < db
  hd : wr.heap[db]? = some (.cells #[.int .i64 K, v, .int .i64 0, .int .u64 0, .string ⟨#[]⟩, .int .u64 0] 46 (0, 0))
  N : Kd.N k46 46 wr w.heap.size (fun b => b ≠ db) v ((c.f1.take k).map notC)
  O : ∀ b, v.ownBlock = some b → db < b
  F : Kd.F k46 wr (fun b => b < w.heap.size) A c.f1.length c.f1
section
variable {w W W1 : World} {c : S46} {x : S49} {A : Option Addr} {n db : Nat} {K : Int} {v : Value} {k : Nat}
theorem Nw.below (h : Nw w W c x A n db K v k) (hb : Below W.heap.size W W1) : Nw w W1 c x A n db K v k :=
  ⟨h.hc.below hb, h.hx.below hb, below_step h.B hb, h.hlo, (hb.block _ (blk_lt h.hd)).trans h.hd, Kd.N_below h.N hb, h.O, Kd.F_below h.F hb⟩
theorem Nw.alloc (h : Nw w W c x A n db K v k) (o : Obj) : Nw w (W.alloc o) c x A n db K v k := h.below (bal (Below.refl _ _) o)
theorem Nw.drew (h : Nw w W c x A n db K v k) : Nw w W.drew c x A n db K v k := h.below (below_drew (Below.refl _ _))
theorem Nw.start (hc : Bx W w.heap.size c A n) (hx : Xx W (w.heap.size + 1) x) (hB : Below w.heap.size w W) (hC : Kd.C k46 w A c.f1.length c.f1) (K : Int) :
    Nw w (W.alloc (.cells #[.int .i64 K, .slice none 0 0, .int .i64 0, .int .u64 0, .string ⟨#[]⟩, .int .u64 0] 46)) c x A n W.heap.size K (.slice none 0 0) 0 := by
  have hF : Kd.F k46 w (fun b => b < w.heap.size) A c.f1.length c.f1 := Kd.C_F k46_heap hC
  refine ⟨hc.alloc _, hx.alloc _, below_step hB (bal (Below.refl _ _) _), blk_lt hx, heap_alloc_new _ _, ?_, fun b h => by simp [Value.ownBlock] at h, Kd.F_alloc (Kd.F_step hF (fun k hk _ => hB.block k hk)) _⟩
  rw [List.take_zero]
  exact Kd.N_nil _ _ _ _ _
theorem Nw.own_lt (h : Nw w W c x A n db K v k) {b : Nat} (hb : v.ownBlock = some b) : b < W.heap.size := by
  obtain ⟨_, rows, _, hR, _⟩ := h.N
  exact Kd.R_lt hR b hb
theorem Nw.ne (h : Nw w W c x A n db K v k) {b : Nat} (hb : b ≤ db) : some b ≠ v.ownBlock := fun e => by have := h.O b e.symm; omega
theorem Nw.okp (h : Nw w W c x A n db K v k) (b : Nat) (hb : b < w.heap.size ∨ W.heap.size ≤ b) : b ≠ db ∧ some b ≠ v.ownBlock := by
  have h1 := blk_lt h.hd
  have h2 := h.hlo
  refine ⟨by omega, fun e => ?_⟩
  have h3 := h.O b e.symm
  have h4 := h.own_lt e.symm
  omega
theorem Nw.step (h : Nw w W c x A n db K v k) (hk : k < c.f1.length) {v1 : Value} (hN : Kd.N k46 46 W1 w.heap.size (fun b => b ≠ db) v1 (((c.f1.take k).map notC) ++ [notC (rd_T46 c.f1 k)])) (hb : Below w.heap.size w W1) (hg : W.grownBy W1 v.ownBlock) (hat : v1.ownBlock = v.ownBlock ∨ ∃ b, v1.ownBlock = some b ∧ W.heap.size ≤ b) :
    Nw w (W1.setCell ⟨db, 1, none⟩ v1) c x A n db K v1 (k + 1) := by
  have h1 := blk_lt h.hd
  have h2 := h.hlo
  have hc := (hg.block _ (blk_lt h.hc.H) (h.ne (by omega))).trans h.hc.H
  have hx := (hg.block _ (blk_lt h.hx) (h.ne (by omega))).trans h.hx
  have hd := (hg.block _ h1 (h.ne (Nat.le_refl _))).trans h.hd
  have hF : Kd.F k46 (W1.setCell ⟨db, 1, none⟩ v1) (fun b => b < w.heap.size) A c.f1.length c.f1 := Kd.F_far (Kd.F_grown h.F hg (fun b hb => h.ne (by omega))) (p := ⟨db, 1, none⟩) (fun b hb => by simp only; omega) v1
  have e : (c.f1.take (k + 1)).map notC = ((c.f1.take k).map notC) ++ [notC (rd_T46 c.f1 k)] := by
    rw [List.take_succ_eq_append_getElem hk, List.map_append]
    unfold rd_T46; simp [List.getD, hk]
  refine ⟨⟨(Below.heap_setCell _ _ _ _ (by simp only; omega)).trans hc, Kd.F_now hF, h.hc.L⟩, (Below.heap_setCell _ _ _ _ (by simp only; omega)).trans hx, hb.setCell (p := ⟨db, 1, none⟩) (by simp only; omega) _, h2, blk_put hd 1 v1 rfl, ?_, fun b hb => ?_, hF⟩
  · rw [e]
    exact Kd.N_far hN (p := ⟨db, 1, none⟩) (fun b hb => hb) v1
  · rcases hat with g | ⟨b2, g, hb2⟩
    · exact h.O b (g.symm.trans hb)
    · rw [g] at hb
      have : b2 = b := Option.some.inj hb
      omega
/-- A kid's box. -/
def Kx (W : World) (kb : Nat) (q : S46) (Aq : Option Addr) (nq : Nat) : Prop := W.heap[kb]? = some (.cells #[.int .i64 q.f0, .slice Aq q.f1.length nq, .int .i64 q.f2, .int .u64 q.f3, .string q.f4, .int .u64 q.f5] 46 (0, 0))
theorem Kx.below {kb nq : Nat} {q : S46} {Aq : Option Addr} (h : Kx W kb q Aq nq) (hb : Below W.heap.size W W1) : Kx W1 kb q Aq nq := (hb.block _ (blk_lt h)).trans h
theorem Kx.six {kb nq : Nat} {q : S46} {Aq : Option Addr} (h : Kx W kb q Aq nq) : W.cell? ⟨kb, 0, none⟩ = some (.int .i64 q.f0) ∧ W.cell? ⟨kb, 1, none⟩ = some (.slice Aq q.f1.length nq) ∧ W.cell? ⟨kb, 2, none⟩ = some (.int .i64 q.f2) ∧ W.cell? ⟨kb, 3, none⟩ = some (.int .u64 q.f3) ∧ W.cell? ⟨kb, 4, none⟩ = some (.string q.f4) ∧ W.cell? ⟨kb, 5, none⟩ = some (.int .u64 q.f5) :=
  ⟨blk_cell h 0, blk_cell h 1, blk_cell h 2, blk_cell h 3, blk_cell h 4, blk_cell h 5⟩
end
end Go.Proofs.Ytoeklekjhaigoaa.HNots
end
section
namespace Go.Proofs.Ytoeklekjhaigoaa.HNots
open Go.Proofs.Ytoeklekjhaigoaa.Al Go.RowKit Go.Proofs.YtoeklekjhaigoaaW.PrintWords Go.Proofs.YtoeklekjhaigoaaW.PrintLast Go.Proofs.YtoeklekjhaigoaaW.PrintMore Go.Proofs.Ytoeklekjhaigoaa.M0 Go.Proofs.Ytoeklekjhaigoaa.M1 Go.Proofs.Ytoeklekjhaigoaa.M2 Go.Proofs.Ytoeklekjhaigoaa.QCond Go.Proofs.Ytoeklekjhaigoaa.QMean Go.Proofs.Ytoeklekjhaigoaa.QOne Go.Proofs.Ytoeklekjhaigoaa.HMany Go.Proofs.Ytoeklekjhaigoaa.HCount Go.Proofs.Ytoeklekjhaigoaa.HMean Go.Proofs.Ytoeklekjhaigoaa.QHolds Go.Proofs.Ytoeklekjhaigoaa.HKit Go.Proofs.Ytoeklekjhaigoaa.HNot Go.Proofs.Ytoeklekjhaigoaa.K49
set_option linter.unusedVariables false
set_option linter.unusedSimpArgs false
set_option maxRecDepth 100000
attribute [local go_sem] max2_int min2_int max_two min_two
set_option maxHeartbeats 16000000 in
theorem nots_t (c : S46) (x : S49) (A : Option Addr) (n : Nat) (w : World) (hC : Kd.C k46 w A c.f1.length c.f1) (hn : c.f1.length ≤ n) (hcb : ¬ 40 < nodes c) (hr : rightB c = true) (hp : semB x c = true) (h1 : c.f0 ≠ 1) (h2 : c.f0 ≠ 2) :
    Calls Try.prog 9 #[.agg #[.int .i64 c.f0, .slice A c.f1.length n, .int .i64 c.f2, .int .u64 c.f3, .string c.f4, .int .u64 c.f5], .agg #[.int .u32 x.f0, .int .u32 x.f1, .int .u64 x.f2, .int .u64 x.f3.f0, .int .u64 x.f3.f1, .int .u64 x.f3.f2, .int .u64 x.f3.f3, .int .u64 x.f3.f4, .int .u64 x.f3.f5]] w fun e w' => e = .returned (.bool true) ∧ Below w.heap.size w w' := by
  have hu46 := Try.underlying46
  have hu49 := Try.underlying49
  have s1 : (w.alloc (.cells #[.int .i64 c.f0, .slice A c.f1.length n, .int .i64 c.f2, .int .u64 c.f3, .string c.f4, .int .u64 c.f5] 46)).heap.size = w.heap.size + 1 := by simp
  have HC := amk ((Bx.new w hC hn).alloc (.cells #[.int .u32 x.f0, .int .u32 x.f1, .int .u64 x.f2, .int .u64 x.f3.f0, .int .u64 x.f3.f1, .int .u64 x.f3.f2, .int .u64 x.f3.f3, .int .u64 x.f3.f4, .int .u64 x.f3.f5] 49))
  have HX0 := Xx.new (w.alloc (.cells #[.int .i64 c.f0, .slice A c.f1.length n, .int .i64 c.f2, .int .u64 c.f3, .string c.f4, .int .u64 c.f5] 46)) x
  rw [s1] at HX0
  have HX := amk HX0
  have HB := amk (bal (bal (Below.refl w.heap.size w) (.cells #[.int .i64 c.f0, .slice A c.f1.length n, .int .i64 c.f2, .int .u64 c.f3, .string c.f4, .int .u64 c.f5] 46)) (.cells #[.int .u32 x.f0, .int .u32 x.f1, .int .u64 x.f2, .int .u64 x.f3.f0, .int .u64 x.f3.f1, .int .u64 x.f3.f2, .int .u64 x.f3.f3, .int .u64 x.f3.f4, .int .u64 x.f3.f5] 49))
  have HM := amk (fun (W : World) (h : Kd.C k46 W A c.f1.length c.f1) => many_w h hn 40 (by omega) (by omega))
  have HR := amk (fun (W : World) (h : Kd.C k46 W A c.f1.length c.f1) => right_w h hn)
  have HA := amk alive_w
  have nc : decide (40 < ((min (nodes c) ((40 : Int).toNat + 1) : Nat) : Int)) = decide (40 < nodes c) := decide_eq_decide.2 (by simp only [Int.reduceToNat]; omega)
  simp only [hr] at HR
  have hfc := (right_fits hr).1
  have HH0 := amk (fun (W : World) (h : Kd.C k46 W A c.f1.length c.f1) => by have h2 := holds_w x h hn; rw [holds_right hr, hp] at h2; exact h2)
  have HH1 := amk (fun (W : World) (A1 : Option Addr) (n1 : Nat) (h : Kd.C k46 W A1 1 [c]) (g : 1 ≤ n1) => by have h2 := hold1_w x h g; rw [holds_not1 hfc (by omega), hp] at h2; exact h2)
  have HH2 := amk (fun (W : World) (A1 : Option Addr) (n1 : Nat) (h : Kd.C k46 W A1 1 [notC c]) (g : 1 ≤ n1) => by have h2 := hold1_w x h g; rw [holds_not2 hfc (by omega), hp] at h2; exact h2)
  have HN0 := amk (fun (W : World) (h : Kd.C k46 W A c.f1.length c.f1) => not_w h hn)
  have HN1 := amk (fun (W : World) (A1 : Option Addr) (n1 : Nat) (h : Kd.C k46 W A1 1 [c]) (g : 1 ≤ n1) => not2_w h g)
  simp only [Bool.not_true, Bool.not_false] at HH1
  have HS := amk (fun (W' : World) (h : Bx W' w.heap.size c A n) (k : Xx W' (w.heap.size + 1) x) => s15 h k)
  clear s1 HX0 hC
  go_enter Try.func9, Try.ntmps9
  go_upto_region 1 with (fail)
  generalize (w.alloc (.cells #[.int .i64 c.f0, .slice A c.f1.length n, .int .i64 c.f2, .int .u64 c.f3, .string c.f4, .int .u64 c.f5] 46)).alloc (.cells #[.int .u32 x.f0, .int .u32 x.f1, .int .u64 x.f2, .int .u64 x.f3.f0, .int .u64 x.f3.f1, .int .u64 x.f3.f2, .int .u64 x.f3.f3, .int .u64 x.f3.f4, .int .u64 x.f3.f5] 49) = W at *
  obtain ⟨k0, k1, k2, k3, k4, k5⟩ := HC.out.six
  generalize ((min (nodes c) ((40 : Int).toNat + 1) : Nat) : Int) = mc at *
  have e1 : decide (40 < mc) = false := nc.trans (decide_eq_false hcb)
  clear nc hfc hp hr
  go_upto_region 4 with (first | (go_at_call 43; (with_reducible refine (HM.out _ HC.out.C).mono ?_); rintro e w1 ⟨rfl, hb1⟩; have HC := amk (HC.out.below hb1); have HX := amk (HX.out.below hb1); have HB := amk (below_step HB.out hb1); obtain ⟨k0, k1, k2, k3, k4, k5⟩ := HC.out.six; clear hb1) | (go_at_call 47; (with_reducible refine (HR.out _ HC.out.C).mono ?_); rintro e w1 ⟨rfl, hb1⟩; have HC := amk (HC.out.below hb1); have HX := amk (HX.out.below hb1); have HB := amk (below_step HB.out hb1); obtain ⟨k0, k1, k2, k3, k4, k5⟩ := HC.out.six; clear hb1) | (go_at_call 44; (with_reducible refine (HA.out _).mono ?_); rintro e w1 ⟨rfl, hb1⟩; have HC := amk (HC.out.below hb1); have HX := amk (HX.out.below hb1); have HB := amk (below_step HB.out hb1); obtain ⟨k0, k1, k2, k3, k4, k5⟩ := HC.out.six; clear hb1))
  have HC := amk HC.out.drew
  have HX := amk HX.out.drew
  have HB := amk (below_drew HB.out)
  clear k0 k1 k2 k3 k4 k5
  first | (go_region_held3 (fun W' : World => W'.cell? ⟨w.heap.size, 0, none⟩ = some (.int .i64 c.f0) ∧ W'.cell? ⟨w.heap.size, 1, none⟩ = some (.slice A c.f1.length n) ∧ W'.cell? ⟨w.heap.size, 2, none⟩ = some (.int .i64 c.f2) ∧ W'.cell? ⟨w.heap.size, 3, none⟩ = some (.int .u64 c.f3) ∧ W'.cell? ⟨w.heap.size, 4, none⟩ = some (.string c.f4) ∧ W'.cell? ⟨w.heap.size, 5, none⟩ = some (.int .u64 c.f5) ∧ W'.cell? ⟨w.heap.size + 1, 0, none⟩ = some (.int .u32 x.f0) ∧ W'.cell? ⟨w.heap.size + 1, 1, none⟩ = some (.int .u32 x.f1) ∧ W'.cell? ⟨w.heap.size + 1, 2, none⟩ = some (.int .u64 x.f2) ∧ W'.cell? ⟨w.heap.size + 1, 3, none⟩ = some (.int .u64 x.f3.f0) ∧ W'.cell? ⟨w.heap.size + 1, 4, none⟩ = some (.int .u64 x.f3.f1) ∧ W'.cell? ⟨w.heap.size + 1, 5, none⟩ = some (.int .u64 x.f3.f2) ∧ W'.cell? ⟨w.heap.size + 1, 6, none⟩ = some (.int .u64 x.f3.f3) ∧ W'.cell? ⟨w.heap.size + 1, 7, none⟩ = some (.int .u64 x.f3.f4) ∧ W'.cell? ⟨w.heap.size + 1, 8, none⟩ = some (.int .u64 x.f3.f5)) (exact HS.out _ HC.out HX.out) (first | (go_at_call 44; (with_reducible refine (HA.out _).mono ?_); rintro e w1 ⟨rfl, hb1⟩; have HC := amk (HC.out.below hb1); have HX := amk (HX.out.below hb1); have HB := amk (below_step HB.out hb1); clear hb1) | (go_at_call 45; (with_reducible refine (HH0.out _ HC.out.C).mono ?_); rintro e w1 ⟨rfl, hb1⟩; have HC := amk (HC.out.below hb1); have HX := amk (HX.out.below hb1); have HB := amk (below_step HB.out hb1); clear hb1) | (go_at_call 45; (with_reducible refine (HH1.out _ _ _ HK1.out HK1n.out).mono ?_); rintro e w1 ⟨rfl, hb1⟩; have HC := amk (HC.out.below hb1); have HX := amk (HX.out.below hb1); have HB := amk (below_step HB.out hb1); clear hb1) | (go_at_call 45; (with_reducible refine (HH2.out _ _ _ HK2.out HK2n.out).mono ?_); rintro e w1 ⟨rfl, hb1⟩; have HC := amk (HC.out.below hb1); have HX := amk (HX.out.below hb1); have HB := amk (below_step HB.out hb1); clear hb1) | (go_at_call 48; (with_reducible refine (HN0.out _ HC.out.C).mono ?_); rintro e w1 ⟨A1, n1, rfl, hC1, hn1, hb1⟩; have HC := amk (HC.out.below hb1); have HX := amk (HX.out.below hb1); have HB := amk (below_step HB.out hb1); have HK1 := amk hC1; have HK1n := amk hn1; clear hC1 hn1; clear hb1) | (go_at_call 48; (with_reducible refine (HN1.out _ _ _ HK1.out HK1n.out).mono ?_); rintro e w1 ⟨A1, n1, rfl, hC1, hn1, hb1⟩; have HC := amk (HC.out.below hb1); have HX := amk (HX.out.below hb1); have HB := amk (below_step HB.out hb1); have HK2 := amk hC1; have HK2n := amk hn1; clear hC1 hn1; clear hb1))) | fail
  rename_i hHz
  clear hHz HM HR HN1 HK1 HK2 HK1n HK2n
  obtain ⟨k0, k1, k2, k3, k4, k5⟩ := HC.out.six
  have b1 : (c.f0 != 1) = true := by simpa [bne_iff_ne] using h1
  have b2 : (c.f0 != 2) = true := by simpa [bne_iff_ne] using h2
  clear h1 h2
  go_wp2
  go_ret
  exact ⟨rfl, HB.out⟩
end Go.Proofs.Ytoeklekjhaigoaa.HNots
end
