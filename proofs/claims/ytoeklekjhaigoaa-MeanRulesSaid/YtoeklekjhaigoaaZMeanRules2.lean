/- MeanRules: a rule more behind all others changes no answer of a call that one of them matches; what is answered is the default, that of another architecture, or a rule's action. -/
import Derived.Test.YtoeklekjhaigoaaZMeanRules1
section
namespace Go.Proofs.Ytoeklekjhaigoaa.PMeanRules
open Go.Proofs.Ytoeklekjhaigoaa.Al Go.RowKit Go.Proofs.YtoeklekjhaigoaaW.PrintWords Go.Proofs.YtoeklekjhaigoaaW.PrintLast Go.Proofs.YtoeklekjhaigoaaW.PrintMore
attribute [local go_sem] max2_int min2_int max_two min_two max_three min_three max_four min_four IntKind.wrap_u32 IntKind.wrap_u8   -- for this text's walks alone
set_option linter.unusedVariables false
open Go.Proofs.Ytoeklekjhaigoaa.Le Go.Proofs.Ytoeklekjhaigoaa.C1 Go.Proofs.Ytoeklekjhaigoaa.C2 Go.Proofs.Ytoeklekjhaigoaa.HAct Go.Proofs.Ytoeklekjhaigoaa.W0 Go.Proofs.Ytoeklekjhaigoaa.HFrom Go.Proofs.Ytoeklekjhaigoaa.W1 Go.Proofs.Ytoeklekjhaigoaa.R01 Go.Proofs.Ytoeklekjhaigoaa.HPack Go.Proofs.Ytoeklekjhaigoaa.HUnpack Go.Proofs.Ytoeklekjhaigoaa.HRefPack Go.Proofs.Ytoeklekjhaigoaa.M0 Go.Proofs.Ytoeklekjhaigoaa.HMany Go.Proofs.Ytoeklekjhaigoaa.HCount Go.Proofs.Ytoeklekjhaigoaa.M1 Go.Proofs.Ytoeklekjhaigoaa.HMean Go.Proofs.Ytoeklekjhaigoaa.M2
set_option linter.unusedSimpArgs false
mutual
def doorwardlaw18_MeanRules.j0 : Nat → Bool → Int → Int → List (S58) → List Int → Int → List (S46) → Int → Int → ByteArray → Int → Int → Int → Int → Int → Int → Int → Int → Int → Int → Int → Option (Bool)
  | 0, _, _, _, _, _, _, _, _, _, _, _, _, _, _, _, _, _, _, _, _, _ => none
  | k + 1, x27, x102000, x102001, x102002, x103000, x103001, x103002, x103003, x103004, x103005, x103006, x103007, x104000, x104001, x104002, x104003, x104004, x104005, x104006, x104007, x104008 => if x27 = true then ((doorwardlaw18_alive.f k).bind fun t106 => (some t106)) else ((mean_Eval.f k x102000 x102001 x102002 x104000 x104001 x104002 x104003 x104004 x104005 x104006 x104007 x104008).bind fun t107 => ((some (([] : List (S58)) : List (S58))).bind fun y109 => (if y109.length + x102002.length < 1353245080339 then ((some (y109 ++ x102002 : List (S58))).bind fun y112 => ((some (([(⟨x103000, (⟨x103001, x103002, x103003, x103004, x103005, x103006⟩ : S46), x103007⟩ : S58)] : List (S58)) : List (S58))).bind fun y115 => (if y112.length + y115.length < 1353245080339 then ((mean_Eval.f k x102000 x102001 (y112 ++ y115) x104000 x104001 x104002 x104003 x104004 x104005 x104006 x104007 x104008).bind fun t121 => (if t107 = x102001 then (doorwardlaw18_MeanRules.j1 k t107 t121 true x102000 x102001 x102002 x103000 x103001 x103002 x103003 x103004 x103005 x103006 x103007) else (if x104001 = x102000 then (doorwardlaw18_MeanRules.j1 k t107 t121 false x102000 x102001 x102002 x103000 x103001 x103002 x103003 x103004 x103005 x103006 x103007) else (doorwardlaw18_MeanRules.j1 k t107 t121 (t107 == 2147483648) x102000 x102001 x102002 x103000 x103001 x103002 x103003 x103004 x103005 x103006 x103007)))) else (none)))) else (none))))
def doorwardlaw18_MeanRules.j1 : Nat → Int → Int → Bool → Int → Int → List (S58) → List Int → Int → List (S46) → Int → Int → ByteArray → Int → Int → Option (Bool)
  | 0, _, _, _, _, _, _, _, _, _, _, _, _, _, _ => none
  | k + 1, x7, x9, x10, x102000, x102001, x102002, x103000, x103001, x103002, x103003, x103004, x103005, x103006, x103007 => doorwardlaw18_MeanRules.l0 k x7 x9 x10 x102002 (x102002.length : Int) 0 x102000 x102001 x102002 x103000 x103001 x103002 x103003 x103004 x103005 x103006 x103007
def doorwardlaw18_MeanRules.l0 : Nat → Int → Int → Bool → List (S58) → Int → Int → Int → Int → List (S58) → List Int → Int → List (S46) → Int → Int → ByteArray → Int → Int → Option (Bool)
  | 0, _, _, _, _, _, _, _, _, _, _, _, _, _, _, _, _, _ => none
  | k + 1, x7, x9, x10, x60, x61, x62, x102000, x102001, x102002, x103000, x103001, x103002, x103003, x103004, x103005, x103006, x103007 => if x62 < x61 then (if 0 ≤ x62 then (if x62 < (x60.length : Int) then (if x10 = true then (doorwardlaw18_MeanRules.l0 k x7 x9 true x60 x61 (wrap64 (x62 + 1)) x102000 x102001 x102002 x103000 x103001 x103002 x103003 x103004 x103005 x103006 x103007) else (doorwardlaw18_MeanRules.l0 k x7 x9 (((rd_T58 x60 x62).f2) == x7) x60 x61 (wrap64 (x62 + 1)) x102000 x102001 x102002 x103000 x103001 x103002 x103003 x103004 x103005 x103006 x103007)) else (none)) else (none)) else ((doorwardlaw18_alive.f k).bind fun t124 => (if t124 = true then (if x10 = true then (if x7 = x9 then (some true) else (if x7 = x102001 then (some (x9 == x103007)) else (some false))) else (some false)) else (some false)))
end
def doorwardlaw18_MeanRules.f (k : Nat) (a0_0 : Int) (a0_1 : Int) (l0_2 : List (S58)) (l1_0 : List Int) (a1_1 : Int) (l1_2 : List (S46)) (a1_3 : Int) (a1_4 : Int) (a1_5 : ByteArray) (a1_6 : Int) (a1_7 : Int) (a2_0 : Int) (a2_1 : Int) (a2_2 : Int) (a2_3 : Int) (a2_4 : Int) (a2_5 : Int) (a2_6 : Int) (a2_7 : Int) (a2_8 : Int) : Option (Bool) := (doorwardref18_Few.f k a0_0 a0_1 l0_2).bind fun t104 => (if t104 = true then (if (l1_0.length : Int) > 60 then (doorwardlaw18_MeanRules.j0 k true a0_0 a0_1 l0_2 l1_0 a1_1 l1_2 a1_3 a1_4 a1_5 a1_6 a1_7 a2_0 a2_1 a2_2 a2_3 a2_4 a2_5 a2_6 a2_7 a2_8) else ((doorwardref15_Many.f a1_1 l1_2 a1_3 a1_4 a1_5 a1_6 100).bind fun t105 => (doorwardlaw18_MeanRules.j0 k (decide (t105 > 100)) a0_0 a0_1 l0_2 l1_0 a1_1 l1_2 a1_3 a1_4 a1_5 a1_6 a1_7 a2_0 a2_1 a2_2 a2_3 a2_4 a2_5 a2_6 a2_7 a2_8))) else (doorwardlaw18_MeanRules.j0 k true a0_0 a0_1 l0_2 l1_0 a1_1 l1_2 a1_3 a1_4 a1_5 a1_6 a1_7 a2_0 a2_1 a2_2 a2_3 a2_4 a2_5 a2_6 a2_7 a2_8))
def doorwardlaw18_MeanRules.T5 : Bool × List (List Nat × List Nat) := (true, [([], []), ([], []), ([1], [1]), ([0, 2], [0, 2]), ([], []), ([4], [4]), ([3, 5, 3], [3, 5]), ([0, 1, 2, 3, 4, 5, 6], []), ([7, 6, 6, 0, 1, 2, 3, 4, 5, 6], [6, 7])])
def doorwardlaw18_MeanRules.B5 : List Nat := [0, 0, 2, 7, 0, 16, 63, 127, 255]
theorem doorwardlaw18_MeanRules.tab5 : rtab .any (opsOf Try.f10 5) = doorwardlaw18_MeanRules.T5 := by kernel_rfl
theorem doorwardlaw18_MeanRules.bits5 : waitsOk doorwardlaw18_MeanRules.T5.2 doorwardlaw18_MeanRules.B5 = true := by kernel_rfl
set_option maxHeartbeats 8000000 in
set_option maxRecDepth 100000 in
theorem doorwardlaw18_MeanRules.calls (k : Nat) (a0_0 : Int) (a0_1 : Int) (P0_2_ : Nat → Prop) (A0_2 : Option Addr) (c0_2 : Nat) (l0_2 : List (S58)) (P1_0_ : Nat → Prop) (A1_0 : Option Addr) (c1_0 : Nat) (l1_0 : List Int) (a1_1 : Int) (P1_2_ : Nat → Prop) (A1_2 : Option Addr) (c1_2 : Nat) (l1_2 : List (S46)) (a1_3 : Int) (a1_4 : Int) (a1_5 : ByteArray) (a1_6 : Int) (a1_7 : Int) (a2_0 : Int) (a2_1 : Int) (a2_2 : Int) (a2_3 : Int) (a2_4 : Int) (a2_5 : Int) (a2_6 : Int) (a2_7 : Int) (a2_8 : Int) (r : Bool) (w : World) (hs0_2 : Kd.V k58 58 w w.heap.size (fun k_ => P0_2_ k_) (.slice A0_2 l0_2.length c0_2) l0_2) (hs1_0 : Kd.V (Kd.int .u32) 22 w w.heap.size (fun k_ => P1_0_ k_) (.slice A1_0 l1_0.length c1_0) l1_0) (hs1_2 : Kd.V k46 46 w w.heap.size (fun k_ => P1_2_ k_) (.slice A1_2 l1_2.length c1_2) l1_2) (h : doorwardlaw18_MeanRules.f k a0_0 a0_1 l0_2 l1_0 a1_1 l1_2 a1_3 a1_4 a1_5 a1_6 a1_7 a2_0 a2_1 a2_2 a2_3 a2_4 a2_5 a2_6 a2_7 a2_8 = some r) :
    Calls Try.prog 10 #[.agg #[.int .u32 a0_0, .int .u32 a0_1, .slice A0_2 l0_2.length c0_2], .agg #[.slice A1_0 l1_0.length c1_0, .int .i64 a1_1, .slice A1_2 l1_2.length c1_2, .int .i64 a1_3, .int .u64 a1_4, .string a1_5, .int .u64 a1_6, .int .u32 a1_7], .agg #[.int .u32 a2_0, .int .u32 a2_1, .int .u64 a2_2, .int .u64 a2_3, .int .u64 a2_4, .int .u64 a2_5, .int .u64 a2_6, .int .u64 a2_7, .int .u64 a2_8]] w fun e w' => e = .returned (.bool r) ∧ Below w.heap.size w w' := by
  have hu56 := Try.underlying56
  have hu58 := Try.underlying58
  have hu49 := Try.underlying49
  have hu46 := Try.underlying46
  have HO0_2 := amk (show Kd.V k58 58 w w.heap.size (fun k_ => ((P0_2_ k_ ∨ P1_0_ k_ ∨ P1_2_ k_) ∨ w.heap.size ≤ k_)) (.slice A0_2 l0_2.length c0_2) l0_2 from Kd.V_mono hs0_2 (fun k_ hk => .inl (.inl hk)))
  have HO1_0 := amk (show Kd.V (Kd.int .u32) 22 w w.heap.size (fun k_ => ((P0_2_ k_ ∨ P1_0_ k_ ∨ P1_2_ k_) ∨ w.heap.size ≤ k_)) (.slice A1_0 l1_0.length c1_0) l1_0 from Kd.V_mono hs1_0 (fun k_ hk => .inl (.inr (.inl hk))))
  have HO1_2 := amk (show Kd.V k46 46 w w.heap.size (fun k_ => ((P0_2_ k_ ∨ P1_0_ k_ ∨ P1_2_ k_) ∨ w.heap.size ≤ k_)) (.slice A1_2 l1_2.length c1_2) l1_2 from Kd.V_mono hs1_2 (fun k_ hk => .inl (.inr (.inr hk))))
  have HB := amk (Below.refl w.heap.size w)
  have H : ((doorwardref18_Few.f k a0_0 a0_1 l0_2).bind fun t104 => (if t104 = true then (if (l1_0.length : Int) > 60 then (doorwardlaw18_MeanRules.j0 k true a0_0 a0_1 l0_2 l1_0 a1_1 l1_2 a1_3 a1_4 a1_5 a1_6 a1_7 a2_0 a2_1 a2_2 a2_3 a2_4 a2_5 a2_6 a2_7 a2_8) else ((doorwardref15_Many.f a1_1 l1_2 a1_3 a1_4 a1_5 a1_6 100).bind fun t105 => (doorwardlaw18_MeanRules.j0 k (decide (t105 > 100)) a0_0 a0_1 l0_2 l1_0 a1_1 l1_2 a1_3 a1_4 a1_5 a1_6 a1_7 a2_0 a2_1 a2_2 a2_3 a2_4 a2_5 a2_6 a2_7 a2_8))) else (doorwardlaw18_MeanRules.j0 k true a0_0 a0_1 l0_2 l1_0 a1_1 l1_2 a1_3 a1_4 a1_5 a1_6 a1_7 a2_0 a2_1 a2_2 a2_3 a2_4 a2_5 a2_6 a2_7 a2_8))) = some r := h
  clear h
  have HC4 := amk H
  clear H
  go_enter Try.func10, Try.ntmps10
  go_upto_region 1 with (first | ((with_reducible refine gate_dst (N := 3) rfl ?_); (try (refine gate_guard (by rfl) ?_; dsimp only)); refine box_event ?hg (N := 3) ?hd (cs := #[.int .u32 a0_0, .int .u32 a0_1, .slice A0_2 l0_2.length c0_2]) (t := 56) ?hr ?_; (case hd => rfl); (case hg => rfl); (case hr => first | (go_simp; done) | (go_simp; rfl)); intro gb101 hg w5 hbox hb; have n0_ := amk (Kd.V_below (Kd.V_elderB (by (with_reducible repeat (first | apply Kd.V_alloc | apply Kd.V_drewN | apply Kd.V_drew)); exact HO0_2.out) gb101 (Nat.le_of_eq hg.symm)) hb); have n1_ := amk (Kd.V_below (Kd.V_elderB (by (with_reducible repeat (first | apply Kd.V_alloc | apply Kd.V_drewN | apply Kd.V_drew)); exact HO1_0.out) gb101 (Nat.le_of_eq hg.symm)) hb); have n2_ := amk (Kd.V_below (Kd.V_elderB (by (with_reducible repeat (first | apply Kd.V_alloc | apply Kd.V_drewN | apply Kd.V_drew)); exact HO1_2.out) gb101 (Nat.le_of_eq hg.symm)) hb); have n3_ := amk (below_step (by repeat (first | (with_reducible first | exact HB.out | apply bal | apply pbd | apply below_drew1) | exact HB.out)) hb); have n4_ := amk (hbox); have n5_ := amk ((by rw [hg]; exact (below_size (by repeat (first | (with_reducible first | exact HB.out | apply bal | apply pbd | apply below_drew1) | exact HB.out))) : w.heap.size ≤ gb101)); have n6_ := amk ((by rw [hg]; exact (below_size (by repeat (first | (with_reducible first | exact HB.out | apply bal | apply pbd | apply below_drew1) | exact HB.out))) : w.heap.size ≤ gb101)); clear HO0_2; clear HO1_0; clear HO1_2; clear HB; have HO0_2 := n0_; have HO1_0 := n1_; have HO1_2 := n2_; have HB := n3_; have BK101 := n4_; have GW101 := n5_; have GE101 := n6_; clear n0_ n1_ n2_ n3_ n4_ n5_ n6_; clear hb hbox hg) | ((with_reducible refine gate_dst (N := 4) rfl ?_); (try (refine gate_guard (by rfl) ?_; dsimp only)); refine box_event ?hg (N := 4) ?hd (cs := #[.slice A1_0 l1_0.length c1_0, .int .i64 a1_1, .slice A1_2 l1_2.length c1_2, .int .i64 a1_3, .int .u64 a1_4, .string a1_5, .int .u64 a1_6, .int .u32 a1_7]) (t := 58) ?hr ?_; (case hd => rfl); (case hg => rfl); (case hr => first | (go_simp; done) | (go_simp; rfl)); intro gb102 hg w6 hbox hb; have n0_ := amk (Kd.V_below (Kd.V_elderB (by (with_reducible repeat (first | apply Kd.V_alloc | apply Kd.V_drewN | apply Kd.V_drew)); exact HO0_2.out) gb102 (Nat.le_of_eq hg.symm)) hb); have n1_ := amk (Kd.V_below (Kd.V_elderB (by (with_reducible repeat (first | apply Kd.V_alloc | apply Kd.V_drewN | apply Kd.V_drew)); exact HO1_0.out) gb102 (Nat.le_of_eq hg.symm)) hb); have n2_ := amk (Kd.V_below (Kd.V_elderB (by (with_reducible repeat (first | apply Kd.V_alloc | apply Kd.V_drewN | apply Kd.V_drew)); exact HO1_2.out) gb102 (Nat.le_of_eq hg.symm)) hb); have n3_ := amk (blk_below (g := gb101) (o := .cells #[.int .u32 a0_0, .int .u32 a0_1, .slice A0_2 l0_2.length c0_2] 56 (0, 0)) (by (with_reducible repeat (first | refine blk_drewN ?_ _ | refine blk_drew ?_ | refine blk_alloc ?_ _)); exact BK101.out) hb); have n4_ := amk (below_step (by repeat (first | (with_reducible first | exact HB.out | apply bal | apply pbd | apply below_drew1 | refine below_set ?_ GE101.out) | exact HB.out)) hb); have n5_ := amk (hbox); have n6_ := amk ((by rw [hg]; exact (below_size (by repeat (first | (with_reducible first | exact HB.out | apply bal | apply pbd | apply below_drew1 | refine below_set ?_ GE101.out) | exact HB.out))) : w.heap.size ≤ gb102)); have n7_ := amk ((by rw [hg]; exact (below_size (by repeat (first | (with_reducible first | exact HB.out | apply bal | apply pbd | apply below_drew1 | refine below_set ?_ GE101.out) | exact HB.out))) : w.heap.size ≤ gb102)); have n8_ := amk ((by rw [hg]; exact Nat.ne_of_lt (blk_lt (g := gb101) (o := .cells #[.int .u32 a0_0, .int .u32 a0_1, .slice A0_2 l0_2.length c0_2] 56 (0, 0)) (by (with_reducible repeat (first | refine blk_drewN ?_ _ | refine blk_drew ?_ | refine blk_alloc ?_ _)); exact BK101.out)) : gb101 ≠ gb102)); have n9_ := amk ((by rw [hg]; exact Nat.ne_of_gt (blk_lt (g := gb101) (o := .cells #[.int .u32 a0_0, .int .u32 a0_1, .slice A0_2 l0_2.length c0_2] 56 (0, 0)) (by (with_reducible repeat (first | refine blk_drewN ?_ _ | refine blk_drew ?_ | refine blk_alloc ?_ _)); exact BK101.out)) : gb102 ≠ gb101)); clear HO0_2; clear HO1_0; clear HO1_2; clear BK101; clear HB; have HO0_2 := n0_; have HO1_0 := n1_; have HO1_2 := n2_; have BK101 := n3_; have HB := n4_; have BK102 := n5_; have GW102 := n6_; have GE102 := n7_; have NB101_102 := n8_; have NB102_101 := n9_; clear n0_ n1_ n2_ n3_ n4_ n5_ n6_ n7_ n8_ n9_; clear hb hbox hg) | ((with_reducible refine gate_dst (N := 5) rfl ?_); (try (refine gate_guard (by rfl) ?_; dsimp only)); refine box_event ?hg (N := 5) ?hd (cs := #[.int .u32 a2_0, .int .u32 a2_1, .int .u64 a2_2, .int .u64 a2_3, .int .u64 a2_4, .int .u64 a2_5, .int .u64 a2_6, .int .u64 a2_7, .int .u64 a2_8]) (t := 49) ?hr ?_; (case hd => rfl); (case hg => rfl); (case hr => first | (go_simp; done) | (go_simp; rfl)); intro gb103 hg w7 hbox hb; have n0_ := amk (Kd.V_below (Kd.V_elderB (by (with_reducible repeat (first | apply Kd.V_alloc | apply Kd.V_drewN | apply Kd.V_drew)); exact HO0_2.out) gb103 (Nat.le_of_eq hg.symm)) hb); have n1_ := amk (Kd.V_below (Kd.V_elderB (by (with_reducible repeat (first | apply Kd.V_alloc | apply Kd.V_drewN | apply Kd.V_drew)); exact HO1_0.out) gb103 (Nat.le_of_eq hg.symm)) hb); have n2_ := amk (Kd.V_below (Kd.V_elderB (by (with_reducible repeat (first | apply Kd.V_alloc | apply Kd.V_drewN | apply Kd.V_drew)); exact HO1_2.out) gb103 (Nat.le_of_eq hg.symm)) hb); have n3_ := amk (blk_below (g := gb101) (o := .cells #[.int .u32 a0_0, .int .u32 a0_1, .slice A0_2 l0_2.length c0_2] 56 (0, 0)) (by (with_reducible repeat (first | refine blk_drewN ?_ _ | refine blk_drew ?_ | refine blk_alloc ?_ _)); exact BK101.out) hb); have n4_ := amk (blk_below (g := gb102) (o := .cells #[.slice A1_0 l1_0.length c1_0, .int .i64 a1_1, .slice A1_2 l1_2.length c1_2, .int .i64 a1_3, .int .u64 a1_4, .string a1_5, .int .u64 a1_6, .int .u32 a1_7] 58 (0, 0)) (by (with_reducible repeat (first | refine blk_drewN ?_ _ | refine blk_drew ?_ | refine blk_alloc ?_ _)); exact BK102.out) hb); have n5_ := amk (below_step (by repeat (first | (with_reducible first | exact HB.out | apply bal | apply pbd | apply below_drew1 | refine below_set ?_ GE101.out | refine below_set ?_ GE102.out) | exact HB.out)) hb); have n6_ := amk (hbox); have n7_ := amk ((by rw [hg]; exact (below_size (by repeat (first | (with_reducible first | exact HB.out | apply bal | apply pbd | apply below_drew1 | refine below_set ?_ GE101.out | refine below_set ?_ GE102.out) | exact HB.out))) : w.heap.size ≤ gb103)); have n8_ := amk ((by rw [hg]; exact (below_size (by repeat (first | (with_reducible first | exact HB.out | apply bal | apply pbd | apply below_drew1 | refine below_set ?_ GE101.out | refine below_set ?_ GE102.out) | exact HB.out))) : w.heap.size ≤ gb103)); have n9_ := amk ((by rw [hg]; exact Nat.ne_of_lt (blk_lt (g := gb101) (o := .cells #[.int .u32 a0_0, .int .u32 a0_1, .slice A0_2 l0_2.length c0_2] 56 (0, 0)) (by (with_reducible repeat (first | refine blk_drewN ?_ _ | refine blk_drew ?_ | refine blk_alloc ?_ _)); exact BK101.out)) : gb101 ≠ gb103)); have n10_ := amk ((by rw [hg]; exact Nat.ne_of_gt (blk_lt (g := gb101) (o := .cells #[.int .u32 a0_0, .int .u32 a0_1, .slice A0_2 l0_2.length c0_2] 56 (0, 0)) (by (with_reducible repeat (first | refine blk_drewN ?_ _ | refine blk_drew ?_ | refine blk_alloc ?_ _)); exact BK101.out)) : gb103 ≠ gb101)); have n11_ := amk ((by rw [hg]; exact Nat.ne_of_lt (blk_lt (g := gb102) (o := .cells #[.slice A1_0 l1_0.length c1_0, .int .i64 a1_1, .slice A1_2 l1_2.length c1_2, .int .i64 a1_3, .int .u64 a1_4, .string a1_5, .int .u64 a1_6, .int .u32 a1_7] 58 (0, 0)) (by (with_reducible repeat (first | refine blk_drewN ?_ _ | refine blk_drew ?_ | refine blk_alloc ?_ _)); exact BK102.out)) : gb102 ≠ gb103)); have n12_ := amk ((by rw [hg]; exact Nat.ne_of_gt (blk_lt (g := gb102) (o := .cells #[.slice A1_0 l1_0.length c1_0, .int .i64 a1_1, .slice A1_2 l1_2.length c1_2, .int .i64 a1_3, .int .u64 a1_4, .string a1_5, .int .u64 a1_6, .int .u32 a1_7] 58 (0, 0)) (by (with_reducible repeat (first | refine blk_drewN ?_ _ | refine blk_drew ?_ | refine blk_alloc ?_ _)); exact BK102.out)) : gb103 ≠ gb102)); clear HO0_2; clear HO1_0; clear HO1_2; clear BK101; clear BK102; clear HB; have HO0_2 := n0_; have HO1_0 := n1_; have HO1_2 := n2_; have BK101 := n3_; have BK102 := n4_; have HB := n5_; have BK103 := n6_; have GW103 := n7_; have GE103 := n8_; have NB101_103 := n9_; have NB103_101 := n10_; have NB102_103 := n11_; have NB103_102 := n12_; clear n0_ n1_ n2_ n3_ n4_ n5_ n6_ n7_ n8_ n9_ n10_ n11_ n12_; clear hb hbox hg))
  (try simp only [Act.put, List.setIfInBounds_toArray, List.set_cons_zero, List.set_cons_succ])
  go_cut [27] (fun v27 wc => ∃ (kq : Nat) (x27_3 : Bool), v27 = .bool x27_3 ∧ Aside0 (doorwardlaw18_MeanRules.j0 kq x27_3 a0_0 a0_1 l0_2 l1_0 a1_1 l1_2 a1_3 a1_4 a1_5 a1_6 a1_7 a2_0 a2_1 a2_2 a2_3 a2_4 a2_5 a2_6 a2_7 a2_8 = some r) ∧ Aside0 (kq ≤ k) ∧ Aside0 (Kd.V k58 58 wc w.heap.size (fun k_ => ((P0_2_ k_ ∨ P1_0_ k_ ∨ P1_2_ k_) ∨ w.heap.size ≤ k_) ∧ k_ ≠ gb101 ∧ k_ ≠ gb102 ∧ k_ ≠ gb103) (.slice A0_2 l0_2.length c0_2) l0_2) ∧ Aside0 (Kd.V (Kd.int .u32) 22 wc w.heap.size (fun k_ => ((P0_2_ k_ ∨ P1_0_ k_ ∨ P1_2_ k_) ∨ w.heap.size ≤ k_) ∧ k_ ≠ gb101 ∧ k_ ≠ gb102 ∧ k_ ≠ gb103) (.slice A1_0 l1_0.length c1_0) l1_0) ∧ Aside0 (Kd.V k46 46 wc w.heap.size (fun k_ => ((P0_2_ k_ ∨ P1_0_ k_ ∨ P1_2_ k_) ∨ w.heap.size ≤ k_) ∧ k_ ≠ gb101 ∧ k_ ≠ gb102 ∧ k_ ≠ gb103) (.slice A1_2 l1_2.length c1_2) l1_2) ∧ Aside0 (wc.heap[gb101]? = some (.cells #[.int .u32 a0_0, .int .u32 a0_1, (.slice A0_2 l0_2.length c0_2)] 56 (0, 0))) ∧ Aside0 (wc.heap[gb102]? = some (.cells #[(.slice A1_0 l1_0.length c1_0), .int .i64 a1_1, (.slice A1_2 l1_2.length c1_2), .int .i64 a1_3, .int .u64 a1_4, .string a1_5, .int .u64 a1_6, .int .u32 a1_7] 58 (0, 0))) ∧ Aside0 (wc.heap[gb103]? = some (.cells #[.int .u32 a2_0, .int .u32 a2_1, .int .u64 a2_2, .int .u64 a2_3, .int .u64 a2_4, .int .u64 a2_5, .int .u64 a2_6, .int .u64 a2_7, .int .u64 a2_8] 49 (0, 0))) ∧ Aside0 (Below w.heap.size w wc))
  case first =>
    have H := HC4.out
    clear HC4
    replace H := Option.bind_eq_some_iff.mp H
    obtain ⟨t104, A80, H⟩ := H
    replace H : (if t104 = true then (if (l1_0.length : Int) > 60 then (doorwardlaw18_MeanRules.j0 k true a0_0 a0_1 l0_2 l1_0 a1_1 l1_2 a1_3 a1_4 a1_5 a1_6 a1_7 a2_0 a2_1 a2_2 a2_3 a2_4 a2_5 a2_6 a2_7 a2_8) else ((doorwardref15_Many.f a1_1 l1_2 a1_3 a1_4 a1_5 a1_6 100).bind fun t105 => (doorwardlaw18_MeanRules.j0 k (decide (t105 > 100)) a0_0 a0_1 l0_2 l1_0 a1_1 l1_2 a1_3 a1_4 a1_5 a1_6 a1_7 a2_0 a2_1 a2_2 a2_3 a2_4 a2_5 a2_6 a2_7 a2_8))) else (doorwardlaw18_MeanRules.j0 k true a0_0 a0_1 l0_2 l1_0 a1_1 l1_2 a1_3 a1_4 a1_5 a1_6 a1_7 a2_0 a2_1 a2_2 a2_3 a2_4 a2_5 a2_6 a2_7 a2_8)) = some r := H
    have A8 := amk A80
    clear A80
    by_cases c9 : t104 = true
    · subst c9
      have H1 : (if (l1_0.length : Int) > 60 then (doorwardlaw18_MeanRules.j0 k true a0_0 a0_1 l0_2 l1_0 a1_1 l1_2 a1_3 a1_4 a1_5 a1_6 a1_7 a2_0 a2_1 a2_2 a2_3 a2_4 a2_5 a2_6 a2_7 a2_8) else ((doorwardref15_Many.f a1_1 l1_2 a1_3 a1_4 a1_5 a1_6 100).bind fun t105 => (doorwardlaw18_MeanRules.j0 k (decide (t105 > 100)) a0_0 a0_1 l0_2 l1_0 a1_1 l1_2 a1_3 a1_4 a1_5 a1_6 a1_7 a2_0 a2_1 a2_2 a2_3 a2_4 a2_5 a2_6 a2_7 a2_8))) = some r := by rw [if_pos rfl] at H; exact H
      clear H
      have H := H1
      clear H1
      by_cases c10 : (l1_0.length : Int) > 60
      · rw [if_pos c10] at H
        have c10b0 : decide (60 < (l1_0.length : Int)) = true := decide_eq_true c10
        have c10b1 : decide (60 < l1_0.length) = true := decide_eq_true (by omega)
        clear c10
        (first | rw [c10b0] | (simp only [i64_w, i32_w]; rw [c10b0]) | skip)
        have H' := amk H
        clear H
        have hnb11 := NB101_102.out
        have hnc11 := NB102_101.out
        have hnb12 := NB101_103.out
        have hnc12 := NB103_101.out
        have hcz13_0 : w7.cell? ⟨gb101, 0, none⟩ = some (.int .u32 a0_0) := (blk_cell BK101.out 0).trans rfl
        have hcz13_1 : w7.cell? ⟨gb101, 1, none⟩ = some (.int .u32 a0_1) := (blk_cell BK101.out 1).trans rfl
        have hcz13_2 : w7.cell? ⟨gb101, 2, none⟩ = some (.slice A0_2 l0_2.length c0_2) := (blk_cell BK101.out 2).trans rfl
        have hfz13_0 := blk_frozen BK101.out 0
        have hfz13_1 := blk_frozen BK101.out 1
        have hfz13_2 := blk_frozen BK101.out 2
        go_wp2_with (first | ((with_reducible refine gate_callee (f := 49) rfl ?_); refine goesL_ (some 14) rfl rfl Try.func49 (by kernel_rfl) rfl #[.agg #[.int .u32 a0_0, .int .u32 a0_1, .slice A0_2 l0_2.length c0_2]] rfl (by (try simp only [List.map_toArray, List.map_cons, List.map_nil]); first | done | rfl | (simp only [List.length_drop, List.length_take]; rfl)) ?_; (with_reducible refine (doorwardref18_Few.calls k a0_0 a0_1 _ _ l0_2 true _ ?side1 ?side2 A8.out).mono ?_); (case side1 => repeat (first | exact (Kd.V_reads' HO0_2.out).2.2 | (with_reducible refine Kd.C_alloc ?_ _) | (with_reducible refine Kd.C_drewN ?_ _) | (with_reducible refine Kd.C_drew ?_))); (case side2 => exact (Kd.V_reads' HO0_2.out).2.1); rintro e w14 ⟨rfl, hb⟩; refine ⟨_, rfl, ?_⟩; have n0_ := amk (Kd.V_below (by (with_reducible repeat (first | apply Kd.V_alloc | apply Kd.V_drewN | apply Kd.V_drew)); exact HO0_2.out) hb); have n1_ := amk (Kd.V_below (by (with_reducible repeat (first | apply Kd.V_alloc | apply Kd.V_drewN | apply Kd.V_drew)); exact HO1_0.out) hb); have n2_ := amk (Kd.V_below (by (with_reducible repeat (first | apply Kd.V_alloc | apply Kd.V_drewN | apply Kd.V_drew)); exact HO1_2.out) hb); have n3_ := amk (blk_below (g := gb101) (o := .cells #[.int .u32 a0_0, .int .u32 a0_1, .slice A0_2 l0_2.length c0_2] 56 (0, 0)) (by (with_reducible repeat (first | refine blk_drewN ?_ _ | refine blk_drew ?_ | refine blk_alloc ?_ _)); exact BK101.out) hb); have n4_ := amk (blk_below (g := gb102) (o := .cells #[.slice A1_0 l1_0.length c1_0, .int .i64 a1_1, .slice A1_2 l1_2.length c1_2, .int .i64 a1_3, .int .u64 a1_4, .string a1_5, .int .u64 a1_6, .int .u32 a1_7] 58 (0, 0)) (by (with_reducible repeat (first | refine blk_drewN ?_ _ | refine blk_drew ?_ | refine blk_alloc ?_ _)); exact BK102.out) hb); have n5_ := amk (blk_below (g := gb103) (o := .cells #[.int .u32 a2_0, .int .u32 a2_1, .int .u64 a2_2, .int .u64 a2_3, .int .u64 a2_4, .int .u64 a2_5, .int .u64 a2_6, .int .u64 a2_7, .int .u64 a2_8] 49 (0, 0)) (by (with_reducible repeat (first | refine blk_drewN ?_ _ | refine blk_drew ?_ | refine blk_alloc ?_ _)); exact BK103.out) hb); have n6_ := amk (below_step (by repeat (first | (with_reducible first | exact HB.out | apply bal | apply pbd | apply below_drew1 | refine below_set ?_ GE101.out | refine below_set ?_ GE102.out | refine below_set ?_ GE103.out) | exact HB.out)) hb); clear HO0_2; clear HO1_0; clear HO1_2; clear BK101; clear BK102; clear BK103; clear HB; have HO0_2 := n0_; have HO1_0 := n1_; have HO1_2 := n2_; have BK101 := n3_; have BK102 := n4_; have BK103 := n5_; have HB := n6_; clear n0_ n1_ n2_ n3_ n4_ n5_ n6_; (try clear hb); (try clear hb2); (try clear hk); (try clear hi); have hnb15 := NB102_103.out; have hnc15 := NB103_102.out; have hcz16_0 : w14.cell? ⟨gb102, 0, none⟩ = some (.slice A1_0 l1_0.length c1_0) := (blk_cell BK102.out 0).trans rfl; have hcz16_1 : w14.cell? ⟨gb102, 1, none⟩ = some (.int .i64 a1_1) := (blk_cell BK102.out 1).trans rfl; have hcz16_2 : w14.cell? ⟨gb102, 2, none⟩ = some (.slice A1_2 l1_2.length c1_2) := (blk_cell BK102.out 2).trans rfl; have hcz16_3 : w14.cell? ⟨gb102, 3, none⟩ = some (.int .i64 a1_3) := (blk_cell BK102.out 3).trans rfl; have hcz16_4 : w14.cell? ⟨gb102, 4, none⟩ = some (.int .u64 a1_4) := (blk_cell BK102.out 4).trans rfl; have hcz16_5 : w14.cell? ⟨gb102, 5, none⟩ = some (.string a1_5) := (blk_cell BK102.out 5).trans rfl; have hcz16_6 : w14.cell? ⟨gb102, 6, none⟩ = some (.int .u64 a1_6) := (blk_cell BK102.out 6).trans rfl; have hcz16_7 : w14.cell? ⟨gb102, 7, none⟩ = some (.int .u32 a1_7) := (blk_cell BK102.out 7).trans rfl; have hfz16_0 := blk_frozen BK102.out 0; have hfz16_1 := blk_frozen BK102.out 1; have hfz16_2 := blk_frozen BK102.out 2; have hfz16_3 := blk_frozen BK102.out 3; have hfz16_4 := blk_frozen BK102.out 4; have hfz16_5 := blk_frozen BK102.out 5; have hfz16_6 := blk_frozen BK102.out 6; have hfz16_7 := blk_frozen BK102.out 7))
        go_meet
        case rel => exact ⟨_, (true), (by first | rfl | (simp; done) | (simp [*]; done)), H', ⟨by first | omega | exact Nat.le_refl _⟩, ⟨by (with_reducible repeat (first | apply Kd.V_alloc | apply Kd.V_drewN | apply Kd.V_drew)); exact Kd.V_mono HO0_2.out (fun _ hk => ⟨hk.1.1.1, ⟨hk.1.1.2, ⟨hk.1.2, hk.2⟩⟩⟩)⟩, ⟨by (with_reducible repeat (first | apply Kd.V_alloc | apply Kd.V_drewN | apply Kd.V_drew)); exact Kd.V_mono HO1_0.out (fun _ hk => ⟨hk.1.1.1, ⟨hk.1.1.2, ⟨hk.1.2, hk.2⟩⟩⟩)⟩, ⟨by (with_reducible repeat (first | apply Kd.V_alloc | apply Kd.V_drewN | apply Kd.V_drew)); exact Kd.V_mono HO1_2.out (fun _ hk => ⟨hk.1.1.1, ⟨hk.1.1.2, ⟨hk.1.2, hk.2⟩⟩⟩)⟩, ⟨by (with_reducible repeat (first | refine blk_drewN ?_ _ | refine blk_drew ?_ | refine blk_alloc ?_ _)); exact BK101.out⟩, ⟨by (with_reducible repeat (first | refine blk_drewN ?_ _ | refine blk_drew ?_ | refine blk_alloc ?_ _)); exact BK102.out⟩, ⟨by (with_reducible repeat (first | refine blk_drewN ?_ _ | refine blk_drew ?_ | refine blk_alloc ?_ _)); exact BK103.out⟩, ⟨by repeat (first | (with_reducible first | exact HB.out | apply bal | apply pbd | apply below_drew1 | refine below_set ?_ GE101.out | refine below_set ?_ GE102.out | refine below_set ?_ GE103.out) | exact HB.out)⟩⟩
      · rw [if_neg c10] at H
        have c10b0 : decide (60 < (l1_0.length : Int)) = false := decide_eq_false c10
        have c10b1 : decide (60 < l1_0.length) = false := decide_eq_false (by omega)
        clear c10
        (first | rw [c10b0] | (simp only [i64_w, i32_w]; rw [c10b0]) | skip)
        replace H := Option.bind_eq_some_iff.mp H
        obtain ⟨t105, A170, H⟩ := H
        replace H : (doorwardlaw18_MeanRules.j0 k (decide (t105 > 100)) a0_0 a0_1 l0_2 l1_0 a1_1 l1_2 a1_3 a1_4 a1_5 a1_6 a1_7 a2_0 a2_1 a2_2 a2_3 a2_4 a2_5 a2_6 a2_7 a2_8) = some r := H
        have A17 := amk A170
        clear A170
        have H' := amk H
        clear H
        have hnb18 := NB101_102.out
        have hnc18 := NB102_101.out
        have hnb19 := NB101_103.out
        have hnc19 := NB103_101.out
        have hcz20_0 : w7.cell? ⟨gb101, 0, none⟩ = some (.int .u32 a0_0) := (blk_cell BK101.out 0).trans rfl
        have hcz20_1 : w7.cell? ⟨gb101, 1, none⟩ = some (.int .u32 a0_1) := (blk_cell BK101.out 1).trans rfl
        have hcz20_2 : w7.cell? ⟨gb101, 2, none⟩ = some (.slice A0_2 l0_2.length c0_2) := (blk_cell BK101.out 2).trans rfl
        have hfz20_0 := blk_frozen BK101.out 0
        have hfz20_1 := blk_frozen BK101.out 1
        have hfz20_2 := blk_frozen BK101.out 2
        go_wp2_with (first | ((with_reducible refine gate_callee (f := 49) rfl ?_); refine goesL_ (some 14) rfl rfl Try.func49 (by kernel_rfl) rfl #[.agg #[.int .u32 a0_0, .int .u32 a0_1, .slice A0_2 l0_2.length c0_2]] rfl (by (try simp only [List.map_toArray, List.map_cons, List.map_nil]); first | done | rfl | (simp only [List.length_drop, List.length_take]; rfl)) ?_; (with_reducible refine (doorwardref18_Few.calls k a0_0 a0_1 _ _ l0_2 true _ ?side1 ?side2 A8.out).mono ?_); (case side1 => repeat (first | exact (Kd.V_reads' HO0_2.out).2.2 | (with_reducible refine Kd.C_alloc ?_ _) | (with_reducible refine Kd.C_drewN ?_ _) | (with_reducible refine Kd.C_drew ?_))); (case side2 => exact (Kd.V_reads' HO0_2.out).2.1); rintro e w21 ⟨rfl, hb⟩; refine ⟨_, rfl, ?_⟩; have n0_ := amk (Kd.V_below (by (with_reducible repeat (first | apply Kd.V_alloc | apply Kd.V_drewN | apply Kd.V_drew)); exact HO0_2.out) hb); have n1_ := amk (Kd.V_below (by (with_reducible repeat (first | apply Kd.V_alloc | apply Kd.V_drewN | apply Kd.V_drew)); exact HO1_0.out) hb); have n2_ := amk (Kd.V_below (by (with_reducible repeat (first | apply Kd.V_alloc | apply Kd.V_drewN | apply Kd.V_drew)); exact HO1_2.out) hb); have n3_ := amk (blk_below (g := gb101) (o := .cells #[.int .u32 a0_0, .int .u32 a0_1, .slice A0_2 l0_2.length c0_2] 56 (0, 0)) (by (with_reducible repeat (first | refine blk_drewN ?_ _ | refine blk_drew ?_ | refine blk_alloc ?_ _)); exact BK101.out) hb); have n4_ := amk (blk_below (g := gb102) (o := .cells #[.slice A1_0 l1_0.length c1_0, .int .i64 a1_1, .slice A1_2 l1_2.length c1_2, .int .i64 a1_3, .int .u64 a1_4, .string a1_5, .int .u64 a1_6, .int .u32 a1_7] 58 (0, 0)) (by (with_reducible repeat (first | refine blk_drewN ?_ _ | refine blk_drew ?_ | refine blk_alloc ?_ _)); exact BK102.out) hb); have n5_ := amk (blk_below (g := gb103) (o := .cells #[.int .u32 a2_0, .int .u32 a2_1, .int .u64 a2_2, .int .u64 a2_3, .int .u64 a2_4, .int .u64 a2_5, .int .u64 a2_6, .int .u64 a2_7, .int .u64 a2_8] 49 (0, 0)) (by (with_reducible repeat (first | refine blk_drewN ?_ _ | refine blk_drew ?_ | refine blk_alloc ?_ _)); exact BK103.out) hb); have n6_ := amk (below_step (by repeat (first | (with_reducible first | exact HB.out | apply bal | apply pbd | apply below_drew1 | refine below_set ?_ GE101.out | refine below_set ?_ GE102.out | refine below_set ?_ GE103.out) | exact HB.out)) hb); clear HO0_2; clear HO1_0; clear HO1_2; clear BK101; clear BK102; clear BK103; clear HB; have HO0_2 := n0_; have HO1_0 := n1_; have HO1_2 := n2_; have BK101 := n3_; have BK102 := n4_; have BK103 := n5_; have HB := n6_; clear n0_ n1_ n2_ n3_ n4_ n5_ n6_; (try clear hb); (try clear hb2); (try clear hk); (try clear hi); have hnb22 := NB102_103.out; have hnc22 := NB103_102.out; have hcz23_0 : w21.cell? ⟨gb102, 0, none⟩ = some (.slice A1_0 l1_0.length c1_0) := (blk_cell BK102.out 0).trans rfl; have hcz23_1 : w21.cell? ⟨gb102, 1, none⟩ = some (.int .i64 a1_1) := (blk_cell BK102.out 1).trans rfl; have hcz23_2 : w21.cell? ⟨gb102, 2, none⟩ = some (.slice A1_2 l1_2.length c1_2) := (blk_cell BK102.out 2).trans rfl; have hcz23_3 : w21.cell? ⟨gb102, 3, none⟩ = some (.int .i64 a1_3) := (blk_cell BK102.out 3).trans rfl; have hcz23_4 : w21.cell? ⟨gb102, 4, none⟩ = some (.int .u64 a1_4) := (blk_cell BK102.out 4).trans rfl; have hcz23_5 : w21.cell? ⟨gb102, 5, none⟩ = some (.string a1_5) := (blk_cell BK102.out 5).trans rfl; have hcz23_6 : w21.cell? ⟨gb102, 6, none⟩ = some (.int .u64 a1_6) := (blk_cell BK102.out 6).trans rfl; have hcz23_7 : w21.cell? ⟨gb102, 7, none⟩ = some (.int .u32 a1_7) := (blk_cell BK102.out 7).trans rfl; have hfz23_0 := blk_frozen BK102.out 0; have hfz23_1 := blk_frozen BK102.out 1; have hfz23_2 := blk_frozen BK102.out 2; have hfz23_3 := blk_frozen BK102.out 3; have hfz23_4 := blk_frozen BK102.out 4; have hfz23_5 := blk_frozen BK102.out 5; have hfz23_6 := blk_frozen BK102.out 6; have hfz23_7 := blk_frozen BK102.out 7) | (go_at_call 43; (with_reducible refine (doorwardref15_Many.calls a1_1 _ _ l1_2 a1_3 a1_4 a1_5 a1_6 100 t105 _ ?side1 ?side2 A17.out).mono ?_); (case side1 => repeat (first | exact (Kd.V_reads' HO1_2.out).2.2 | (with_reducible refine Kd.C_alloc ?_ _) | (with_reducible refine Kd.C_drewN ?_ _) | (with_reducible refine Kd.C_drew ?_))); (case side2 => exact (Kd.V_reads' HO1_2.out).2.1); rintro e w24 ⟨rfl, hb⟩; have n0_ := amk (Kd.V_below (by (with_reducible repeat (first | apply Kd.V_alloc | apply Kd.V_drewN | apply Kd.V_drew)); exact HO0_2.out) hb); have n1_ := amk (Kd.V_below (by (with_reducible repeat (first | apply Kd.V_alloc | apply Kd.V_drewN | apply Kd.V_drew)); exact HO1_0.out) hb); have n2_ := amk (Kd.V_below (by (with_reducible repeat (first | apply Kd.V_alloc | apply Kd.V_drewN | apply Kd.V_drew)); exact HO1_2.out) hb); have n3_ := amk (blk_below (g := gb101) (o := .cells #[.int .u32 a0_0, .int .u32 a0_1, .slice A0_2 l0_2.length c0_2] 56 (0, 0)) (by (with_reducible repeat (first | refine blk_drewN ?_ _ | refine blk_drew ?_ | refine blk_alloc ?_ _)); exact BK101.out) hb); have n4_ := amk (blk_below (g := gb102) (o := .cells #[.slice A1_0 l1_0.length c1_0, .int .i64 a1_1, .slice A1_2 l1_2.length c1_2, .int .i64 a1_3, .int .u64 a1_4, .string a1_5, .int .u64 a1_6, .int .u32 a1_7] 58 (0, 0)) (by (with_reducible repeat (first | refine blk_drewN ?_ _ | refine blk_drew ?_ | refine blk_alloc ?_ _)); exact BK102.out) hb); have n5_ := amk (blk_below (g := gb103) (o := .cells #[.int .u32 a2_0, .int .u32 a2_1, .int .u64 a2_2, .int .u64 a2_3, .int .u64 a2_4, .int .u64 a2_5, .int .u64 a2_6, .int .u64 a2_7, .int .u64 a2_8] 49 (0, 0)) (by (with_reducible repeat (first | refine blk_drewN ?_ _ | refine blk_drew ?_ | refine blk_alloc ?_ _)); exact BK103.out) hb); have n6_ := amk (below_step (by repeat (first | (with_reducible first | exact HB.out | apply bal | apply pbd | apply below_drew1 | refine below_set ?_ GE101.out | refine below_set ?_ GE102.out | refine below_set ?_ GE103.out) | exact HB.out)) hb); clear HO0_2; clear HO1_0; clear HO1_2; clear BK101; clear BK102; clear BK103; clear HB; have HO0_2 := n0_; have HO1_0 := n1_; have HO1_2 := n2_; have BK101 := n3_; have BK102 := n4_; have BK103 := n5_; have HB := n6_; clear n0_ n1_ n2_ n3_ n4_ n5_ n6_; (try clear hb); (try clear hb2); (try clear hk); (try clear hi)))
        go_meet
        case rel => exact ⟨_, (decide (t105 > 100)), (by first | rfl | (simp; done) | (simp [*]; done)), H', ⟨by first | omega | exact Nat.le_refl _⟩, ⟨by (with_reducible repeat (first | apply Kd.V_alloc | apply Kd.V_drewN | apply Kd.V_drew)); exact Kd.V_mono HO0_2.out (fun _ hk => ⟨hk.1.1.1, ⟨hk.1.1.2, ⟨hk.1.2, hk.2⟩⟩⟩)⟩, ⟨by (with_reducible repeat (first | apply Kd.V_alloc | apply Kd.V_drewN | apply Kd.V_drew)); exact Kd.V_mono HO1_0.out (fun _ hk => ⟨hk.1.1.1, ⟨hk.1.1.2, ⟨hk.1.2, hk.2⟩⟩⟩)⟩, ⟨by (with_reducible repeat (first | apply Kd.V_alloc | apply Kd.V_drewN | apply Kd.V_drew)); exact Kd.V_mono HO1_2.out (fun _ hk => ⟨hk.1.1.1, ⟨hk.1.1.2, ⟨hk.1.2, hk.2⟩⟩⟩)⟩, ⟨by (with_reducible repeat (first | refine blk_drewN ?_ _ | refine blk_drew ?_ | refine blk_alloc ?_ _)); exact BK101.out⟩, ⟨by (with_reducible repeat (first | refine blk_drewN ?_ _ | refine blk_drew ?_ | refine blk_alloc ?_ _)); exact BK102.out⟩, ⟨by (with_reducible repeat (first | refine blk_drewN ?_ _ | refine blk_drew ?_ | refine blk_alloc ?_ _)); exact BK103.out⟩, ⟨by repeat (first | (with_reducible first | exact HB.out | apply bal | apply pbd | apply below_drew1 | refine below_set ?_ GE101.out | refine below_set ?_ GE102.out | refine below_set ?_ GE103.out) | exact HB.out)⟩⟩
    · replace c9 := Bool.eq_false_iff.mpr c9
      subst c9
      have H1 : (doorwardlaw18_MeanRules.j0 k true a0_0 a0_1 l0_2 l1_0 a1_1 l1_2 a1_3 a1_4 a1_5 a1_6 a1_7 a2_0 a2_1 a2_2 a2_3 a2_4 a2_5 a2_6 a2_7 a2_8) = some r := by rw [if_neg (show ¬ (false = true) by decide)] at H; exact H
      clear H
      have H := H1
      clear H1
      have H' := amk H
      clear H
      have hnb25 := NB101_102.out
      have hnc25 := NB102_101.out
      have hnb26 := NB101_103.out
      have hnc26 := NB103_101.out
      have hcz27_0 : w7.cell? ⟨gb101, 0, none⟩ = some (.int .u32 a0_0) := (blk_cell BK101.out 0).trans rfl
      have hcz27_1 : w7.cell? ⟨gb101, 1, none⟩ = some (.int .u32 a0_1) := (blk_cell BK101.out 1).trans rfl
      have hcz27_2 : w7.cell? ⟨gb101, 2, none⟩ = some (.slice A0_2 l0_2.length c0_2) := (blk_cell BK101.out 2).trans rfl
      have hfz27_0 := blk_frozen BK101.out 0
      have hfz27_1 := blk_frozen BK101.out 1
      have hfz27_2 := blk_frozen BK101.out 2
      go_wp2_with (first | ((with_reducible refine gate_callee (f := 49) rfl ?_); refine goesL_ (some 14) rfl rfl Try.func49 (by kernel_rfl) rfl #[.agg #[.int .u32 a0_0, .int .u32 a0_1, .slice A0_2 l0_2.length c0_2]] rfl (by (try simp only [List.map_toArray, List.map_cons, List.map_nil]); first | done | rfl | (simp only [List.length_drop, List.length_take]; rfl)) ?_; (with_reducible refine (doorwardref18_Few.calls k a0_0 a0_1 _ _ l0_2 false _ ?side1 ?side2 A8.out).mono ?_); (case side1 => repeat (first | exact (Kd.V_reads' HO0_2.out).2.2 | (with_reducible refine Kd.C_alloc ?_ _) | (with_reducible refine Kd.C_drewN ?_ _) | (with_reducible refine Kd.C_drew ?_))); (case side2 => exact (Kd.V_reads' HO0_2.out).2.1); rintro e w28 ⟨rfl, hb⟩; refine ⟨_, rfl, ?_⟩; have n0_ := amk (Kd.V_below (by (with_reducible repeat (first | apply Kd.V_alloc | apply Kd.V_drewN | apply Kd.V_drew)); exact HO0_2.out) hb); have n1_ := amk (Kd.V_below (by (with_reducible repeat (first | apply Kd.V_alloc | apply Kd.V_drewN | apply Kd.V_drew)); exact HO1_0.out) hb); have n2_ := amk (Kd.V_below (by (with_reducible repeat (first | apply Kd.V_alloc | apply Kd.V_drewN | apply Kd.V_drew)); exact HO1_2.out) hb); have n3_ := amk (blk_below (g := gb101) (o := .cells #[.int .u32 a0_0, .int .u32 a0_1, .slice A0_2 l0_2.length c0_2] 56 (0, 0)) (by (with_reducible repeat (first | refine blk_drewN ?_ _ | refine blk_drew ?_ | refine blk_alloc ?_ _)); exact BK101.out) hb); have n4_ := amk (blk_below (g := gb102) (o := .cells #[.slice A1_0 l1_0.length c1_0, .int .i64 a1_1, .slice A1_2 l1_2.length c1_2, .int .i64 a1_3, .int .u64 a1_4, .string a1_5, .int .u64 a1_6, .int .u32 a1_7] 58 (0, 0)) (by (with_reducible repeat (first | refine blk_drewN ?_ _ | refine blk_drew ?_ | refine blk_alloc ?_ _)); exact BK102.out) hb); have n5_ := amk (blk_below (g := gb103) (o := .cells #[.int .u32 a2_0, .int .u32 a2_1, .int .u64 a2_2, .int .u64 a2_3, .int .u64 a2_4, .int .u64 a2_5, .int .u64 a2_6, .int .u64 a2_7, .int .u64 a2_8] 49 (0, 0)) (by (with_reducible repeat (first | refine blk_drewN ?_ _ | refine blk_drew ?_ | refine blk_alloc ?_ _)); exact BK103.out) hb); have n6_ := amk (below_step (by repeat (first | (with_reducible first | exact HB.out | apply bal | apply pbd | apply below_drew1 | refine below_set ?_ GE101.out | refine below_set ?_ GE102.out | refine below_set ?_ GE103.out) | exact HB.out)) hb); clear HO0_2; clear HO1_0; clear HO1_2; clear BK101; clear BK102; clear BK103; clear HB; have HO0_2 := n0_; have HO1_0 := n1_; have HO1_2 := n2_; have BK101 := n3_; have BK102 := n4_; have BK103 := n5_; have HB := n6_; clear n0_ n1_ n2_ n3_ n4_ n5_ n6_; (try clear hb); (try clear hb2); (try clear hk); (try clear hi)))
      go_meet
      case rel => exact ⟨_, (true), (by first | rfl | (simp; done) | (simp [*]; done)), H', ⟨by first | omega | exact Nat.le_refl _⟩, ⟨by (with_reducible repeat (first | apply Kd.V_alloc | apply Kd.V_drewN | apply Kd.V_drew)); exact Kd.V_mono HO0_2.out (fun _ hk => ⟨hk.1.1.1, ⟨hk.1.1.2, ⟨hk.1.2, hk.2⟩⟩⟩)⟩, ⟨by (with_reducible repeat (first | apply Kd.V_alloc | apply Kd.V_drewN | apply Kd.V_drew)); exact Kd.V_mono HO1_0.out (fun _ hk => ⟨hk.1.1.1, ⟨hk.1.1.2, ⟨hk.1.2, hk.2⟩⟩⟩)⟩, ⟨by (with_reducible repeat (first | apply Kd.V_alloc | apply Kd.V_drewN | apply Kd.V_drew)); exact Kd.V_mono HO1_2.out (fun _ hk => ⟨hk.1.1.1, ⟨hk.1.1.2, ⟨hk.1.2, hk.2⟩⟩⟩)⟩, ⟨by (with_reducible repeat (first | refine blk_drewN ?_ _ | refine blk_drew ?_ | refine blk_alloc ?_ _)); exact BK101.out⟩, ⟨by (with_reducible repeat (first | refine blk_drewN ?_ _ | refine blk_drew ?_ | refine blk_alloc ?_ _)); exact BK102.out⟩, ⟨by (with_reducible repeat (first | refine blk_drewN ?_ _ | refine blk_drew ?_ | refine blk_alloc ?_ _)); exact BK103.out⟩, ⟨by repeat (first | (with_reducible first | exact HB.out | apply bal | apply pbd | apply below_drew1 | refine below_set ?_ GE101.out | refine below_set ?_ GE102.out | refine below_set ?_ GE103.out) | exact HB.out)⟩⟩
  case rest =>
    clear HC4
    try clear c1
    try clear c2
    try clear p2
    try clear c4
    try clear c9
    try clear c10
    try clear c10b0
    try clear c10b1
    try clear c11
    try clear c12
    try clear c15
    try clear c18
    try clear c19
    try clear c22
    try clear c25
    try clear c26
    try clear hcz13_0
    try clear hcz13_1
    try clear hcz13_2
    try clear hcz16_0
    try clear hcz16_1
    try clear hcz16_2
    try clear hcz16_3
    try clear hcz16_4
    try clear hcz16_5
    try clear hcz16_6
    try clear hcz16_7
    try clear hcz20_0
    try clear hcz20_1
    try clear hcz20_2
    try clear hcz23_0
    try clear hcz23_1
    try clear hcz23_2
    try clear hcz23_3
    try clear hcz23_4
    try clear hcz23_5
    try clear hcz23_6
    try clear hcz23_7
    try clear hcz27_0
    try clear hcz27_1
    try clear hcz27_2
    try clear hfz13_0
    try clear hfz13_1
    try clear hfz13_2
    try clear hfz16_0
    try clear hfz16_1
    try clear hfz16_2
    try clear hfz16_3
    try clear hfz16_4
    try clear hfz16_5
    try clear hfz16_6
    try clear hfz16_7
    try clear hfz20_0
    try clear hfz20_1
    try clear hfz20_2
    try clear hfz23_0
    try clear hfz23_1
    try clear hfz23_2
    try clear hfz23_3
    try clear hfz23_4
    try clear hfz23_5
    try clear hfz23_6
    try clear hfz23_7
    try clear hfz27_0
    try clear hfz27_1
    try clear hfz27_2
    obtain ⟨kq, x27_3, rfl, HA, HJ3, HO_102002, HO_103000, HO_103002, BK101, BK102, BK103, HB⟩ := hcut
    cases kq with
    | zero => exact absurd HA.out (by simp [doorwardlaw18_MeanRules.j0])
    | succ kj3 =>
      have H := HA.out
      clear HA
      simp only [doorwardlaw18_MeanRules.j0] at H
      by_cases c29 : x27_3 = true
      · subst c29
        have H1 : ((doorwardlaw18_alive.f kj3).bind fun t106 => (some t106)) = some r := by rw [if_pos rfl] at H; exact H
        clear H
        have H := H1
        clear H1
        replace H := Option.bind_eq_some_iff.mp H
        obtain ⟨t106, A300, H⟩ := H
        replace H : (some t106) = some r := H
        have A30 := amk A300
        clear A300
        obtain rfl := Option.some.inj H
        go_wp2_with (first | ((with_reducible refine gate_callee (f := 44) rfl ?_); refine goesL_ (some 28) rfl rfl Try.func44 (by kernel_rfl) rfl #[] rfl (by (try simp only [List.map_toArray, List.map_cons, List.map_nil]); first | done | rfl | (simp only [List.length_drop, List.length_take]; rfl)) ?_; (with_reducible refine (doorwardlaw18_alive.calls kj3  t106 _ A30.out).mono ?_); rintro e w31 ⟨rfl, hb⟩; refine ⟨_, rfl, ?_⟩; have n0_ := amk (Kd.V_below (by (with_reducible repeat (first | apply Kd.V_alloc | apply Kd.V_drewN | apply Kd.V_drew)); exact HO_102002.out) hb); have n1_ := amk (Kd.V_below (by (with_reducible repeat (first | apply Kd.V_alloc | apply Kd.V_drewN | apply Kd.V_drew)); exact HO_103000.out) hb); have n2_ := amk (Kd.V_below (by (with_reducible repeat (first | apply Kd.V_alloc | apply Kd.V_drewN | apply Kd.V_drew)); exact HO_103002.out) hb); have n3_ := amk (blk_below (g := gb101) (o := .cells #[.int .u32 a0_0, .int .u32 a0_1, .slice A0_2 l0_2.length c0_2] 56 (0, 0)) (by (with_reducible repeat (first | refine blk_drewN ?_ _ | refine blk_drew ?_ | refine blk_alloc ?_ _)); exact BK101.out) hb); have n4_ := amk (blk_below (g := gb102) (o := .cells #[.slice A1_0 l1_0.length c1_0, .int .i64 a1_1, .slice A1_2 l1_2.length c1_2, .int .i64 a1_3, .int .u64 a1_4, .string a1_5, .int .u64 a1_6, .int .u32 a1_7] 58 (0, 0)) (by (with_reducible repeat (first | refine blk_drewN ?_ _ | refine blk_drew ?_ | refine blk_alloc ?_ _)); exact BK102.out) hb); have n5_ := amk (blk_below (g := gb103) (o := .cells #[.int .u32 a2_0, .int .u32 a2_1, .int .u64 a2_2, .int .u64 a2_3, .int .u64 a2_4, .int .u64 a2_5, .int .u64 a2_6, .int .u64 a2_7, .int .u64 a2_8] 49 (0, 0)) (by (with_reducible repeat (first | refine blk_drewN ?_ _ | refine blk_drew ?_ | refine blk_alloc ?_ _)); exact BK103.out) hb); have n6_ := amk (below_step (by repeat (first | (with_reducible first | exact HB.out | apply bal | apply pbd | apply below_drew1 | refine below_set ?_ GE101.out | refine below_set ?_ GE102.out | refine below_set ?_ GE103.out) | exact HB.out)) hb); clear HO_102002; clear HO_103000; clear HO_103002; clear BK101; clear BK102; clear BK103; clear HB; have HO_102002 := n0_; have HO_103000 := n1_; have HO_103002 := n2_; have BK101 := n3_; have BK102 := n4_; have BK103 := n5_; have HB := n6_; clear n0_ n1_ n2_ n3_ n4_ n5_ n6_; (try clear hb); (try clear hb2); (try clear hk); (try clear hi)))
        go_ret
        exact ⟨by first | rfl | (simp [errW_none, errW_some] <;> rfl) | (simp [*, errW_none, errW_some] <;> rfl), by repeat (first | (with_reducible first | exact HB.out | apply bal | apply pbd | apply below_drew1 | refine below_set ?_ GE101.out | refine below_set ?_ GE102.out | refine below_set ?_ GE103.out) | exact HB.out)⟩
      · replace c29 := Bool.eq_false_iff.mpr c29
        subst c29
        have H1 : ((mean_Eval.f kj3 a0_0 a0_1 l0_2 a2_0 a2_1 a2_2 a2_3 a2_4 a2_5 a2_6 a2_7 a2_8).bind fun t107 => ((some (([] : List (S58)) : List (S58))).bind fun y109 => (if y109.length + l0_2.length < 1353245080339 then ((some (y109 ++ l0_2 : List (S58))).bind fun y112 => ((some (([(⟨l1_0, (⟨a1_1, l1_2, a1_3, a1_4, a1_5, a1_6⟩ : S46), a1_7⟩ : S58)] : List (S58)) : List (S58))).bind fun y115 => (if y112.length + y115.length < 1353245080339 then ((mean_Eval.f kj3 a0_0 a0_1 (y112 ++ y115) a2_0 a2_1 a2_2 a2_3 a2_4 a2_5 a2_6 a2_7 a2_8).bind fun t121 => (if t107 = a0_1 then (doorwardlaw18_MeanRules.j1 kj3 t107 t121 true a0_0 a0_1 l0_2 l1_0 a1_1 l1_2 a1_3 a1_4 a1_5 a1_6 a1_7) else (if a2_1 = a0_0 then (doorwardlaw18_MeanRules.j1 kj3 t107 t121 false a0_0 a0_1 l0_2 l1_0 a1_1 l1_2 a1_3 a1_4 a1_5 a1_6 a1_7) else (doorwardlaw18_MeanRules.j1 kj3 t107 t121 (t107 == 2147483648) a0_0 a0_1 l0_2 l1_0 a1_1 l1_2 a1_3 a1_4 a1_5 a1_6 a1_7)))) else (none)))) else (none)))) = some r := by rw [if_neg (show ¬ (false = true) by decide)] at H; exact H
        clear H
        have H := H1
        clear H1
        replace H := Option.bind_eq_some_iff.mp H
        obtain ⟨t107, A320, H⟩ := H
        replace H : ((some (([] : List (S58)) : List (S58))).bind fun y109 => (if y109.length + l0_2.length < 1353245080339 then ((some (y109 ++ l0_2 : List (S58))).bind fun y112 => ((some (([(⟨l1_0, (⟨a1_1, l1_2, a1_3, a1_4, a1_5, a1_6⟩ : S46), a1_7⟩ : S58)] : List (S58)) : List (S58))).bind fun y115 => (if y112.length + y115.length < 1353245080339 then ((mean_Eval.f kj3 a0_0 a0_1 (y112 ++ y115) a2_0 a2_1 a2_2 a2_3 a2_4 a2_5 a2_6 a2_7 a2_8).bind fun t121 => (if t107 = a0_1 then (doorwardlaw18_MeanRules.j1 kj3 t107 t121 true a0_0 a0_1 l0_2 l1_0 a1_1 l1_2 a1_3 a1_4 a1_5 a1_6 a1_7) else (if a2_1 = a0_0 then (doorwardlaw18_MeanRules.j1 kj3 t107 t121 false a0_0 a0_1 l0_2 l1_0 a1_1 l1_2 a1_3 a1_4 a1_5 a1_6 a1_7) else (doorwardlaw18_MeanRules.j1 kj3 t107 t121 (t107 == 2147483648) a0_0 a0_1 l0_2 l1_0 a1_1 l1_2 a1_3 a1_4 a1_5 a1_6 a1_7)))) else (none)))) else (none))) = some r := H
        have A32 := amk A320
        clear A320
        obtain ⟨y109, hy109⟩ : ∃ y_ : List (S58), y_ = (([] : List (S58))) := ⟨_, rfl⟩
        replace H : (if y109.length + l0_2.length < 1353245080339 then ((some (y109 ++ l0_2 : List (S58))).bind fun y112 => ((some (([(⟨l1_0, (⟨a1_1, l1_2, a1_3, a1_4, a1_5, a1_6⟩ : S46), a1_7⟩ : S58)] : List (S58)) : List (S58))).bind fun y115 => (if y112.length + y115.length < 1353245080339 then ((mean_Eval.f kj3 a0_0 a0_1 (y112 ++ y115) a2_0 a2_1 a2_2 a2_3 a2_4 a2_5 a2_6 a2_7 a2_8).bind fun t121 => (if t107 = a0_1 then (doorwardlaw18_MeanRules.j1 kj3 t107 t121 true a0_0 a0_1 l0_2 l1_0 a1_1 l1_2 a1_3 a1_4 a1_5 a1_6 a1_7) else (if a2_1 = a0_0 then (doorwardlaw18_MeanRules.j1 kj3 t107 t121 false a0_0 a0_1 l0_2 l1_0 a1_1 l1_2 a1_3 a1_4 a1_5 a1_6 a1_7) else (doorwardlaw18_MeanRules.j1 kj3 t107 t121 (t107 == 2147483648) a0_0 a0_1 l0_2 l1_0 a1_1 l1_2 a1_3 a1_4 a1_5 a1_6 a1_7)))) else (none)))) else (none)) = some r := by first | (rw [hy109]; with_reducible exact H) | (have H2_ := (Option.bind_some _ _).symm.trans H; rw [hy109]; with_reducible exact H2_) | (have H2_ := (Option.bind_some _ _).symm.trans H; with_reducible exact H2_) | with_reducible exact H | (rw [hy109]; exact H) | exact H
        have Ny109 := amk hy109
        clear hy109
        by_cases c33 : y109.length + l0_2.length < 1353245080339
        · rw [if_pos c33] at H
          have LMc33 := amk c33
          clear c33
          obtain ⟨y112, hy112⟩ : ∃ y_ : List (S58), y_ = (y109 ++ l0_2) := ⟨_, rfl⟩
          replace H : ((some (([(⟨l1_0, (⟨a1_1, l1_2, a1_3, a1_4, a1_5, a1_6⟩ : S46), a1_7⟩ : S58)] : List (S58)) : List (S58))).bind fun y115 => (if y112.length + y115.length < 1353245080339 then ((mean_Eval.f kj3 a0_0 a0_1 (y112 ++ y115) a2_0 a2_1 a2_2 a2_3 a2_4 a2_5 a2_6 a2_7 a2_8).bind fun t121 => (if t107 = a0_1 then (doorwardlaw18_MeanRules.j1 kj3 t107 t121 true a0_0 a0_1 l0_2 l1_0 a1_1 l1_2 a1_3 a1_4 a1_5 a1_6 a1_7) else (if a2_1 = a0_0 then (doorwardlaw18_MeanRules.j1 kj3 t107 t121 false a0_0 a0_1 l0_2 l1_0 a1_1 l1_2 a1_3 a1_4 a1_5 a1_6 a1_7) else (doorwardlaw18_MeanRules.j1 kj3 t107 t121 (t107 == 2147483648) a0_0 a0_1 l0_2 l1_0 a1_1 l1_2 a1_3 a1_4 a1_5 a1_6 a1_7)))) else (none))) = some r := by first | (rw [hy112]; with_reducible exact H) | (have H2_ := (Option.bind_some _ _).symm.trans H; rw [hy112]; with_reducible exact H2_) | (have H2_ := (Option.bind_some _ _).symm.trans H; with_reducible exact H2_) | with_reducible exact H | (rw [hy112]; exact H) | exact H
          have Ny112 := amk hy112
          clear hy112
          obtain ⟨y115, hy115⟩ : ∃ y_ : List (S58), y_ = (([(⟨l1_0, (⟨a1_1, l1_2, a1_3, a1_4, a1_5, a1_6⟩ : S46), a1_7⟩ : S58)] : List (S58))) := ⟨_, rfl⟩
          replace H : (if y112.length + y115.length < 1353245080339 then ((mean_Eval.f kj3 a0_0 a0_1 (y112 ++ y115) a2_0 a2_1 a2_2 a2_3 a2_4 a2_5 a2_6 a2_7 a2_8).bind fun t121 => (if t107 = a0_1 then (doorwardlaw18_MeanRules.j1 kj3 t107 t121 true a0_0 a0_1 l0_2 l1_0 a1_1 l1_2 a1_3 a1_4 a1_5 a1_6 a1_7) else (if a2_1 = a0_0 then (doorwardlaw18_MeanRules.j1 kj3 t107 t121 false a0_0 a0_1 l0_2 l1_0 a1_1 l1_2 a1_3 a1_4 a1_5 a1_6 a1_7) else (doorwardlaw18_MeanRules.j1 kj3 t107 t121 (t107 == 2147483648) a0_0 a0_1 l0_2 l1_0 a1_1 l1_2 a1_3 a1_4 a1_5 a1_6 a1_7)))) else (none)) = some r := by first | (rw [hy115]; with_reducible exact H) | (have H2_ := (Option.bind_some _ _).symm.trans H; rw [hy115]; with_reducible exact H2_) | (have H2_ := (Option.bind_some _ _).symm.trans H; with_reducible exact H2_) | with_reducible exact H | (rw [hy115]; exact H) | exact H
          have Ny115 := amk hy115
          clear hy115
          by_cases c34 : y112.length + y115.length < 1353245080339
          · rw [if_pos c34] at H
            have LMc34 := amk c34
            clear c34
            obtain ⟨y118, hy118⟩ : ∃ y_ : List (S58), y_ = (y112 ++ y115) := ⟨_, rfl⟩
            replace H : ((mean_Eval.f kj3 a0_0 a0_1 y118 a2_0 a2_1 a2_2 a2_3 a2_4 a2_5 a2_6 a2_7 a2_8).bind fun t121 => (if t107 = a0_1 then (doorwardlaw18_MeanRules.j1 kj3 t107 t121 true a0_0 a0_1 l0_2 l1_0 a1_1 l1_2 a1_3 a1_4 a1_5 a1_6 a1_7) else (if a2_1 = a0_0 then (doorwardlaw18_MeanRules.j1 kj3 t107 t121 false a0_0 a0_1 l0_2 l1_0 a1_1 l1_2 a1_3 a1_4 a1_5 a1_6 a1_7) else (doorwardlaw18_MeanRules.j1 kj3 t107 t121 (t107 == 2147483648) a0_0 a0_1 l0_2 l1_0 a1_1 l1_2 a1_3 a1_4 a1_5 a1_6 a1_7)))) = some r := by first | (rw [hy118]; with_reducible exact H) | (have H2_ := (Option.bind_some _ _).symm.trans H; rw [hy118]; with_reducible exact H2_) | (have H2_ := (Option.bind_some _ _).symm.trans H; with_reducible exact H2_) | with_reducible exact H | (rw [hy118]; exact H) | exact H
            have Ny118 := amk hy118
            clear hy118
            replace H := Option.bind_eq_some_iff.mp H
            obtain ⟨t121, A350, H⟩ := H
            replace H : (if t107 = a0_1 then (doorwardlaw18_MeanRules.j1 kj3 t107 t121 true a0_0 a0_1 l0_2 l1_0 a1_1 l1_2 a1_3 a1_4 a1_5 a1_6 a1_7) else (if a2_1 = a0_0 then (doorwardlaw18_MeanRules.j1 kj3 t107 t121 false a0_0 a0_1 l0_2 l1_0 a1_1 l1_2 a1_3 a1_4 a1_5 a1_6 a1_7) else (doorwardlaw18_MeanRules.j1 kj3 t107 t121 (t107 == 2147483648) a0_0 a0_1 l0_2 l1_0 a1_1 l1_2 a1_3 a1_4 a1_5 a1_6 a1_7))) = some r := H
            have A35 := amk A350
            clear A350
            have HC36 := amk H
            clear H
            have hnb37 := NB101_102.out
            have hnc37 := NB102_101.out
            have hnb38 := NB101_103.out
            have hnc38 := NB103_101.out
            have hcz39_0 : wc.cell? ⟨gb101, 0, none⟩ = some (.int .u32 a0_0) := (blk_cell BK101.out 0).trans rfl
            have hcz39_1 : wc.cell? ⟨gb101, 1, none⟩ = some (.int .u32 a0_1) := (blk_cell BK101.out 1).trans rfl
            have hcz39_2 : wc.cell? ⟨gb101, 2, none⟩ = some (.slice A0_2 l0_2.length c0_2) := (blk_cell BK101.out 2).trans rfl
            have hfz39_0 := blk_frozen BK101.out 0
            have hfz39_1 := blk_frozen BK101.out 1
            have hfz39_2 := blk_frozen BK101.out 2
            have hnb40 := NB103_102.out
            have hnc40 := NB102_103.out
            have hcz41_0 : wc.cell? ⟨gb103, 0, none⟩ = some (.int .u32 a2_0) := (blk_cell BK103.out 0).trans rfl
            have hcz41_1 : wc.cell? ⟨gb103, 1, none⟩ = some (.int .u32 a2_1) := (blk_cell BK103.out 1).trans rfl
            have hcz41_2 : wc.cell? ⟨gb103, 2, none⟩ = some (.int .u64 a2_2) := (blk_cell BK103.out 2).trans rfl
            have hcz41_3 : wc.cell? ⟨gb103, 3, none⟩ = some (.int .u64 a2_3) := (blk_cell BK103.out 3).trans rfl
            have hcz41_4 : wc.cell? ⟨gb103, 4, none⟩ = some (.int .u64 a2_4) := (blk_cell BK103.out 4).trans rfl
            have hcz41_5 : wc.cell? ⟨gb103, 5, none⟩ = some (.int .u64 a2_5) := (blk_cell BK103.out 5).trans rfl
            have hcz41_6 : wc.cell? ⟨gb103, 6, none⟩ = some (.int .u64 a2_6) := (blk_cell BK103.out 6).trans rfl
            have hcz41_7 : wc.cell? ⟨gb103, 7, none⟩ = some (.int .u64 a2_7) := (blk_cell BK103.out 7).trans rfl
            have hcz41_8 : wc.cell? ⟨gb103, 8, none⟩ = some (.int .u64 a2_8) := (blk_cell BK103.out 8).trans rfl
            have hfz41_0 := blk_frozen BK103.out 0
            have hfz41_1 := blk_frozen BK103.out 1
            have hfz41_2 := blk_frozen BK103.out 2
            have hfz41_3 := blk_frozen BK103.out 3
            have hfz41_4 := blk_frozen BK103.out 4
            have hfz41_5 := blk_frozen BK103.out 5
            have hfz41_6 := blk_frozen BK103.out 6
            have hfz41_7 := blk_frozen BK103.out 7
            have hfz41_8 := blk_frozen BK103.out 8
            try go_wp2_with (first | ((with_reducible refine gate_callee (f := 50) rfl ?_); refine goesL_ (some 31) rfl rfl Try.func50 (by kernel_rfl) rfl #[.agg #[.int .u32 a0_0, .int .u32 a0_1, .slice A0_2 l0_2.length c0_2], .agg #[.int .u32 a2_0, .int .u32 a2_1, .int .u64 a2_2, .int .u64 a2_3, .int .u64 a2_4, .int .u64 a2_5, .int .u64 a2_6, .int .u64 a2_7, .int .u64 a2_8]] rfl (by (try simp only [List.map_toArray, List.map_cons, List.map_nil]); first | done | rfl | (simp only [List.length_drop, List.length_take]; rfl)) ?_; (with_reducible refine (mean_Eval.calls kj3 a0_0 a0_1 _ _ l0_2 a2_0 a2_1 a2_2 a2_3 a2_4 a2_5 a2_6 a2_7 a2_8 t107 _ ?side1 ?side2 A32.out).mono ?_); (case side1 => repeat (first | exact (Kd.V_reads' HO_102002.out).2.2 | (with_reducible refine Kd.C_alloc ?_ _) | (with_reducible refine Kd.C_drewN ?_ _) | (with_reducible refine Kd.C_drew ?_))); (case side2 => exact (Kd.V_reads' HO_102002.out).2.1); rintro e w42 ⟨rfl, hb⟩; refine ⟨_, rfl, ?_⟩; have n0_ := amk (Kd.V_below (by (with_reducible repeat (first | apply Kd.V_alloc | apply Kd.V_drewN | apply Kd.V_drew)); exact HO_102002.out) hb); have n1_ := amk (Kd.V_below (by (with_reducible repeat (first | apply Kd.V_alloc | apply Kd.V_drewN | apply Kd.V_drew)); exact HO_103000.out) hb); have n2_ := amk (Kd.V_below (by (with_reducible repeat (first | apply Kd.V_alloc | apply Kd.V_drewN | apply Kd.V_drew)); exact HO_103002.out) hb); have n3_ := amk (blk_below (g := gb101) (o := .cells #[.int .u32 a0_0, .int .u32 a0_1, .slice A0_2 l0_2.length c0_2] 56 (0, 0)) (by (with_reducible repeat (first | refine blk_drewN ?_ _ | refine blk_drew ?_ | refine blk_alloc ?_ _)); exact BK101.out) hb); have n4_ := amk (blk_below (g := gb102) (o := .cells #[.slice A1_0 l1_0.length c1_0, .int .i64 a1_1, .slice A1_2 l1_2.length c1_2, .int .i64 a1_3, .int .u64 a1_4, .string a1_5, .int .u64 a1_6, .int .u32 a1_7] 58 (0, 0)) (by (with_reducible repeat (first | refine blk_drewN ?_ _ | refine blk_drew ?_ | refine blk_alloc ?_ _)); exact BK102.out) hb); have n5_ := amk (blk_below (g := gb103) (o := .cells #[.int .u32 a2_0, .int .u32 a2_1, .int .u64 a2_2, .int .u64 a2_3, .int .u64 a2_4, .int .u64 a2_5, .int .u64 a2_6, .int .u64 a2_7, .int .u64 a2_8] 49 (0, 0)) (by (with_reducible repeat (first | refine blk_drewN ?_ _ | refine blk_drew ?_ | refine blk_alloc ?_ _)); exact BK103.out) hb); have n6_ := amk (below_step (by repeat (first | (with_reducible first | exact HB.out | apply bal | apply pbd | apply below_drew1 | refine below_set ?_ GE101.out | refine below_set ?_ GE102.out | refine below_set ?_ GE103.out) | exact HB.out)) hb); clear HO_102002; clear HO_103000; clear HO_103002; clear BK101; clear BK102; clear BK103; clear HB; have HO_102002 := n0_; have HO_103000 := n1_; have HO_103002 := n2_; have BK101 := n3_; have BK102 := n4_; have BK103 := n5_; have HB := n6_; clear n0_ n1_ n2_ n3_ n4_ n5_ n6_; (try clear hb); (try clear hb2); (try clear hk); (try clear hi); have hcz43_0 : w42.cell? ⟨gb101, 0, none⟩ = some (.int .u32 a0_0) := (blk_cell BK101.out 0).trans rfl; have hcz43_1 : w42.cell? ⟨gb101, 1, none⟩ = some (.int .u32 a0_1) := (blk_cell BK101.out 1).trans rfl; have hcz43_2 : w42.cell? ⟨gb101, 2, none⟩ = some (.slice A0_2 l0_2.length c0_2) := (blk_cell BK101.out 2).trans rfl; have hfz43_0 := blk_frozen BK101.out 0; have hfz43_1 := blk_frozen BK101.out 1; have hfz43_2 := blk_frozen BK101.out 2) | ((with_reducible refine gate_dst (N := 8) rfl ?_); (try (refine gate_guard (by rfl) ?_; dsimp only)); refine box_event ?hg (N := 8) ?hd (cs := #[.int .u32 0, .int .u32 0, .slice none 0 0]) (t := 56) ?hr ?_; (case hd => rfl); (case hg => rfl); (case hr => first | (go_simp; done) | (go_simp; rfl)); intro gb108 hg w44 hbox hb; have n0_ := amk (Kd.V_below (Kd.V_elderB (by (with_reducible repeat (first | apply Kd.V_alloc | apply Kd.V_drewN | apply Kd.V_drew)); exact HO_102002.out) gb108 (Nat.le_of_eq hg.symm)) hb); have n1_ := amk (Kd.V_below (Kd.V_elderB (by (with_reducible repeat (first | apply Kd.V_alloc | apply Kd.V_drewN | apply Kd.V_drew)); exact HO_103000.out) gb108 (Nat.le_of_eq hg.symm)) hb); have n2_ := amk (Kd.V_below (Kd.V_elderB (by (with_reducible repeat (first | apply Kd.V_alloc | apply Kd.V_drewN | apply Kd.V_drew)); exact HO_103002.out) gb108 (Nat.le_of_eq hg.symm)) hb); have n3_ := amk (blk_below (g := gb101) (o := .cells #[.int .u32 a0_0, .int .u32 a0_1, .slice A0_2 l0_2.length c0_2] 56 (0, 0)) (by (with_reducible repeat (first | refine blk_drewN ?_ _ | refine blk_drew ?_ | refine blk_alloc ?_ _)); exact BK101.out) hb); have n4_ := amk (blk_below (g := gb102) (o := .cells #[.slice A1_0 l1_0.length c1_0, .int .i64 a1_1, .slice A1_2 l1_2.length c1_2, .int .i64 a1_3, .int .u64 a1_4, .string a1_5, .int .u64 a1_6, .int .u32 a1_7] 58 (0, 0)) (by (with_reducible repeat (first | refine blk_drewN ?_ _ | refine blk_drew ?_ | refine blk_alloc ?_ _)); exact BK102.out) hb); have n5_ := amk (blk_below (g := gb103) (o := .cells #[.int .u32 a2_0, .int .u32 a2_1, .int .u64 a2_2, .int .u64 a2_3, .int .u64 a2_4, .int .u64 a2_5, .int .u64 a2_6, .int .u64 a2_7, .int .u64 a2_8] 49 (0, 0)) (by (with_reducible repeat (first | refine blk_drewN ?_ _ | refine blk_drew ?_ | refine blk_alloc ?_ _)); exact BK103.out) hb); have n6_ := amk (below_step (by repeat (first | (with_reducible first | exact HB.out | apply bal | apply pbd | apply below_drew1 | refine below_set ?_ GE101.out | refine below_set ?_ GE102.out | refine below_set ?_ GE103.out) | exact HB.out)) hb); have n7_ := amk (hbox); have n8_ := amk ((by rw [hg]; exact (below_size (by repeat (first | (with_reducible first | exact HB.out | apply bal | apply pbd | apply below_drew1 | refine below_set ?_ GE101.out | refine below_set ?_ GE102.out | refine below_set ?_ GE103.out) | exact HB.out))) : w.heap.size ≤ gb108)); have n9_ := amk ((by rw [hg]; exact (below_size (by repeat (first | (with_reducible first | exact HB.out | apply bal | apply pbd | apply below_drew1 | refine below_set ?_ GE101.out | refine below_set ?_ GE102.out | refine below_set ?_ GE103.out) | exact HB.out))) : w.heap.size ≤ gb108)); have n10_ := amk ((by rw [hg]; exact Nat.ne_of_lt (blk_lt (g := gb101) (o := .cells #[.int .u32 a0_0, .int .u32 a0_1, .slice A0_2 l0_2.length c0_2] 56 (0, 0)) (by (with_reducible repeat (first | refine blk_drewN ?_ _ | refine blk_drew ?_ | refine blk_alloc ?_ _)); exact BK101.out)) : gb101 ≠ gb108)); have n11_ := amk ((by rw [hg]; exact Nat.ne_of_gt (blk_lt (g := gb101) (o := .cells #[.int .u32 a0_0, .int .u32 a0_1, .slice A0_2 l0_2.length c0_2] 56 (0, 0)) (by (with_reducible repeat (first | refine blk_drewN ?_ _ | refine blk_drew ?_ | refine blk_alloc ?_ _)); exact BK101.out)) : gb108 ≠ gb101)); have n12_ := amk ((by rw [hg]; exact Nat.ne_of_lt (blk_lt (g := gb102) (o := .cells #[.slice A1_0 l1_0.length c1_0, .int .i64 a1_1, .slice A1_2 l1_2.length c1_2, .int .i64 a1_3, .int .u64 a1_4, .string a1_5, .int .u64 a1_6, .int .u32 a1_7] 58 (0, 0)) (by (with_reducible repeat (first | refine blk_drewN ?_ _ | refine blk_drew ?_ | refine blk_alloc ?_ _)); exact BK102.out)) : gb102 ≠ gb108)); have n13_ := amk ((by rw [hg]; exact Nat.ne_of_gt (blk_lt (g := gb102) (o := .cells #[.slice A1_0 l1_0.length c1_0, .int .i64 a1_1, .slice A1_2 l1_2.length c1_2, .int .i64 a1_3, .int .u64 a1_4, .string a1_5, .int .u64 a1_6, .int .u32 a1_7] 58 (0, 0)) (by (with_reducible repeat (first | refine blk_drewN ?_ _ | refine blk_drew ?_ | refine blk_alloc ?_ _)); exact BK102.out)) : gb108 ≠ gb102)); have n14_ := amk ((by rw [hg]; exact Nat.ne_of_lt (blk_lt (g := gb103) (o := .cells #[.int .u32 a2_0, .int .u32 a2_1, .int .u64 a2_2, .int .u64 a2_3, .int .u64 a2_4, .int .u64 a2_5, .int .u64 a2_6, .int .u64 a2_7, .int .u64 a2_8] 49 (0, 0)) (by (with_reducible repeat (first | refine blk_drewN ?_ _ | refine blk_drew ?_ | refine blk_alloc ?_ _)); exact BK103.out)) : gb103 ≠ gb108)); have n15_ := amk ((by rw [hg]; exact Nat.ne_of_gt (blk_lt (g := gb103) (o := .cells #[.int .u32 a2_0, .int .u32 a2_1, .int .u64 a2_2, .int .u64 a2_3, .int .u64 a2_4, .int .u64 a2_5, .int .u64 a2_6, .int .u64 a2_7, .int .u64 a2_8] 49 (0, 0)) (by (with_reducible repeat (first | refine blk_drewN ?_ _ | refine blk_drew ?_ | refine blk_alloc ?_ _)); exact BK103.out)) : gb108 ≠ gb103)); clear HO_102002; clear HO_103000; clear HO_103002; clear BK101; clear BK102; clear BK103; clear HB; have HO_102002 := n0_; have HO_103000 := n1_; have HO_103002 := n2_; have BK101 := n3_; have BK102 := n4_; have BK103 := n5_; have HB := n6_; have BK108 := n7_; have GW108 := n8_; have GE108 := n9_; have NB101_108 := n10_; have NB108_101 := n11_; have NB102_108 := n12_; have NB108_102 := n13_; have NB103_108 := n14_; have NB108_103 := n15_; clear n0_ n1_ n2_ n3_ n4_ n5_ n6_ n7_ n8_ n9_ n10_ n11_ n12_ n13_ n14_ n15_; clear hb hbox hg; have hnb45 := NB108_101.out; have hnc45 := NB101_108.out; have hnb46 := NB108_102.out; have hnc46 := NB102_108.out; have hnb47 := NB108_103.out; have hnc47 := NB103_108.out; have hcz48_0 : w44.cell? ⟨gb108, 0, none⟩ = some (.int .u32 0) := (blk_cell BK108.out 0).trans rfl; have hcz48_1 : w44.cell? ⟨gb108, 1, none⟩ = some (.int .u32 0) := (blk_cell BK108.out 1).trans rfl; have hcz48_2 : w44.cell? ⟨gb108, 2, none⟩ = some (.slice none 0 0) := (blk_cell BK108.out 2).trans rfl; have hfz48_0 := blk_frozen BK108.out 0; have hfz48_1 := blk_frozen BK108.out 1; have hfz48_2 := blk_frozen BK108.out 2))
            have n0_ : Aside0 (Kd.V k58 58 (((w44.setCell ⟨gb108, 0, none⟩ (.int .u32 a0_0)).setCell ⟨gb108, 1, none⟩ (.int .u32 a0_1)).setCell ⟨gb108, 2, none⟩ (.slice A0_2 l0_2.length c0_2)) w.heap.size (fun k_ => ((P0_2_ k_ ∨ P1_0_ k_ ∨ P1_2_ k_) ∨ w.heap.size ≤ k_) ∧ k_ ≠ gb101 ∧ k_ ≠ gb102 ∧ k_ ≠ gb103 ∧ k_ ≠ gb108) (.slice A0_2 l0_2.length c0_2) l0_2) := ⟨by (with_reducible repeat (first | apply Kd.V_alloc | apply Kd.V_drewN | apply Kd.V_drew)); exact Kd.V_mono (Kd.V_far (p := ⟨gb108, 2, none⟩) (Kd.V_far (p := ⟨gb108, 1, none⟩) (Kd.V_far (p := ⟨gb108, 0, none⟩) (Kd.V_mono HO_102002.out (fun k_ hk => (⟨hk, hk.2⟩ : _ ∧ k_ ≠ gb108))) (fun _ hk => hk.2) (.int .u32 a0_0)) (fun _ hk => hk.2) (.int .u32 a0_1)) (fun _ hk => hk.2) (.slice A0_2 l0_2.length c0_2)) (fun _ hk => ⟨hk.1.1.1, ⟨hk.1.1.2.1, ⟨hk.1.1.2.2.1, ⟨hk.1.1.2.2.2, hk.1.2⟩⟩⟩⟩)⟩
            have n1_ : Aside0 (Kd.V (Kd.int .u32) 22 (((w44.setCell ⟨gb108, 0, none⟩ (.int .u32 a0_0)).setCell ⟨gb108, 1, none⟩ (.int .u32 a0_1)).setCell ⟨gb108, 2, none⟩ (.slice A0_2 l0_2.length c0_2)) w.heap.size (fun k_ => ((P0_2_ k_ ∨ P1_0_ k_ ∨ P1_2_ k_) ∨ w.heap.size ≤ k_) ∧ k_ ≠ gb101 ∧ k_ ≠ gb102 ∧ k_ ≠ gb103 ∧ k_ ≠ gb108) (.slice A1_0 l1_0.length c1_0) l1_0) := ⟨by (with_reducible repeat (first | apply Kd.V_alloc | apply Kd.V_drewN | apply Kd.V_drew)); exact Kd.V_mono (Kd.V_far (p := ⟨gb108, 2, none⟩) (Kd.V_far (p := ⟨gb108, 1, none⟩) (Kd.V_far (p := ⟨gb108, 0, none⟩) (Kd.V_mono HO_103000.out (fun k_ hk => (⟨hk, hk.2⟩ : _ ∧ k_ ≠ gb108))) (fun _ hk => hk.2) (.int .u32 a0_0)) (fun _ hk => hk.2) (.int .u32 a0_1)) (fun _ hk => hk.2) (.slice A0_2 l0_2.length c0_2)) (fun _ hk => ⟨hk.1.1.1, ⟨hk.1.1.2.1, ⟨hk.1.1.2.2.1, ⟨hk.1.1.2.2.2, hk.1.2⟩⟩⟩⟩)⟩
            have n2_ : Aside0 (Kd.V k46 46 (((w44.setCell ⟨gb108, 0, none⟩ (.int .u32 a0_0)).setCell ⟨gb108, 1, none⟩ (.int .u32 a0_1)).setCell ⟨gb108, 2, none⟩ (.slice A0_2 l0_2.length c0_2)) w.heap.size (fun k_ => ((P0_2_ k_ ∨ P1_0_ k_ ∨ P1_2_ k_) ∨ w.heap.size ≤ k_) ∧ k_ ≠ gb101 ∧ k_ ≠ gb102 ∧ k_ ≠ gb103 ∧ k_ ≠ gb108) (.slice A1_2 l1_2.length c1_2) l1_2) := ⟨by (with_reducible repeat (first | apply Kd.V_alloc | apply Kd.V_drewN | apply Kd.V_drew)); exact Kd.V_mono (Kd.V_far (p := ⟨gb108, 2, none⟩) (Kd.V_far (p := ⟨gb108, 1, none⟩) (Kd.V_far (p := ⟨gb108, 0, none⟩) (Kd.V_mono HO_103002.out (fun k_ hk => (⟨hk, hk.2⟩ : _ ∧ k_ ≠ gb108))) (fun _ hk => hk.2) (.int .u32 a0_0)) (fun _ hk => hk.2) (.int .u32 a0_1)) (fun _ hk => hk.2) (.slice A0_2 l0_2.length c0_2)) (fun _ hk => ⟨hk.1.1.1, ⟨hk.1.1.2.1, ⟨hk.1.1.2.2.1, ⟨hk.1.1.2.2.2, hk.1.2⟩⟩⟩⟩)⟩
            have n3_ : Aside0 ((((w44.setCell ⟨gb108, 0, none⟩ (.int .u32 a0_0)).setCell ⟨gb108, 1, none⟩ (.int .u32 a0_1)).setCell ⟨gb108, 2, none⟩ (.slice A0_2 l0_2.length c0_2)).heap[gb101]? = some (.cells #[.int .u32 a0_0, .int .u32 a0_1, .slice A0_2 l0_2.length c0_2] 56 (0, 0))) := ⟨by (with_reducible repeat (first | refine blk_drewN ?_ _ | refine blk_drew ?_ | refine blk_alloc ?_ _)); refine blk_far ?_ NB101_108.out _; (with_reducible repeat (first | refine blk_drewN ?_ _ | refine blk_drew ?_ | refine blk_alloc ?_ _)); refine blk_far ?_ NB101_108.out _; (with_reducible repeat (first | refine blk_drewN ?_ _ | refine blk_drew ?_ | refine blk_alloc ?_ _)); refine blk_far ?_ NB101_108.out _; (with_reducible repeat (first | refine blk_drewN ?_ _ | refine blk_drew ?_ | refine blk_alloc ?_ _)); exact BK101.out⟩
            have n4_ : Aside0 ((((w44.setCell ⟨gb108, 0, none⟩ (.int .u32 a0_0)).setCell ⟨gb108, 1, none⟩ (.int .u32 a0_1)).setCell ⟨gb108, 2, none⟩ (.slice A0_2 l0_2.length c0_2)).heap[gb102]? = some (.cells #[.slice A1_0 l1_0.length c1_0, .int .i64 a1_1, .slice A1_2 l1_2.length c1_2, .int .i64 a1_3, .int .u64 a1_4, .string a1_5, .int .u64 a1_6, .int .u32 a1_7] 58 (0, 0))) := ⟨by (with_reducible repeat (first | refine blk_drewN ?_ _ | refine blk_drew ?_ | refine blk_alloc ?_ _)); refine blk_far ?_ NB102_108.out _; (with_reducible repeat (first | refine blk_drewN ?_ _ | refine blk_drew ?_ | refine blk_alloc ?_ _)); refine blk_far ?_ NB102_108.out _; (with_reducible repeat (first | refine blk_drewN ?_ _ | refine blk_drew ?_ | refine blk_alloc ?_ _)); refine blk_far ?_ NB102_108.out _; (with_reducible repeat (first | refine blk_drewN ?_ _ | refine blk_drew ?_ | refine blk_alloc ?_ _)); exact BK102.out⟩
            have n5_ : Aside0 ((((w44.setCell ⟨gb108, 0, none⟩ (.int .u32 a0_0)).setCell ⟨gb108, 1, none⟩ (.int .u32 a0_1)).setCell ⟨gb108, 2, none⟩ (.slice A0_2 l0_2.length c0_2)).heap[gb103]? = some (.cells #[.int .u32 a2_0, .int .u32 a2_1, .int .u64 a2_2, .int .u64 a2_3, .int .u64 a2_4, .int .u64 a2_5, .int .u64 a2_6, .int .u64 a2_7, .int .u64 a2_8] 49 (0, 0))) := ⟨by (with_reducible repeat (first | refine blk_drewN ?_ _ | refine blk_drew ?_ | refine blk_alloc ?_ _)); refine blk_far ?_ NB103_108.out _; (with_reducible repeat (first | refine blk_drewN ?_ _ | refine blk_drew ?_ | refine blk_alloc ?_ _)); refine blk_far ?_ NB103_108.out _; (with_reducible repeat (first | refine blk_drewN ?_ _ | refine blk_drew ?_ | refine blk_alloc ?_ _)); refine blk_far ?_ NB103_108.out _; (with_reducible repeat (first | refine blk_drewN ?_ _ | refine blk_drew ?_ | refine blk_alloc ?_ _)); exact BK103.out⟩
            have n6_ : Aside0 ((((w44.setCell ⟨gb108, 0, none⟩ (.int .u32 a0_0)).setCell ⟨gb108, 1, none⟩ (.int .u32 a0_1)).setCell ⟨gb108, 2, none⟩ (.slice A0_2 l0_2.length c0_2)).heap[gb108]? = some (.cells #[.int .u32 a0_0, .int .u32 a0_1, .slice A0_2 l0_2.length c0_2] 56 (0, 0))) := ⟨by (with_reducible repeat (first | refine blk_drewN ?_ _ | refine blk_drew ?_ | refine blk_alloc ?_ _)); refine blk_put (cs := #[.int .u32 a0_0, .int .u32 a0_1, .slice none 0 0]) ?_ 2 _ rfl; (with_reducible repeat (first | refine blk_drewN ?_ _ | refine blk_drew ?_ | refine blk_alloc ?_ _)); refine blk_put (cs := #[.int .u32 a0_0, .int .u32 0, .slice none 0 0]) ?_ 1 _ rfl; (with_reducible repeat (first | refine blk_drewN ?_ _ | refine blk_drew ?_ | refine blk_alloc ?_ _)); refine blk_put (cs := #[.int .u32 0, .int .u32 0, .slice none 0 0]) ?_ 0 _ rfl; (with_reducible repeat (first | refine blk_drewN ?_ _ | refine blk_drew ?_ | refine blk_alloc ?_ _)); exact BK108.out⟩
            have n7_ : Aside0 (Below w.heap.size w (((w44.setCell ⟨gb108, 0, none⟩ (.int .u32 a0_0)).setCell ⟨gb108, 1, none⟩ (.int .u32 a0_1)).setCell ⟨gb108, 2, none⟩ (.slice A0_2 l0_2.length c0_2))) := ⟨by repeat (first | (with_reducible first | exact HB.out | apply bal | apply pbd | apply below_drew1 | refine below_set ?_ GE101.out | refine below_set ?_ GE102.out | refine below_set ?_ GE103.out | refine below_set ?_ GE108.out) | exact HB.out)⟩
            (try clear HO_102002)
            (try clear HO_103000)
            (try clear HO_103002)
            (try clear BK101)
            (try clear BK102)
            (try clear BK103)
            (try clear BK108)
            (try clear HB)
            generalize (((w44.setCell ⟨gb108, 0, none⟩ (.int .u32 a0_0)).setCell ⟨gb108, 1, none⟩ (.int .u32 a0_1)).setCell ⟨gb108, 2, none⟩ (.slice A0_2 l0_2.length c0_2)) = w49 at n0_ n1_ n2_ n3_ n4_ n5_ n6_ n7_ ⊢
            have HO_102002 := n0_
            have HO_103000 := n1_
            have HO_103002 := n2_
            have BK101 := n3_
            have BK102 := n4_
            have BK103 := n5_
            have BK108 := n6_
            have HB := n7_
            clear n0_ n1_ n2_ n3_ n4_ n5_ n6_ n7_
            have n0_ := amk (Kd.V_drew HO_102002.out)
            have n1_ := amk (Kd.V_drew HO_103000.out)
            have n2_ := amk (Kd.V_drew HO_103002.out)
            have n3_ := amk (blk_drew BK101.out)
            have n4_ := amk (blk_drew BK102.out)
            have n5_ := amk (blk_drew BK103.out)
            have n6_ := amk (blk_drew BK108.out)
            have n7_ := amk (below_drew1 HB.out)
            clear HO_102002
            clear HO_103000
            clear HO_103002
            clear BK101
            clear BK102
            clear BK103
            clear BK108
            clear HB
            have HO_102002 := n0_
            have HO_103000 := n1_
            have HO_103002 := n2_
            have BK101 := n3_
            have BK102 := n4_
            have BK103 := n5_
            have BK108 := n6_
            have HB := n7_
            clear n0_ n1_ n2_ n3_ n4_ n5_ n6_ n7_
            refine start_ (n := 9) (S := fun w' => w'.cell? ⟨gb101, 0, none⟩ = some (.int .u32 a0_0) ∧ w'.cell? ⟨gb101, 1, none⟩ = some (.int .u32 a0_1) ∧ w'.cell? ⟨gb101, 2, none⟩ = some (.slice A0_2 l0_2.length c0_2) ∧ w'.cell? ⟨gb102, 0, none⟩ = some (.slice A1_0 l1_0.length c1_0) ∧ w'.cell? ⟨gb102, 1, none⟩ = some (.int .i64 a1_1) ∧ w'.cell? ⟨gb102, 2, none⟩ = some (.slice A1_2 l1_2.length c1_2) ∧ w'.cell? ⟨gb102, 3, none⟩ = some (.int .i64 a1_3) ∧ w'.cell? ⟨gb102, 4, none⟩ = some (.int .u64 a1_4) ∧ w'.cell? ⟨gb102, 5, none⟩ = some (.string a1_5) ∧ w'.cell? ⟨gb102, 6, none⟩ = some (.int .u64 a1_6) ∧ w'.cell? ⟨gb102, 7, none⟩ = some (.int .u32 a1_7)) (ds := []) #[false, false, false, false, false, false, false, false, false] (by kernel_rfl) rfl rfl ⟨(blk_cell BK101.out 0).trans rfl, (blk_cell BK101.out 1).trans rfl, (blk_cell BK101.out 2).trans rfl, (blk_cell BK102.out 0).trans rfl, (blk_cell BK102.out 1).trans rfl, (blk_cell BK102.out 2).trans rfl, (blk_cell BK102.out 3).trans rfl, (blk_cell BK102.out 4).trans rfl, (blk_cell BK102.out 5).trans rfl, (blk_cell BK102.out 6).trans rfl, (blk_cell BK102.out 7).trans rfl⟩ (fun hHeld => ?_); refine with_tabW doorwardlaw18_MeanRules.tab5 doorwardlaw18_MeanRules.bits5 (fun HT_ HW_ => ?_)
            generalize w49.drew = w50 at HO_102002 HO_103000 HO_103002 BK101 BK102 BK103 BK108 HB hHeld ⊢
            refine pure_ (i := 1) (N := some 34) (v := ?_) (a' := ?_) #[false, true, false, false, false, false, false, false, false] rfl rfl (any_of HT_.out (by kernel_rfl)) (fun _ _ _ h => h) (Or.inl ⟨by rfl, ?_⟩) ?_ ?_
            rotate_left
            · intro w'
              go_simp
              with_reducible rfl
            rotate_left
            · simp only [Act.put, List.setIfInBounds_toArray, List.set_cons_zero, List.set_cons_succ, i64_w, i32_w]
              rfl
            refine take_ (i := 2) (N := some 35) (v := ?_) (a' := ?_) #[false, true, true, false, false, false, false, false, false] rfl rfl (take_ofW HT_.out HW_.out (by kernel_rfl)) (fun _ _ _ h => h) (Or.inl ⟨by rfl, ?_⟩) hHeld ?_ ?_
            rotate_left
            · rintro w' ⟨s0, s1, s2, s3, s4, s5, s6, s7, s8, s9, s10⟩
              go_simp
              with_reducible rfl
            rotate_left
            · simp only [Act.put, List.setIfInBounds_toArray, List.set_cons_zero, List.set_cons_succ, i64_w, i32_w]
              rfl
            refine take_ (i := 4) (N := some 37) (v := ?_) (a' := ?_) #[false, true, true, false, true, false, false, false, false] rfl rfl (take_ofW HT_.out HW_.out (by kernel_rfl)) (fun _ _ _ h => h) (Or.inl ⟨by rfl, ?_⟩) hHeld ?_ ?_
            rotate_left
            · rintro w' ⟨s0, s1, s2, s3, s4, s5, s6, s7, s8, s9, s10⟩
              go_simp
              with_reducible rfl
            rotate_left
            · simp only [Act.put, List.setIfInBounds_toArray, List.set_cons_zero, List.set_cons_succ, i64_w, i32_w]
              rfl
            refine join_ (σ := Value × Value × Value) 3 #[true, true, true, true, true, true, false, false, false] (fun s_ => [(33, s_.1), (36, s_.2.1), (38, s_.2.2)]) (fun s_ w' => (w'.cell? ⟨gb101, 0, none⟩ = some (.int .u32 a0_0) ∧ w'.cell? ⟨gb101, 1, none⟩ = some (.int .u32 a0_1) ∧ w'.cell? ⟨gb101, 2, none⟩ = some (.slice A0_2 l0_2.length c0_2) ∧ w'.cell? ⟨gb102, 0, none⟩ = some (.slice A1_0 l1_0.length c1_0) ∧ w'.cell? ⟨gb102, 1, none⟩ = some (.int .i64 a1_1) ∧ w'.cell? ⟨gb102, 2, none⟩ = some (.slice A1_2 l1_2.length c1_2) ∧ w'.cell? ⟨gb102, 3, none⟩ = some (.int .i64 a1_3) ∧ w'.cell? ⟨gb102, 4, none⟩ = some (.int .u64 a1_4) ∧ w'.cell? ⟨gb102, 5, none⟩ = some (.string a1_5) ∧ w'.cell? ⟨gb102, 6, none⟩ = some (.int .u64 a1_6) ∧ w'.cell? ⟨gb102, 7, none⟩ = some (.int .u32 a1_7)) ∧ (Kd.N k58 58 w' w.heap.size (fun k_ => ((P0_2_ k_ ∨ P1_0_ k_ ∨ P1_2_ k_) ∨ w.heap.size ≤ k_) ∧ some k_ ≠ (s_.2.2 : Value).ownBlock ∧ k_ ≠ gb101 ∧ k_ ≠ gb102 ∧ k_ ≠ gb103 ∧ k_ ≠ gb108) s_.2.1 y112) ∧ (Kd.N k58 58 w' w.heap.size (fun k_ => ((P0_2_ k_ ∨ P1_0_ k_ ∨ P1_2_ k_) ∨ w.heap.size ≤ k_) ∧ some k_ ≠ (s_.2.1 : Value).ownBlock ∧ k_ ≠ gb101 ∧ k_ ≠ gb102 ∧ k_ ≠ gb103 ∧ k_ ≠ gb108) s_.2.2 y115) ∧ (Kd.V k58 58 w' w.heap.size (fun k_ => ((P0_2_ k_ ∨ P1_0_ k_ ∨ P1_2_ k_) ∨ w.heap.size ≤ k_) ∧ some k_ ≠ (s_.2.1 : Value).ownBlock ∧ some k_ ≠ (s_.2.2 : Value).ownBlock ∧ k_ ≠ gb101 ∧ k_ ≠ gb102 ∧ k_ ≠ gb103 ∧ k_ ≠ gb108) (.slice A0_2 l0_2.length c0_2) l0_2) ∧ (Kd.V (Kd.int .u32) 22 w' w.heap.size (fun k_ => ((P0_2_ k_ ∨ P1_0_ k_ ∨ P1_2_ k_) ∨ w.heap.size ≤ k_) ∧ some k_ ≠ (s_.2.1 : Value).ownBlock ∧ some k_ ≠ (s_.2.2 : Value).ownBlock ∧ k_ ≠ gb101 ∧ k_ ≠ gb102 ∧ k_ ≠ gb103 ∧ k_ ≠ gb108) (.slice A1_0 l1_0.length c1_0) l1_0) ∧ (Kd.V k46 46 w' w.heap.size (fun k_ => ((P0_2_ k_ ∨ P1_0_ k_ ∨ P1_2_ k_) ∨ w.heap.size ≤ k_) ∧ some k_ ≠ (s_.2.1 : Value).ownBlock ∧ some k_ ≠ (s_.2.2 : Value).ownBlock ∧ k_ ≠ gb101 ∧ k_ ≠ gb102 ∧ k_ ≠ gb103 ∧ k_ ≠ gb108) (.slice A1_2 l1_2.length c1_2) l1_2) ∧ (w'.heap[gb101]? = some (.cells #[.int .u32 a0_0, .int .u32 a0_1, .slice A0_2 l0_2.length c0_2] 56 (0, 0))) ∧ (w'.heap[gb102]? = some (.cells #[.slice A1_0 l1_0.length c1_0, .int .i64 a1_1, .slice A1_2 l1_2.length c1_2, .int .i64 a1_3, .int .u64 a1_4, .string a1_5, .int .u64 a1_6, .int .u32 a1_7] 58 (0, 0))) ∧ (w'.heap[gb103]? = some (.cells #[.int .u32 a2_0, .int .u32 a2_1, .int .u64 a2_2, .int .u64 a2_3, .int .u64 a2_4, .int .u64 a2_5, .int .u64 a2_6, .int .u64 a2_7, .int .u64 a2_8] 49 (0, 0))) ∧ (w'.heap[gb108]? = some (.cells #[.int .u32 a0_0, .int .u32 a0_1, .slice A0_2 l0_2.length c0_2] 56 (0, 0))) ∧ (Below w.heap.size w w')) ?_ ?_
            rotate_left
            · intro hCont
              refine two_ (i := 0) (j := 5) (Ni := some 33) (Nj := some 38) #[true, true, true, false, true, false, false, false, false] #[false, true, true, false, true, true, false, false, false] rfl rfl rfl rfl (two_of HT_.out (by kernel_rfl)) (by decide) (by decide) (fun K hK => ?_) (fun K hK => ?_)
              · skip
                refine Kd.N_lit_step k58 _ 58 ?hg (N' := 33) ?hd (xs := ([] : List (S58))) (inner := []) (ok := (fun k_ => ((P0_2_ k_ ∨ P1_0_ k_ ∨ P1_2_ k_) ∨ w.heap.size ≤ k_) ∧ k_ ≠ gb101 ∧ k_ ≠ gb102 ∧ k_ ≠ gb103 ∧ k_ ≠ gb108)) (okp := (fun k_ => ((P0_2_ k_ ∨ P1_0_ k_ ∨ P1_2_ k_) ∨ w.heap.size ≤ k_) ∧ k_ ≠ gb101 ∧ k_ ≠ gb102 ∧ k_ ≠ gb103 ∧ k_ ≠ gb108)) ?hr ?hp (fun _ hk => hk) ((show ∀ k_, w50.heap.size ≤ k_ → (fun k_ => ((P0_2_ k_ ∨ P1_0_ k_ ∨ P1_2_ k_) ∨ w.heap.size ≤ k_) ∧ k_ ≠ gb101 ∧ k_ ≠ gb102 ∧ k_ ≠ gb103 ∧ k_ ≠ gb108) k_ from fun k_ hk => ⟨(.inr (Nat.le_trans (below_size (by repeat (first | (with_reducible first | exact HB.out | apply bal | apply pbd | apply below_drew1 | refine below_set ?_ GE101.out | refine below_set ?_ GE102.out | refine below_set ?_ GE103.out | refine below_set ?_ GE108.out) | exact HB.out))) hk)), Kd.freshB (g := gb101) (o := .cells #[.int .u32 a0_0, .int .u32 a0_1, .slice A0_2 l0_2.length c0_2] 56 (0, 0)) (by (with_reducible repeat (first | refine blk_drewN ?_ _ | refine blk_drew ?_ | refine blk_alloc ?_ _)); exact BK101.out) k_ hk, Kd.freshB (g := gb102) (o := .cells #[.slice A1_0 l1_0.length c1_0, .int .i64 a1_1, .slice A1_2 l1_2.length c1_2, .int .i64 a1_3, .int .u64 a1_4, .string a1_5, .int .u64 a1_6, .int .u32 a1_7] 58 (0, 0)) (by (with_reducible repeat (first | refine blk_drewN ?_ _ | refine blk_drew ?_ | refine blk_alloc ?_ _)); exact BK102.out) k_ hk, Kd.freshB (g := gb103) (o := .cells #[.int .u32 a2_0, .int .u32 a2_1, .int .u64 a2_2, .int .u64 a2_3, .int .u64 a2_4, .int .u64 a2_5, .int .u64 a2_6, .int .u64 a2_7, .int .u64 a2_8] 49 (0, 0)) (by (with_reducible repeat (first | refine blk_drewN ?_ _ | refine blk_drew ?_ | refine blk_alloc ?_ _)); exact BK103.out) k_ hk, Kd.freshB (g := gb108) (o := .cells #[.int .u32 a0_0, .int .u32 a0_1, .slice A0_2 l0_2.length c0_2] 56 (0, 0)) (by (with_reducible repeat (first | refine blk_drewN ?_ _ | refine blk_drew ?_ | refine blk_alloc ?_ _)); exact BK108.out) k_ hk⟩) _ (Nat.le_refl _)) (Below.refl _ _) (Nat.le_refl _) (by simp) ?_; (case hd => rfl); (case hg => rfl); (case hr => first | (go_simp; done) | (go_simp; rfl)); (case hp => exact (Reps.none _ _))
                intro v110 w51 ho52 hb hg_ hnew_
                clear hg_ hnew_
                (first | rw [← Ny109.out] at ho52 | (simp only [Int.reduceToNat] at ho52; rw [← Ny109.out] at ho52))
                have n0_ := amk (Kd.V_elder' (by (with_reducible repeat (first | apply Kd.V_alloc | apply Kd.V_drewN | apply Kd.V_drew)); exact HO_102002.out) (Kd.N_base ho52) hb)
                have n1_ := amk (Kd.V_elder' (by (with_reducible repeat (first | apply Kd.V_alloc | apply Kd.V_drewN | apply Kd.V_drew)); exact HO_103000.out) (Kd.N_base ho52) hb)
                have n2_ := amk (Kd.V_elder' (by (with_reducible repeat (first | apply Kd.V_alloc | apply Kd.V_drewN | apply Kd.V_drew)); exact HO_103002.out) (Kd.N_base ho52) hb)
                have n3_ := amk (Kd.N_lower ho52 (below_size (by repeat (first | (with_reducible first | exact HB.out | apply bal | apply pbd | apply below_drew1 | refine below_set ?_ GE101.out | refine below_set ?_ GE102.out | refine below_set ?_ GE103.out | refine below_set ?_ GE108.out) | exact HB.out))))
                have n4_ := amk (blk_below (g := gb101) (o := .cells #[.int .u32 a0_0, .int .u32 a0_1, .slice A0_2 l0_2.length c0_2] 56 (0, 0)) (by (with_reducible repeat (first | refine blk_drewN ?_ _ | refine blk_drew ?_ | refine blk_alloc ?_ _)); exact BK101.out) hb)
                have n5_ := amk (blk_below (g := gb102) (o := .cells #[.slice A1_0 l1_0.length c1_0, .int .i64 a1_1, .slice A1_2 l1_2.length c1_2, .int .i64 a1_3, .int .u64 a1_4, .string a1_5, .int .u64 a1_6, .int .u32 a1_7] 58 (0, 0)) (by (with_reducible repeat (first | refine blk_drewN ?_ _ | refine blk_drew ?_ | refine blk_alloc ?_ _)); exact BK102.out) hb)
                have n6_ := amk (blk_below (g := gb103) (o := .cells #[.int .u32 a2_0, .int .u32 a2_1, .int .u64 a2_2, .int .u64 a2_3, .int .u64 a2_4, .int .u64 a2_5, .int .u64 a2_6, .int .u64 a2_7, .int .u64 a2_8] 49 (0, 0)) (by (with_reducible repeat (first | refine blk_drewN ?_ _ | refine blk_drew ?_ | refine blk_alloc ?_ _)); exact BK103.out) hb)
                have n7_ := amk (blk_below (g := gb108) (o := .cells #[.int .u32 a0_0, .int .u32 a0_1, .slice A0_2 l0_2.length c0_2] 56 (0, 0)) (by (with_reducible repeat (first | refine blk_drewN ?_ _ | refine blk_drew ?_ | refine blk_alloc ?_ _)); exact BK108.out) hb)
                have n8_ := amk (below_step (by repeat (first | (with_reducible first | exact HB.out | apply bal | apply pbd | apply below_drew1 | refine below_set ?_ GE101.out | refine below_set ?_ GE102.out | refine below_set ?_ GE103.out | refine below_set ?_ GE108.out) | exact HB.out)) hb)
                clear HO_102002
                clear HO_103000
                clear HO_103002
                clear BK101
                clear BK102
                clear BK103
                clear BK108
                clear HB
                have HO_102002 := n0_
                have HO_103000 := n1_
                have HO_103002 := n2_
                have HO111 := n3_
                have BK101 := n4_
                have BK102 := n5_
                have BK103 := n6_
                have BK108 := n7_
                have HB := n8_
                clear n0_ n1_ n2_ n3_ n4_ n5_ n6_ n7_ n8_
                clear hb ho52
                refine hK.out _ _ ⟨(blk_cell BK101.out 0).trans rfl, (blk_cell BK101.out 1).trans rfl, (blk_cell BK101.out 2).trans rfl, (blk_cell BK102.out 0).trans rfl, (blk_cell BK102.out 1).trans rfl, (blk_cell BK102.out 2).trans rfl, (blk_cell BK102.out 3).trans rfl, (blk_cell BK102.out 4).trans rfl, (blk_cell BK102.out 5).trans rfl, (blk_cell BK102.out 6).trans rfl, (blk_cell BK102.out 7).trans rfl⟩ (fun hHeld => ?_)
                clear hK K
                refine norm_ (a' := ?_) ?_ ?_
                rotate_left
                · show Act.put _ (some 33) _ = _
                  simp only [Act.put, List.setIfInBounds_toArray, List.set_cons_zero, List.set_cons_succ, i64_w, i32_w]
                  rfl
                refine two_ (i := 3) (j := 5) (Ni := some 36) (Nj := some 38) #[true, true, true, true, true, false, false, false, false] #[true, true, true, false, true, true, false, false, false] rfl rfl rfl rfl (two_of HT_.out (by kernel_rfl)) (by decide) (by decide) (fun K hK => ?_) (fun K hK => ?_)
                · skip
                  refine Kd.N_append_rows_step k58 (w0 := w) w.heap.size (by rfl) (.tmp 33) (.tmp 35) 54 58 (.agg #[(.slice none 0 0), (.int .i64 0), (.slice none 0 0), (.int .i64 0), (.int .u64 0), (.string ⟨#[]⟩), (.int .u64 0), (.int .u32 0)]) 104 rfl Try.underlying54 info58 rfl (by decide) (by omega) v110 y109 l0_2 _ _ _ (fun k_ => ((P0_2_ k_ ∨ P1_0_ k_ ∨ P1_2_ k_) ∨ w.heap.size ≤ k_) ∧ k_ ≠ gb101 ∧ k_ ≠ gb102 ∧ k_ ≠ gb103 ∧ k_ ≠ gb108) (fun k_ => ((fun k_ => ((P0_2_ k_ ∨ P1_0_ k_ ∨ P1_2_ k_) ∨ w.heap.size ≤ k_) ∧ k_ ≠ gb101 ∧ k_ ≠ gb102 ∧ k_ ≠ gb103 ∧ k_ ≠ gb108)) k_ ∧ some k_ ≠ (v110 : Value).ownBlock) rfl rfl ?aO ?aR (fun _ hk => hk) ?aF ?aB ?aS ?aL ?_
                  (case aR => exact (by skip; exact Kd.V_F (Kd.V_mono (ok' := (fun k_ => ((fun k_ => ((P0_2_ k_ ∨ P1_0_ k_ ∨ P1_2_ k_) ∨ w.heap.size ≤ k_) ∧ k_ ≠ gb101 ∧ k_ ≠ gb102 ∧ k_ ≠ gb103 ∧ k_ ≠ gb108)) k_ ∧ some k_ ≠ (v110 : Value).ownBlock)) (HO_102002.out) (fun k_ hk => ⟨⟨hk.1.1, ⟨hk.1.2.1, ⟨hk.1.2.2.1, ⟨hk.1.2.2.2.1, hk.1.2.2.2.2⟩⟩⟩⟩, hk.2⟩))))
                  (case aB => exact (by repeat (first | (with_reducible first | exact HB.out | apply bal | apply pbd | apply below_drew1 | refine below_set ?_ GE101.out | refine below_set ?_ GE102.out | refine below_set ?_ GE103.out | refine below_set ?_ GE108.out) | exact HB.out)))
                  (case aF => exact (fun k_ hk => ⟨(.inr (Nat.le_trans (below_size (by repeat (first | (with_reducible first | exact HB.out | apply bal | apply pbd | apply below_drew1 | refine below_set ?_ GE101.out | refine below_set ?_ GE102.out | refine below_set ?_ GE103.out | refine below_set ?_ GE108.out) | exact HB.out))) hk)), Kd.freshB (g := gb101) (o := .cells #[.int .u32 a0_0, .int .u32 a0_1, .slice A0_2 l0_2.length c0_2] 56 (0, 0)) (by (with_reducible repeat (first | refine blk_drewN ?_ _ | refine blk_drew ?_ | refine blk_alloc ?_ _)); exact BK101.out) k_ hk, Kd.freshB (g := gb102) (o := .cells #[.slice A1_0 l1_0.length c1_0, .int .i64 a1_1, .slice A1_2 l1_2.length c1_2, .int .i64 a1_3, .int .u64 a1_4, .string a1_5, .int .u64 a1_6, .int .u32 a1_7] 58 (0, 0)) (by (with_reducible repeat (first | refine blk_drewN ?_ _ | refine blk_drew ?_ | refine blk_alloc ?_ _)); exact BK102.out) k_ hk, Kd.freshB (g := gb103) (o := .cells #[.int .u32 a2_0, .int .u32 a2_1, .int .u64 a2_2, .int .u64 a2_3, .int .u64 a2_4, .int .u64 a2_5, .int .u64 a2_6, .int .u64 a2_7, .int .u64 a2_8] 49 (0, 0)) (by (with_reducible repeat (first | refine blk_drewN ?_ _ | refine blk_drew ?_ | refine blk_alloc ?_ _)); exact BK103.out) k_ hk, Kd.freshB (g := gb108) (o := .cells #[.int .u32 a0_0, .int .u32 a0_1, .slice A0_2 l0_2.length c0_2] 56 (0, 0)) (by (with_reducible repeat (first | refine blk_drewN ?_ _ | refine blk_drew ?_ | refine blk_alloc ?_ _)); exact BK108.out) k_ hk⟩))
                  (case aO => exact (by (with_reducible repeat (first | apply Kd.N_alloc | apply Kd.N_drewN | apply Kd.N_drew)); exact HO111.out))
                  (case aS => exact (below_size (by repeat (first | (with_reducible first | exact HB.out | apply bal | apply pbd | apply below_drew1 | refine below_set ?_ GE101.out | refine below_set ?_ GE102.out | refine below_set ?_ GE103.out | refine below_set ?_ GE108.out) | exact HB.out))))
                  (case aL => have := LMc33.out; omega)
                  intro v113 w53 ho hb hg hat
                  rw [← Ny112.out] at ho
                  have n0_ := amk (Kd.V_afterv (ok := (fun k_ => ((P0_2_ k_ ∨ P1_0_ k_ ∨ P1_2_ k_) ∨ w.heap.size ≤ k_) ∧ k_ ≠ gb101 ∧ k_ ≠ gb102 ∧ k_ ≠ gb103 ∧ k_ ≠ gb108)) (by (with_reducible repeat (first | apply Kd.V_alloc | apply Kd.V_drewN | apply Kd.V_drew)); exact HO_102002.out) hg hat)
                  have n1_ := amk (Kd.V_afterv (ok := (fun k_ => ((P0_2_ k_ ∨ P1_0_ k_ ∨ P1_2_ k_) ∨ w.heap.size ≤ k_) ∧ k_ ≠ gb101 ∧ k_ ≠ gb102 ∧ k_ ≠ gb103 ∧ k_ ≠ gb108)) (by (with_reducible repeat (first | apply Kd.V_alloc | apply Kd.V_drewN | apply Kd.V_drew)); exact HO_103000.out) hg hat)
                  have n2_ := amk (Kd.V_afterv (ok := (fun k_ => ((P0_2_ k_ ∨ P1_0_ k_ ∨ P1_2_ k_) ∨ w.heap.size ≤ k_) ∧ k_ ≠ gb101 ∧ k_ ≠ gb102 ∧ k_ ≠ gb103 ∧ k_ ≠ gb108)) (by (with_reducible repeat (first | apply Kd.V_alloc | apply Kd.V_drewN | apply Kd.V_drew)); exact HO_103002.out) hg hat)
                  have n3_ := amk (blk_grown (g := gb101) (o := .cells #[.int .u32 a0_0, .int .u32 a0_1, .slice A0_2 l0_2.length c0_2] 56 (0, 0)) (by (with_reducible repeat (first | refine blk_drewN ?_ _ | refine blk_drew ?_ | refine blk_alloc ?_ _)); exact BK101.out) hg (Kd.N_ne HO111.out BK101.out (by decide)))
                  have n4_ := amk (blk_grown (g := gb102) (o := .cells #[.slice A1_0 l1_0.length c1_0, .int .i64 a1_1, .slice A1_2 l1_2.length c1_2, .int .i64 a1_3, .int .u64 a1_4, .string a1_5, .int .u64 a1_6, .int .u32 a1_7] 58 (0, 0)) (by (with_reducible repeat (first | refine blk_drewN ?_ _ | refine blk_drew ?_ | refine blk_alloc ?_ _)); exact BK102.out) hg (Kd.N_away HO111.out (fun _ hk => hk.2.2.1)))
                  have n5_ := amk (blk_grown (g := gb103) (o := .cells #[.int .u32 a2_0, .int .u32 a2_1, .int .u64 a2_2, .int .u64 a2_3, .int .u64 a2_4, .int .u64 a2_5, .int .u64 a2_6, .int .u64 a2_7, .int .u64 a2_8] 49 (0, 0)) (by (with_reducible repeat (first | refine blk_drewN ?_ _ | refine blk_drew ?_ | refine blk_alloc ?_ _)); exact BK103.out) hg (Kd.N_ne HO111.out BK103.out (by decide)))
                  have n6_ := amk (blk_grown (g := gb108) (o := .cells #[.int .u32 a0_0, .int .u32 a0_1, .slice A0_2 l0_2.length c0_2] 56 (0, 0)) (by (with_reducible repeat (first | refine blk_drewN ?_ _ | refine blk_drew ?_ | refine blk_alloc ?_ _)); exact BK108.out) hg (Kd.N_ne HO111.out BK108.out (by decide)))
                  have n7_ := amk (hb)
                  have n8_ := amk (ho)
                  clear HO_102002
                  clear HO_103000
                  clear HO_103002
                  clear BK101
                  clear BK102
                  clear BK103
                  clear BK108
                  clear HB
                  clear HO111
                  have HO_102002 := n0_
                  have HO_103000 := n1_
                  have HO_103002 := n2_
                  have BK101 := n3_
                  have BK102 := n4_
                  have BK103 := n5_
                  have BK108 := n6_
                  have HB := n7_
                  have HO114 := n8_
                  clear n0_ n1_ n2_ n3_ n4_ n5_ n6_ n7_ n8_
                  clear ho hb hg hat
                  refine hK.out _ _ ⟨(blk_cell BK101.out 0).trans rfl, (blk_cell BK101.out 1).trans rfl, (blk_cell BK101.out 2).trans rfl, (blk_cell BK102.out 0).trans rfl, (blk_cell BK102.out 1).trans rfl, (blk_cell BK102.out 2).trans rfl, (blk_cell BK102.out 3).trans rfl, (blk_cell BK102.out 4).trans rfl, (blk_cell BK102.out 5).trans rfl, (blk_cell BK102.out 6).trans rfl, (blk_cell BK102.out 7).trans rfl⟩ (fun hHeld => ?_)
                  clear hK K
                  refine norm_ (a' := ?_) ?_ ?_
                  rotate_left
                  · show Act.put _ (some 36) _ = _
                    simp only [Act.put, List.setIfInBounds_toArray, List.set_cons_zero, List.set_cons_succ, i64_w, i32_w]
                    rfl
                  refine one_ (i := 5) (N := some 38) #[true, true, true, true, true, true, false, false, false] rfl rfl (one_of HT_.out (by kernel_rfl)) (by decide) (fun K hK => ?_)
                  refine Kd.N_lit_step k58 _ 58 ?hg (N' := 38) ?hd (xs := ([(⟨l1_0, (⟨a1_1, l1_2, a1_3, a1_4, a1_5, a1_6⟩ : S46), a1_7⟩ : S58)] : List (S58))) (inner := [.slice A1_0 l1_0.length c1_0, .int .i64 a1_1, .slice A1_2 l1_2.length c1_2, .int .i64 a1_3, .int .u64 a1_4, .string a1_5, .int .u64 a1_6, .int .u32 a1_7]) (ok := (fun k_ => ((P0_2_ k_ ∨ P1_0_ k_ ∨ P1_2_ k_) ∨ w.heap.size ≤ k_) ∧ some k_ ≠ (v113 : Value).ownBlock ∧ k_ ≠ gb101 ∧ k_ ≠ gb102 ∧ k_ ≠ gb103 ∧ k_ ≠ gb108)) (okp := (fun k_ => ((P0_2_ k_ ∨ P1_0_ k_ ∨ P1_2_ k_) ∨ w.heap.size ≤ k_) ∧ some k_ ≠ (v113 : Value).ownBlock ∧ k_ ≠ gb101 ∧ k_ ≠ gb102 ∧ k_ ≠ gb103 ∧ k_ ≠ gb108)) ?hr ?hp (fun _ hk => hk) ((show ∀ k_, w53.heap.size ≤ k_ → (fun k_ => ((P0_2_ k_ ∨ P1_0_ k_ ∨ P1_2_ k_) ∨ w.heap.size ≤ k_) ∧ some k_ ≠ (v113 : Value).ownBlock ∧ k_ ≠ gb101 ∧ k_ ≠ gb102 ∧ k_ ≠ gb103 ∧ k_ ≠ gb108) k_ from fun k_ hk => ⟨(.inr (Nat.le_trans (below_size (by repeat (first | (with_reducible first | exact HB.out | apply bal | apply pbd | apply below_drew1 | refine below_set ?_ GE101.out | refine below_set ?_ GE102.out | refine below_set ?_ GE103.out | refine below_set ?_ GE108.out) | exact HB.out))) hk)), Kd.fresh' (Kd.N_lt (by (with_reducible repeat (first | apply Kd.N_alloc | apply Kd.N_drewN | apply Kd.N_drew)); exact HO114.out)) k_ hk, Kd.freshB (g := gb101) (o := .cells #[.int .u32 a0_0, .int .u32 a0_1, .slice A0_2 l0_2.length c0_2] 56 (0, 0)) (by (with_reducible repeat (first | refine blk_drewN ?_ _ | refine blk_drew ?_ | refine blk_alloc ?_ _)); exact BK101.out) k_ hk, Kd.freshB (g := gb102) (o := .cells #[.slice A1_0 l1_0.length c1_0, .int .i64 a1_1, .slice A1_2 l1_2.length c1_2, .int .i64 a1_3, .int .u64 a1_4, .string a1_5, .int .u64 a1_6, .int .u32 a1_7] 58 (0, 0)) (by (with_reducible repeat (first | refine blk_drewN ?_ _ | refine blk_drew ?_ | refine blk_alloc ?_ _)); exact BK102.out) k_ hk, Kd.freshB (g := gb103) (o := .cells #[.int .u32 a2_0, .int .u32 a2_1, .int .u64 a2_2, .int .u64 a2_3, .int .u64 a2_4, .int .u64 a2_5, .int .u64 a2_6, .int .u64 a2_7, .int .u64 a2_8] 49 (0, 0)) (by (with_reducible repeat (first | refine blk_drewN ?_ _ | refine blk_drew ?_ | refine blk_alloc ?_ _)); exact BK103.out) k_ hk, Kd.freshB (g := gb108) (o := .cells #[.int .u32 a0_0, .int .u32 a0_1, .slice A0_2 l0_2.length c0_2] 56 (0, 0)) (by (with_reducible repeat (first | refine blk_drewN ?_ _ | refine blk_drew ?_ | refine blk_alloc ?_ _)); exact BK108.out) k_ hk⟩) _ (Nat.le_refl _)) (Below.refl _ _) (Nat.le_refl _) (by simp) ?_; (case hd => rfl); (case hg => rfl); (case hr => first | (go_simp; done) | (go_simp; rfl)); (case hp => exact (Reps.c8 (show Kd.FK k58 _ _ (⟨l1_0, (⟨a1_1, l1_2, a1_3, a1_4, a1_5, a1_6⟩ : S46), a1_7⟩ : S58) [.slice A1_0 l1_0.length c1_0, .int .i64 a1_1, .slice A1_2 l1_2.length c1_2, .int .i64 a1_3, .int .u64 a1_4, .string a1_5, .int .u64 a1_6, .int .u32 a1_7] from (k58_mkF _ _ (⟨l1_0, (⟨a1_1, l1_2, a1_3, a1_4, a1_5, a1_6⟩ : S46), a1_7⟩ : S58) (Kd.V_reads' (Kd.V_mono (ok' := (fun k_ => ((P0_2_ k_ ∨ P1_0_ k_ ∨ P1_2_ k_) ∨ w.heap.size ≤ k_) ∧ some k_ ≠ (v113 : Value).ownBlock ∧ k_ ≠ gb101 ∧ k_ ≠ gb102 ∧ k_ ≠ gb103 ∧ k_ ≠ gb108)) (HO_103000.out) (fun k_ hk => ⟨hk.1.1, ⟨hk.2, ⟨hk.1.2.1, ⟨hk.1.2.2.1, ⟨hk.1.2.2.2.1, hk.1.2.2.2.2⟩⟩⟩⟩⟩))).2.1 (Kd.V_F (Kd.V_mono (ok' := (fun k_ => ((P0_2_ k_ ∨ P1_0_ k_ ∨ P1_2_ k_) ∨ w.heap.size ≤ k_) ∧ some k_ ≠ (v113 : Value).ownBlock ∧ k_ ≠ gb101 ∧ k_ ≠ gb102 ∧ k_ ≠ gb103 ∧ k_ ≠ gb108)) (HO_103000.out) (fun k_ hk => ⟨hk.1.1, ⟨hk.2, ⟨hk.1.2.1, ⟨hk.1.2.2.1, ⟨hk.1.2.2.2.1, hk.1.2.2.2.2⟩⟩⟩⟩⟩))) (Kd.V_reads' (Kd.V_mono (ok' := (fun k_ => ((P0_2_ k_ ∨ P1_0_ k_ ∨ P1_2_ k_) ∨ w.heap.size ≤ k_) ∧ some k_ ≠ (v113 : Value).ownBlock ∧ k_ ≠ gb101 ∧ k_ ≠ gb102 ∧ k_ ≠ gb103 ∧ k_ ≠ gb108)) (HO_103002.out) (fun k_ hk => ⟨hk.1.1, ⟨hk.2, ⟨hk.1.2.1, ⟨hk.1.2.2.1, ⟨hk.1.2.2.2.1, hk.1.2.2.2.2⟩⟩⟩⟩⟩))).2.1 (Kd.V_F (Kd.V_mono (ok' := (fun k_ => ((P0_2_ k_ ∨ P1_0_ k_ ∨ P1_2_ k_) ∨ w.heap.size ≤ k_) ∧ some k_ ≠ (v113 : Value).ownBlock ∧ k_ ≠ gb101 ∧ k_ ≠ gb102 ∧ k_ ≠ gb103 ∧ k_ ≠ gb108)) (HO_103002.out) (fun k_ hk => ⟨hk.1.1, ⟨hk.2, ⟨hk.1.2.1, ⟨hk.1.2.2.1, ⟨hk.1.2.2.2.1, hk.1.2.2.2.2⟩⟩⟩⟩⟩))))) (Reps.none _ _)))
                  intro v116 w54 ho55 hb hg_ hnew_
                  clear hg_ hnew_
                  (first | rw [← Ny115.out] at ho55 | (simp only [Int.reduceToNat] at ho55; rw [← Ny115.out] at ho55))
                  have n0_ := amk (Kd.V_elder' (by (with_reducible repeat (first | apply Kd.V_alloc | apply Kd.V_drewN | apply Kd.V_drew)); exact HO_102002.out) (Kd.N_base ho55) hb)
                  have n1_ := amk (Kd.V_elder' (by (with_reducible repeat (first | apply Kd.V_alloc | apply Kd.V_drewN | apply Kd.V_drew)); exact HO_103000.out) (Kd.N_base ho55) hb)
                  have n2_ := amk (Kd.V_elder' (by (with_reducible repeat (first | apply Kd.V_alloc | apply Kd.V_drewN | apply Kd.V_drew)); exact HO_103002.out) (Kd.N_base ho55) hb)
                  have n3_ := amk (Kd.N_elder' (by (with_reducible repeat (first | apply Kd.N_alloc | apply Kd.N_drewN | apply Kd.N_drew)); exact HO114.out) (Kd.N_base ho55) hb)
                  have n4_ := amk (Kd.N_lower ho55 (below_size (by repeat (first | (with_reducible first | exact HB.out | apply bal | apply pbd | apply below_drew1 | refine below_set ?_ GE101.out | refine below_set ?_ GE102.out | refine below_set ?_ GE103.out | refine below_set ?_ GE108.out) | exact HB.out))))
                  have n5_ := amk (blk_below (g := gb101) (o := .cells #[.int .u32 a0_0, .int .u32 a0_1, .slice A0_2 l0_2.length c0_2] 56 (0, 0)) (by (with_reducible repeat (first | refine blk_drewN ?_ _ | refine blk_drew ?_ | refine blk_alloc ?_ _)); exact BK101.out) hb)
                  have n6_ := amk (blk_below (g := gb102) (o := .cells #[.slice A1_0 l1_0.length c1_0, .int .i64 a1_1, .slice A1_2 l1_2.length c1_2, .int .i64 a1_3, .int .u64 a1_4, .string a1_5, .int .u64 a1_6, .int .u32 a1_7] 58 (0, 0)) (by (with_reducible repeat (first | refine blk_drewN ?_ _ | refine blk_drew ?_ | refine blk_alloc ?_ _)); exact BK102.out) hb)
                  have n7_ := amk (blk_below (g := gb103) (o := .cells #[.int .u32 a2_0, .int .u32 a2_1, .int .u64 a2_2, .int .u64 a2_3, .int .u64 a2_4, .int .u64 a2_5, .int .u64 a2_6, .int .u64 a2_7, .int .u64 a2_8] 49 (0, 0)) (by (with_reducible repeat (first | refine blk_drewN ?_ _ | refine blk_drew ?_ | refine blk_alloc ?_ _)); exact BK103.out) hb)
                  have n8_ := amk (blk_below (g := gb108) (o := .cells #[.int .u32 a0_0, .int .u32 a0_1, .slice A0_2 l0_2.length c0_2] 56 (0, 0)) (by (with_reducible repeat (first | refine blk_drewN ?_ _ | refine blk_drew ?_ | refine blk_alloc ?_ _)); exact BK108.out) hb)
                  have n9_ := amk (below_step (by repeat (first | (with_reducible first | exact HB.out | apply bal | apply pbd | apply below_drew1 | refine below_set ?_ GE101.out | refine below_set ?_ GE102.out | refine below_set ?_ GE103.out | refine below_set ?_ GE108.out) | exact HB.out)) hb)
                  clear HO_102002
                  clear HO_103000
                  clear HO_103002
                  clear HO114
                  clear BK101
                  clear BK102
                  clear BK103
                  clear BK108
                  clear HB
                  have HO_102002 := n0_
                  have HO_103000 := n1_
                  have HO_103002 := n2_
                  have HO114 := n3_
                  have HO117 := n4_
                  have BK101 := n5_
                  have BK102 := n6_
                  have BK103 := n7_
                  have BK108 := n8_
                  have HB := n9_
                  clear n0_ n1_ n2_ n3_ n4_ n5_ n6_ n7_ n8_ n9_
                  clear hb ho55
                  refine hK.out _ _ ⟨(blk_cell BK101.out 0).trans rfl, (blk_cell BK101.out 1).trans rfl, (blk_cell BK101.out 2).trans rfl, (blk_cell BK102.out 0).trans rfl, (blk_cell BK102.out 1).trans rfl, (blk_cell BK102.out 2).trans rfl, (blk_cell BK102.out 3).trans rfl, (blk_cell BK102.out 4).trans rfl, (blk_cell BK102.out 5).trans rfl, (blk_cell BK102.out 6).trans rfl, (blk_cell BK102.out 7).trans rfl⟩ (fun hHeld => ?_)
                  clear hK K
                  refine norm_ (a' := ?_) ?_ ?_
                  rotate_left
                  · show Act.put _ (some 38) _ = _
                    simp only [Act.put, List.setIfInBounds_toArray, List.set_cons_zero, List.set_cons_succ, i64_w, i32_w]
                    rfl
                  exact norm_ (by simp only [putAll, Act.put, List.setIfInBounds_toArray, List.set_cons_zero, List.set_cons_succ]) (hCont (v110, v113, v116) _ ⟨hHeld, (by (with_reducible repeat (first | apply Kd.N_alloc | apply Kd.N_drewN | apply Kd.N_drew)); exact Kd.N_mono HO114.out (fun _ hk => ⟨hk.1.1, ⟨hk.2, ⟨hk.1.2.1, ⟨hk.1.2.2.1, ⟨hk.1.2.2.2.1, hk.1.2.2.2.2⟩⟩⟩⟩⟩)), (by (with_reducible repeat (first | apply Kd.N_alloc | apply Kd.N_drewN | apply Kd.N_drew)); exact HO117.out), (by (with_reducible repeat (first | apply Kd.V_alloc | apply Kd.V_drewN | apply Kd.V_drew)); exact Kd.V_mono HO_102002.out (fun _ hk => ⟨hk.1.1.1, ⟨hk.1.2, ⟨hk.2, ⟨hk.1.1.2.1, ⟨hk.1.1.2.2.1, ⟨hk.1.1.2.2.2.1, hk.1.1.2.2.2.2⟩⟩⟩⟩⟩⟩)), (by (with_reducible repeat (first | apply Kd.V_alloc | apply Kd.V_drewN | apply Kd.V_drew)); exact Kd.V_mono HO_103000.out (fun _ hk => ⟨hk.1.1.1, ⟨hk.1.2, ⟨hk.2, ⟨hk.1.1.2.1, ⟨hk.1.1.2.2.1, ⟨hk.1.1.2.2.2.1, hk.1.1.2.2.2.2⟩⟩⟩⟩⟩⟩)), (by (with_reducible repeat (first | apply Kd.V_alloc | apply Kd.V_drewN | apply Kd.V_drew)); exact Kd.V_mono HO_103002.out (fun _ hk => ⟨hk.1.1.1, ⟨hk.1.2, ⟨hk.2, ⟨hk.1.1.2.1, ⟨hk.1.1.2.2.1, ⟨hk.1.1.2.2.2.1, hk.1.1.2.2.2.2⟩⟩⟩⟩⟩⟩)), (by (with_reducible repeat (first | refine blk_drewN ?_ _ | refine blk_drew ?_ | refine blk_alloc ?_ _)); exact BK101.out), (by (with_reducible repeat (first | refine blk_drewN ?_ _ | refine blk_drew ?_ | refine blk_alloc ?_ _)); exact BK102.out), (by (with_reducible repeat (first | refine blk_drewN ?_ _ | refine blk_drew ?_ | refine blk_alloc ?_ _)); exact BK103.out), (by (with_reducible repeat (first | refine blk_drewN ?_ _ | refine blk_drew ?_ | refine blk_alloc ?_ _)); exact BK108.out), (by repeat (first | (with_reducible first | exact HB.out | apply bal | apply pbd | apply below_drew1 | refine below_set ?_ GE101.out | refine below_set ?_ GE102.out | refine below_set ?_ GE103.out | refine below_set ?_ GE108.out) | exact HB.out))⟩)
                · skip
                  refine Kd.N_lit_step k58 _ 58 ?hg (N' := 38) ?hd (xs := ([(⟨l1_0, (⟨a1_1, l1_2, a1_3, a1_4, a1_5, a1_6⟩ : S46), a1_7⟩ : S58)] : List (S58))) (inner := [.slice A1_0 l1_0.length c1_0, .int .i64 a1_1, .slice A1_2 l1_2.length c1_2, .int .i64 a1_3, .int .u64 a1_4, .string a1_5, .int .u64 a1_6, .int .u32 a1_7]) (ok := (fun k_ => ((P0_2_ k_ ∨ P1_0_ k_ ∨ P1_2_ k_) ∨ w.heap.size ≤ k_) ∧ some k_ ≠ (v110 : Value).ownBlock ∧ k_ ≠ gb101 ∧ k_ ≠ gb102 ∧ k_ ≠ gb103 ∧ k_ ≠ gb108)) (okp := (fun k_ => ((P0_2_ k_ ∨ P1_0_ k_ ∨ P1_2_ k_) ∨ w.heap.size ≤ k_) ∧ some k_ ≠ (v110 : Value).ownBlock ∧ k_ ≠ gb101 ∧ k_ ≠ gb102 ∧ k_ ≠ gb103 ∧ k_ ≠ gb108)) ?hr ?hp (fun _ hk => hk) ((show ∀ k_, w51.heap.size ≤ k_ → (fun k_ => ((P0_2_ k_ ∨ P1_0_ k_ ∨ P1_2_ k_) ∨ w.heap.size ≤ k_) ∧ some k_ ≠ (v110 : Value).ownBlock ∧ k_ ≠ gb101 ∧ k_ ≠ gb102 ∧ k_ ≠ gb103 ∧ k_ ≠ gb108) k_ from fun k_ hk => ⟨(.inr (Nat.le_trans (below_size (by repeat (first | (with_reducible first | exact HB.out | apply bal | apply pbd | apply below_drew1 | refine below_set ?_ GE101.out | refine below_set ?_ GE102.out | refine below_set ?_ GE103.out | refine below_set ?_ GE108.out) | exact HB.out))) hk)), Kd.fresh' (Kd.N_lt (by (with_reducible repeat (first | apply Kd.N_alloc | apply Kd.N_drewN | apply Kd.N_drew)); exact HO111.out)) k_ hk, Kd.freshB (g := gb101) (o := .cells #[.int .u32 a0_0, .int .u32 a0_1, .slice A0_2 l0_2.length c0_2] 56 (0, 0)) (by (with_reducible repeat (first | refine blk_drewN ?_ _ | refine blk_drew ?_ | refine blk_alloc ?_ _)); exact BK101.out) k_ hk, Kd.freshB (g := gb102) (o := .cells #[.slice A1_0 l1_0.length c1_0, .int .i64 a1_1, .slice A1_2 l1_2.length c1_2, .int .i64 a1_3, .int .u64 a1_4, .string a1_5, .int .u64 a1_6, .int .u32 a1_7] 58 (0, 0)) (by (with_reducible repeat (first | refine blk_drewN ?_ _ | refine blk_drew ?_ | refine blk_alloc ?_ _)); exact BK102.out) k_ hk, Kd.freshB (g := gb103) (o := .cells #[.int .u32 a2_0, .int .u32 a2_1, .int .u64 a2_2, .int .u64 a2_3, .int .u64 a2_4, .int .u64 a2_5, .int .u64 a2_6, .int .u64 a2_7, .int .u64 a2_8] 49 (0, 0)) (by (with_reducible repeat (first | refine blk_drewN ?_ _ | refine blk_drew ?_ | refine blk_alloc ?_ _)); exact BK103.out) k_ hk, Kd.freshB (g := gb108) (o := .cells #[.int .u32 a0_0, .int .u32 a0_1, .slice A0_2 l0_2.length c0_2] 56 (0, 0)) (by (with_reducible repeat (first | refine blk_drewN ?_ _ | refine blk_drew ?_ | refine blk_alloc ?_ _)); exact BK108.out) k_ hk⟩) _ (Nat.le_refl _)) (Below.refl _ _) (Nat.le_refl _) (by simp) ?_; (case hd => rfl); (case hg => rfl); (case hr => first | (go_simp; done) | (go_simp; rfl)); (case hp => exact (Reps.c8 (show Kd.FK k58 _ _ (⟨l1_0, (⟨a1_1, l1_2, a1_3, a1_4, a1_5, a1_6⟩ : S46), a1_7⟩ : S58) [.slice A1_0 l1_0.length c1_0, .int .i64 a1_1, .slice A1_2 l1_2.length c1_2, .int .i64 a1_3, .int .u64 a1_4, .string a1_5, .int .u64 a1_6, .int .u32 a1_7] from (k58_mkF _ _ (⟨l1_0, (⟨a1_1, l1_2, a1_3, a1_4, a1_5, a1_6⟩ : S46), a1_7⟩ : S58) (Kd.V_reads' (Kd.V_mono (ok' := (fun k_ => ((P0_2_ k_ ∨ P1_0_ k_ ∨ P1_2_ k_) ∨ w.heap.size ≤ k_) ∧ some k_ ≠ (v110 : Value).ownBlock ∧ k_ ≠ gb101 ∧ k_ ≠ gb102 ∧ k_ ≠ gb103 ∧ k_ ≠ gb108)) (HO_103000.out) (fun k_ hk => ⟨hk.1.1, ⟨hk.2, ⟨hk.1.2.1, ⟨hk.1.2.2.1, ⟨hk.1.2.2.2.1, hk.1.2.2.2.2⟩⟩⟩⟩⟩))).2.1 (Kd.V_F (Kd.V_mono (ok' := (fun k_ => ((P0_2_ k_ ∨ P1_0_ k_ ∨ P1_2_ k_) ∨ w.heap.size ≤ k_) ∧ some k_ ≠ (v110 : Value).ownBlock ∧ k_ ≠ gb101 ∧ k_ ≠ gb102 ∧ k_ ≠ gb103 ∧ k_ ≠ gb108)) (HO_103000.out) (fun k_ hk => ⟨hk.1.1, ⟨hk.2, ⟨hk.1.2.1, ⟨hk.1.2.2.1, ⟨hk.1.2.2.2.1, hk.1.2.2.2.2⟩⟩⟩⟩⟩))) (Kd.V_reads' (Kd.V_mono (ok' := (fun k_ => ((P0_2_ k_ ∨ P1_0_ k_ ∨ P1_2_ k_) ∨ w.heap.size ≤ k_) ∧ some k_ ≠ (v110 : Value).ownBlock ∧ k_ ≠ gb101 ∧ k_ ≠ gb102 ∧ k_ ≠ gb103 ∧ k_ ≠ gb108)) (HO_103002.out) (fun k_ hk => ⟨hk.1.1, ⟨hk.2, ⟨hk.1.2.1, ⟨hk.1.2.2.1, ⟨hk.1.2.2.2.1, hk.1.2.2.2.2⟩⟩⟩⟩⟩))).2.1 (Kd.V_F (Kd.V_mono (ok' := (fun k_ => ((P0_2_ k_ ∨ P1_0_ k_ ∨ P1_2_ k_) ∨ w.heap.size ≤ k_) ∧ some k_ ≠ (v110 : Value).ownBlock ∧ k_ ≠ gb101 ∧ k_ ≠ gb102 ∧ k_ ≠ gb103 ∧ k_ ≠ gb108)) (HO_103002.out) (fun k_ hk => ⟨hk.1.1, ⟨hk.2, ⟨hk.1.2.1, ⟨hk.1.2.2.1, ⟨hk.1.2.2.2.1, hk.1.2.2.2.2⟩⟩⟩⟩⟩))))) (Reps.none _ _)))
                  intro v116 w53 ho54 hb hg_ hnew_
                  clear hg_ hnew_
                  (first | rw [← Ny115.out] at ho54 | (simp only [Int.reduceToNat] at ho54; rw [← Ny115.out] at ho54))
                  have n0_ := amk (Kd.V_elder' (by (with_reducible repeat (first | apply Kd.V_alloc | apply Kd.V_drewN | apply Kd.V_drew)); exact HO_102002.out) (Kd.N_base ho54) hb)
                  have n1_ := amk (Kd.V_elder' (by (with_reducible repeat (first | apply Kd.V_alloc | apply Kd.V_drewN | apply Kd.V_drew)); exact HO_103000.out) (Kd.N_base ho54) hb)
                  have n2_ := amk (Kd.V_elder' (by (with_reducible repeat (first | apply Kd.V_alloc | apply Kd.V_drewN | apply Kd.V_drew)); exact HO_103002.out) (Kd.N_base ho54) hb)
                  have n3_ := amk (Kd.N_elder' (by (with_reducible repeat (first | apply Kd.N_alloc | apply Kd.N_drewN | apply Kd.N_drew)); exact HO111.out) (Kd.N_base ho54) hb)
                  have n4_ := amk (Kd.N_lower ho54 (below_size (by repeat (first | (with_reducible first | exact HB.out | apply bal | apply pbd | apply below_drew1 | refine below_set ?_ GE101.out | refine below_set ?_ GE102.out | refine below_set ?_ GE103.out | refine below_set ?_ GE108.out) | exact HB.out))))
                  have n5_ := amk (blk_below (g := gb101) (o := .cells #[.int .u32 a0_0, .int .u32 a0_1, .slice A0_2 l0_2.length c0_2] 56 (0, 0)) (by (with_reducible repeat (first | refine blk_drewN ?_ _ | refine blk_drew ?_ | refine blk_alloc ?_ _)); exact BK101.out) hb)
                  have n6_ := amk (blk_below (g := gb102) (o := .cells #[.slice A1_0 l1_0.length c1_0, .int .i64 a1_1, .slice A1_2 l1_2.length c1_2, .int .i64 a1_3, .int .u64 a1_4, .string a1_5, .int .u64 a1_6, .int .u32 a1_7] 58 (0, 0)) (by (with_reducible repeat (first | refine blk_drewN ?_ _ | refine blk_drew ?_ | refine blk_alloc ?_ _)); exact BK102.out) hb)
                  have n7_ := amk (blk_below (g := gb103) (o := .cells #[.int .u32 a2_0, .int .u32 a2_1, .int .u64 a2_2, .int .u64 a2_3, .int .u64 a2_4, .int .u64 a2_5, .int .u64 a2_6, .int .u64 a2_7, .int .u64 a2_8] 49 (0, 0)) (by (with_reducible repeat (first | refine blk_drewN ?_ _ | refine blk_drew ?_ | refine blk_alloc ?_ _)); exact BK103.out) hb)
                  have n8_ := amk (blk_below (g := gb108) (o := .cells #[.int .u32 a0_0, .int .u32 a0_1, .slice A0_2 l0_2.length c0_2] 56 (0, 0)) (by (with_reducible repeat (first | refine blk_drewN ?_ _ | refine blk_drew ?_ | refine blk_alloc ?_ _)); exact BK108.out) hb)
                  have n9_ := amk (below_step (by repeat (first | (with_reducible first | exact HB.out | apply bal | apply pbd | apply below_drew1 | refine below_set ?_ GE101.out | refine below_set ?_ GE102.out | refine below_set ?_ GE103.out | refine below_set ?_ GE108.out) | exact HB.out)) hb)
                  clear HO_102002
                  clear HO_103000
                  clear HO_103002
                  clear HO111
                  clear BK101
                  clear BK102
                  clear BK103
                  clear BK108
                  clear HB
                  have HO_102002 := n0_
                  have HO_103000 := n1_
                  have HO_103002 := n2_
                  have HO111 := n3_
                  have HO117 := n4_
                  have BK101 := n5_
                  have BK102 := n6_
                  have BK103 := n7_
                  have BK108 := n8_
                  have HB := n9_
                  clear n0_ n1_ n2_ n3_ n4_ n5_ n6_ n7_ n8_ n9_
                  clear hb ho54
                  refine hK.out _ _ ⟨(blk_cell BK101.out 0).trans rfl, (blk_cell BK101.out 1).trans rfl, (blk_cell BK101.out 2).trans rfl, (blk_cell BK102.out 0).trans rfl, (blk_cell BK102.out 1).trans rfl, (blk_cell BK102.out 2).trans rfl, (blk_cell BK102.out 3).trans rfl, (blk_cell BK102.out 4).trans rfl, (blk_cell BK102.out 5).trans rfl, (blk_cell BK102.out 6).trans rfl, (blk_cell BK102.out 7).trans rfl⟩ (fun hHeld => ?_)
                  clear hK K
                  refine norm_ (a' := ?_) ?_ ?_
                  rotate_left
                  · show Act.put _ (some 38) _ = _
                    simp only [Act.put, List.setIfInBounds_toArray, List.set_cons_zero, List.set_cons_succ, i64_w, i32_w]
                    rfl
                  refine one_ (i := 3) (N := some 36) #[true, true, true, true, true, true, false, false, false] rfl rfl (one_of HT_.out (by kernel_rfl)) (by decide) (fun K hK => ?_)
                  refine Kd.N_append_rows_step k58 (w0 := w) w.heap.size (by rfl) (.tmp 33) (.tmp 35) 54 58 (.agg #[(.slice none 0 0), (.int .i64 0), (.slice none 0 0), (.int .i64 0), (.int .u64 0), (.string ⟨#[]⟩), (.int .u64 0), (.int .u32 0)]) 104 rfl Try.underlying54 info58 rfl (by decide) (by omega) v110 y109 l0_2 _ _ _ (fun k_ => ((P0_2_ k_ ∨ P1_0_ k_ ∨ P1_2_ k_) ∨ w.heap.size ≤ k_) ∧ some k_ ≠ (v116 : Value).ownBlock ∧ k_ ≠ gb101 ∧ k_ ≠ gb102 ∧ k_ ≠ gb103 ∧ k_ ≠ gb108) (fun k_ => ((fun k_ => ((P0_2_ k_ ∨ P1_0_ k_ ∨ P1_2_ k_) ∨ w.heap.size ≤ k_) ∧ some k_ ≠ (v116 : Value).ownBlock ∧ k_ ≠ gb101 ∧ k_ ≠ gb102 ∧ k_ ≠ gb103 ∧ k_ ≠ gb108)) k_ ∧ some k_ ≠ (v110 : Value).ownBlock) rfl rfl ?aO ?aR (fun _ hk => hk) ?aF ?aB ?aS ?aL ?_
                  (case aR => exact (by skip; exact Kd.V_F (Kd.V_mono (ok' := (fun k_ => ((fun k_ => ((P0_2_ k_ ∨ P1_0_ k_ ∨ P1_2_ k_) ∨ w.heap.size ≤ k_) ∧ some k_ ≠ (v116 : Value).ownBlock ∧ k_ ≠ gb101 ∧ k_ ≠ gb102 ∧ k_ ≠ gb103 ∧ k_ ≠ gb108)) k_ ∧ some k_ ≠ (v110 : Value).ownBlock)) (HO_102002.out) (fun k_ hk => ⟨⟨hk.1.1.1, ⟨hk.2, ⟨hk.1.1.2.1, ⟨hk.1.1.2.2.1, ⟨hk.1.1.2.2.2.1, hk.1.1.2.2.2.2⟩⟩⟩⟩⟩, hk.1.2⟩))))
                  (case aB => exact (by repeat (first | (with_reducible first | exact HB.out | apply bal | apply pbd | apply below_drew1 | refine below_set ?_ GE101.out | refine below_set ?_ GE102.out | refine below_set ?_ GE103.out | refine below_set ?_ GE108.out) | exact HB.out)))
                  (case aF => exact (fun k_ hk => ⟨(.inr (Nat.le_trans (below_size (by repeat (first | (with_reducible first | exact HB.out | apply bal | apply pbd | apply below_drew1 | refine below_set ?_ GE101.out | refine below_set ?_ GE102.out | refine below_set ?_ GE103.out | refine below_set ?_ GE108.out) | exact HB.out))) hk)), Kd.fresh' (Kd.N_lt (by (with_reducible repeat (first | apply Kd.N_alloc | apply Kd.N_drewN | apply Kd.N_drew)); exact HO117.out)) k_ hk, Kd.freshB (g := gb101) (o := .cells #[.int .u32 a0_0, .int .u32 a0_1, .slice A0_2 l0_2.length c0_2] 56 (0, 0)) (by (with_reducible repeat (first | refine blk_drewN ?_ _ | refine blk_drew ?_ | refine blk_alloc ?_ _)); exact BK101.out) k_ hk, Kd.freshB (g := gb102) (o := .cells #[.slice A1_0 l1_0.length c1_0, .int .i64 a1_1, .slice A1_2 l1_2.length c1_2, .int .i64 a1_3, .int .u64 a1_4, .string a1_5, .int .u64 a1_6, .int .u32 a1_7] 58 (0, 0)) (by (with_reducible repeat (first | refine blk_drewN ?_ _ | refine blk_drew ?_ | refine blk_alloc ?_ _)); exact BK102.out) k_ hk, Kd.freshB (g := gb103) (o := .cells #[.int .u32 a2_0, .int .u32 a2_1, .int .u64 a2_2, .int .u64 a2_3, .int .u64 a2_4, .int .u64 a2_5, .int .u64 a2_6, .int .u64 a2_7, .int .u64 a2_8] 49 (0, 0)) (by (with_reducible repeat (first | refine blk_drewN ?_ _ | refine blk_drew ?_ | refine blk_alloc ?_ _)); exact BK103.out) k_ hk, Kd.freshB (g := gb108) (o := .cells #[.int .u32 a0_0, .int .u32 a0_1, .slice A0_2 l0_2.length c0_2] 56 (0, 0)) (by (with_reducible repeat (first | refine blk_drewN ?_ _ | refine blk_drew ?_ | refine blk_alloc ?_ _)); exact BK108.out) k_ hk⟩))
                  (case aO => exact (by (with_reducible repeat (first | apply Kd.N_alloc | apply Kd.N_drewN | apply Kd.N_drew)); exact Kd.N_mono HO111.out (fun _ hk => ⟨hk.1.1, ⟨hk.2, ⟨hk.1.2.1, ⟨hk.1.2.2.1, ⟨hk.1.2.2.2.1, hk.1.2.2.2.2⟩⟩⟩⟩⟩)))
                  (case aS => exact (below_size (by repeat (first | (with_reducible first | exact HB.out | apply bal | apply pbd | apply below_drew1 | refine below_set ?_ GE101.out | refine below_set ?_ GE102.out | refine below_set ?_ GE103.out | refine below_set ?_ GE108.out) | exact HB.out))))
                  (case aL => have := LMc33.out; omega)
                  intro v113 w55 ho hb hg hat
                  rw [← Ny112.out] at ho
                  have n0_ := amk (Kd.V_afterv (ok := (fun k_ => ((P0_2_ k_ ∨ P1_0_ k_ ∨ P1_2_ k_) ∨ w.heap.size ≤ k_) ∧ some k_ ≠ (v116 : Value).ownBlock ∧ k_ ≠ gb101 ∧ k_ ≠ gb102 ∧ k_ ≠ gb103 ∧ k_ ≠ gb108)) (by (with_reducible repeat (first | apply Kd.V_alloc | apply Kd.V_drewN | apply Kd.V_drew)); exact Kd.V_mono HO_102002.out (fun _ hk => ⟨⟨hk.1.1.1, ⟨hk.2, ⟨hk.1.1.2.1, ⟨hk.1.1.2.2.1, ⟨hk.1.1.2.2.2.1, hk.1.1.2.2.2.2⟩⟩⟩⟩⟩, hk.1.2⟩)) hg hat)
                  have n1_ := amk (Kd.V_afterv (ok := (fun k_ => ((P0_2_ k_ ∨ P1_0_ k_ ∨ P1_2_ k_) ∨ w.heap.size ≤ k_) ∧ some k_ ≠ (v116 : Value).ownBlock ∧ k_ ≠ gb101 ∧ k_ ≠ gb102 ∧ k_ ≠ gb103 ∧ k_ ≠ gb108)) (by (with_reducible repeat (first | apply Kd.V_alloc | apply Kd.V_drewN | apply Kd.V_drew)); exact Kd.V_mono HO_103000.out (fun _ hk => ⟨⟨hk.1.1.1, ⟨hk.2, ⟨hk.1.1.2.1, ⟨hk.1.1.2.2.1, ⟨hk.1.1.2.2.2.1, hk.1.1.2.2.2.2⟩⟩⟩⟩⟩, hk.1.2⟩)) hg hat)
                  have n2_ := amk (Kd.V_afterv (ok := (fun k_ => ((P0_2_ k_ ∨ P1_0_ k_ ∨ P1_2_ k_) ∨ w.heap.size ≤ k_) ∧ some k_ ≠ (v116 : Value).ownBlock ∧ k_ ≠ gb101 ∧ k_ ≠ gb102 ∧ k_ ≠ gb103 ∧ k_ ≠ gb108)) (by (with_reducible repeat (first | apply Kd.V_alloc | apply Kd.V_drewN | apply Kd.V_drew)); exact Kd.V_mono HO_103002.out (fun _ hk => ⟨⟨hk.1.1.1, ⟨hk.2, ⟨hk.1.1.2.1, ⟨hk.1.1.2.2.1, ⟨hk.1.1.2.2.2.1, hk.1.1.2.2.2.2⟩⟩⟩⟩⟩, hk.1.2⟩)) hg hat)
                  have n3_ := amk (blk_grown (g := gb101) (o := .cells #[.int .u32 a0_0, .int .u32 a0_1, .slice A0_2 l0_2.length c0_2] 56 (0, 0)) (by (with_reducible repeat (first | refine blk_drewN ?_ _ | refine blk_drew ?_ | refine blk_alloc ?_ _)); exact BK101.out) hg (Kd.N_ne HO111.out BK101.out (by decide)))
                  have n4_ := amk (blk_grown (g := gb102) (o := .cells #[.slice A1_0 l1_0.length c1_0, .int .i64 a1_1, .slice A1_2 l1_2.length c1_2, .int .i64 a1_3, .int .u64 a1_4, .string a1_5, .int .u64 a1_6, .int .u32 a1_7] 58 (0, 0)) (by (with_reducible repeat (first | refine blk_drewN ?_ _ | refine blk_drew ?_ | refine blk_alloc ?_ _)); exact BK102.out) hg (Kd.N_away HO111.out (fun _ hk => hk.1.2.2.1)))
                  have n5_ := amk (blk_grown (g := gb103) (o := .cells #[.int .u32 a2_0, .int .u32 a2_1, .int .u64 a2_2, .int .u64 a2_3, .int .u64 a2_4, .int .u64 a2_5, .int .u64 a2_6, .int .u64 a2_7, .int .u64 a2_8] 49 (0, 0)) (by (with_reducible repeat (first | refine blk_drewN ?_ _ | refine blk_drew ?_ | refine blk_alloc ?_ _)); exact BK103.out) hg (Kd.N_ne HO111.out BK103.out (by decide)))
                  have n6_ := amk (blk_grown (g := gb108) (o := .cells #[.int .u32 a0_0, .int .u32 a0_1, .slice A0_2 l0_2.length c0_2] 56 (0, 0)) (by (with_reducible repeat (first | refine blk_drewN ?_ _ | refine blk_drew ?_ | refine blk_alloc ?_ _)); exact BK108.out) hg (Kd.N_ne HO111.out BK108.out (by decide)))
                  have n7_ := amk (Kd.N_afterv (ok := (fun k_ => ((P0_2_ k_ ∨ P1_0_ k_ ∨ P1_2_ k_) ∨ w.heap.size ≤ k_) ∧ k_ ≠ gb101 ∧ k_ ≠ gb102 ∧ k_ ≠ gb103 ∧ k_ ≠ gb108)) (by (with_reducible repeat (first | apply Kd.N_alloc | apply Kd.N_drewN | apply Kd.N_drew)); exact Kd.N_mono HO117.out (fun _ hk => ⟨⟨hk.1, ⟨hk.2.2.1, ⟨hk.2.2.2.1, ⟨hk.2.2.2.2.1, hk.2.2.2.2.2⟩⟩⟩⟩, hk.2.1⟩)) hg hat)
                  have n8_ := amk (hb)
                  have n9_ := amk (ho)
                  clear HO_102002
                  clear HO_103000
                  clear HO_103002
                  clear BK101
                  clear BK102
                  clear BK103
                  clear BK108
                  clear HO117
                  clear HB
                  clear HO111
                  have HO_102002 := n0_
                  have HO_103000 := n1_
                  have HO_103002 := n2_
                  have BK101 := n3_
                  have BK102 := n4_
                  have BK103 := n5_
                  have BK108 := n6_
                  have HO117 := n7_
                  have HB := n8_
                  have HO114 := n9_
                  clear n0_ n1_ n2_ n3_ n4_ n5_ n6_ n7_ n8_ n9_
                  clear ho hb hg hat
                  refine hK.out _ _ ⟨(blk_cell BK101.out 0).trans rfl, (blk_cell BK101.out 1).trans rfl, (blk_cell BK101.out 2).trans rfl, (blk_cell BK102.out 0).trans rfl, (blk_cell BK102.out 1).trans rfl, (blk_cell BK102.out 2).trans rfl, (blk_cell BK102.out 3).trans rfl, (blk_cell BK102.out 4).trans rfl, (blk_cell BK102.out 5).trans rfl, (blk_cell BK102.out 6).trans rfl, (blk_cell BK102.out 7).trans rfl⟩ (fun hHeld => ?_)
                  clear hK K
                  refine norm_ (a' := ?_) ?_ ?_
                  rotate_left
                  · show Act.put _ (some 36) _ = _
                    simp only [Act.put, List.setIfInBounds_toArray, List.set_cons_zero, List.set_cons_succ, i64_w, i32_w]
                    rfl
                  exact norm_ (by simp only [putAll, Act.put, List.setIfInBounds_toArray, List.set_cons_zero, List.set_cons_succ]) (hCont (v110, v113, v116) _ ⟨hHeld, (by (with_reducible repeat (first | apply Kd.N_alloc | apply Kd.N_drewN | apply Kd.N_drew)); exact HO114.out), (by (with_reducible repeat (first | apply Kd.N_alloc | apply Kd.N_drewN | apply Kd.N_drew)); exact Kd.N_mono HO117.out (fun _ hk => ⟨hk.1.1, ⟨hk.2, ⟨hk.1.2.1, ⟨hk.1.2.2.1, ⟨hk.1.2.2.2.1, hk.1.2.2.2.2⟩⟩⟩⟩⟩)), (by (with_reducible repeat (first | apply Kd.V_alloc | apply Kd.V_drewN | apply Kd.V_drew)); exact Kd.V_mono HO_102002.out (fun _ hk => ⟨hk.1.1, ⟨hk.2, ⟨hk.1.2.1, ⟨hk.1.2.2.1, ⟨hk.1.2.2.2.1, ⟨hk.1.2.2.2.2.1, hk.1.2.2.2.2.2⟩⟩⟩⟩⟩⟩)), (by (with_reducible repeat (first | apply Kd.V_alloc | apply Kd.V_drewN | apply Kd.V_drew)); exact Kd.V_mono HO_103000.out (fun _ hk => ⟨hk.1.1, ⟨hk.2, ⟨hk.1.2.1, ⟨hk.1.2.2.1, ⟨hk.1.2.2.2.1, ⟨hk.1.2.2.2.2.1, hk.1.2.2.2.2.2⟩⟩⟩⟩⟩⟩)), (by (with_reducible repeat (first | apply Kd.V_alloc | apply Kd.V_drewN | apply Kd.V_drew)); exact Kd.V_mono HO_103002.out (fun _ hk => ⟨hk.1.1, ⟨hk.2, ⟨hk.1.2.1, ⟨hk.1.2.2.1, ⟨hk.1.2.2.2.1, ⟨hk.1.2.2.2.2.1, hk.1.2.2.2.2.2⟩⟩⟩⟩⟩⟩)), (by (with_reducible repeat (first | refine blk_drewN ?_ _ | refine blk_drew ?_ | refine blk_alloc ?_ _)); exact BK101.out), (by (with_reducible repeat (first | refine blk_drewN ?_ _ | refine blk_drew ?_ | refine blk_alloc ?_ _)); exact BK102.out), (by (with_reducible repeat (first | refine blk_drewN ?_ _ | refine blk_drew ?_ | refine blk_alloc ?_ _)); exact BK103.out), (by (with_reducible repeat (first | refine blk_drewN ?_ _ | refine blk_drew ?_ | refine blk_alloc ?_ _)); exact BK108.out), (by repeat (first | (with_reducible first | exact HB.out | apply bal | apply pbd | apply below_drew1 | refine below_set ?_ GE101.out | refine below_set ?_ GE102.out | refine below_set ?_ GE103.out | refine below_set ?_ GE108.out) | exact HB.out))⟩)
              · skip
                refine Kd.N_lit_step k58 _ 58 ?hg (N' := 38) ?hd (xs := ([(⟨l1_0, (⟨a1_1, l1_2, a1_3, a1_4, a1_5, a1_6⟩ : S46), a1_7⟩ : S58)] : List (S58))) (inner := [.slice A1_0 l1_0.length c1_0, .int .i64 a1_1, .slice A1_2 l1_2.length c1_2, .int .i64 a1_3, .int .u64 a1_4, .string a1_5, .int .u64 a1_6, .int .u32 a1_7]) (ok := (fun k_ => ((P0_2_ k_ ∨ P1_0_ k_ ∨ P1_2_ k_) ∨ w.heap.size ≤ k_) ∧ k_ ≠ gb101 ∧ k_ ≠ gb102 ∧ k_ ≠ gb103 ∧ k_ ≠ gb108)) (okp := (fun k_ => ((P0_2_ k_ ∨ P1_0_ k_ ∨ P1_2_ k_) ∨ w.heap.size ≤ k_) ∧ k_ ≠ gb101 ∧ k_ ≠ gb102 ∧ k_ ≠ gb103 ∧ k_ ≠ gb108)) ?hr ?hp (fun _ hk => hk) ((show ∀ k_, w50.heap.size ≤ k_ → (fun k_ => ((P0_2_ k_ ∨ P1_0_ k_ ∨ P1_2_ k_) ∨ w.heap.size ≤ k_) ∧ k_ ≠ gb101 ∧ k_ ≠ gb102 ∧ k_ ≠ gb103 ∧ k_ ≠ gb108) k_ from fun k_ hk => ⟨(.inr (Nat.le_trans (below_size (by repeat (first | (with_reducible first | exact HB.out | apply bal | apply pbd | apply below_drew1 | refine below_set ?_ GE101.out | refine below_set ?_ GE102.out | refine below_set ?_ GE103.out | refine below_set ?_ GE108.out) | exact HB.out))) hk)), Kd.freshB (g := gb101) (o := .cells #[.int .u32 a0_0, .int .u32 a0_1, .slice A0_2 l0_2.length c0_2] 56 (0, 0)) (by (with_reducible repeat (first | refine blk_drewN ?_ _ | refine blk_drew ?_ | refine blk_alloc ?_ _)); exact BK101.out) k_ hk, Kd.freshB (g := gb102) (o := .cells #[.slice A1_0 l1_0.length c1_0, .int .i64 a1_1, .slice A1_2 l1_2.length c1_2, .int .i64 a1_3, .int .u64 a1_4, .string a1_5, .int .u64 a1_6, .int .u32 a1_7] 58 (0, 0)) (by (with_reducible repeat (first | refine blk_drewN ?_ _ | refine blk_drew ?_ | refine blk_alloc ?_ _)); exact BK102.out) k_ hk, Kd.freshB (g := gb103) (o := .cells #[.int .u32 a2_0, .int .u32 a2_1, .int .u64 a2_2, .int .u64 a2_3, .int .u64 a2_4, .int .u64 a2_5, .int .u64 a2_6, .int .u64 a2_7, .int .u64 a2_8] 49 (0, 0)) (by (with_reducible repeat (first | refine blk_drewN ?_ _ | refine blk_drew ?_ | refine blk_alloc ?_ _)); exact BK103.out) k_ hk, Kd.freshB (g := gb108) (o := .cells #[.int .u32 a0_0, .int .u32 a0_1, .slice A0_2 l0_2.length c0_2] 56 (0, 0)) (by (with_reducible repeat (first | refine blk_drewN ?_ _ | refine blk_drew ?_ | refine blk_alloc ?_ _)); exact BK108.out) k_ hk⟩) _ (Nat.le_refl _)) (Below.refl _ _) (Nat.le_refl _) (by simp) ?_; (case hd => rfl); (case hg => rfl); (case hr => first | (go_simp; done) | (go_simp; rfl)); (case hp => exact (Reps.c8 (show Kd.FK k58 _ _ (⟨l1_0, (⟨a1_1, l1_2, a1_3, a1_4, a1_5, a1_6⟩ : S46), a1_7⟩ : S58) [.slice A1_0 l1_0.length c1_0, .int .i64 a1_1, .slice A1_2 l1_2.length c1_2, .int .i64 a1_3, .int .u64 a1_4, .string a1_5, .int .u64 a1_6, .int .u32 a1_7] from (k58_mkF _ _ (⟨l1_0, (⟨a1_1, l1_2, a1_3, a1_4, a1_5, a1_6⟩ : S46), a1_7⟩ : S58) (Kd.V_reads' (Kd.V_mono (ok' := (fun k_ => ((P0_2_ k_ ∨ P1_0_ k_ ∨ P1_2_ k_) ∨ w.heap.size ≤ k_) ∧ k_ ≠ gb101 ∧ k_ ≠ gb102 ∧ k_ ≠ gb103 ∧ k_ ≠ gb108)) (HO_103000.out) (fun k_ hk => ⟨hk.1, ⟨hk.2.1, ⟨hk.2.2.1, ⟨hk.2.2.2.1, hk.2.2.2.2⟩⟩⟩⟩))).2.1 (Kd.V_F (Kd.V_mono (ok' := (fun k_ => ((P0_2_ k_ ∨ P1_0_ k_ ∨ P1_2_ k_) ∨ w.heap.size ≤ k_) ∧ k_ ≠ gb101 ∧ k_ ≠ gb102 ∧ k_ ≠ gb103 ∧ k_ ≠ gb108)) (HO_103000.out) (fun k_ hk => ⟨hk.1, ⟨hk.2.1, ⟨hk.2.2.1, ⟨hk.2.2.2.1, hk.2.2.2.2⟩⟩⟩⟩))) (Kd.V_reads' (Kd.V_mono (ok' := (fun k_ => ((P0_2_ k_ ∨ P1_0_ k_ ∨ P1_2_ k_) ∨ w.heap.size ≤ k_) ∧ k_ ≠ gb101 ∧ k_ ≠ gb102 ∧ k_ ≠ gb103 ∧ k_ ≠ gb108)) (HO_103002.out) (fun k_ hk => ⟨hk.1, ⟨hk.2.1, ⟨hk.2.2.1, ⟨hk.2.2.2.1, hk.2.2.2.2⟩⟩⟩⟩))).2.1 (Kd.V_F (Kd.V_mono (ok' := (fun k_ => ((P0_2_ k_ ∨ P1_0_ k_ ∨ P1_2_ k_) ∨ w.heap.size ≤ k_) ∧ k_ ≠ gb101 ∧ k_ ≠ gb102 ∧ k_ ≠ gb103 ∧ k_ ≠ gb108)) (HO_103002.out) (fun k_ hk => ⟨hk.1, ⟨hk.2.1, ⟨hk.2.2.1, ⟨hk.2.2.2.1, hk.2.2.2.2⟩⟩⟩⟩))))) (Reps.none _ _)))
                intro v116 w51 ho52 hb hg_ hnew_
                clear hg_ hnew_
                (first | rw [← Ny115.out] at ho52 | (simp only [Int.reduceToNat] at ho52; rw [← Ny115.out] at ho52))
                have n0_ := amk (Kd.V_elder' (by (with_reducible repeat (first | apply Kd.V_alloc | apply Kd.V_drewN | apply Kd.V_drew)); exact HO_102002.out) (Kd.N_base ho52) hb)
                have n1_ := amk (Kd.V_elder' (by (with_reducible repeat (first | apply Kd.V_alloc | apply Kd.V_drewN | apply Kd.V_drew)); exact HO_103000.out) (Kd.N_base ho52) hb)
                have n2_ := amk (Kd.V_elder' (by (with_reducible repeat (first | apply Kd.V_alloc | apply Kd.V_drewN | apply Kd.V_drew)); exact HO_103002.out) (Kd.N_base ho52) hb)
                have n3_ := amk (Kd.N_lower ho52 (below_size (by repeat (first | (with_reducible first | exact HB.out | apply bal | apply pbd | apply below_drew1 | refine below_set ?_ GE101.out | refine below_set ?_ GE102.out | refine below_set ?_ GE103.out | refine below_set ?_ GE108.out) | exact HB.out))))
                have n4_ := amk (blk_below (g := gb101) (o := .cells #[.int .u32 a0_0, .int .u32 a0_1, .slice A0_2 l0_2.length c0_2] 56 (0, 0)) (by (with_reducible repeat (first | refine blk_drewN ?_ _ | refine blk_drew ?_ | refine blk_alloc ?_ _)); exact BK101.out) hb)
                have n5_ := amk (blk_below (g := gb102) (o := .cells #[.slice A1_0 l1_0.length c1_0, .int .i64 a1_1, .slice A1_2 l1_2.length c1_2, .int .i64 a1_3, .int .u64 a1_4, .string a1_5, .int .u64 a1_6, .int .u32 a1_7] 58 (0, 0)) (by (with_reducible repeat (first | refine blk_drewN ?_ _ | refine blk_drew ?_ | refine blk_alloc ?_ _)); exact BK102.out) hb)
                have n6_ := amk (blk_below (g := gb103) (o := .cells #[.int .u32 a2_0, .int .u32 a2_1, .int .u64 a2_2, .int .u64 a2_3, .int .u64 a2_4, .int .u64 a2_5, .int .u64 a2_6, .int .u64 a2_7, .int .u64 a2_8] 49 (0, 0)) (by (with_reducible repeat (first | refine blk_drewN ?_ _ | refine blk_drew ?_ | refine blk_alloc ?_ _)); exact BK103.out) hb)
                have n7_ := amk (blk_below (g := gb108) (o := .cells #[.int .u32 a0_0, .int .u32 a0_1, .slice A0_2 l0_2.length c0_2] 56 (0, 0)) (by (with_reducible repeat (first | refine blk_drewN ?_ _ | refine blk_drew ?_ | refine blk_alloc ?_ _)); exact BK108.out) hb)
                have n8_ := amk (below_step (by repeat (first | (with_reducible first | exact HB.out | apply bal | apply pbd | apply below_drew1 | refine below_set ?_ GE101.out | refine below_set ?_ GE102.out | refine below_set ?_ GE103.out | refine below_set ?_ GE108.out) | exact HB.out)) hb)
                clear HO_102002
                clear HO_103000
                clear HO_103002
                clear BK101
                clear BK102
                clear BK103
                clear BK108
                clear HB
                have HO_102002 := n0_
                have HO_103000 := n1_
                have HO_103002 := n2_
                have HO117 := n3_
                have BK101 := n4_
                have BK102 := n5_
                have BK103 := n6_
                have BK108 := n7_
                have HB := n8_
                clear n0_ n1_ n2_ n3_ n4_ n5_ n6_ n7_ n8_
                clear hb ho52
                refine hK.out _ _ ⟨(blk_cell BK101.out 0).trans rfl, (blk_cell BK101.out 1).trans rfl, (blk_cell BK101.out 2).trans rfl, (blk_cell BK102.out 0).trans rfl, (blk_cell BK102.out 1).trans rfl, (blk_cell BK102.out 2).trans rfl, (blk_cell BK102.out 3).trans rfl, (blk_cell BK102.out 4).trans rfl, (blk_cell BK102.out 5).trans rfl, (blk_cell BK102.out 6).trans rfl, (blk_cell BK102.out 7).trans rfl⟩ (fun hHeld => ?_)
                clear hK K
                refine norm_ (a' := ?_) ?_ ?_
                rotate_left
                · show Act.put _ (some 38) _ = _
                  simp only [Act.put, List.setIfInBounds_toArray, List.set_cons_zero, List.set_cons_succ, i64_w, i32_w]
                  rfl
                refine one_ (i := 0) (N := some 33) #[true, true, true, false, true, true, false, false, false] rfl rfl (one_of HT_.out (by kernel_rfl)) (by decide) (fun K hK => ?_)
                refine Kd.N_lit_step k58 _ 58 ?hg (N' := 33) ?hd (xs := ([] : List (S58))) (inner := []) (ok := (fun k_ => ((P0_2_ k_ ∨ P1_0_ k_ ∨ P1_2_ k_) ∨ w.heap.size ≤ k_) ∧ some k_ ≠ (v116 : Value).ownBlock ∧ k_ ≠ gb101 ∧ k_ ≠ gb102 ∧ k_ ≠ gb103 ∧ k_ ≠ gb108)) (okp := (fun k_ => ((P0_2_ k_ ∨ P1_0_ k_ ∨ P1_2_ k_) ∨ w.heap.size ≤ k_) ∧ some k_ ≠ (v116 : Value).ownBlock ∧ k_ ≠ gb101 ∧ k_ ≠ gb102 ∧ k_ ≠ gb103 ∧ k_ ≠ gb108)) ?hr ?hp (fun _ hk => hk) ((show ∀ k_, w51.heap.size ≤ k_ → (fun k_ => ((P0_2_ k_ ∨ P1_0_ k_ ∨ P1_2_ k_) ∨ w.heap.size ≤ k_) ∧ some k_ ≠ (v116 : Value).ownBlock ∧ k_ ≠ gb101 ∧ k_ ≠ gb102 ∧ k_ ≠ gb103 ∧ k_ ≠ gb108) k_ from fun k_ hk => ⟨(.inr (Nat.le_trans (below_size (by repeat (first | (with_reducible first | exact HB.out | apply bal | apply pbd | apply below_drew1 | refine below_set ?_ GE101.out | refine below_set ?_ GE102.out | refine below_set ?_ GE103.out | refine below_set ?_ GE108.out) | exact HB.out))) hk)), Kd.fresh' (Kd.N_lt (by (with_reducible repeat (first | apply Kd.N_alloc | apply Kd.N_drewN | apply Kd.N_drew)); exact HO117.out)) k_ hk, Kd.freshB (g := gb101) (o := .cells #[.int .u32 a0_0, .int .u32 a0_1, .slice A0_2 l0_2.length c0_2] 56 (0, 0)) (by (with_reducible repeat (first | refine blk_drewN ?_ _ | refine blk_drew ?_ | refine blk_alloc ?_ _)); exact BK101.out) k_ hk, Kd.freshB (g := gb102) (o := .cells #[.slice A1_0 l1_0.length c1_0, .int .i64 a1_1, .slice A1_2 l1_2.length c1_2, .int .i64 a1_3, .int .u64 a1_4, .string a1_5, .int .u64 a1_6, .int .u32 a1_7] 58 (0, 0)) (by (with_reducible repeat (first | refine blk_drewN ?_ _ | refine blk_drew ?_ | refine blk_alloc ?_ _)); exact BK102.out) k_ hk, Kd.freshB (g := gb103) (o := .cells #[.int .u32 a2_0, .int .u32 a2_1, .int .u64 a2_2, .int .u64 a2_3, .int .u64 a2_4, .int .u64 a2_5, .int .u64 a2_6, .int .u64 a2_7, .int .u64 a2_8] 49 (0, 0)) (by (with_reducible repeat (first | refine blk_drewN ?_ _ | refine blk_drew ?_ | refine blk_alloc ?_ _)); exact BK103.out) k_ hk, Kd.freshB (g := gb108) (o := .cells #[.int .u32 a0_0, .int .u32 a0_1, .slice A0_2 l0_2.length c0_2] 56 (0, 0)) (by (with_reducible repeat (first | refine blk_drewN ?_ _ | refine blk_drew ?_ | refine blk_alloc ?_ _)); exact BK108.out) k_ hk⟩) _ (Nat.le_refl _)) (Below.refl _ _) (Nat.le_refl _) (by simp) ?_; (case hd => rfl); (case hg => rfl); (case hr => first | (go_simp; done) | (go_simp; rfl)); (case hp => exact (Reps.none _ _))
                intro v110 w53 ho54 hb hg_ hnew_
                clear hg_ hnew_
                (first | rw [← Ny109.out] at ho54 | (simp only [Int.reduceToNat] at ho54; rw [← Ny109.out] at ho54))
                have n0_ := amk (Kd.V_elder' (by (with_reducible repeat (first | apply Kd.V_alloc | apply Kd.V_drewN | apply Kd.V_drew)); exact HO_102002.out) (Kd.N_base ho54) hb)
                have n1_ := amk (Kd.V_elder' (by (with_reducible repeat (first | apply Kd.V_alloc | apply Kd.V_drewN | apply Kd.V_drew)); exact HO_103000.out) (Kd.N_base ho54) hb)
                have n2_ := amk (Kd.V_elder' (by (with_reducible repeat (first | apply Kd.V_alloc | apply Kd.V_drewN | apply Kd.V_drew)); exact HO_103002.out) (Kd.N_base ho54) hb)
                have n3_ := amk (Kd.N_elder' (by (with_reducible repeat (first | apply Kd.N_alloc | apply Kd.N_drewN | apply Kd.N_drew)); exact HO117.out) (Kd.N_base ho54) hb)
                have n4_ := amk (Kd.N_lower ho54 (below_size (by repeat (first | (with_reducible first | exact HB.out | apply bal | apply pbd | apply below_drew1 | refine below_set ?_ GE101.out | refine below_set ?_ GE102.out | refine below_set ?_ GE103.out | refine below_set ?_ GE108.out) | exact HB.out))))
                have n5_ := amk (blk_below (g := gb101) (o := .cells #[.int .u32 a0_0, .int .u32 a0_1, .slice A0_2 l0_2.length c0_2] 56 (0, 0)) (by (with_reducible repeat (first | refine blk_drewN ?_ _ | refine blk_drew ?_ | refine blk_alloc ?_ _)); exact BK101.out) hb)
                have n6_ := amk (blk_below (g := gb102) (o := .cells #[.slice A1_0 l1_0.length c1_0, .int .i64 a1_1, .slice A1_2 l1_2.length c1_2, .int .i64 a1_3, .int .u64 a1_4, .string a1_5, .int .u64 a1_6, .int .u32 a1_7] 58 (0, 0)) (by (with_reducible repeat (first | refine blk_drewN ?_ _ | refine blk_drew ?_ | refine blk_alloc ?_ _)); exact BK102.out) hb)
                have n7_ := amk (blk_below (g := gb103) (o := .cells #[.int .u32 a2_0, .int .u32 a2_1, .int .u64 a2_2, .int .u64 a2_3, .int .u64 a2_4, .int .u64 a2_5, .int .u64 a2_6, .int .u64 a2_7, .int .u64 a2_8] 49 (0, 0)) (by (with_reducible repeat (first | refine blk_drewN ?_ _ | refine blk_drew ?_ | refine blk_alloc ?_ _)); exact BK103.out) hb)
                have n8_ := amk (blk_below (g := gb108) (o := .cells #[.int .u32 a0_0, .int .u32 a0_1, .slice A0_2 l0_2.length c0_2] 56 (0, 0)) (by (with_reducible repeat (first | refine blk_drewN ?_ _ | refine blk_drew ?_ | refine blk_alloc ?_ _)); exact BK108.out) hb)
                have n9_ := amk (below_step (by repeat (first | (with_reducible first | exact HB.out | apply bal | apply pbd | apply below_drew1 | refine below_set ?_ GE101.out | refine below_set ?_ GE102.out | refine below_set ?_ GE103.out | refine below_set ?_ GE108.out) | exact HB.out)) hb)
                clear HO_102002
                clear HO_103000
                clear HO_103002
                clear HO117
                clear BK101
                clear BK102
                clear BK103
                clear BK108
                clear HB
                have HO_102002 := n0_
                have HO_103000 := n1_
                have HO_103002 := n2_
                have HO117 := n3_
                have HO111 := n4_
                have BK101 := n5_
                have BK102 := n6_
                have BK103 := n7_
                have BK108 := n8_
                have HB := n9_
                clear n0_ n1_ n2_ n3_ n4_ n5_ n6_ n7_ n8_ n9_
                clear hb ho54
                refine hK.out _ _ ⟨(blk_cell BK101.out 0).trans rfl, (blk_cell BK101.out 1).trans rfl, (blk_cell BK101.out 2).trans rfl, (blk_cell BK102.out 0).trans rfl, (blk_cell BK102.out 1).trans rfl, (blk_cell BK102.out 2).trans rfl, (blk_cell BK102.out 3).trans rfl, (blk_cell BK102.out 4).trans rfl, (blk_cell BK102.out 5).trans rfl, (blk_cell BK102.out 6).trans rfl, (blk_cell BK102.out 7).trans rfl⟩ (fun hHeld => ?_)
                clear hK K
                refine norm_ (a' := ?_) ?_ ?_
                rotate_left
                · show Act.put _ (some 33) _ = _
                  simp only [Act.put, List.setIfInBounds_toArray, List.set_cons_zero, List.set_cons_succ, i64_w, i32_w]
                  rfl
                refine one_ (i := 3) (N := some 36) #[true, true, true, true, true, true, false, false, false] rfl rfl (one_of HT_.out (by kernel_rfl)) (by decide) (fun K hK => ?_)
                refine Kd.N_append_rows_step k58 (w0 := w) w.heap.size (by rfl) (.tmp 33) (.tmp 35) 54 58 (.agg #[(.slice none 0 0), (.int .i64 0), (.slice none 0 0), (.int .i64 0), (.int .u64 0), (.string ⟨#[]⟩), (.int .u64 0), (.int .u32 0)]) 104 rfl Try.underlying54 info58 rfl (by decide) (by omega) v110 y109 l0_2 _ _ _ (fun k_ => ((P0_2_ k_ ∨ P1_0_ k_ ∨ P1_2_ k_) ∨ w.heap.size ≤ k_) ∧ some k_ ≠ (v116 : Value).ownBlock ∧ k_ ≠ gb101 ∧ k_ ≠ gb102 ∧ k_ ≠ gb103 ∧ k_ ≠ gb108) (fun k_ => ((fun k_ => ((P0_2_ k_ ∨ P1_0_ k_ ∨ P1_2_ k_) ∨ w.heap.size ≤ k_) ∧ some k_ ≠ (v116 : Value).ownBlock ∧ k_ ≠ gb101 ∧ k_ ≠ gb102 ∧ k_ ≠ gb103 ∧ k_ ≠ gb108)) k_ ∧ some k_ ≠ (v110 : Value).ownBlock) rfl rfl ?aO ?aR (fun _ hk => hk) ?aF ?aB ?aS ?aL ?_
                (case aR => exact (by skip; exact Kd.V_F (Kd.V_mono (ok' := (fun k_ => ((fun k_ => ((P0_2_ k_ ∨ P1_0_ k_ ∨ P1_2_ k_) ∨ w.heap.size ≤ k_) ∧ some k_ ≠ (v116 : Value).ownBlock ∧ k_ ≠ gb101 ∧ k_ ≠ gb102 ∧ k_ ≠ gb103 ∧ k_ ≠ gb108)) k_ ∧ some k_ ≠ (v110 : Value).ownBlock)) (HO_102002.out) (fun k_ hk => ⟨⟨hk.1.1.1, ⟨hk.1.2, ⟨hk.1.1.2.1, ⟨hk.1.1.2.2.1, ⟨hk.1.1.2.2.2.1, hk.1.1.2.2.2.2⟩⟩⟩⟩⟩, hk.2⟩))))
                (case aB => exact (by repeat (first | (with_reducible first | exact HB.out | apply bal | apply pbd | apply below_drew1 | refine below_set ?_ GE101.out | refine below_set ?_ GE102.out | refine below_set ?_ GE103.out | refine below_set ?_ GE108.out) | exact HB.out)))
                (case aF => exact (fun k_ hk => ⟨(.inr (Nat.le_trans (below_size (by repeat (first | (with_reducible first | exact HB.out | apply bal | apply pbd | apply below_drew1 | refine below_set ?_ GE101.out | refine below_set ?_ GE102.out | refine below_set ?_ GE103.out | refine below_set ?_ GE108.out) | exact HB.out))) hk)), Kd.fresh' (Kd.N_lt (by (with_reducible repeat (first | apply Kd.N_alloc | apply Kd.N_drewN | apply Kd.N_drew)); exact HO117.out)) k_ hk, Kd.freshB (g := gb101) (o := .cells #[.int .u32 a0_0, .int .u32 a0_1, .slice A0_2 l0_2.length c0_2] 56 (0, 0)) (by (with_reducible repeat (first | refine blk_drewN ?_ _ | refine blk_drew ?_ | refine blk_alloc ?_ _)); exact BK101.out) k_ hk, Kd.freshB (g := gb102) (o := .cells #[.slice A1_0 l1_0.length c1_0, .int .i64 a1_1, .slice A1_2 l1_2.length c1_2, .int .i64 a1_3, .int .u64 a1_4, .string a1_5, .int .u64 a1_6, .int .u32 a1_7] 58 (0, 0)) (by (with_reducible repeat (first | refine blk_drewN ?_ _ | refine blk_drew ?_ | refine blk_alloc ?_ _)); exact BK102.out) k_ hk, Kd.freshB (g := gb103) (o := .cells #[.int .u32 a2_0, .int .u32 a2_1, .int .u64 a2_2, .int .u64 a2_3, .int .u64 a2_4, .int .u64 a2_5, .int .u64 a2_6, .int .u64 a2_7, .int .u64 a2_8] 49 (0, 0)) (by (with_reducible repeat (first | refine blk_drewN ?_ _ | refine blk_drew ?_ | refine blk_alloc ?_ _)); exact BK103.out) k_ hk, Kd.freshB (g := gb108) (o := .cells #[.int .u32 a0_0, .int .u32 a0_1, .slice A0_2 l0_2.length c0_2] 56 (0, 0)) (by (with_reducible repeat (first | refine blk_drewN ?_ _ | refine blk_drew ?_ | refine blk_alloc ?_ _)); exact BK108.out) k_ hk⟩))
                (case aO => exact (by (with_reducible repeat (first | apply Kd.N_alloc | apply Kd.N_drewN | apply Kd.N_drew)); exact HO111.out))
                (case aS => exact (below_size (by repeat (first | (with_reducible first | exact HB.out | apply bal | apply pbd | apply below_drew1 | refine below_set ?_ GE101.out | refine below_set ?_ GE102.out | refine below_set ?_ GE103.out | refine below_set ?_ GE108.out) | exact HB.out))))
                (case aL => have := LMc33.out; omega)
                intro v113 w55 ho hb hg hat
                rw [← Ny112.out] at ho
                have n0_ := amk (Kd.V_afterv (ok := (fun k_ => ((P0_2_ k_ ∨ P1_0_ k_ ∨ P1_2_ k_) ∨ w.heap.size ≤ k_) ∧ some k_ ≠ (v116 : Value).ownBlock ∧ k_ ≠ gb101 ∧ k_ ≠ gb102 ∧ k_ ≠ gb103 ∧ k_ ≠ gb108)) (by (with_reducible repeat (first | apply Kd.V_alloc | apply Kd.V_drewN | apply Kd.V_drew)); exact Kd.V_mono HO_102002.out (fun _ hk => ⟨⟨hk.1.1.1, ⟨hk.1.2, ⟨hk.1.1.2.1, ⟨hk.1.1.2.2.1, ⟨hk.1.1.2.2.2.1, hk.1.1.2.2.2.2⟩⟩⟩⟩⟩, hk.2⟩)) hg hat)
                have n1_ := amk (Kd.V_afterv (ok := (fun k_ => ((P0_2_ k_ ∨ P1_0_ k_ ∨ P1_2_ k_) ∨ w.heap.size ≤ k_) ∧ some k_ ≠ (v116 : Value).ownBlock ∧ k_ ≠ gb101 ∧ k_ ≠ gb102 ∧ k_ ≠ gb103 ∧ k_ ≠ gb108)) (by (with_reducible repeat (first | apply Kd.V_alloc | apply Kd.V_drewN | apply Kd.V_drew)); exact Kd.V_mono HO_103000.out (fun _ hk => ⟨⟨hk.1.1.1, ⟨hk.1.2, ⟨hk.1.1.2.1, ⟨hk.1.1.2.2.1, ⟨hk.1.1.2.2.2.1, hk.1.1.2.2.2.2⟩⟩⟩⟩⟩, hk.2⟩)) hg hat)
                have n2_ := amk (Kd.V_afterv (ok := (fun k_ => ((P0_2_ k_ ∨ P1_0_ k_ ∨ P1_2_ k_) ∨ w.heap.size ≤ k_) ∧ some k_ ≠ (v116 : Value).ownBlock ∧ k_ ≠ gb101 ∧ k_ ≠ gb102 ∧ k_ ≠ gb103 ∧ k_ ≠ gb108)) (by (with_reducible repeat (first | apply Kd.V_alloc | apply Kd.V_drewN | apply Kd.V_drew)); exact Kd.V_mono HO_103002.out (fun _ hk => ⟨⟨hk.1.1.1, ⟨hk.1.2, ⟨hk.1.1.2.1, ⟨hk.1.1.2.2.1, ⟨hk.1.1.2.2.2.1, hk.1.1.2.2.2.2⟩⟩⟩⟩⟩, hk.2⟩)) hg hat)
                have n3_ := amk (blk_grown (g := gb101) (o := .cells #[.int .u32 a0_0, .int .u32 a0_1, .slice A0_2 l0_2.length c0_2] 56 (0, 0)) (by (with_reducible repeat (first | refine blk_drewN ?_ _ | refine blk_drew ?_ | refine blk_alloc ?_ _)); exact BK101.out) hg (Kd.N_ne HO111.out BK101.out (by decide)))
                have n4_ := amk (blk_grown (g := gb102) (o := .cells #[.slice A1_0 l1_0.length c1_0, .int .i64 a1_1, .slice A1_2 l1_2.length c1_2, .int .i64 a1_3, .int .u64 a1_4, .string a1_5, .int .u64 a1_6, .int .u32 a1_7] 58 (0, 0)) (by (with_reducible repeat (first | refine blk_drewN ?_ _ | refine blk_drew ?_ | refine blk_alloc ?_ _)); exact BK102.out) hg (Kd.N_away HO111.out (fun _ hk => hk.2.2.2.1)))
                have n5_ := amk (blk_grown (g := gb103) (o := .cells #[.int .u32 a2_0, .int .u32 a2_1, .int .u64 a2_2, .int .u64 a2_3, .int .u64 a2_4, .int .u64 a2_5, .int .u64 a2_6, .int .u64 a2_7, .int .u64 a2_8] 49 (0, 0)) (by (with_reducible repeat (first | refine blk_drewN ?_ _ | refine blk_drew ?_ | refine blk_alloc ?_ _)); exact BK103.out) hg (Kd.N_ne HO111.out BK103.out (by decide)))
                have n6_ := amk (blk_grown (g := gb108) (o := .cells #[.int .u32 a0_0, .int .u32 a0_1, .slice A0_2 l0_2.length c0_2] 56 (0, 0)) (by (with_reducible repeat (first | refine blk_drewN ?_ _ | refine blk_drew ?_ | refine blk_alloc ?_ _)); exact BK108.out) hg (Kd.N_ne HO111.out BK108.out (by decide)))
                have n7_ := amk (Kd.N_afterv (ok := (fun k_ => ((P0_2_ k_ ∨ P1_0_ k_ ∨ P1_2_ k_) ∨ w.heap.size ≤ k_) ∧ k_ ≠ gb101 ∧ k_ ≠ gb102 ∧ k_ ≠ gb103 ∧ k_ ≠ gb108)) (by (with_reducible repeat (first | apply Kd.N_alloc | apply Kd.N_drewN | apply Kd.N_drew)); exact HO117.out) hg hat)
                have n8_ := amk (hb)
                have n9_ := amk (ho)
                clear HO_102002
                clear HO_103000
                clear HO_103002
                clear BK101
                clear BK102
                clear BK103
                clear BK108
                clear HO117
                clear HB
                clear HO111
                have HO_102002 := n0_
                have HO_103000 := n1_
                have HO_103002 := n2_
                have BK101 := n3_
                have BK102 := n4_
                have BK103 := n5_
                have BK108 := n6_
                have HO117 := n7_
                have HB := n8_
                have HO114 := n9_
                clear n0_ n1_ n2_ n3_ n4_ n5_ n6_ n7_ n8_ n9_
                clear ho hb hg hat
                refine hK.out _ _ ⟨(blk_cell BK101.out 0).trans rfl, (blk_cell BK101.out 1).trans rfl, (blk_cell BK101.out 2).trans rfl, (blk_cell BK102.out 0).trans rfl, (blk_cell BK102.out 1).trans rfl, (blk_cell BK102.out 2).trans rfl, (blk_cell BK102.out 3).trans rfl, (blk_cell BK102.out 4).trans rfl, (blk_cell BK102.out 5).trans rfl, (blk_cell BK102.out 6).trans rfl, (blk_cell BK102.out 7).trans rfl⟩ (fun hHeld => ?_)
                clear hK K
                refine norm_ (a' := ?_) ?_ ?_
                rotate_left
                · show Act.put _ (some 36) _ = _
                  simp only [Act.put, List.setIfInBounds_toArray, List.set_cons_zero, List.set_cons_succ, i64_w, i32_w]
                  rfl
                exact norm_ (by simp only [putAll, Act.put, List.setIfInBounds_toArray, List.set_cons_zero, List.set_cons_succ]) (hCont (v110, v113, v116) _ ⟨hHeld, (by (with_reducible repeat (first | apply Kd.N_alloc | apply Kd.N_drewN | apply Kd.N_drew)); exact HO114.out), (by (with_reducible repeat (first | apply Kd.N_alloc | apply Kd.N_drewN | apply Kd.N_drew)); exact Kd.N_mono HO117.out (fun _ hk => ⟨hk.1.1, ⟨hk.2, ⟨hk.1.2.1, ⟨hk.1.2.2.1, ⟨hk.1.2.2.2.1, hk.1.2.2.2.2⟩⟩⟩⟩⟩)), (by (with_reducible repeat (first | apply Kd.V_alloc | apply Kd.V_drewN | apply Kd.V_drew)); exact Kd.V_mono HO_102002.out (fun _ hk => ⟨hk.1.1, ⟨hk.2, ⟨hk.1.2.1, ⟨hk.1.2.2.1, ⟨hk.1.2.2.2.1, ⟨hk.1.2.2.2.2.1, hk.1.2.2.2.2.2⟩⟩⟩⟩⟩⟩)), (by (with_reducible repeat (first | apply Kd.V_alloc | apply Kd.V_drewN | apply Kd.V_drew)); exact Kd.V_mono HO_103000.out (fun _ hk => ⟨hk.1.1, ⟨hk.2, ⟨hk.1.2.1, ⟨hk.1.2.2.1, ⟨hk.1.2.2.2.1, ⟨hk.1.2.2.2.2.1, hk.1.2.2.2.2.2⟩⟩⟩⟩⟩⟩)), (by (with_reducible repeat (first | apply Kd.V_alloc | apply Kd.V_drewN | apply Kd.V_drew)); exact Kd.V_mono HO_103002.out (fun _ hk => ⟨hk.1.1, ⟨hk.2, ⟨hk.1.2.1, ⟨hk.1.2.2.1, ⟨hk.1.2.2.2.1, ⟨hk.1.2.2.2.2.1, hk.1.2.2.2.2.2⟩⟩⟩⟩⟩⟩)), (by (with_reducible repeat (first | refine blk_drewN ?_ _ | refine blk_drew ?_ | refine blk_alloc ?_ _)); exact BK101.out), (by (with_reducible repeat (first | refine blk_drewN ?_ _ | refine blk_drew ?_ | refine blk_alloc ?_ _)); exact BK102.out), (by (with_reducible repeat (first | refine blk_drewN ?_ _ | refine blk_drew ?_ | refine blk_alloc ?_ _)); exact BK103.out), (by (with_reducible repeat (first | refine blk_drewN ?_ _ | refine blk_drew ?_ | refine blk_alloc ?_ _)); exact BK108.out), (by repeat (first | (with_reducible first | exact HB.out | apply bal | apply pbd | apply below_drew1 | refine below_set ?_ GE101.out | refine below_set ?_ GE102.out | refine below_set ?_ GE103.out | refine below_set ?_ GE108.out) | exact HB.out))⟩)
            rintro ⟨v110, v113, v116⟩ w56 ⟨hS_, h0_, h1_, h2_, h3_, h4_, h5_, h6_, h7_, h8_, h9_⟩
            have n0_ : Aside0 (Kd.N k58 58 w56 w.heap.size (fun k_ => ((P0_2_ k_ ∨ P1_0_ k_ ∨ P1_2_ k_) ∨ w.heap.size ≤ k_) ∧ some k_ ≠ (v116 : Value).ownBlock ∧ k_ ≠ gb101 ∧ k_ ≠ gb102 ∧ k_ ≠ gb103 ∧ k_ ≠ gb108) v113 y112) := ⟨h0_⟩
            have n1_ : Aside0 (Kd.N k58 58 w56 w.heap.size (fun k_ => ((P0_2_ k_ ∨ P1_0_ k_ ∨ P1_2_ k_) ∨ w.heap.size ≤ k_) ∧ some k_ ≠ (v113 : Value).ownBlock ∧ k_ ≠ gb101 ∧ k_ ≠ gb102 ∧ k_ ≠ gb103 ∧ k_ ≠ gb108) v116 y115) := ⟨h1_⟩
            have n2_ : Aside0 (Kd.V k58 58 w56 w.heap.size (fun k_ => ((P0_2_ k_ ∨ P1_0_ k_ ∨ P1_2_ k_) ∨ w.heap.size ≤ k_) ∧ some k_ ≠ (v113 : Value).ownBlock ∧ some k_ ≠ (v116 : Value).ownBlock ∧ k_ ≠ gb101 ∧ k_ ≠ gb102 ∧ k_ ≠ gb103 ∧ k_ ≠ gb108) (.slice A0_2 l0_2.length c0_2) l0_2) := ⟨h2_⟩
            have n3_ : Aside0 (Kd.V (Kd.int .u32) 22 w56 w.heap.size (fun k_ => ((P0_2_ k_ ∨ P1_0_ k_ ∨ P1_2_ k_) ∨ w.heap.size ≤ k_) ∧ some k_ ≠ (v113 : Value).ownBlock ∧ some k_ ≠ (v116 : Value).ownBlock ∧ k_ ≠ gb101 ∧ k_ ≠ gb102 ∧ k_ ≠ gb103 ∧ k_ ≠ gb108) (.slice A1_0 l1_0.length c1_0) l1_0) := ⟨h3_⟩
            have n4_ : Aside0 (Kd.V k46 46 w56 w.heap.size (fun k_ => ((P0_2_ k_ ∨ P1_0_ k_ ∨ P1_2_ k_) ∨ w.heap.size ≤ k_) ∧ some k_ ≠ (v113 : Value).ownBlock ∧ some k_ ≠ (v116 : Value).ownBlock ∧ k_ ≠ gb101 ∧ k_ ≠ gb102 ∧ k_ ≠ gb103 ∧ k_ ≠ gb108) (.slice A1_2 l1_2.length c1_2) l1_2) := ⟨h4_⟩
            have n5_ : Aside0 (w56.heap[gb101]? = some (.cells #[.int .u32 a0_0, .int .u32 a0_1, .slice A0_2 l0_2.length c0_2] 56 (0, 0))) := ⟨h5_⟩
            have n6_ : Aside0 (w56.heap[gb102]? = some (.cells #[.slice A1_0 l1_0.length c1_0, .int .i64 a1_1, .slice A1_2 l1_2.length c1_2, .int .i64 a1_3, .int .u64 a1_4, .string a1_5, .int .u64 a1_6, .int .u32 a1_7] 58 (0, 0))) := ⟨h6_⟩
            have n7_ : Aside0 (w56.heap[gb103]? = some (.cells #[.int .u32 a2_0, .int .u32 a2_1, .int .u64 a2_2, .int .u64 a2_3, .int .u64 a2_4, .int .u64 a2_5, .int .u64 a2_6, .int .u64 a2_7, .int .u64 a2_8] 49 (0, 0))) := ⟨h7_⟩
            have n8_ : Aside0 (w56.heap[gb108]? = some (.cells #[.int .u32 a0_0, .int .u32 a0_1, .slice A0_2 l0_2.length c0_2] 56 (0, 0))) := ⟨h8_⟩
            have n9_ : Aside0 (Below w.heap.size w w56) := ⟨h9_⟩
            clear HO_102002
            clear HO_103000
            clear HO_103002
            clear BK101
            clear BK102
            clear BK103
            clear BK108
            clear HB
            clear h0_ h1_ h2_ h3_ h4_ h5_ h6_ h7_ h8_ h9_
            have HO114 := n0_
            have HO117 := n1_
            have HO_102002 := n2_
            have HO_103000 := n3_
            have HO_103002 := n4_
            have BK101 := n5_
            have BK102 := n6_
            have BK103 := n7_
            have BK108 := n8_
            have HB := n9_
            clear n0_ n1_ n2_ n3_ n4_ n5_ n6_ n7_ n8_ n9_
            have hHeld : w56.cell? ⟨gb101, 0, none⟩ = some (.int .u32 a0_0) ∧ w56.cell? ⟨gb101, 1, none⟩ = some (.int .u32 a0_1) ∧ w56.cell? ⟨gb101, 2, none⟩ = some (.slice A0_2 l0_2.length c0_2) ∧ w56.cell? ⟨gb102, 0, none⟩ = some (.slice A1_0 l1_0.length c1_0) ∧ w56.cell? ⟨gb102, 1, none⟩ = some (.int .i64 a1_1) ∧ w56.cell? ⟨gb102, 2, none⟩ = some (.slice A1_2 l1_2.length c1_2) ∧ w56.cell? ⟨gb102, 3, none⟩ = some (.int .i64 a1_3) ∧ w56.cell? ⟨gb102, 4, none⟩ = some (.int .u64 a1_4) ∧ w56.cell? ⟨gb102, 5, none⟩ = some (.string a1_5) ∧ w56.cell? ⟨gb102, 6, none⟩ = some (.int .u64 a1_6) ∧ w56.cell? ⟨gb102, 7, none⟩ = some (.int .u32 a1_7) := hS_
            obtain ⟨Ao58, co58, eo58⟩ := Kd.N_slice HO117.out
            (first | subst eo58 | (injection eo58 with f1_ f2_ f3_; have f4_ := f1_.symm; have f5_ := f3_.symm; clear f1_ f2_ f3_; subst f4_; subst f5_))
            refine norm_ (a' := ?_) ?_ ?_
            rotate_left
            · simp only [putAll, Act.put, List.setIfInBounds_toArray, List.set_cons_zero, List.set_cons_succ]
              rfl
            refine one_ (i := 6) (N := some 39) #[true, true, true, true, true, true, true, false, false] rfl rfl (one_of HT_.out (by kernel_rfl)) (by decide) (fun K hK => ?_)
            refine Kd.N_append_rows_step k58 (w0 := w) w.heap.size (by rfl) (.tmp 36) (.tmp 38) 54 58 (.agg #[(.slice none 0 0), (.int .i64 0), (.slice none 0 0), (.int .i64 0), (.int .u64 0), (.string ⟨#[]⟩), (.int .u64 0), (.int .u32 0)]) 104 rfl Try.underlying54 info58 rfl (by decide) (by omega) v113 y112 y115 _ _ _ (fun k_ => ((P0_2_ k_ ∨ P1_0_ k_ ∨ P1_2_ k_) ∨ w.heap.size ≤ k_) ∧ k_ ≠ gb101 ∧ k_ ≠ gb102 ∧ k_ ≠ gb103 ∧ k_ ≠ gb108) (fun k_ => ((fun k_ => ((P0_2_ k_ ∨ P1_0_ k_ ∨ P1_2_ k_) ∨ w.heap.size ≤ k_) ∧ k_ ≠ gb101 ∧ k_ ≠ gb102 ∧ k_ ≠ gb103 ∧ k_ ≠ gb108)) k_ ∧ some k_ ≠ (v113 : Value).ownBlock) rfl rfl ?aO ?aR (fun _ hk => hk) ?aF ?aB ?aS ?aL ?_
            (case aR => exact (by skip; exact Kd.N_F (Kd.N_mono (ok' := (fun k_ => ((fun k_ => ((P0_2_ k_ ∨ P1_0_ k_ ∨ P1_2_ k_) ∨ w.heap.size ≤ k_) ∧ k_ ≠ gb101 ∧ k_ ≠ gb102 ∧ k_ ≠ gb103 ∧ k_ ≠ gb108)) k_ ∧ some k_ ≠ (v113 : Value).ownBlock)) (HO117.out) (fun k_ hk => ⟨⟨hk.1, ⟨hk.2.2.1, ⟨hk.2.2.2.1, ⟨hk.2.2.2.2.1, hk.2.2.2.2.2⟩⟩⟩⟩, hk.2.1⟩))))
            (case aB => exact (by repeat (first | (with_reducible first | exact HB.out | apply bal | apply pbd | apply below_drew1 | refine below_set ?_ GE101.out | refine below_set ?_ GE102.out | refine below_set ?_ GE103.out | refine below_set ?_ GE108.out) | exact HB.out)))
            (case aF => exact (fun k_ hk => ⟨(.inr (Nat.le_trans (below_size (by repeat (first | (with_reducible first | exact HB.out | apply bal | apply pbd | apply below_drew1 | refine below_set ?_ GE101.out | refine below_set ?_ GE102.out | refine below_set ?_ GE103.out | refine below_set ?_ GE108.out) | exact HB.out))) hk)), Kd.freshB (g := gb101) (o := .cells #[.int .u32 a0_0, .int .u32 a0_1, .slice A0_2 l0_2.length c0_2] 56 (0, 0)) (by (with_reducible repeat (first | refine blk_drewN ?_ _ | refine blk_drew ?_ | refine blk_alloc ?_ _)); exact BK101.out) k_ hk, Kd.freshB (g := gb102) (o := .cells #[.slice A1_0 l1_0.length c1_0, .int .i64 a1_1, .slice A1_2 l1_2.length c1_2, .int .i64 a1_3, .int .u64 a1_4, .string a1_5, .int .u64 a1_6, .int .u32 a1_7] 58 (0, 0)) (by (with_reducible repeat (first | refine blk_drewN ?_ _ | refine blk_drew ?_ | refine blk_alloc ?_ _)); exact BK102.out) k_ hk, Kd.freshB (g := gb103) (o := .cells #[.int .u32 a2_0, .int .u32 a2_1, .int .u64 a2_2, .int .u64 a2_3, .int .u64 a2_4, .int .u64 a2_5, .int .u64 a2_6, .int .u64 a2_7, .int .u64 a2_8] 49 (0, 0)) (by (with_reducible repeat (first | refine blk_drewN ?_ _ | refine blk_drew ?_ | refine blk_alloc ?_ _)); exact BK103.out) k_ hk, Kd.freshB (g := gb108) (o := .cells #[.int .u32 a0_0, .int .u32 a0_1, .slice A0_2 l0_2.length c0_2] 56 (0, 0)) (by (with_reducible repeat (first | refine blk_drewN ?_ _ | refine blk_drew ?_ | refine blk_alloc ?_ _)); exact BK108.out) k_ hk⟩))
            (case aO => exact (by (with_reducible repeat (first | apply Kd.N_alloc | apply Kd.N_drewN | apply Kd.N_drew)); exact Kd.N_mono HO114.out (fun _ hk => ⟨hk.1, ⟨hk.2.2.1, ⟨hk.2.2.2.1, ⟨hk.2.2.2.2.1, hk.2.2.2.2.2⟩⟩⟩⟩)))
            (case aS => exact (below_size (by repeat (first | (with_reducible first | exact HB.out | apply bal | apply pbd | apply below_drew1 | refine below_set ?_ GE101.out | refine below_set ?_ GE102.out | refine below_set ?_ GE103.out | refine below_set ?_ GE108.out) | exact HB.out))))
            (case aL => have := LMc34.out; omega)
            intro v119 w57 ho hb hg hat
            rw [← Ny118.out] at ho
            have n0_ := amk (Kd.V_afterv (ok := (fun k_ => ((P0_2_ k_ ∨ P1_0_ k_ ∨ P1_2_ k_) ∨ w.heap.size ≤ k_) ∧ some k_ ≠ (.slice Ao58 y115.length co58 : Value).ownBlock ∧ k_ ≠ gb101 ∧ k_ ≠ gb102 ∧ k_ ≠ gb103 ∧ k_ ≠ gb108)) (by (with_reducible repeat (first | apply Kd.V_alloc | apply Kd.V_drewN | apply Kd.V_drew)); exact Kd.V_mono HO_102002.out (fun _ hk => ⟨⟨hk.1, ⟨hk.2.2.1, ⟨hk.2.2.2.1, ⟨hk.2.2.2.2.1, ⟨hk.2.2.2.2.2.1, hk.2.2.2.2.2.2⟩⟩⟩⟩⟩, hk.2.1⟩)) hg hat)
            have n1_ := amk (Kd.V_afterv (ok := (fun k_ => ((P0_2_ k_ ∨ P1_0_ k_ ∨ P1_2_ k_) ∨ w.heap.size ≤ k_) ∧ some k_ ≠ (.slice Ao58 y115.length co58 : Value).ownBlock ∧ k_ ≠ gb101 ∧ k_ ≠ gb102 ∧ k_ ≠ gb103 ∧ k_ ≠ gb108)) (by (with_reducible repeat (first | apply Kd.V_alloc | apply Kd.V_drewN | apply Kd.V_drew)); exact Kd.V_mono HO_103000.out (fun _ hk => ⟨⟨hk.1, ⟨hk.2.2.1, ⟨hk.2.2.2.1, ⟨hk.2.2.2.2.1, ⟨hk.2.2.2.2.2.1, hk.2.2.2.2.2.2⟩⟩⟩⟩⟩, hk.2.1⟩)) hg hat)
            have n2_ := amk (Kd.V_afterv (ok := (fun k_ => ((P0_2_ k_ ∨ P1_0_ k_ ∨ P1_2_ k_) ∨ w.heap.size ≤ k_) ∧ some k_ ≠ (.slice Ao58 y115.length co58 : Value).ownBlock ∧ k_ ≠ gb101 ∧ k_ ≠ gb102 ∧ k_ ≠ gb103 ∧ k_ ≠ gb108)) (by (with_reducible repeat (first | apply Kd.V_alloc | apply Kd.V_drewN | apply Kd.V_drew)); exact Kd.V_mono HO_103002.out (fun _ hk => ⟨⟨hk.1, ⟨hk.2.2.1, ⟨hk.2.2.2.1, ⟨hk.2.2.2.2.1, ⟨hk.2.2.2.2.2.1, hk.2.2.2.2.2.2⟩⟩⟩⟩⟩, hk.2.1⟩)) hg hat)
            have n3_ := amk (blk_grown (g := gb101) (o := .cells #[.int .u32 a0_0, .int .u32 a0_1, .slice A0_2 l0_2.length c0_2] 56 (0, 0)) (by (with_reducible repeat (first | refine blk_drewN ?_ _ | refine blk_drew ?_ | refine blk_alloc ?_ _)); exact BK101.out) hg (Kd.N_ne HO114.out BK101.out (by decide)))
            have n4_ := amk (blk_grown (g := gb102) (o := .cells #[.slice A1_0 l1_0.length c1_0, .int .i64 a1_1, .slice A1_2 l1_2.length c1_2, .int .i64 a1_3, .int .u64 a1_4, .string a1_5, .int .u64 a1_6, .int .u32 a1_7] 58 (0, 0)) (by (with_reducible repeat (first | refine blk_drewN ?_ _ | refine blk_drew ?_ | refine blk_alloc ?_ _)); exact BK102.out) hg (Kd.N_away HO114.out (fun _ hk => hk.2.2.2.1)))
            have n5_ := amk (blk_grown (g := gb103) (o := .cells #[.int .u32 a2_0, .int .u32 a2_1, .int .u64 a2_2, .int .u64 a2_3, .int .u64 a2_4, .int .u64 a2_5, .int .u64 a2_6, .int .u64 a2_7, .int .u64 a2_8] 49 (0, 0)) (by (with_reducible repeat (first | refine blk_drewN ?_ _ | refine blk_drew ?_ | refine blk_alloc ?_ _)); exact BK103.out) hg (Kd.N_ne HO114.out BK103.out (by decide)))
            have n6_ := amk (blk_grown (g := gb108) (o := .cells #[.int .u32 a0_0, .int .u32 a0_1, .slice A0_2 l0_2.length c0_2] 56 (0, 0)) (by (with_reducible repeat (first | refine blk_drewN ?_ _ | refine blk_drew ?_ | refine blk_alloc ?_ _)); exact BK108.out) hg (Kd.N_ne HO114.out BK108.out (by decide)))
            have n7_ := amk (Kd.N_afterv (ok := (fun k_ => ((P0_2_ k_ ∨ P1_0_ k_ ∨ P1_2_ k_) ∨ w.heap.size ≤ k_) ∧ k_ ≠ gb101 ∧ k_ ≠ gb102 ∧ k_ ≠ gb103 ∧ k_ ≠ gb108)) (by (with_reducible repeat (first | apply Kd.N_alloc | apply Kd.N_drewN | apply Kd.N_drew)); exact Kd.N_mono HO117.out (fun _ hk => ⟨⟨hk.1, ⟨hk.2.2.1, ⟨hk.2.2.2.1, ⟨hk.2.2.2.2.1, hk.2.2.2.2.2⟩⟩⟩⟩, hk.2.1⟩)) hg hat)
            have n8_ := amk (hb)
            have n9_ := amk (ho)
            clear HO_102002
            clear HO_103000
            clear HO_103002
            clear BK101
            clear BK102
            clear BK103
            clear BK108
            clear HO117
            clear HB
            clear HO114
            have HO_102002 := n0_
            have HO_103000 := n1_
            have HO_103002 := n2_
            have BK101 := n3_
            have BK102 := n4_
            have BK103 := n5_
            have BK108 := n6_
            have HO117 := n7_
            have HB := n8_
            have HO120 := n9_
            clear n0_ n1_ n2_ n3_ n4_ n5_ n6_ n7_ n8_ n9_
            clear ho hb hg hat
            obtain ⟨Ao59, co59, eo59⟩ := Kd.N_slice HO120.out
            (first | subst eo59 | (injection eo59 with f1_ f2_ f3_; have f4_ := f1_.symm; have f5_ := f3_.symm; clear f1_ f2_ f3_; subst f4_; subst f5_))
            refine hK.out _ _ ⟨(blk_cell BK101.out 0).trans rfl, (blk_cell BK101.out 1).trans rfl, (blk_cell BK101.out 2).trans rfl, (blk_cell BK102.out 0).trans rfl, (blk_cell BK102.out 1).trans rfl, (blk_cell BK102.out 2).trans rfl, (blk_cell BK102.out 3).trans rfl, (blk_cell BK102.out 4).trans rfl, (blk_cell BK102.out 5).trans rfl, (blk_cell BK102.out 6).trans rfl, (blk_cell BK102.out 7).trans rfl⟩ (fun hHeld => ?_)
            clear hK K
            refine norm_ (a' := ?_) ?_ ?_
            rotate_left
            · show Act.put _ (some 39) _ = _
              simp only [Act.put, List.setIfInBounds_toArray, List.set_cons_zero, List.set_cons_succ, i64_w, i32_w]
              rfl
            refine pure_ (i := 7) (N := some 40) (v := ?_) (a' := ?_) #[true, true, true, true, true, true, true, true, false] rfl rfl (any_of HT_.out (by kernel_rfl)) (fun _ _ _ h => h) (Or.inl ⟨by rfl, ?_⟩) ?_ ?_
            rotate_left
            · intro w'
              go_simp
              with_reducible rfl
            rotate_left
            · simp only [Act.put, List.setIfInBounds_toArray, List.set_cons_zero, List.set_cons_succ, i64_w, i32_w]
              rfl
            refine one_ (i := 8) (N := none) #[true, true, true, true, true, true, true, true, true] rfl rfl (one_of HT_.out (by kernel_rfl)) (by decide) (fun K hK => ?_)
            have hs60 : w57.cell? ⟨gb108, 2, none⟩ = some (.slice A0_2 l0_2.length c0_2) := (blk_cell BK108.out 2).trans rfl
            have hfs60 := blk_frozen BK108.out 2
            have hns60_0 := NB101_108.out
            have hns60_1 := NB102_108.out
            have hns60_2 := NB103_108.out
            have hms60_0 := NB108_101.out
            have hms60_1 := NB108_102.out
            have hms60_2 := NB108_103.out
            refine skip_ (w1 := ?_) (by rfl) rfl ?_ ?_
            rotate_left
            · go_simp
              rfl
            refine hK.out _ _ ⟨((cell_far (p := ⟨gb108, _, none⟩) NB101_108.out _).trans (hHeld.1)), ((cell_far (p := ⟨gb108, _, none⟩) NB101_108.out _).trans (hHeld.2.1)), ((cell_far (p := ⟨gb108, _, none⟩) NB101_108.out _).trans (hHeld.2.2.1)), ((cell_far (p := ⟨gb108, _, none⟩) NB102_108.out _).trans (hHeld.2.2.2.1)), ((cell_far (p := ⟨gb108, _, none⟩) NB102_108.out _).trans (hHeld.2.2.2.2.1)), ((cell_far (p := ⟨gb108, _, none⟩) NB102_108.out _).trans (hHeld.2.2.2.2.2.1)), ((cell_far (p := ⟨gb108, _, none⟩) NB102_108.out _).trans (hHeld.2.2.2.2.2.2.1)), ((cell_far (p := ⟨gb108, _, none⟩) NB102_108.out _).trans (hHeld.2.2.2.2.2.2.2.1)), ((cell_far (p := ⟨gb108, _, none⟩) NB102_108.out _).trans (hHeld.2.2.2.2.2.2.2.2.1)), ((cell_far (p := ⟨gb108, _, none⟩) NB102_108.out _).trans (hHeld.2.2.2.2.2.2.2.2.2.1)), ((cell_far (p := ⟨gb108, _, none⟩) NB102_108.out _).trans (hHeld.2.2.2.2.2.2.2.2.2.2))⟩ (fun hHeld => ?_)
            clear hK K
            refine done_ (done_of HT_.out (by kernel_rfl)) ?_
            have hcz61_0 : w57.cell? ⟨gb108, 0, none⟩ = some (.int .u32 a0_0) := (blk_cell BK108.out 0).trans rfl
            have hcz61_1 : w57.cell? ⟨gb108, 1, none⟩ = some (.int .u32 a0_1) := (blk_cell BK108.out 1).trans rfl
            have hcz61_2 : w57.cell? ⟨gb108, 2, none⟩ = some (.slice A0_2 l0_2.length c0_2) := (blk_cell BK108.out 2).trans rfl
            have hfz61_0 := blk_frozen BK108.out 0
            have hfz61_1 := blk_frozen BK108.out 1
            have hfz61_2 := blk_frozen BK108.out 2
            have hcz62_0 : w57.cell? ⟨gb103, 0, none⟩ = some (.int .u32 a2_0) := (blk_cell BK103.out 0).trans rfl
            have hcz62_1 : w57.cell? ⟨gb103, 1, none⟩ = some (.int .u32 a2_1) := (blk_cell BK103.out 1).trans rfl
            have hcz62_2 : w57.cell? ⟨gb103, 2, none⟩ = some (.int .u64 a2_2) := (blk_cell BK103.out 2).trans rfl
            have hcz62_3 : w57.cell? ⟨gb103, 3, none⟩ = some (.int .u64 a2_3) := (blk_cell BK103.out 3).trans rfl
            have hcz62_4 : w57.cell? ⟨gb103, 4, none⟩ = some (.int .u64 a2_4) := (blk_cell BK103.out 4).trans rfl
            have hcz62_5 : w57.cell? ⟨gb103, 5, none⟩ = some (.int .u64 a2_5) := (blk_cell BK103.out 5).trans rfl
            have hcz62_6 : w57.cell? ⟨gb103, 6, none⟩ = some (.int .u64 a2_6) := (blk_cell BK103.out 6).trans rfl
            have hcz62_7 : w57.cell? ⟨gb103, 7, none⟩ = some (.int .u64 a2_7) := (blk_cell BK103.out 7).trans rfl
            have hcz62_8 : w57.cell? ⟨gb103, 8, none⟩ = some (.int .u64 a2_8) := (blk_cell BK103.out 8).trans rfl
            have hfz62_0 := blk_frozen BK103.out 0
            have hfz62_1 := blk_frozen BK103.out 1
            have hfz62_2 := blk_frozen BK103.out 2
            have hfz62_3 := blk_frozen BK103.out 3
            have hfz62_4 := blk_frozen BK103.out 4
            have hfz62_5 := blk_frozen BK103.out 5
            have hfz62_6 := blk_frozen BK103.out 6
            have hfz62_7 := blk_frozen BK103.out 7
            have hfz62_8 := blk_frozen BK103.out 8
            go_upto_region 7 with (first | ((with_reducible refine gate_callee (f := 50) rfl ?_); refine goesL_ (some 43) rfl rfl Try.func50 (by kernel_rfl) rfl #[.agg #[.int .u32 a0_0, .int .u32 a0_1, .slice Ao59 y118.length co59], .agg #[.int .u32 a2_0, .int .u32 a2_1, .int .u64 a2_2, .int .u64 a2_3, .int .u64 a2_4, .int .u64 a2_5, .int .u64 a2_6, .int .u64 a2_7, .int .u64 a2_8]] rfl (by (try simp only [List.map_toArray, List.map_cons, List.map_nil]); first | done | rfl | (simp only [List.length_drop, List.length_take]; rfl)) ?_; (with_reducible refine (mean_Eval.calls kj3 a0_0 a0_1 _ _ y118 a2_0 a2_1 a2_2 a2_3 a2_4 a2_5 a2_6 a2_7 a2_8 t121 _ ?side1 ?side2 A35.out).mono ?_); (case side1 => refine (Kd.N_reads' (e := 58) (base := w.heap.size) (ok := fun k_ => (((P0_2_ k_ ∨ P1_0_ k_ ∨ P1_2_ k_) ∨ w.heap.size ≤ k_) ∧ (k_ ≠ gb101 ∧ (k_ ≠ gb102 ∧ (k_ ≠ gb103 ∧ k_ ≠ gb108))))) (n := y118.length) (c := co59) ?_).2.2; exact (by (with_reducible repeat (first | apply Kd.N_alloc | apply Kd.N_drewN | apply Kd.N_drew)); exact (Kd.N_mono (Kd.N_far (p := ⟨gb108, 2, none⟩) (Kd.N_mono HO120.out (fun k_ hk => (⟨hk, hk.2.2.2.2⟩ : _ ∧ k_ ≠ gb108))) (fun _ hk => hk.2) (.slice Ao59 y118.length co59)) (fun _ h_ => h_.1)))); (case side2 => exact (Kd.N_reads' HO120.out).2.1); rintro e w63 ⟨rfl, hb⟩; refine ⟨_, rfl, ?_⟩; have n0_ := amk (Kd.V_below (by (with_reducible repeat (first | apply Kd.V_alloc | apply Kd.V_drewN | apply Kd.V_drew)); exact (Kd.V_mono (Kd.V_far (p := ⟨gb108, 2, none⟩) (Kd.V_mono HO_102002.out (fun k_ hk => (⟨hk, hk.1.2.2.2.2.2⟩ : _ ∧ k_ ≠ gb108))) (fun _ hk => hk.2) (.slice Ao59 y118.length co59)) (fun _ h_ => h_.1))) hb); have n1_ := amk (Kd.V_below (by (with_reducible repeat (first | apply Kd.V_alloc | apply Kd.V_drewN | apply Kd.V_drew)); exact (Kd.V_mono (Kd.V_far (p := ⟨gb108, 2, none⟩) (Kd.V_mono HO_103000.out (fun k_ hk => (⟨hk, hk.1.2.2.2.2.2⟩ : _ ∧ k_ ≠ gb108))) (fun _ hk => hk.2) (.slice Ao59 y118.length co59)) (fun _ h_ => h_.1))) hb); have n2_ := amk (Kd.V_below (by (with_reducible repeat (first | apply Kd.V_alloc | apply Kd.V_drewN | apply Kd.V_drew)); exact (Kd.V_mono (Kd.V_far (p := ⟨gb108, 2, none⟩) (Kd.V_mono HO_103002.out (fun k_ hk => (⟨hk, hk.1.2.2.2.2.2⟩ : _ ∧ k_ ≠ gb108))) (fun _ hk => hk.2) (.slice Ao59 y118.length co59)) (fun _ h_ => h_.1))) hb); have n3_ := amk (Kd.N_below (by (with_reducible repeat (first | apply Kd.N_alloc | apply Kd.N_drewN | apply Kd.N_drew)); exact (Kd.N_mono (Kd.N_far (p := ⟨gb108, 2, none⟩) (Kd.N_mono HO117.out (fun k_ hk => (⟨hk, hk.1.2.2.2.2⟩ : _ ∧ k_ ≠ gb108))) (fun _ hk => hk.2) (.slice Ao59 y118.length co59)) (fun _ h_ => h_.1))) hb); have n4_ := amk (Kd.N_below (by (with_reducible repeat (first | apply Kd.N_alloc | apply Kd.N_drewN | apply Kd.N_drew)); exact (Kd.N_mono (Kd.N_far (p := ⟨gb108, 2, none⟩) (Kd.N_mono HO120.out (fun k_ hk => (⟨hk, hk.2.2.2.2⟩ : _ ∧ k_ ≠ gb108))) (fun _ hk => hk.2) (.slice Ao59 y118.length co59)) (fun _ h_ => h_.1))) hb); have n5_ := amk (blk_below (g := gb101) (o := .cells #[.int .u32 a0_0, .int .u32 a0_1, .slice A0_2 l0_2.length c0_2] 56 (0, 0)) (by (with_reducible repeat (first | refine blk_drewN ?_ _ | refine blk_drew ?_ | refine blk_alloc ?_ _)); refine blk_far ?_ NB101_108.out _; (with_reducible repeat (first | refine blk_drewN ?_ _ | refine blk_drew ?_ | refine blk_alloc ?_ _)); exact BK101.out) hb); have n6_ := amk (blk_below (g := gb102) (o := .cells #[.slice A1_0 l1_0.length c1_0, .int .i64 a1_1, .slice A1_2 l1_2.length c1_2, .int .i64 a1_3, .int .u64 a1_4, .string a1_5, .int .u64 a1_6, .int .u32 a1_7] 58 (0, 0)) (by (with_reducible repeat (first | refine blk_drewN ?_ _ | refine blk_drew ?_ | refine blk_alloc ?_ _)); refine blk_far ?_ NB102_108.out _; (with_reducible repeat (first | refine blk_drewN ?_ _ | refine blk_drew ?_ | refine blk_alloc ?_ _)); exact BK102.out) hb); have n7_ := amk (blk_below (g := gb103) (o := .cells #[.int .u32 a2_0, .int .u32 a2_1, .int .u64 a2_2, .int .u64 a2_3, .int .u64 a2_4, .int .u64 a2_5, .int .u64 a2_6, .int .u64 a2_7, .int .u64 a2_8] 49 (0, 0)) (by (with_reducible repeat (first | refine blk_drewN ?_ _ | refine blk_drew ?_ | refine blk_alloc ?_ _)); refine blk_far ?_ NB103_108.out _; (with_reducible repeat (first | refine blk_drewN ?_ _ | refine blk_drew ?_ | refine blk_alloc ?_ _)); exact BK103.out) hb); have n8_ := amk (blk_below (g := gb108) (o := .cells #[.int .u32 a0_0, .int .u32 a0_1, .slice Ao59 y118.length co59] 56 (0, 0)) (by (with_reducible repeat (first | refine blk_drewN ?_ _ | refine blk_drew ?_ | refine blk_alloc ?_ _)); refine blk_put (cs := #[.int .u32 a0_0, .int .u32 a0_1, .slice A0_2 l0_2.length c0_2]) ?_ 2 _ rfl; (with_reducible repeat (first | refine blk_drewN ?_ _ | refine blk_drew ?_ | refine blk_alloc ?_ _)); exact BK108.out) hb); have n9_ := amk (below_step (by repeat (first | (with_reducible first | exact HB.out | apply bal | apply pbd | apply below_drew1 | refine below_set ?_ GE101.out | refine below_set ?_ GE102.out | refine below_set ?_ GE103.out | refine below_set ?_ GE108.out) | exact HB.out)) hb); clear HO_102002; clear HO_103000; clear HO_103002; clear HO117; clear HO120; clear BK101; clear BK102; clear BK103; clear BK108; clear HB; have HO_102002 := n0_; have HO_103000 := n1_; have HO_103002 := n2_; have HO117 := n3_; have HO120 := n4_; have BK101 := n5_; have BK102 := n6_; have BK103 := n7_; have BK108 := n8_; have HB := n9_; clear n0_ n1_ n2_ n3_ n4_ n5_ n6_ n7_ n8_ n9_; (try clear hb); (try clear hb2); (try clear hk); (try clear hi)))
            (try simp only [Act.put, List.setIfInBounds_toArray, List.set_cons_zero, List.set_cons_succ])
            go_cut [10] (fun v10 wc => ∃ (kq : Nat) (x10_35 : Bool), v10 = .bool x10_35 ∧ Aside0 (doorwardlaw18_MeanRules.j1 kq t107 t121 x10_35 a0_0 a0_1 l0_2 l1_0 a1_1 l1_2 a1_3 a1_4 a1_5 a1_6 a1_7 = some r) ∧ Aside0 (kq ≤ kj3) ∧ Aside0 (Kd.V k58 58 wc w.heap.size (fun k_ => ((P0_2_ k_ ∨ P1_0_ k_ ∨ P1_2_ k_) ∨ w.heap.size ≤ k_) ∧ some k_ ≠ ((.slice Ao59 y118.length co59) : Value).ownBlock ∧ k_ ≠ gb101 ∧ k_ ≠ gb102 ∧ k_ ≠ gb103 ∧ k_ ≠ gb108) (.slice A0_2 l0_2.length c0_2) l0_2) ∧ Aside0 (Kd.V (Kd.int .u32) 22 wc w.heap.size (fun k_ => ((P0_2_ k_ ∨ P1_0_ k_ ∨ P1_2_ k_) ∨ w.heap.size ≤ k_) ∧ some k_ ≠ ((.slice Ao59 y118.length co59) : Value).ownBlock ∧ k_ ≠ gb101 ∧ k_ ≠ gb102 ∧ k_ ≠ gb103 ∧ k_ ≠ gb108) (.slice A1_0 l1_0.length c1_0) l1_0) ∧ Aside0 (Kd.V k46 46 wc w.heap.size (fun k_ => ((P0_2_ k_ ∨ P1_0_ k_ ∨ P1_2_ k_) ∨ w.heap.size ≤ k_) ∧ some k_ ≠ ((.slice Ao59 y118.length co59) : Value).ownBlock ∧ k_ ≠ gb101 ∧ k_ ≠ gb102 ∧ k_ ≠ gb103 ∧ k_ ≠ gb108) (.slice A1_2 l1_2.length c1_2) l1_2) ∧ Aside0 (Kd.N k58 58 wc w.heap.size (fun k_ => ((P0_2_ k_ ∨ P1_0_ k_ ∨ P1_2_ k_) ∨ w.heap.size ≤ k_) ∧ k_ ≠ gb101 ∧ k_ ≠ gb102 ∧ k_ ≠ gb103 ∧ k_ ≠ gb108) (.slice Ao59 y118.length co59) y118) ∧ Aside0 (wc.heap[gb101]? = some (.cells #[.int .u32 a0_0, .int .u32 a0_1, (.slice A0_2 l0_2.length c0_2)] 56 (0, 0))) ∧ Aside0 (wc.heap[gb102]? = some (.cells #[(.slice A1_0 l1_0.length c1_0), .int .i64 a1_1, (.slice A1_2 l1_2.length c1_2), .int .i64 a1_3, .int .u64 a1_4, .string a1_5, .int .u64 a1_6, .int .u32 a1_7] 58 (0, 0))) ∧ Aside0 (wc.heap[gb103]? = some (.cells #[.int .u32 a2_0, .int .u32 a2_1, .int .u64 a2_2, .int .u64 a2_3, .int .u64 a2_4, .int .u64 a2_5, .int .u64 a2_6, .int .u64 a2_7, .int .u64 a2_8] 49 (0, 0))) ∧ Aside0 (wc.heap[gb108]? = some (.cells #[.int .u32 a0_0, .int .u32 a0_1, (.slice Ao59 y118.length co59)] 56 (0, 0))) ∧ Aside0 (Below w.heap.size w wc))
            case first =>
              have H := HC36.out
              clear HC36
              by_cases c64 : t107 = a0_1
              · rw [if_pos c64] at H
                have c64b0 : (t107 == a0_1) = true := beq_iff_eq.mpr c64
                have c64b1 : (t107 != a0_1) = false := bne_eq_false_iff_eq.mpr c64
                clear c64
                (first | rw [c64b0] | (simp only [i64_w, i32_w]; rw [c64b0]) | skip)
                have H' := amk H
                clear H
                have hnb65 := NB101_102.out
                have hnc65 := NB102_101.out
                have hnb66 := NB101_103.out
                have hnc66 := NB103_101.out
                have hnb67 := NB101_108.out
                have hnc67 := NB108_101.out
                have hcz68_0 : w63.cell? ⟨gb101, 0, none⟩ = some (.int .u32 a0_0) := (blk_cell BK101.out 0).trans rfl
                have hcz68_1 : w63.cell? ⟨gb101, 1, none⟩ = some (.int .u32 a0_1) := (blk_cell BK101.out 1).trans rfl
                have hcz68_2 : w63.cell? ⟨gb101, 2, none⟩ = some (.slice A0_2 l0_2.length c0_2) := (blk_cell BK101.out 2).trans rfl
                have hfz68_0 := blk_frozen BK101.out 0
                have hfz68_1 := blk_frozen BK101.out 1
                have hfz68_2 := blk_frozen BK101.out 2
                go_wp2
                go_meet
                case rel => exact ⟨_, (true), (by first | rfl | (simp; done) | (simp [*]; done)), H', ⟨by have := HJ3.out; first | omega | exact Nat.le_refl _⟩, ⟨by (with_reducible repeat (first | apply Kd.V_alloc | apply Kd.V_drewN | apply Kd.V_drew)); exact Kd.V_mono HO_102002.out (fun _ hk => ⟨hk.1.1, ⟨hk.2, ⟨hk.1.2.2.1, ⟨hk.1.2.2.2.1, ⟨hk.1.2.2.2.2.1, hk.1.2.2.2.2.2⟩⟩⟩⟩⟩)⟩, ⟨by (with_reducible repeat (first | apply Kd.V_alloc | apply Kd.V_drewN | apply Kd.V_drew)); exact Kd.V_mono HO_103000.out (fun _ hk => ⟨hk.1.1, ⟨hk.2, ⟨hk.1.2.2.1, ⟨hk.1.2.2.2.1, ⟨hk.1.2.2.2.2.1, hk.1.2.2.2.2.2⟩⟩⟩⟩⟩)⟩, ⟨by (with_reducible repeat (first | apply Kd.V_alloc | apply Kd.V_drewN | apply Kd.V_drew)); exact Kd.V_mono HO_103002.out (fun _ hk => ⟨hk.1.1, ⟨hk.2, ⟨hk.1.2.2.1, ⟨hk.1.2.2.2.1, ⟨hk.1.2.2.2.2.1, hk.1.2.2.2.2.2⟩⟩⟩⟩⟩)⟩, ⟨by (with_reducible repeat (first | apply Kd.N_alloc | apply Kd.N_drewN | apply Kd.N_drew)); exact HO120.out⟩, ⟨by (with_reducible repeat (first | refine blk_drewN ?_ _ | refine blk_drew ?_ | refine blk_alloc ?_ _)); exact BK101.out⟩, ⟨by (with_reducible repeat (first | refine blk_drewN ?_ _ | refine blk_drew ?_ | refine blk_alloc ?_ _)); exact BK102.out⟩, ⟨by (with_reducible repeat (first | refine blk_drewN ?_ _ | refine blk_drew ?_ | refine blk_alloc ?_ _)); exact BK103.out⟩, ⟨by (with_reducible repeat (first | refine blk_drewN ?_ _ | refine blk_drew ?_ | refine blk_alloc ?_ _)); exact BK108.out⟩, ⟨by repeat (first | (with_reducible first | exact HB.out | apply bal | apply pbd | apply below_drew1 | refine below_set ?_ GE101.out | refine below_set ?_ GE102.out | refine below_set ?_ GE103.out | refine below_set ?_ GE108.out) | exact HB.out)⟩⟩
              · rw [if_neg c64] at H
                have c64b0 : (t107 == a0_1) = false := beq_eq_false_iff_ne.mpr c64
                have c64b1 : (t107 != a0_1) = true := bne_iff_ne.mpr c64
                (first | rw [c64b0] | (simp only [i64_w, i32_w]; rw [c64b0]) | skip)
                by_cases c69 : a2_1 = a0_0
                · rw [if_pos c69] at H
                  have c69b0 : (a2_1 == a0_0) = true := beq_iff_eq.mpr c69
                  have c69b1 : (a2_1 != a0_0) = false := bne_eq_false_iff_eq.mpr c69
                  clear c69
                  have H' := amk H
                  clear H
                  have hnb70 := NB101_102.out
                  have hnc70 := NB102_101.out
                  have hnb71 := NB101_103.out
                  have hnc71 := NB103_101.out
                  have hnb72 := NB101_108.out
                  have hnc72 := NB108_101.out
                  have hcz73_0 : w63.cell? ⟨gb101, 0, none⟩ = some (.int .u32 a0_0) := (blk_cell BK101.out 0).trans rfl
                  have hcz73_1 : w63.cell? ⟨gb101, 1, none⟩ = some (.int .u32 a0_1) := (blk_cell BK101.out 1).trans rfl
                  have hcz73_2 : w63.cell? ⟨gb101, 2, none⟩ = some (.slice A0_2 l0_2.length c0_2) := (blk_cell BK101.out 2).trans rfl
                  have hfz73_0 := blk_frozen BK101.out 0
                  have hfz73_1 := blk_frozen BK101.out 1
                  have hfz73_2 := blk_frozen BK101.out 2
                  have hnb74 := NB103_102.out
                  have hnc74 := NB102_103.out
                  have hnb75 := NB103_108.out
                  have hnc75 := NB108_103.out
                  have hcz76_0 : w63.cell? ⟨gb103, 0, none⟩ = some (.int .u32 a2_0) := (blk_cell BK103.out 0).trans rfl
                  have hcz76_1 : w63.cell? ⟨gb103, 1, none⟩ = some (.int .u32 a2_1) := (blk_cell BK103.out 1).trans rfl
                  have hcz76_2 : w63.cell? ⟨gb103, 2, none⟩ = some (.int .u64 a2_2) := (blk_cell BK103.out 2).trans rfl
                  have hcz76_3 : w63.cell? ⟨gb103, 3, none⟩ = some (.int .u64 a2_3) := (blk_cell BK103.out 3).trans rfl
                  have hcz76_4 : w63.cell? ⟨gb103, 4, none⟩ = some (.int .u64 a2_4) := (blk_cell BK103.out 4).trans rfl
                  have hcz76_5 : w63.cell? ⟨gb103, 5, none⟩ = some (.int .u64 a2_5) := (blk_cell BK103.out 5).trans rfl
                  have hcz76_6 : w63.cell? ⟨gb103, 6, none⟩ = some (.int .u64 a2_6) := (blk_cell BK103.out 6).trans rfl
                  have hcz76_7 : w63.cell? ⟨gb103, 7, none⟩ = some (.int .u64 a2_7) := (blk_cell BK103.out 7).trans rfl
                  have hcz76_8 : w63.cell? ⟨gb103, 8, none⟩ = some (.int .u64 a2_8) := (blk_cell BK103.out 8).trans rfl
                  have hfz76_0 := blk_frozen BK103.out 0
                  have hfz76_1 := blk_frozen BK103.out 1
                  have hfz76_2 := blk_frozen BK103.out 2
                  have hfz76_3 := blk_frozen BK103.out 3
                  have hfz76_4 := blk_frozen BK103.out 4
                  have hfz76_5 := blk_frozen BK103.out 5
                  have hfz76_6 := blk_frozen BK103.out 6
                  have hfz76_7 := blk_frozen BK103.out 7
                  have hfz76_8 := blk_frozen BK103.out 8
                  go_wp2
                  go_meet
                  case rel => exact ⟨_, (false), (by first | rfl | (simp; done) | (simp [*]; done)), H', ⟨by have := HJ3.out; first | omega | exact Nat.le_refl _⟩, ⟨by (with_reducible repeat (first | apply Kd.V_alloc | apply Kd.V_drewN | apply Kd.V_drew)); exact Kd.V_mono HO_102002.out (fun _ hk => ⟨hk.1.1, ⟨hk.2, ⟨hk.1.2.2.1, ⟨hk.1.2.2.2.1, ⟨hk.1.2.2.2.2.1, hk.1.2.2.2.2.2⟩⟩⟩⟩⟩)⟩, ⟨by (with_reducible repeat (first | apply Kd.V_alloc | apply Kd.V_drewN | apply Kd.V_drew)); exact Kd.V_mono HO_103000.out (fun _ hk => ⟨hk.1.1, ⟨hk.2, ⟨hk.1.2.2.1, ⟨hk.1.2.2.2.1, ⟨hk.1.2.2.2.2.1, hk.1.2.2.2.2.2⟩⟩⟩⟩⟩)⟩, ⟨by (with_reducible repeat (first | apply Kd.V_alloc | apply Kd.V_drewN | apply Kd.V_drew)); exact Kd.V_mono HO_103002.out (fun _ hk => ⟨hk.1.1, ⟨hk.2, ⟨hk.1.2.2.1, ⟨hk.1.2.2.2.1, ⟨hk.1.2.2.2.2.1, hk.1.2.2.2.2.2⟩⟩⟩⟩⟩)⟩, ⟨by (with_reducible repeat (first | apply Kd.N_alloc | apply Kd.N_drewN | apply Kd.N_drew)); exact HO120.out⟩, ⟨by (with_reducible repeat (first | refine blk_drewN ?_ _ | refine blk_drew ?_ | refine blk_alloc ?_ _)); exact BK101.out⟩, ⟨by (with_reducible repeat (first | refine blk_drewN ?_ _ | refine blk_drew ?_ | refine blk_alloc ?_ _)); exact BK102.out⟩, ⟨by (with_reducible repeat (first | refine blk_drewN ?_ _ | refine blk_drew ?_ | refine blk_alloc ?_ _)); exact BK103.out⟩, ⟨by (with_reducible repeat (first | refine blk_drewN ?_ _ | refine blk_drew ?_ | refine blk_alloc ?_ _)); exact BK108.out⟩, ⟨by repeat (first | (with_reducible first | exact HB.out | apply bal | apply pbd | apply below_drew1 | refine below_set ?_ GE101.out | refine below_set ?_ GE102.out | refine below_set ?_ GE103.out | refine below_set ?_ GE108.out) | exact HB.out)⟩⟩
                · rw [if_neg c69] at H
                  have c69b0 : (a2_1 == a0_0) = false := beq_eq_false_iff_ne.mpr c69
                  have c69b1 : (a2_1 != a0_0) = true := bne_iff_ne.mpr c69
                  have H' := amk H
                  clear H
                  have hnb77 := NB101_102.out
                  have hnc77 := NB102_101.out
                  have hnb78 := NB101_103.out
                  have hnc78 := NB103_101.out
                  have hnb79 := NB101_108.out
                  have hnc79 := NB108_101.out
                  have hcz80_0 : w63.cell? ⟨gb101, 0, none⟩ = some (.int .u32 a0_0) := (blk_cell BK101.out 0).trans rfl
                  have hcz80_1 : w63.cell? ⟨gb101, 1, none⟩ = some (.int .u32 a0_1) := (blk_cell BK101.out 1).trans rfl
                  have hcz80_2 : w63.cell? ⟨gb101, 2, none⟩ = some (.slice A0_2 l0_2.length c0_2) := (blk_cell BK101.out 2).trans rfl
                  have hfz80_0 := blk_frozen BK101.out 0
                  have hfz80_1 := blk_frozen BK101.out 1
                  have hfz80_2 := blk_frozen BK101.out 2
                  have hnb81 := NB103_102.out
                  have hnc81 := NB102_103.out
                  have hnb82 := NB103_108.out
                  have hnc82 := NB108_103.out
                  have hcz83_0 : w63.cell? ⟨gb103, 0, none⟩ = some (.int .u32 a2_0) := (blk_cell BK103.out 0).trans rfl
                  have hcz83_1 : w63.cell? ⟨gb103, 1, none⟩ = some (.int .u32 a2_1) := (blk_cell BK103.out 1).trans rfl
                  have hcz83_2 : w63.cell? ⟨gb103, 2, none⟩ = some (.int .u64 a2_2) := (blk_cell BK103.out 2).trans rfl
                  have hcz83_3 : w63.cell? ⟨gb103, 3, none⟩ = some (.int .u64 a2_3) := (blk_cell BK103.out 3).trans rfl
                  have hcz83_4 : w63.cell? ⟨gb103, 4, none⟩ = some (.int .u64 a2_4) := (blk_cell BK103.out 4).trans rfl
                  have hcz83_5 : w63.cell? ⟨gb103, 5, none⟩ = some (.int .u64 a2_5) := (blk_cell BK103.out 5).trans rfl
                  have hcz83_6 : w63.cell? ⟨gb103, 6, none⟩ = some (.int .u64 a2_6) := (blk_cell BK103.out 6).trans rfl
                  have hcz83_7 : w63.cell? ⟨gb103, 7, none⟩ = some (.int .u64 a2_7) := (blk_cell BK103.out 7).trans rfl
                  have hcz83_8 : w63.cell? ⟨gb103, 8, none⟩ = some (.int .u64 a2_8) := (blk_cell BK103.out 8).trans rfl
                  have hfz83_0 := blk_frozen BK103.out 0
                  have hfz83_1 := blk_frozen BK103.out 1
                  have hfz83_2 := blk_frozen BK103.out 2
                  have hfz83_3 := blk_frozen BK103.out 3
                  have hfz83_4 := blk_frozen BK103.out 4
                  have hfz83_5 := blk_frozen BK103.out 5
                  have hfz83_6 := blk_frozen BK103.out 6
                  have hfz83_7 := blk_frozen BK103.out 7
                  have hfz83_8 := blk_frozen BK103.out 8
                  go_wp2
                  go_meet
                  case rel => exact ⟨_, ((t107 == 2147483648)), (by first | rfl | (simp; done) | (simp [*]; done)), H', ⟨by have := HJ3.out; first | omega | exact Nat.le_refl _⟩, ⟨by (with_reducible repeat (first | apply Kd.V_alloc | apply Kd.V_drewN | apply Kd.V_drew)); exact Kd.V_mono HO_102002.out (fun _ hk => ⟨hk.1.1, ⟨hk.2, ⟨hk.1.2.2.1, ⟨hk.1.2.2.2.1, ⟨hk.1.2.2.2.2.1, hk.1.2.2.2.2.2⟩⟩⟩⟩⟩)⟩, ⟨by (with_reducible repeat (first | apply Kd.V_alloc | apply Kd.V_drewN | apply Kd.V_drew)); exact Kd.V_mono HO_103000.out (fun _ hk => ⟨hk.1.1, ⟨hk.2, ⟨hk.1.2.2.1, ⟨hk.1.2.2.2.1, ⟨hk.1.2.2.2.2.1, hk.1.2.2.2.2.2⟩⟩⟩⟩⟩)⟩, ⟨by (with_reducible repeat (first | apply Kd.V_alloc | apply Kd.V_drewN | apply Kd.V_drew)); exact Kd.V_mono HO_103002.out (fun _ hk => ⟨hk.1.1, ⟨hk.2, ⟨hk.1.2.2.1, ⟨hk.1.2.2.2.1, ⟨hk.1.2.2.2.2.1, hk.1.2.2.2.2.2⟩⟩⟩⟩⟩)⟩, ⟨by (with_reducible repeat (first | apply Kd.N_alloc | apply Kd.N_drewN | apply Kd.N_drew)); exact HO120.out⟩, ⟨by (with_reducible repeat (first | refine blk_drewN ?_ _ | refine blk_drew ?_ | refine blk_alloc ?_ _)); exact BK101.out⟩, ⟨by (with_reducible repeat (first | refine blk_drewN ?_ _ | refine blk_drew ?_ | refine blk_alloc ?_ _)); exact BK102.out⟩, ⟨by (with_reducible repeat (first | refine blk_drewN ?_ _ | refine blk_drew ?_ | refine blk_alloc ?_ _)); exact BK103.out⟩, ⟨by (with_reducible repeat (first | refine blk_drewN ?_ _ | refine blk_drew ?_ | refine blk_alloc ?_ _)); exact BK108.out⟩, ⟨by repeat (first | (with_reducible first | exact HB.out | apply bal | apply pbd | apply below_drew1 | refine below_set ?_ GE101.out | refine below_set ?_ GE102.out | refine below_set ?_ GE103.out | refine below_set ?_ GE108.out) | exact HB.out)⟩⟩
            case rest =>
              clear HC36
              try clear c1
              try clear p2
              try clear c3
              try clear c5
              try clear c6
              try clear c7
              try clear c8
              try clear c33
              try clear c34
              try clear c50
              try clear c64
              try clear c64b0
              try clear c64b1
              try clear c65
              try clear c66
              try clear c67
              try clear c69
              try clear c69b0
              try clear c69b1
              try clear c70
              try clear c71
              try clear c72
              try clear c74
              try clear c75
              try clear c77
              try clear c78
              try clear c79
              try clear c81
              try clear c82
              try clear hcz61_0
              try clear hcz61_1
              try clear hcz61_2
              try clear hcz62_0
              try clear hcz62_1
              try clear hcz62_2
              try clear hcz62_3
              try clear hcz62_4
              try clear hcz62_5
              try clear hcz62_6
              try clear hcz62_7
              try clear hcz62_8
              try clear hcz68_0
              try clear hcz68_1
              try clear hcz68_2
              try clear hcz73_0
              try clear hcz73_1
              try clear hcz73_2
              try clear hcz76_0
              try clear hcz76_1
              try clear hcz76_2
              try clear hcz76_3
              try clear hcz76_4
              try clear hcz76_5
              try clear hcz76_6
              try clear hcz76_7
              try clear hcz76_8
              try clear hcz80_0
              try clear hcz80_1
              try clear hcz80_2
              try clear hcz83_0
              try clear hcz83_1
              try clear hcz83_2
              try clear hcz83_3
              try clear hcz83_4
              try clear hcz83_5
              try clear hcz83_6
              try clear hcz83_7
              try clear hcz83_8
              try clear hfz61_0
              try clear hfz61_1
              try clear hfz61_2
              try clear hfz62_0
              try clear hfz62_1
              try clear hfz62_2
              try clear hfz62_3
              try clear hfz62_4
              try clear hfz62_5
              try clear hfz62_6
              try clear hfz62_7
              try clear hfz62_8
              try clear hfz68_0
              try clear hfz68_1
              try clear hfz68_2
              try clear hfz73_0
              try clear hfz73_1
              try clear hfz73_2
              try clear hfz76_0
              try clear hfz76_1
              try clear hfz76_2
              try clear hfz76_3
              try clear hfz76_4
              try clear hfz76_5
              try clear hfz76_6
              try clear hfz76_7
              try clear hfz76_8
              try clear hfz80_0
              try clear hfz80_1
              try clear hfz80_2
              try clear hfz83_0
              try clear hfz83_1
              try clear hfz83_2
              try clear hfz83_3
              try clear hfz83_4
              try clear hfz83_5
              try clear hfz83_6
              try clear hfz83_7
              try clear hfz83_8
              obtain ⟨kq, x10_35, rfl, HA, HJ35, HO_102002, HO_103000, HO_103002, HO_109002, BK101, BK102, BK103, BK108, HB⟩ := hcut
              cases kq with
              | zero => exact absurd HA.out (by simp [doorwardlaw18_MeanRules.j1])
              | succ kj35 =>
                have H := HA.out
                clear HA
                simp only [doorwardlaw18_MeanRules.j1] at H
                have H' := amk H
                clear H
                have hnb84 := NB101_102.out
                have hnc84 := NB102_101.out
                have hnb85 := NB101_103.out
                have hnc85 := NB103_101.out
                have hnb86 := NB101_108.out
                have hnc86 := NB108_101.out
                have hcz87_0 : wc.cell? ⟨gb101, 0, none⟩ = some (.int .u32 a0_0) := (blk_cell BK101.out 0).trans rfl
                have hcz87_1 : wc.cell? ⟨gb101, 1, none⟩ = some (.int .u32 a0_1) := (blk_cell BK101.out 1).trans rfl
                have hcz87_2 : wc.cell? ⟨gb101, 2, none⟩ = some (.slice A0_2 l0_2.length c0_2) := (blk_cell BK101.out 2).trans rfl
                have hfz87_0 := blk_frozen BK101.out 0
                have hfz87_1 := blk_frozen BK101.out 1
                have hfz87_2 := blk_frozen BK101.out 2
                go_wp2
                go_loopg [10, 62] kj35 (fun kq v10 v62 w' => ∃ (x10_3 : Bool) (x62_3 : Int), v10 = .bool x10_3 ∧ v62 = .int .i64 x62_3 ∧ Aside0 (doorwardlaw18_MeanRules.l0 kq t107 t121 x10_3 l0_2 (l0_2.length : Int) x62_3 a0_0 a0_1 l0_2 l1_0 a1_1 l1_2 a1_3 a1_4 a1_5 a1_6 a1_7 = some r) ∧ Aside0 (kq ≤ kj35) ∧ Aside0 (Kd.V k58 58 w' w.heap.size (fun k_ => ((P0_2_ k_ ∨ P1_0_ k_ ∨ P1_2_ k_) ∨ w.heap.size ≤ k_) ∧ some k_ ≠ ((.slice Ao59 y118.length co59) : Value).ownBlock ∧ k_ ≠ gb101 ∧ k_ ≠ gb102 ∧ k_ ≠ gb103 ∧ k_ ≠ gb108) (.slice A0_2 l0_2.length c0_2) l0_2) ∧ Aside0 (Kd.V k58 58 w' w.heap.size (fun k_ => ((P0_2_ k_ ∨ P1_0_ k_ ∨ P1_2_ k_) ∨ w.heap.size ≤ k_) ∧ some k_ ≠ ((.slice Ao59 y118.length co59) : Value).ownBlock ∧ k_ ≠ gb101 ∧ k_ ≠ gb102 ∧ k_ ≠ gb103 ∧ k_ ≠ gb108) (.slice A0_2 l0_2.length c0_2) l0_2) ∧ Aside0 (Kd.V (Kd.int .u32) 22 w' w.heap.size (fun k_ => ((P0_2_ k_ ∨ P1_0_ k_ ∨ P1_2_ k_) ∨ w.heap.size ≤ k_) ∧ some k_ ≠ ((.slice Ao59 y118.length co59) : Value).ownBlock ∧ k_ ≠ gb101 ∧ k_ ≠ gb102 ∧ k_ ≠ gb103 ∧ k_ ≠ gb108) (.slice A1_0 l1_0.length c1_0) l1_0) ∧ Aside0 (Kd.V k46 46 w' w.heap.size (fun k_ => ((P0_2_ k_ ∨ P1_0_ k_ ∨ P1_2_ k_) ∨ w.heap.size ≤ k_) ∧ some k_ ≠ ((.slice Ao59 y118.length co59) : Value).ownBlock ∧ k_ ≠ gb101 ∧ k_ ≠ gb102 ∧ k_ ≠ gb103 ∧ k_ ≠ gb108) (.slice A1_2 l1_2.length c1_2) l1_2) ∧ Aside0 (Kd.N k58 58 w' w.heap.size (fun k_ => ((P0_2_ k_ ∨ P1_0_ k_ ∨ P1_2_ k_) ∨ w.heap.size ≤ k_) ∧ k_ ≠ gb101 ∧ k_ ≠ gb102 ∧ k_ ≠ gb103 ∧ k_ ≠ gb108) (.slice Ao59 y118.length co59) y118) ∧ Aside0 (w'.heap[gb101]? = some (.cells #[.int .u32 a0_0, .int .u32 a0_1, (.slice A0_2 l0_2.length c0_2)] 56 (0, 0))) ∧ Aside0 (w'.heap[gb102]? = some (.cells #[(.slice A1_0 l1_0.length c1_0), .int .i64 a1_1, (.slice A1_2 l1_2.length c1_2), .int .i64 a1_3, .int .u64 a1_4, .string a1_5, .int .u64 a1_6, .int .u32 a1_7] 58 (0, 0))) ∧ Aside0 (w'.heap[gb103]? = some (.cells #[.int .u32 a2_0, .int .u32 a2_1, .int .u64 a2_2, .int .u64 a2_3, .int .u64 a2_4, .int .u64 a2_5, .int .u64 a2_6, .int .u64 a2_7, .int .u64 a2_8] 49 (0, 0))) ∧ Aside0 (w'.heap[gb108]? = some (.cells #[.int .u32 a0_0, .int .u32 a0_1, (.slice Ao59 y118.length co59)] 56 (0, 0))) ∧ Aside0 (Below w.heap.size w w'))
                case atStart => exact ⟨(x10_35), (0), (by first | rfl | (simp; done) | (simp [*]; done)), (by first | rfl | (simp; done) | (simp [*]; done)), H', ⟨Nat.le_refl _⟩, ⟨by (with_reducible repeat (first | apply Kd.V_alloc | apply Kd.V_drewN | apply Kd.V_drew)); exact HO_102002.out⟩, ⟨by (with_reducible repeat (first | apply Kd.V_alloc | apply Kd.V_drewN | apply Kd.V_drew)); exact HO_102002.out⟩, ⟨by (with_reducible repeat (first | apply Kd.V_alloc | apply Kd.V_drewN | apply Kd.V_drew)); exact HO_103000.out⟩, ⟨by (with_reducible repeat (first | apply Kd.V_alloc | apply Kd.V_drewN | apply Kd.V_drew)); exact HO_103002.out⟩, ⟨by (with_reducible repeat (first | apply Kd.N_alloc | apply Kd.N_drewN | apply Kd.N_drew)); exact HO_109002.out⟩, ⟨by (with_reducible repeat (first | refine blk_drewN ?_ _ | refine blk_drew ?_ | refine blk_alloc ?_ _)); exact BK101.out⟩, ⟨by (with_reducible repeat (first | refine blk_drewN ?_ _ | refine blk_drew ?_ | refine blk_alloc ?_ _)); exact BK102.out⟩, ⟨by (with_reducible repeat (first | refine blk_drewN ?_ _ | refine blk_drew ?_ | refine blk_alloc ?_ _)); exact BK103.out⟩, ⟨by (with_reducible repeat (first | refine blk_drewN ?_ _ | refine blk_drew ?_ | refine blk_alloc ?_ _)); exact BK108.out⟩, ⟨by repeat (first | (with_reducible first | exact HB.out | apply bal | apply pbd | apply below_drew1 | refine below_set ?_ GE101.out | refine below_set ?_ GE102.out | refine below_set ?_ GE103.out | refine below_set ?_ GE108.out) | exact HB.out)⟩⟩
                case round =>
                  clear H'
                  try clear c1
                  try clear p2
                  try clear c3
                  try clear c5
                  try clear c6
                  try clear c7
                  try clear c8
                  try clear c33
                  try clear c34
                  try clear c50
                  try clear c64
                  try clear c64b0
                  try clear c64b1
                  try clear c65
                  try clear c66
                  try clear c67
                  try clear c69
                  try clear c69b0
                  try clear c69b1
                  try clear c70
                  try clear c71
                  try clear c72
                  try clear c74
                  try clear c75
                  try clear c77
                  try clear c78
                  try clear c79
                  try clear c81
                  try clear c82
                  try clear c84
                  try clear c85
                  try clear c86
                  try clear hcz61_0
                  try clear hcz61_1
                  try clear hcz61_2
                  try clear hcz62_0
                  try clear hcz62_1
                  try clear hcz62_2
                  try clear hcz62_3
                  try clear hcz62_4
                  try clear hcz62_5
                  try clear hcz62_6
                  try clear hcz62_7
                  try clear hcz62_8
                  try clear hcz68_0
                  try clear hcz68_1
                  try clear hcz68_2
                  try clear hcz73_0
                  try clear hcz73_1
                  try clear hcz73_2
                  try clear hcz76_0
                  try clear hcz76_1
                  try clear hcz76_2
                  try clear hcz76_3
                  try clear hcz76_4
                  try clear hcz76_5
                  try clear hcz76_6
                  try clear hcz76_7
                  try clear hcz76_8
                  try clear hcz80_0
                  try clear hcz80_1
                  try clear hcz80_2
                  try clear hcz83_0
                  try clear hcz83_1
                  try clear hcz83_2
                  try clear hcz83_3
                  try clear hcz83_4
                  try clear hcz83_5
                  try clear hcz83_6
                  try clear hcz83_7
                  try clear hcz83_8
                  try clear hcz87_0
                  try clear hcz87_1
                  try clear hcz87_2
                  try clear hfz61_0
                  try clear hfz61_1
                  try clear hfz61_2
                  try clear hfz62_0
                  try clear hfz62_1
                  try clear hfz62_2
                  try clear hfz62_3
                  try clear hfz62_4
                  try clear hfz62_5
                  try clear hfz62_6
                  try clear hfz62_7
                  try clear hfz62_8
                  try clear hfz68_0
                  try clear hfz68_1
                  try clear hfz68_2
                  try clear hfz73_0
                  try clear hfz73_1
                  try clear hfz73_2
                  try clear hfz76_0
                  try clear hfz76_1
                  try clear hfz76_2
                  try clear hfz76_3
                  try clear hfz76_4
                  try clear hfz76_5
                  try clear hfz76_6
                  try clear hfz76_7
                  try clear hfz76_8
                  try clear hfz80_0
                  try clear hfz80_1
                  try clear hfz80_2
                  try clear hfz83_0
                  try clear hfz83_1
                  try clear hfz83_2
                  try clear hfz83_3
                  try clear hfz83_4
                  try clear hfz83_5
                  try clear hfz83_6
                  try clear hfz83_7
                  try clear hfz83_8
                  try clear hfz87_0
                  try clear hfz87_1
                  try clear hfz87_2
                  try clear p2
                  obtain ⟨x10_3, x62_3, rfl, rfl, HA, HK3, HO_60, HO_102002, HO_103000, HO_103002, HO_109002, BK101, BK102, BK103, BK108, HB⟩ := hrel
                  cases gk with
                  | zero => exact absurd HA.out (by simp [doorwardlaw18_MeanRules.l0])
                  | succ k3 =>
                    have H := HA.out
                    clear HA
                    simp only [doorwardlaw18_MeanRules.l0] at H
                    by_cases c88 : x62_3 < (l0_2.length : Int)
                    · rw [if_pos c88] at H
                      have c88b0 : decide (x62_3 < (l0_2.length : Int)) = true := decide_eq_true c88
                      clear c88
                      by_cases c89 : 0 ≤ x62_3
                      · rw [if_pos c89] at H
                        have c89b0 : decide (0 ≤ x62_3) = true := decide_eq_true c89
                        clear c89
                        by_cases c90 : x62_3 < (l0_2.length : Int)
                        · rw [if_pos c90] at H
                          have c90b0 : decide (x62_3 < (l0_2.length : Int)) = true := decide_eq_true c90
                          clear c90
                          by_cases c91 : x10_3 = true
                          · subst c91
                            have H1 : (doorwardlaw18_MeanRules.l0 k3 t107 t121 true l0_2 (l0_2.length : Int) (wrap64 (x62_3 + 1)) a0_0 a0_1 l0_2 l1_0 a1_1 l1_2 a1_3 a1_4 a1_5 a1_6 a1_7) = some r := by rw [if_pos rfl] at H; exact H
                            clear H
                            have H := H1
                            clear H1
                            have H' := amk H
                            clear H
                            have p122 : 0 ≤ (x62_3 : Int) := of_decide_eq_true (by first | (with_reducible assumption) | assumption)
                            have q122 : x62_3 < (l0_2.length : Int) := of_decide_eq_true (by first | (with_reducible assumption) | assumption)
                            obtain ⟨ad122, A122_0, c122_0, A122_2, c122_2, e122, hx122_0, hx122_1, hx122_2, hx122_3, hx122_4, hx122_5, hx122_6, hx122_7, hl122_0, hi122_0, hl122_2, hi122_2⟩ := at_T58 (Kd.V_reads' HO_60.out).2.2 x62_3 p122 q122
                            cases e122
                            obtain ⟨ce122, hce122, hMe122, hcc122⟩ := Kd.V_get HO_60.out z58 x62_3 p122 (by first | exact q122 | exact of_decide_eq_true (by first | (with_reducible assumption) | assumption) | (have e_ := (Kd.V_reads' HO_60.out).1; omega))
                            obtain ⟨ua122_0, uc122_0, ua122_2, uc122_2, rfl, ul122_0, ge122_0, ul122_2, ge122_2⟩ := k58_openF hMe122
                            have hv122_0 := hcc122 0 _ rfl
                            rw [Nat.add_zero] at hv122_0
                            replace hv122_0 := Option.some.inj (hv122_0.symm.trans hx122_0)
                            injection hv122_0 with hva_ hvn_ hvc_
                            rw [hva_] at ge122_0
                            rw [hvc_] at ul122_0
                            have HL122_0 := amk (show Kd.V (Kd.int .u32) 22 _ w.heap.size _ _ ((rd_T58 l0_2 x62_3).f0) from Kd.V_mk ul122_0 ge122_0)
                            clear hva_ hvn_ hvc_ ge122_0 ul122_0
                            have hv122_2 := hcc122 2 _ rfl
                            rw [add_field _ _ 2 (by omega)] at hv122_2
                            replace hv122_2 := Option.some.inj (hv122_2.symm.trans hx122_2)
                            injection hv122_2 with hva_ hvn_ hvc_
                            rw [hva_] at ge122_2
                            rw [hvc_] at ul122_2
                            have HL122_2 := amk (show Kd.V k46 46 _ w.heap.size _ _ ((rd_T58 l0_2 x62_3).f1.f1) from Kd.V_mk ul122_2 ge122_2)
                            clear hva_ hvn_ hvc_ ge122_2 ul122_2
                            clear hcc122 hce122
                            have HR122_0 := amk hi122_0
                            have HC122_0 := amk hl122_0
                            clear hi122_0 hl122_0
                            have HR122_2 := amk hi122_2
                            have HC122_2 := amk hl122_2
                            clear hi122_2 hl122_2
                            replace p122 := eq_true p122
                            replace q122 := eq_true q122
                            go_wp2_with (first | ((with_reducible refine gate_dst (N := 12) rfl ?_); (try (refine gate_guard (by rfl) ?_; dsimp only)); refine box_event ?hg (N := 12) ?hd (cs := #[.slice none 0 0, .int .i64 0, .slice none 0 0, .int .i64 0, .int .u64 0, .string (⟨#[]⟩ : ByteArray), .int .u64 0, .int .u32 0]) (t := 58) ?hr ?_; (case hd => rfl); (case hg => rfl); (case hr => first | (go_simp; done) | (go_simp; rfl)); intro gb123 hg w92 hbox hb; have n0_ := amk (Kd.V_below (Kd.V_elderB (by (with_reducible repeat (first | apply Kd.V_alloc | apply Kd.V_drewN | apply Kd.V_drew)); exact HO_60.out) gb123 (Nat.le_of_eq hg.symm)) hb); have n1_ := amk (Kd.V_below (Kd.V_elderB (by (with_reducible repeat (first | apply Kd.V_alloc | apply Kd.V_drewN | apply Kd.V_drew)); exact HO_102002.out) gb123 (Nat.le_of_eq hg.symm)) hb); have n2_ := amk (Kd.V_below (Kd.V_elderB (by (with_reducible repeat (first | apply Kd.V_alloc | apply Kd.V_drewN | apply Kd.V_drew)); exact HO_103000.out) gb123 (Nat.le_of_eq hg.symm)) hb); have n3_ := amk (Kd.V_below (Kd.V_elderB (by (with_reducible repeat (first | apply Kd.V_alloc | apply Kd.V_drewN | apply Kd.V_drew)); exact HO_103002.out) gb123 (Nat.le_of_eq hg.symm)) hb); have n4_ := amk (Kd.N_below (Kd.N_elderB (by (with_reducible repeat (first | apply Kd.N_alloc | apply Kd.N_drewN | apply Kd.N_drew)); exact HO_109002.out) gb123 (Nat.le_of_eq hg.symm)) hb); have n5_ := amk (Kd.V_below (Kd.V_elderB (by (with_reducible repeat (first | apply Kd.V_alloc | apply Kd.V_drewN | apply Kd.V_drew)); exact HL122_0.out) gb123 (Nat.le_of_eq hg.symm)) hb); have n6_ := amk (Kd.V_below (Kd.V_elderB (by (with_reducible repeat (first | apply Kd.V_alloc | apply Kd.V_drewN | apply Kd.V_drew)); exact HL122_2.out) gb123 (Nat.le_of_eq hg.symm)) hb); have n7_ := amk (blk_below (g := gb101) (o := .cells #[.int .u32 a0_0, .int .u32 a0_1, .slice (some ad122) l0_2.length c0_2] 56 (0, 0)) (by (with_reducible repeat (first | refine blk_drewN ?_ _ | refine blk_drew ?_ | refine blk_alloc ?_ _)); exact BK101.out) hb); have n8_ := amk (blk_below (g := gb102) (o := .cells #[.slice A1_0 l1_0.length c1_0, .int .i64 a1_1, .slice A1_2 l1_2.length c1_2, .int .i64 a1_3, .int .u64 a1_4, .string a1_5, .int .u64 a1_6, .int .u32 a1_7] 58 (0, 0)) (by (with_reducible repeat (first | refine blk_drewN ?_ _ | refine blk_drew ?_ | refine blk_alloc ?_ _)); exact BK102.out) hb); have n9_ := amk (blk_below (g := gb103) (o := .cells #[.int .u32 a2_0, .int .u32 a2_1, .int .u64 a2_2, .int .u64 a2_3, .int .u64 a2_4, .int .u64 a2_5, .int .u64 a2_6, .int .u64 a2_7, .int .u64 a2_8] 49 (0, 0)) (by (with_reducible repeat (first | refine blk_drewN ?_ _ | refine blk_drew ?_ | refine blk_alloc ?_ _)); exact BK103.out) hb); have n10_ := amk (blk_below (g := gb108) (o := .cells #[.int .u32 a0_0, .int .u32 a0_1, .slice Ao59 y118.length co59] 56 (0, 0)) (by (with_reducible repeat (first | refine blk_drewN ?_ _ | refine blk_drew ?_ | refine blk_alloc ?_ _)); exact BK108.out) hb); have n11_ := amk (Kd.C_below (by repeat (first | (with_reducible exact HR122_0.out) | (with_reducible refine Kd.C_alloc ?_ _) | (with_reducible refine Kd.C_drewN ?_ _) | (with_reducible refine Kd.C_drew ?_) | exact HR122_0.out)) hb); have n12_ := amk (Kd.C_below (by repeat (first | (with_reducible exact HR122_2.out) | (with_reducible refine Kd.C_alloc ?_ _) | (with_reducible refine Kd.C_drewN ?_ _) | (with_reducible refine Kd.C_drew ?_) | exact HR122_2.out)) hb); have n13_ := amk (below_step (by repeat (first | (with_reducible first | exact HB.out | apply bal | apply pbd | apply below_drew1 | refine below_set ?_ GE101.out | refine below_set ?_ GE102.out | refine below_set ?_ GE103.out | refine below_set ?_ GE108.out) | exact HB.out)) hb); have n14_ := amk (hbox); have n15_ := amk ((by rw [hg]; exact (below_size (by repeat (first | (with_reducible first | exact HB.out | apply bal | apply pbd | apply below_drew1 | refine below_set ?_ GE101.out | refine below_set ?_ GE102.out | refine below_set ?_ GE103.out | refine below_set ?_ GE108.out) | exact HB.out))) : w.heap.size ≤ gb123)); have n16_ := amk ((by rw [hg]; exact (below_size (by repeat (first | (with_reducible first | exact HB.out | apply bal | apply pbd | apply below_drew1 | refine below_set ?_ GE101.out | refine below_set ?_ GE102.out | refine below_set ?_ GE103.out | refine below_set ?_ GE108.out) | exact HB.out))) : w.heap.size ≤ gb123)); have n17_ := amk ((by rw [hg]; exact Nat.ne_of_lt (blk_lt (g := gb101) (o := .cells #[.int .u32 a0_0, .int .u32 a0_1, .slice (some ad122) l0_2.length c0_2] 56 (0, 0)) (by (with_reducible repeat (first | refine blk_drewN ?_ _ | refine blk_drew ?_ | refine blk_alloc ?_ _)); exact BK101.out)) : gb101 ≠ gb123)); have n18_ := amk ((by rw [hg]; exact Nat.ne_of_gt (blk_lt (g := gb101) (o := .cells #[.int .u32 a0_0, .int .u32 a0_1, .slice (some ad122) l0_2.length c0_2] 56 (0, 0)) (by (with_reducible repeat (first | refine blk_drewN ?_ _ | refine blk_drew ?_ | refine blk_alloc ?_ _)); exact BK101.out)) : gb123 ≠ gb101)); have n19_ := amk ((by rw [hg]; exact Nat.ne_of_lt (blk_lt (g := gb102) (o := .cells #[.slice A1_0 l1_0.length c1_0, .int .i64 a1_1, .slice A1_2 l1_2.length c1_2, .int .i64 a1_3, .int .u64 a1_4, .string a1_5, .int .u64 a1_6, .int .u32 a1_7] 58 (0, 0)) (by (with_reducible repeat (first | refine blk_drewN ?_ _ | refine blk_drew ?_ | refine blk_alloc ?_ _)); exact BK102.out)) : gb102 ≠ gb123)); have n20_ := amk ((by rw [hg]; exact Nat.ne_of_gt (blk_lt (g := gb102) (o := .cells #[.slice A1_0 l1_0.length c1_0, .int .i64 a1_1, .slice A1_2 l1_2.length c1_2, .int .i64 a1_3, .int .u64 a1_4, .string a1_5, .int .u64 a1_6, .int .u32 a1_7] 58 (0, 0)) (by (with_reducible repeat (first | refine blk_drewN ?_ _ | refine blk_drew ?_ | refine blk_alloc ?_ _)); exact BK102.out)) : gb123 ≠ gb102)); have n21_ := amk ((by rw [hg]; exact Nat.ne_of_lt (blk_lt (g := gb103) (o := .cells #[.int .u32 a2_0, .int .u32 a2_1, .int .u64 a2_2, .int .u64 a2_3, .int .u64 a2_4, .int .u64 a2_5, .int .u64 a2_6, .int .u64 a2_7, .int .u64 a2_8] 49 (0, 0)) (by (with_reducible repeat (first | refine blk_drewN ?_ _ | refine blk_drew ?_ | refine blk_alloc ?_ _)); exact BK103.out)) : gb103 ≠ gb123)); have n22_ := amk ((by rw [hg]; exact Nat.ne_of_gt (blk_lt (g := gb103) (o := .cells #[.int .u32 a2_0, .int .u32 a2_1, .int .u64 a2_2, .int .u64 a2_3, .int .u64 a2_4, .int .u64 a2_5, .int .u64 a2_6, .int .u64 a2_7, .int .u64 a2_8] 49 (0, 0)) (by (with_reducible repeat (first | refine blk_drewN ?_ _ | refine blk_drew ?_ | refine blk_alloc ?_ _)); exact BK103.out)) : gb123 ≠ gb103)); have n23_ := amk ((by rw [hg]; exact Nat.ne_of_lt (blk_lt (g := gb108) (o := .cells #[.int .u32 a0_0, .int .u32 a0_1, .slice Ao59 y118.length co59] 56 (0, 0)) (by (with_reducible repeat (first | refine blk_drewN ?_ _ | refine blk_drew ?_ | refine blk_alloc ?_ _)); exact BK108.out)) : gb108 ≠ gb123)); have n24_ := amk ((by rw [hg]; exact Nat.ne_of_gt (blk_lt (g := gb108) (o := .cells #[.int .u32 a0_0, .int .u32 a0_1, .slice Ao59 y118.length co59] 56 (0, 0)) (by (with_reducible repeat (first | refine blk_drewN ?_ _ | refine blk_drew ?_ | refine blk_alloc ?_ _)); exact BK108.out)) : gb123 ≠ gb108)); clear HO_60; clear HO_102002; clear HO_103000; clear HO_103002; clear HO_109002; clear HL122_0; clear HL122_2; clear BK101; clear BK102; clear BK103; clear BK108; clear HR122_0; clear HR122_2; clear HB; have HO_60 := n0_; have HO_102002 := n1_; have HO_103000 := n2_; have HO_103002 := n3_; have HO_109002 := n4_; have HL122_0 := n5_; have HL122_2 := n6_; have BK101 := n7_; have BK102 := n8_; have BK103 := n9_; have BK108 := n10_; have HR122_0 := n11_; have HR122_2 := n12_; have HB := n13_; have BK123 := n14_; have GW123 := n15_; have GE123 := n16_; have NB101_123 := n17_; have NB123_101 := n18_; have NB102_123 := n19_; have NB123_102 := n20_; have NB103_123 := n21_; have NB123_103 := n22_; have NB108_123 := n23_; have NB123_108 := n24_; clear n0_ n1_ n2_ n3_ n4_ n5_ n6_ n7_ n8_ n9_ n10_ n11_ n12_ n13_ n14_ n15_ n16_ n17_ n18_ n19_ n20_ n21_ n22_ n23_ n24_; clear hb hbox hg; have hnb93 := NB123_101.out; have hnc93 := NB101_123.out; have hnb94 := NB123_102.out; have hnc94 := NB102_123.out; have hnb95 := NB123_103.out; have hnc95 := NB103_123.out; have hnb96 := NB123_108.out; have hnc96 := NB108_123.out; have hcz97_0 : w92.cell? ⟨gb123, 0, none⟩ = some (.slice none 0 0) := (blk_cell BK123.out 0).trans rfl; have hcz97_1 : w92.cell? ⟨gb123, 1, none⟩ = some (.int .i64 0) := (blk_cell BK123.out 1).trans rfl; have hcz97_2 : w92.cell? ⟨gb123, 2, none⟩ = some (.slice none 0 0) := (blk_cell BK123.out 2).trans rfl; have hcz97_3 : w92.cell? ⟨gb123, 3, none⟩ = some (.int .i64 0) := (blk_cell BK123.out 3).trans rfl; have hcz97_4 : w92.cell? ⟨gb123, 4, none⟩ = some (.int .u64 0) := (blk_cell BK123.out 4).trans rfl; have hcz97_5 : w92.cell? ⟨gb123, 5, none⟩ = some (.string (⟨#[]⟩ : ByteArray)) := (blk_cell BK123.out 5).trans rfl; have hcz97_6 : w92.cell? ⟨gb123, 6, none⟩ = some (.int .u64 0) := (blk_cell BK123.out 6).trans rfl; have hcz97_7 : w92.cell? ⟨gb123, 7, none⟩ = some (.int .u32 0) := (blk_cell BK123.out 7).trans rfl; have hfz97_0 := blk_frozen BK123.out 0; have hfz97_1 := blk_frozen BK123.out 1; have hfz97_2 := blk_frozen BK123.out 2; have hfz97_3 := blk_frozen BK123.out 3; have hfz97_4 := blk_frozen BK123.out 4; have hfz97_5 := blk_frozen BK123.out 5; have hfz97_6 := blk_frozen BK123.out 6; have hfz97_7 := blk_frozen BK123.out 7))
                            go_roundg k3
                            case measure => have := HJ3.out; have := HJ35.out; have := HK3.out; omega
                            case rel => exact ⟨(true), (wrap64 (x62_3 + 1)), (by first | rfl | (simp; done) | (simp [*]; done)), (by first | rfl | (simp; done) | (simp [*]; done)), H', ⟨by have := HJ3.out; have := HJ35.out; have := HK3.out; omega⟩, ⟨by (with_reducible repeat (first | apply Kd.V_alloc | apply Kd.V_drewN | apply Kd.V_drew)); exact Kd.V_mono (Kd.V_far (p := ⟨gb123, 7, none⟩) (Kd.V_far (p := ⟨gb123, 6, none⟩) (Kd.V_far (p := ⟨gb123, 5, none⟩) (Kd.V_far (p := ⟨gb123, 4, none⟩) (Kd.V_far (p := ⟨gb123, 3, none⟩) (Kd.V_far (p := ⟨gb123, 2, none⟩) (Kd.V_far (p := ⟨gb123, 1, none⟩) (Kd.V_far (p := ⟨gb123, 0, none⟩) (Kd.V_mono HO_60.out (fun k_ hk => (⟨hk, hk.2⟩ : _ ∧ k_ ≠ gb123))) (fun _ hk => hk.2) (.slice A122_0 ((rd_T58 l0_2 x62_3).f0).length c122_0)) (fun _ hk => hk.2) (.int .i64 ((rd_T58 l0_2 x62_3).f1.f0))) (fun _ hk => hk.2) (.slice A122_2 ((rd_T58 l0_2 x62_3).f1.f1).length c122_2)) (fun _ hk => hk.2) (.int .i64 ((rd_T58 l0_2 x62_3).f1.f2))) (fun _ hk => hk.2) (.int .u64 ((rd_T58 l0_2 x62_3).f1.f3))) (fun _ hk => hk.2) (.string ((rd_T58 l0_2 x62_3).f1.f4))) (fun _ hk => hk.2) (.int .u64 ((rd_T58 l0_2 x62_3).f1.f5))) (fun _ hk => hk.2) (.int .u32 ((rd_T58 l0_2 x62_3).f2))) (fun _ hk => ⟨hk.1.1.1, ⟨hk.1.1.2.1, ⟨hk.1.1.2.2.1, ⟨hk.1.1.2.2.2.1, ⟨hk.1.1.2.2.2.2.1, hk.1.1.2.2.2.2.2⟩⟩⟩⟩⟩)⟩, ⟨by (with_reducible repeat (first | apply Kd.V_alloc | apply Kd.V_drewN | apply Kd.V_drew)); exact Kd.V_mono (Kd.V_far (p := ⟨gb123, 7, none⟩) (Kd.V_far (p := ⟨gb123, 6, none⟩) (Kd.V_far (p := ⟨gb123, 5, none⟩) (Kd.V_far (p := ⟨gb123, 4, none⟩) (Kd.V_far (p := ⟨gb123, 3, none⟩) (Kd.V_far (p := ⟨gb123, 2, none⟩) (Kd.V_far (p := ⟨gb123, 1, none⟩) (Kd.V_far (p := ⟨gb123, 0, none⟩) (Kd.V_mono HO_102002.out (fun k_ hk => (⟨hk, hk.2⟩ : _ ∧ k_ ≠ gb123))) (fun _ hk => hk.2) (.slice A122_0 ((rd_T58 l0_2 x62_3).f0).length c122_0)) (fun _ hk => hk.2) (.int .i64 ((rd_T58 l0_2 x62_3).f1.f0))) (fun _ hk => hk.2) (.slice A122_2 ((rd_T58 l0_2 x62_3).f1.f1).length c122_2)) (fun _ hk => hk.2) (.int .i64 ((rd_T58 l0_2 x62_3).f1.f2))) (fun _ hk => hk.2) (.int .u64 ((rd_T58 l0_2 x62_3).f1.f3))) (fun _ hk => hk.2) (.string ((rd_T58 l0_2 x62_3).f1.f4))) (fun _ hk => hk.2) (.int .u64 ((rd_T58 l0_2 x62_3).f1.f5))) (fun _ hk => hk.2) (.int .u32 ((rd_T58 l0_2 x62_3).f2))) (fun _ hk => ⟨hk.1.1.1, ⟨hk.1.1.2.1, ⟨hk.1.1.2.2.1, ⟨hk.1.1.2.2.2.1, ⟨hk.1.1.2.2.2.2.1, hk.1.1.2.2.2.2.2⟩⟩⟩⟩⟩)⟩, ⟨by (with_reducible repeat (first | apply Kd.V_alloc | apply Kd.V_drewN | apply Kd.V_drew)); exact Kd.V_mono (Kd.V_far (p := ⟨gb123, 7, none⟩) (Kd.V_far (p := ⟨gb123, 6, none⟩) (Kd.V_far (p := ⟨gb123, 5, none⟩) (Kd.V_far (p := ⟨gb123, 4, none⟩) (Kd.V_far (p := ⟨gb123, 3, none⟩) (Kd.V_far (p := ⟨gb123, 2, none⟩) (Kd.V_far (p := ⟨gb123, 1, none⟩) (Kd.V_far (p := ⟨gb123, 0, none⟩) (Kd.V_mono HO_103000.out (fun k_ hk => (⟨hk, hk.2⟩ : _ ∧ k_ ≠ gb123))) (fun _ hk => hk.2) (.slice A122_0 ((rd_T58 l0_2 x62_3).f0).length c122_0)) (fun _ hk => hk.2) (.int .i64 ((rd_T58 l0_2 x62_3).f1.f0))) (fun _ hk => hk.2) (.slice A122_2 ((rd_T58 l0_2 x62_3).f1.f1).length c122_2)) (fun _ hk => hk.2) (.int .i64 ((rd_T58 l0_2 x62_3).f1.f2))) (fun _ hk => hk.2) (.int .u64 ((rd_T58 l0_2 x62_3).f1.f3))) (fun _ hk => hk.2) (.string ((rd_T58 l0_2 x62_3).f1.f4))) (fun _ hk => hk.2) (.int .u64 ((rd_T58 l0_2 x62_3).f1.f5))) (fun _ hk => hk.2) (.int .u32 ((rd_T58 l0_2 x62_3).f2))) (fun _ hk => ⟨hk.1.1.1, ⟨hk.1.1.2.1, ⟨hk.1.1.2.2.1, ⟨hk.1.1.2.2.2.1, ⟨hk.1.1.2.2.2.2.1, hk.1.1.2.2.2.2.2⟩⟩⟩⟩⟩)⟩, ⟨by (with_reducible repeat (first | apply Kd.V_alloc | apply Kd.V_drewN | apply Kd.V_drew)); exact Kd.V_mono (Kd.V_far (p := ⟨gb123, 7, none⟩) (Kd.V_far (p := ⟨gb123, 6, none⟩) (Kd.V_far (p := ⟨gb123, 5, none⟩) (Kd.V_far (p := ⟨gb123, 4, none⟩) (Kd.V_far (p := ⟨gb123, 3, none⟩) (Kd.V_far (p := ⟨gb123, 2, none⟩) (Kd.V_far (p := ⟨gb123, 1, none⟩) (Kd.V_far (p := ⟨gb123, 0, none⟩) (Kd.V_mono HO_103002.out (fun k_ hk => (⟨hk, hk.2⟩ : _ ∧ k_ ≠ gb123))) (fun _ hk => hk.2) (.slice A122_0 ((rd_T58 l0_2 x62_3).f0).length c122_0)) (fun _ hk => hk.2) (.int .i64 ((rd_T58 l0_2 x62_3).f1.f0))) (fun _ hk => hk.2) (.slice A122_2 ((rd_T58 l0_2 x62_3).f1.f1).length c122_2)) (fun _ hk => hk.2) (.int .i64 ((rd_T58 l0_2 x62_3).f1.f2))) (fun _ hk => hk.2) (.int .u64 ((rd_T58 l0_2 x62_3).f1.f3))) (fun _ hk => hk.2) (.string ((rd_T58 l0_2 x62_3).f1.f4))) (fun _ hk => hk.2) (.int .u64 ((rd_T58 l0_2 x62_3).f1.f5))) (fun _ hk => hk.2) (.int .u32 ((rd_T58 l0_2 x62_3).f2))) (fun _ hk => ⟨hk.1.1.1, ⟨hk.1.1.2.1, ⟨hk.1.1.2.2.1, ⟨hk.1.1.2.2.2.1, ⟨hk.1.1.2.2.2.2.1, hk.1.1.2.2.2.2.2⟩⟩⟩⟩⟩)⟩, ⟨by (with_reducible repeat (first | apply Kd.N_alloc | apply Kd.N_drewN | apply Kd.N_drew)); exact Kd.N_mono (Kd.N_far (p := ⟨gb123, 7, none⟩) (Kd.N_far (p := ⟨gb123, 6, none⟩) (Kd.N_far (p := ⟨gb123, 5, none⟩) (Kd.N_far (p := ⟨gb123, 4, none⟩) (Kd.N_far (p := ⟨gb123, 3, none⟩) (Kd.N_far (p := ⟨gb123, 2, none⟩) (Kd.N_far (p := ⟨gb123, 1, none⟩) (Kd.N_far (p := ⟨gb123, 0, none⟩) (Kd.N_mono HO_109002.out (fun k_ hk => (⟨hk, hk.2⟩ : _ ∧ k_ ≠ gb123))) (fun _ hk => hk.2) (.slice A122_0 ((rd_T58 l0_2 x62_3).f0).length c122_0)) (fun _ hk => hk.2) (.int .i64 ((rd_T58 l0_2 x62_3).f1.f0))) (fun _ hk => hk.2) (.slice A122_2 ((rd_T58 l0_2 x62_3).f1.f1).length c122_2)) (fun _ hk => hk.2) (.int .i64 ((rd_T58 l0_2 x62_3).f1.f2))) (fun _ hk => hk.2) (.int .u64 ((rd_T58 l0_2 x62_3).f1.f3))) (fun _ hk => hk.2) (.string ((rd_T58 l0_2 x62_3).f1.f4))) (fun _ hk => hk.2) (.int .u64 ((rd_T58 l0_2 x62_3).f1.f5))) (fun _ hk => hk.2) (.int .u32 ((rd_T58 l0_2 x62_3).f2))) (fun _ hk => ⟨hk.1.1.1, ⟨hk.1.1.2.1, ⟨hk.1.1.2.2.1, ⟨hk.1.1.2.2.2.1, hk.1.1.2.2.2.2⟩⟩⟩⟩)⟩, ⟨by (with_reducible repeat (first | refine blk_drewN ?_ _ | refine blk_drew ?_ | refine blk_alloc ?_ _)); refine blk_far ?_ NB101_123.out _; (with_reducible repeat (first | refine blk_drewN ?_ _ | refine blk_drew ?_ | refine blk_alloc ?_ _)); refine blk_far ?_ NB101_123.out _; (with_reducible repeat (first | refine blk_drewN ?_ _ | refine blk_drew ?_ | refine blk_alloc ?_ _)); refine blk_far ?_ NB101_123.out _; (with_reducible repeat (first | refine blk_drewN ?_ _ | refine blk_drew ?_ | refine blk_alloc ?_ _)); refine blk_far ?_ NB101_123.out _; (with_reducible repeat (first | refine blk_drewN ?_ _ | refine blk_drew ?_ | refine blk_alloc ?_ _)); refine blk_far ?_ NB101_123.out _; (with_reducible repeat (first | refine blk_drewN ?_ _ | refine blk_drew ?_ | refine blk_alloc ?_ _)); refine blk_far ?_ NB101_123.out _; (with_reducible repeat (first | refine blk_drewN ?_ _ | refine blk_drew ?_ | refine blk_alloc ?_ _)); refine blk_far ?_ NB101_123.out _; (with_reducible repeat (first | refine blk_drewN ?_ _ | refine blk_drew ?_ | refine blk_alloc ?_ _)); refine blk_far ?_ NB101_123.out _; (with_reducible repeat (first | refine blk_drewN ?_ _ | refine blk_drew ?_ | refine blk_alloc ?_ _)); exact BK101.out⟩, ⟨by (with_reducible repeat (first | refine blk_drewN ?_ _ | refine blk_drew ?_ | refine blk_alloc ?_ _)); refine blk_far ?_ NB102_123.out _; (with_reducible repeat (first | refine blk_drewN ?_ _ | refine blk_drew ?_ | refine blk_alloc ?_ _)); refine blk_far ?_ NB102_123.out _; (with_reducible repeat (first | refine blk_drewN ?_ _ | refine blk_drew ?_ | refine blk_alloc ?_ _)); refine blk_far ?_ NB102_123.out _; (with_reducible repeat (first | refine blk_drewN ?_ _ | refine blk_drew ?_ | refine blk_alloc ?_ _)); refine blk_far ?_ NB102_123.out _; (with_reducible repeat (first | refine blk_drewN ?_ _ | refine blk_drew ?_ | refine blk_alloc ?_ _)); refine blk_far ?_ NB102_123.out _; (with_reducible repeat (first | refine blk_drewN ?_ _ | refine blk_drew ?_ | refine blk_alloc ?_ _)); refine blk_far ?_ NB102_123.out _; (with_reducible repeat (first | refine blk_drewN ?_ _ | refine blk_drew ?_ | refine blk_alloc ?_ _)); refine blk_far ?_ NB102_123.out _; (with_reducible repeat (first | refine blk_drewN ?_ _ | refine blk_drew ?_ | refine blk_alloc ?_ _)); refine blk_far ?_ NB102_123.out _; (with_reducible repeat (first | refine blk_drewN ?_ _ | refine blk_drew ?_ | refine blk_alloc ?_ _)); exact BK102.out⟩, ⟨by (with_reducible repeat (first | refine blk_drewN ?_ _ | refine blk_drew ?_ | refine blk_alloc ?_ _)); refine blk_far ?_ NB103_123.out _; (with_reducible repeat (first | refine blk_drewN ?_ _ | refine blk_drew ?_ | refine blk_alloc ?_ _)); refine blk_far ?_ NB103_123.out _; (with_reducible repeat (first | refine blk_drewN ?_ _ | refine blk_drew ?_ | refine blk_alloc ?_ _)); refine blk_far ?_ NB103_123.out _; (with_reducible repeat (first | refine blk_drewN ?_ _ | refine blk_drew ?_ | refine blk_alloc ?_ _)); refine blk_far ?_ NB103_123.out _; (with_reducible repeat (first | refine blk_drewN ?_ _ | refine blk_drew ?_ | refine blk_alloc ?_ _)); refine blk_far ?_ NB103_123.out _; (with_reducible repeat (first | refine blk_drewN ?_ _ | refine blk_drew ?_ | refine blk_alloc ?_ _)); refine blk_far ?_ NB103_123.out _; (with_reducible repeat (first | refine blk_drewN ?_ _ | refine blk_drew ?_ | refine blk_alloc ?_ _)); refine blk_far ?_ NB103_123.out _; (with_reducible repeat (first | refine blk_drewN ?_ _ | refine blk_drew ?_ | refine blk_alloc ?_ _)); refine blk_far ?_ NB103_123.out _; (with_reducible repeat (first | refine blk_drewN ?_ _ | refine blk_drew ?_ | refine blk_alloc ?_ _)); exact BK103.out⟩, ⟨by (with_reducible repeat (first | refine blk_drewN ?_ _ | refine blk_drew ?_ | refine blk_alloc ?_ _)); refine blk_far ?_ NB108_123.out _; (with_reducible repeat (first | refine blk_drewN ?_ _ | refine blk_drew ?_ | refine blk_alloc ?_ _)); refine blk_far ?_ NB108_123.out _; (with_reducible repeat (first | refine blk_drewN ?_ _ | refine blk_drew ?_ | refine blk_alloc ?_ _)); refine blk_far ?_ NB108_123.out _; (with_reducible repeat (first | refine blk_drewN ?_ _ | refine blk_drew ?_ | refine blk_alloc ?_ _)); refine blk_far ?_ NB108_123.out _; (with_reducible repeat (first | refine blk_drewN ?_ _ | refine blk_drew ?_ | refine blk_alloc ?_ _)); refine blk_far ?_ NB108_123.out _; (with_reducible repeat (first | refine blk_drewN ?_ _ | refine blk_drew ?_ | refine blk_alloc ?_ _)); refine blk_far ?_ NB108_123.out _; (with_reducible repeat (first | refine blk_drewN ?_ _ | refine blk_drew ?_ | refine blk_alloc ?_ _)); refine blk_far ?_ NB108_123.out _; (with_reducible repeat (first | refine blk_drewN ?_ _ | refine blk_drew ?_ | refine blk_alloc ?_ _)); refine blk_far ?_ NB108_123.out _; (with_reducible repeat (first | refine blk_drewN ?_ _ | refine blk_drew ?_ | refine blk_alloc ?_ _)); exact BK108.out⟩, ⟨by repeat (first | (with_reducible first | exact HB.out | apply bal | apply pbd | apply below_drew1 | refine below_set ?_ GE101.out | refine below_set ?_ GE102.out | refine below_set ?_ GE103.out | refine below_set ?_ GE108.out | refine below_set ?_ GE123.out) | exact HB.out)⟩⟩
                          · replace c91 := Bool.eq_false_iff.mpr c91
                            subst c91
                            have H1 : (doorwardlaw18_MeanRules.l0 k3 t107 t121 (((rd_T58 l0_2 x62_3).f2) == t107) l0_2 (l0_2.length : Int) (wrap64 (x62_3 + 1)) a0_0 a0_1 l0_2 l1_0 a1_1 l1_2 a1_3 a1_4 a1_5 a1_6 a1_7) = some r := by rw [if_neg (show ¬ (false = true) by decide)] at H; exact H
                            clear H
                            have H := H1
                            clear H1
                            have H' := amk H
                            clear H
                            have p122 : 0 ≤ (x62_3 : Int) := of_decide_eq_true (by first | (with_reducible assumption) | assumption)
                            have q122 : x62_3 < (l0_2.length : Int) := of_decide_eq_true (by first | (with_reducible assumption) | assumption)
                            obtain ⟨ad122, A122_0, c122_0, A122_2, c122_2, e122, hx122_0, hx122_1, hx122_2, hx122_3, hx122_4, hx122_5, hx122_6, hx122_7, hl122_0, hi122_0, hl122_2, hi122_2⟩ := at_T58 (Kd.V_reads' HO_60.out).2.2 x62_3 p122 q122
                            cases e122
                            obtain ⟨ce122, hce122, hMe122, hcc122⟩ := Kd.V_get HO_60.out z58 x62_3 p122 (by first | exact q122 | exact of_decide_eq_true (by first | (with_reducible assumption) | assumption) | (have e_ := (Kd.V_reads' HO_60.out).1; omega))
                            obtain ⟨ua122_0, uc122_0, ua122_2, uc122_2, rfl, ul122_0, ge122_0, ul122_2, ge122_2⟩ := k58_openF hMe122
                            have hv122_0 := hcc122 0 _ rfl
                            rw [Nat.add_zero] at hv122_0
                            replace hv122_0 := Option.some.inj (hv122_0.symm.trans hx122_0)
                            injection hv122_0 with hva_ hvn_ hvc_
                            rw [hva_] at ge122_0
                            rw [hvc_] at ul122_0
                            have HL122_0 := amk (show Kd.V (Kd.int .u32) 22 _ w.heap.size _ _ ((rd_T58 l0_2 x62_3).f0) from Kd.V_mk ul122_0 ge122_0)
                            clear hva_ hvn_ hvc_ ge122_0 ul122_0
                            have hv122_2 := hcc122 2 _ rfl
                            rw [add_field _ _ 2 (by omega)] at hv122_2
                            replace hv122_2 := Option.some.inj (hv122_2.symm.trans hx122_2)
                            injection hv122_2 with hva_ hvn_ hvc_
                            rw [hva_] at ge122_2
                            rw [hvc_] at ul122_2
                            have HL122_2 := amk (show Kd.V k46 46 _ w.heap.size _ _ ((rd_T58 l0_2 x62_3).f1.f1) from Kd.V_mk ul122_2 ge122_2)
                            clear hva_ hvn_ hvc_ ge122_2 ul122_2
                            clear hcc122 hce122
                            have HR122_0 := amk hi122_0
                            have HC122_0 := amk hl122_0
                            clear hi122_0 hl122_0
                            have HR122_2 := amk hi122_2
                            have HC122_2 := amk hl122_2
                            clear hi122_2 hl122_2
                            replace p122 := eq_true p122
                            replace q122 := eq_true q122
                            go_wp2_with (first | ((with_reducible refine gate_dst (N := 12) rfl ?_); (try (refine gate_guard (by rfl) ?_; dsimp only)); refine box_event ?hg (N := 12) ?hd (cs := #[.slice none 0 0, .int .i64 0, .slice none 0 0, .int .i64 0, .int .u64 0, .string (⟨#[]⟩ : ByteArray), .int .u64 0, .int .u32 0]) (t := 58) ?hr ?_; (case hd => rfl); (case hg => rfl); (case hr => first | (go_simp; done) | (go_simp; rfl)); intro gb123 hg w98 hbox hb; have n0_ := amk (Kd.V_below (Kd.V_elderB (by (with_reducible repeat (first | apply Kd.V_alloc | apply Kd.V_drewN | apply Kd.V_drew)); exact HO_60.out) gb123 (Nat.le_of_eq hg.symm)) hb); have n1_ := amk (Kd.V_below (Kd.V_elderB (by (with_reducible repeat (first | apply Kd.V_alloc | apply Kd.V_drewN | apply Kd.V_drew)); exact HO_102002.out) gb123 (Nat.le_of_eq hg.symm)) hb); have n2_ := amk (Kd.V_below (Kd.V_elderB (by (with_reducible repeat (first | apply Kd.V_alloc | apply Kd.V_drewN | apply Kd.V_drew)); exact HO_103000.out) gb123 (Nat.le_of_eq hg.symm)) hb); have n3_ := amk (Kd.V_below (Kd.V_elderB (by (with_reducible repeat (first | apply Kd.V_alloc | apply Kd.V_drewN | apply Kd.V_drew)); exact HO_103002.out) gb123 (Nat.le_of_eq hg.symm)) hb); have n4_ := amk (Kd.N_below (Kd.N_elderB (by (with_reducible repeat (first | apply Kd.N_alloc | apply Kd.N_drewN | apply Kd.N_drew)); exact HO_109002.out) gb123 (Nat.le_of_eq hg.symm)) hb); have n5_ := amk (Kd.V_below (Kd.V_elderB (by (with_reducible repeat (first | apply Kd.V_alloc | apply Kd.V_drewN | apply Kd.V_drew)); exact HL122_0.out) gb123 (Nat.le_of_eq hg.symm)) hb); have n6_ := amk (Kd.V_below (Kd.V_elderB (by (with_reducible repeat (first | apply Kd.V_alloc | apply Kd.V_drewN | apply Kd.V_drew)); exact HL122_2.out) gb123 (Nat.le_of_eq hg.symm)) hb); have n7_ := amk (blk_below (g := gb101) (o := .cells #[.int .u32 a0_0, .int .u32 a0_1, .slice (some ad122) l0_2.length c0_2] 56 (0, 0)) (by (with_reducible repeat (first | refine blk_drewN ?_ _ | refine blk_drew ?_ | refine blk_alloc ?_ _)); exact BK101.out) hb); have n8_ := amk (blk_below (g := gb102) (o := .cells #[.slice A1_0 l1_0.length c1_0, .int .i64 a1_1, .slice A1_2 l1_2.length c1_2, .int .i64 a1_3, .int .u64 a1_4, .string a1_5, .int .u64 a1_6, .int .u32 a1_7] 58 (0, 0)) (by (with_reducible repeat (first | refine blk_drewN ?_ _ | refine blk_drew ?_ | refine blk_alloc ?_ _)); exact BK102.out) hb); have n9_ := amk (blk_below (g := gb103) (o := .cells #[.int .u32 a2_0, .int .u32 a2_1, .int .u64 a2_2, .int .u64 a2_3, .int .u64 a2_4, .int .u64 a2_5, .int .u64 a2_6, .int .u64 a2_7, .int .u64 a2_8] 49 (0, 0)) (by (with_reducible repeat (first | refine blk_drewN ?_ _ | refine blk_drew ?_ | refine blk_alloc ?_ _)); exact BK103.out) hb); have n10_ := amk (blk_below (g := gb108) (o := .cells #[.int .u32 a0_0, .int .u32 a0_1, .slice Ao59 y118.length co59] 56 (0, 0)) (by (with_reducible repeat (first | refine blk_drewN ?_ _ | refine blk_drew ?_ | refine blk_alloc ?_ _)); exact BK108.out) hb); have n11_ := amk (Kd.C_below (by repeat (first | (with_reducible exact HR122_0.out) | (with_reducible refine Kd.C_alloc ?_ _) | (with_reducible refine Kd.C_drewN ?_ _) | (with_reducible refine Kd.C_drew ?_) | exact HR122_0.out)) hb); have n12_ := amk (Kd.C_below (by repeat (first | (with_reducible exact HR122_2.out) | (with_reducible refine Kd.C_alloc ?_ _) | (with_reducible refine Kd.C_drewN ?_ _) | (with_reducible refine Kd.C_drew ?_) | exact HR122_2.out)) hb); have n13_ := amk (below_step (by repeat (first | (with_reducible first | exact HB.out | apply bal | apply pbd | apply below_drew1 | refine below_set ?_ GE101.out | refine below_set ?_ GE102.out | refine below_set ?_ GE103.out | refine below_set ?_ GE108.out) | exact HB.out)) hb); have n14_ := amk (hbox); have n15_ := amk ((by rw [hg]; exact (below_size (by repeat (first | (with_reducible first | exact HB.out | apply bal | apply pbd | apply below_drew1 | refine below_set ?_ GE101.out | refine below_set ?_ GE102.out | refine below_set ?_ GE103.out | refine below_set ?_ GE108.out) | exact HB.out))) : w.heap.size ≤ gb123)); have n16_ := amk ((by rw [hg]; exact (below_size (by repeat (first | (with_reducible first | exact HB.out | apply bal | apply pbd | apply below_drew1 | refine below_set ?_ GE101.out | refine below_set ?_ GE102.out | refine below_set ?_ GE103.out | refine below_set ?_ GE108.out) | exact HB.out))) : w.heap.size ≤ gb123)); have n17_ := amk ((by rw [hg]; exact Nat.ne_of_lt (blk_lt (g := gb101) (o := .cells #[.int .u32 a0_0, .int .u32 a0_1, .slice (some ad122) l0_2.length c0_2] 56 (0, 0)) (by (with_reducible repeat (first | refine blk_drewN ?_ _ | refine blk_drew ?_ | refine blk_alloc ?_ _)); exact BK101.out)) : gb101 ≠ gb123)); have n18_ := amk ((by rw [hg]; exact Nat.ne_of_gt (blk_lt (g := gb101) (o := .cells #[.int .u32 a0_0, .int .u32 a0_1, .slice (some ad122) l0_2.length c0_2] 56 (0, 0)) (by (with_reducible repeat (first | refine blk_drewN ?_ _ | refine blk_drew ?_ | refine blk_alloc ?_ _)); exact BK101.out)) : gb123 ≠ gb101)); have n19_ := amk ((by rw [hg]; exact Nat.ne_of_lt (blk_lt (g := gb102) (o := .cells #[.slice A1_0 l1_0.length c1_0, .int .i64 a1_1, .slice A1_2 l1_2.length c1_2, .int .i64 a1_3, .int .u64 a1_4, .string a1_5, .int .u64 a1_6, .int .u32 a1_7] 58 (0, 0)) (by (with_reducible repeat (first | refine blk_drewN ?_ _ | refine blk_drew ?_ | refine blk_alloc ?_ _)); exact BK102.out)) : gb102 ≠ gb123)); have n20_ := amk ((by rw [hg]; exact Nat.ne_of_gt (blk_lt (g := gb102) (o := .cells #[.slice A1_0 l1_0.length c1_0, .int .i64 a1_1, .slice A1_2 l1_2.length c1_2, .int .i64 a1_3, .int .u64 a1_4, .string a1_5, .int .u64 a1_6, .int .u32 a1_7] 58 (0, 0)) (by (with_reducible repeat (first | refine blk_drewN ?_ _ | refine blk_drew ?_ | refine blk_alloc ?_ _)); exact BK102.out)) : gb123 ≠ gb102)); have n21_ := amk ((by rw [hg]; exact Nat.ne_of_lt (blk_lt (g := gb103) (o := .cells #[.int .u32 a2_0, .int .u32 a2_1, .int .u64 a2_2, .int .u64 a2_3, .int .u64 a2_4, .int .u64 a2_5, .int .u64 a2_6, .int .u64 a2_7, .int .u64 a2_8] 49 (0, 0)) (by (with_reducible repeat (first | refine blk_drewN ?_ _ | refine blk_drew ?_ | refine blk_alloc ?_ _)); exact BK103.out)) : gb103 ≠ gb123)); have n22_ := amk ((by rw [hg]; exact Nat.ne_of_gt (blk_lt (g := gb103) (o := .cells #[.int .u32 a2_0, .int .u32 a2_1, .int .u64 a2_2, .int .u64 a2_3, .int .u64 a2_4, .int .u64 a2_5, .int .u64 a2_6, .int .u64 a2_7, .int .u64 a2_8] 49 (0, 0)) (by (with_reducible repeat (first | refine blk_drewN ?_ _ | refine blk_drew ?_ | refine blk_alloc ?_ _)); exact BK103.out)) : gb123 ≠ gb103)); have n23_ := amk ((by rw [hg]; exact Nat.ne_of_lt (blk_lt (g := gb108) (o := .cells #[.int .u32 a0_0, .int .u32 a0_1, .slice Ao59 y118.length co59] 56 (0, 0)) (by (with_reducible repeat (first | refine blk_drewN ?_ _ | refine blk_drew ?_ | refine blk_alloc ?_ _)); exact BK108.out)) : gb108 ≠ gb123)); have n24_ := amk ((by rw [hg]; exact Nat.ne_of_gt (blk_lt (g := gb108) (o := .cells #[.int .u32 a0_0, .int .u32 a0_1, .slice Ao59 y118.length co59] 56 (0, 0)) (by (with_reducible repeat (first | refine blk_drewN ?_ _ | refine blk_drew ?_ | refine blk_alloc ?_ _)); exact BK108.out)) : gb123 ≠ gb108)); clear HO_60; clear HO_102002; clear HO_103000; clear HO_103002; clear HO_109002; clear HL122_0; clear HL122_2; clear BK101; clear BK102; clear BK103; clear BK108; clear HR122_0; clear HR122_2; clear HB; have HO_60 := n0_; have HO_102002 := n1_; have HO_103000 := n2_; have HO_103002 := n3_; have HO_109002 := n4_; have HL122_0 := n5_; have HL122_2 := n6_; have BK101 := n7_; have BK102 := n8_; have BK103 := n9_; have BK108 := n10_; have HR122_0 := n11_; have HR122_2 := n12_; have HB := n13_; have BK123 := n14_; have GW123 := n15_; have GE123 := n16_; have NB101_123 := n17_; have NB123_101 := n18_; have NB102_123 := n19_; have NB123_102 := n20_; have NB103_123 := n21_; have NB123_103 := n22_; have NB108_123 := n23_; have NB123_108 := n24_; clear n0_ n1_ n2_ n3_ n4_ n5_ n6_ n7_ n8_ n9_ n10_ n11_ n12_ n13_ n14_ n15_ n16_ n17_ n18_ n19_ n20_ n21_ n22_ n23_ n24_; clear hb hbox hg; have hnb99 := NB123_101.out; have hnc99 := NB101_123.out; have hnb100 := NB123_102.out; have hnc100 := NB102_123.out; have hnb101 := NB123_103.out; have hnc101 := NB103_123.out; have hnb102 := NB123_108.out; have hnc102 := NB108_123.out; have hcz103_0 : w98.cell? ⟨gb123, 0, none⟩ = some (.slice none 0 0) := (blk_cell BK123.out 0).trans rfl; have hcz103_1 : w98.cell? ⟨gb123, 1, none⟩ = some (.int .i64 0) := (blk_cell BK123.out 1).trans rfl; have hcz103_2 : w98.cell? ⟨gb123, 2, none⟩ = some (.slice none 0 0) := (blk_cell BK123.out 2).trans rfl; have hcz103_3 : w98.cell? ⟨gb123, 3, none⟩ = some (.int .i64 0) := (blk_cell BK123.out 3).trans rfl; have hcz103_4 : w98.cell? ⟨gb123, 4, none⟩ = some (.int .u64 0) := (blk_cell BK123.out 4).trans rfl; have hcz103_5 : w98.cell? ⟨gb123, 5, none⟩ = some (.string (⟨#[]⟩ : ByteArray)) := (blk_cell BK123.out 5).trans rfl; have hcz103_6 : w98.cell? ⟨gb123, 6, none⟩ = some (.int .u64 0) := (blk_cell BK123.out 6).trans rfl; have hcz103_7 : w98.cell? ⟨gb123, 7, none⟩ = some (.int .u32 0) := (blk_cell BK123.out 7).trans rfl; have hfz103_0 := blk_frozen BK123.out 0; have hfz103_1 := blk_frozen BK123.out 1; have hfz103_2 := blk_frozen BK123.out 2; have hfz103_3 := blk_frozen BK123.out 3; have hfz103_4 := blk_frozen BK123.out 4; have hfz103_5 := blk_frozen BK123.out 5; have hfz103_6 := blk_frozen BK123.out 6; have hfz103_7 := blk_frozen BK123.out 7))
                            go_roundg k3
                            case measure => have := HJ3.out; have := HJ35.out; have := HK3.out; omega
                            case rel => exact ⟨((((rd_T58 l0_2 x62_3).f2) == t107)), (wrap64 (x62_3 + 1)), (by first | rfl | (simp; done) | (simp [*]; done)), (by first | rfl | (simp; done) | (simp [*]; done)), H', ⟨by have := HJ3.out; have := HJ35.out; have := HK3.out; omega⟩, ⟨by (with_reducible repeat (first | apply Kd.V_alloc | apply Kd.V_drewN | apply Kd.V_drew)); exact Kd.V_mono (Kd.V_far (p := ⟨gb123, 7, none⟩) (Kd.V_far (p := ⟨gb123, 6, none⟩) (Kd.V_far (p := ⟨gb123, 5, none⟩) (Kd.V_far (p := ⟨gb123, 4, none⟩) (Kd.V_far (p := ⟨gb123, 3, none⟩) (Kd.V_far (p := ⟨gb123, 2, none⟩) (Kd.V_far (p := ⟨gb123, 1, none⟩) (Kd.V_far (p := ⟨gb123, 0, none⟩) (Kd.V_mono HO_60.out (fun k_ hk => (⟨hk, hk.2⟩ : _ ∧ k_ ≠ gb123))) (fun _ hk => hk.2) (.slice A122_0 ((rd_T58 l0_2 x62_3).f0).length c122_0)) (fun _ hk => hk.2) (.int .i64 ((rd_T58 l0_2 x62_3).f1.f0))) (fun _ hk => hk.2) (.slice A122_2 ((rd_T58 l0_2 x62_3).f1.f1).length c122_2)) (fun _ hk => hk.2) (.int .i64 ((rd_T58 l0_2 x62_3).f1.f2))) (fun _ hk => hk.2) (.int .u64 ((rd_T58 l0_2 x62_3).f1.f3))) (fun _ hk => hk.2) (.string ((rd_T58 l0_2 x62_3).f1.f4))) (fun _ hk => hk.2) (.int .u64 ((rd_T58 l0_2 x62_3).f1.f5))) (fun _ hk => hk.2) (.int .u32 ((rd_T58 l0_2 x62_3).f2))) (fun _ hk => ⟨hk.1.1.1, ⟨hk.1.1.2.1, ⟨hk.1.1.2.2.1, ⟨hk.1.1.2.2.2.1, ⟨hk.1.1.2.2.2.2.1, hk.1.1.2.2.2.2.2⟩⟩⟩⟩⟩)⟩, ⟨by (with_reducible repeat (first | apply Kd.V_alloc | apply Kd.V_drewN | apply Kd.V_drew)); exact Kd.V_mono (Kd.V_far (p := ⟨gb123, 7, none⟩) (Kd.V_far (p := ⟨gb123, 6, none⟩) (Kd.V_far (p := ⟨gb123, 5, none⟩) (Kd.V_far (p := ⟨gb123, 4, none⟩) (Kd.V_far (p := ⟨gb123, 3, none⟩) (Kd.V_far (p := ⟨gb123, 2, none⟩) (Kd.V_far (p := ⟨gb123, 1, none⟩) (Kd.V_far (p := ⟨gb123, 0, none⟩) (Kd.V_mono HO_102002.out (fun k_ hk => (⟨hk, hk.2⟩ : _ ∧ k_ ≠ gb123))) (fun _ hk => hk.2) (.slice A122_0 ((rd_T58 l0_2 x62_3).f0).length c122_0)) (fun _ hk => hk.2) (.int .i64 ((rd_T58 l0_2 x62_3).f1.f0))) (fun _ hk => hk.2) (.slice A122_2 ((rd_T58 l0_2 x62_3).f1.f1).length c122_2)) (fun _ hk => hk.2) (.int .i64 ((rd_T58 l0_2 x62_3).f1.f2))) (fun _ hk => hk.2) (.int .u64 ((rd_T58 l0_2 x62_3).f1.f3))) (fun _ hk => hk.2) (.string ((rd_T58 l0_2 x62_3).f1.f4))) (fun _ hk => hk.2) (.int .u64 ((rd_T58 l0_2 x62_3).f1.f5))) (fun _ hk => hk.2) (.int .u32 ((rd_T58 l0_2 x62_3).f2))) (fun _ hk => ⟨hk.1.1.1, ⟨hk.1.1.2.1, ⟨hk.1.1.2.2.1, ⟨hk.1.1.2.2.2.1, ⟨hk.1.1.2.2.2.2.1, hk.1.1.2.2.2.2.2⟩⟩⟩⟩⟩)⟩, ⟨by (with_reducible repeat (first | apply Kd.V_alloc | apply Kd.V_drewN | apply Kd.V_drew)); exact Kd.V_mono (Kd.V_far (p := ⟨gb123, 7, none⟩) (Kd.V_far (p := ⟨gb123, 6, none⟩) (Kd.V_far (p := ⟨gb123, 5, none⟩) (Kd.V_far (p := ⟨gb123, 4, none⟩) (Kd.V_far (p := ⟨gb123, 3, none⟩) (Kd.V_far (p := ⟨gb123, 2, none⟩) (Kd.V_far (p := ⟨gb123, 1, none⟩) (Kd.V_far (p := ⟨gb123, 0, none⟩) (Kd.V_mono HO_103000.out (fun k_ hk => (⟨hk, hk.2⟩ : _ ∧ k_ ≠ gb123))) (fun _ hk => hk.2) (.slice A122_0 ((rd_T58 l0_2 x62_3).f0).length c122_0)) (fun _ hk => hk.2) (.int .i64 ((rd_T58 l0_2 x62_3).f1.f0))) (fun _ hk => hk.2) (.slice A122_2 ((rd_T58 l0_2 x62_3).f1.f1).length c122_2)) (fun _ hk => hk.2) (.int .i64 ((rd_T58 l0_2 x62_3).f1.f2))) (fun _ hk => hk.2) (.int .u64 ((rd_T58 l0_2 x62_3).f1.f3))) (fun _ hk => hk.2) (.string ((rd_T58 l0_2 x62_3).f1.f4))) (fun _ hk => hk.2) (.int .u64 ((rd_T58 l0_2 x62_3).f1.f5))) (fun _ hk => hk.2) (.int .u32 ((rd_T58 l0_2 x62_3).f2))) (fun _ hk => ⟨hk.1.1.1, ⟨hk.1.1.2.1, ⟨hk.1.1.2.2.1, ⟨hk.1.1.2.2.2.1, ⟨hk.1.1.2.2.2.2.1, hk.1.1.2.2.2.2.2⟩⟩⟩⟩⟩)⟩, ⟨by (with_reducible repeat (first | apply Kd.V_alloc | apply Kd.V_drewN | apply Kd.V_drew)); exact Kd.V_mono (Kd.V_far (p := ⟨gb123, 7, none⟩) (Kd.V_far (p := ⟨gb123, 6, none⟩) (Kd.V_far (p := ⟨gb123, 5, none⟩) (Kd.V_far (p := ⟨gb123, 4, none⟩) (Kd.V_far (p := ⟨gb123, 3, none⟩) (Kd.V_far (p := ⟨gb123, 2, none⟩) (Kd.V_far (p := ⟨gb123, 1, none⟩) (Kd.V_far (p := ⟨gb123, 0, none⟩) (Kd.V_mono HO_103002.out (fun k_ hk => (⟨hk, hk.2⟩ : _ ∧ k_ ≠ gb123))) (fun _ hk => hk.2) (.slice A122_0 ((rd_T58 l0_2 x62_3).f0).length c122_0)) (fun _ hk => hk.2) (.int .i64 ((rd_T58 l0_2 x62_3).f1.f0))) (fun _ hk => hk.2) (.slice A122_2 ((rd_T58 l0_2 x62_3).f1.f1).length c122_2)) (fun _ hk => hk.2) (.int .i64 ((rd_T58 l0_2 x62_3).f1.f2))) (fun _ hk => hk.2) (.int .u64 ((rd_T58 l0_2 x62_3).f1.f3))) (fun _ hk => hk.2) (.string ((rd_T58 l0_2 x62_3).f1.f4))) (fun _ hk => hk.2) (.int .u64 ((rd_T58 l0_2 x62_3).f1.f5))) (fun _ hk => hk.2) (.int .u32 ((rd_T58 l0_2 x62_3).f2))) (fun _ hk => ⟨hk.1.1.1, ⟨hk.1.1.2.1, ⟨hk.1.1.2.2.1, ⟨hk.1.1.2.2.2.1, ⟨hk.1.1.2.2.2.2.1, hk.1.1.2.2.2.2.2⟩⟩⟩⟩⟩)⟩, ⟨by (with_reducible repeat (first | apply Kd.N_alloc | apply Kd.N_drewN | apply Kd.N_drew)); exact Kd.N_mono (Kd.N_far (p := ⟨gb123, 7, none⟩) (Kd.N_far (p := ⟨gb123, 6, none⟩) (Kd.N_far (p := ⟨gb123, 5, none⟩) (Kd.N_far (p := ⟨gb123, 4, none⟩) (Kd.N_far (p := ⟨gb123, 3, none⟩) (Kd.N_far (p := ⟨gb123, 2, none⟩) (Kd.N_far (p := ⟨gb123, 1, none⟩) (Kd.N_far (p := ⟨gb123, 0, none⟩) (Kd.N_mono HO_109002.out (fun k_ hk => (⟨hk, hk.2⟩ : _ ∧ k_ ≠ gb123))) (fun _ hk => hk.2) (.slice A122_0 ((rd_T58 l0_2 x62_3).f0).length c122_0)) (fun _ hk => hk.2) (.int .i64 ((rd_T58 l0_2 x62_3).f1.f0))) (fun _ hk => hk.2) (.slice A122_2 ((rd_T58 l0_2 x62_3).f1.f1).length c122_2)) (fun _ hk => hk.2) (.int .i64 ((rd_T58 l0_2 x62_3).f1.f2))) (fun _ hk => hk.2) (.int .u64 ((rd_T58 l0_2 x62_3).f1.f3))) (fun _ hk => hk.2) (.string ((rd_T58 l0_2 x62_3).f1.f4))) (fun _ hk => hk.2) (.int .u64 ((rd_T58 l0_2 x62_3).f1.f5))) (fun _ hk => hk.2) (.int .u32 ((rd_T58 l0_2 x62_3).f2))) (fun _ hk => ⟨hk.1.1.1, ⟨hk.1.1.2.1, ⟨hk.1.1.2.2.1, ⟨hk.1.1.2.2.2.1, hk.1.1.2.2.2.2⟩⟩⟩⟩)⟩, ⟨by (with_reducible repeat (first | refine blk_drewN ?_ _ | refine blk_drew ?_ | refine blk_alloc ?_ _)); refine blk_far ?_ NB101_123.out _; (with_reducible repeat (first | refine blk_drewN ?_ _ | refine blk_drew ?_ | refine blk_alloc ?_ _)); refine blk_far ?_ NB101_123.out _; (with_reducible repeat (first | refine blk_drewN ?_ _ | refine blk_drew ?_ | refine blk_alloc ?_ _)); refine blk_far ?_ NB101_123.out _; (with_reducible repeat (first | refine blk_drewN ?_ _ | refine blk_drew ?_ | refine blk_alloc ?_ _)); refine blk_far ?_ NB101_123.out _; (with_reducible repeat (first | refine blk_drewN ?_ _ | refine blk_drew ?_ | refine blk_alloc ?_ _)); refine blk_far ?_ NB101_123.out _; (with_reducible repeat (first | refine blk_drewN ?_ _ | refine blk_drew ?_ | refine blk_alloc ?_ _)); refine blk_far ?_ NB101_123.out _; (with_reducible repeat (first | refine blk_drewN ?_ _ | refine blk_drew ?_ | refine blk_alloc ?_ _)); refine blk_far ?_ NB101_123.out _; (with_reducible repeat (first | refine blk_drewN ?_ _ | refine blk_drew ?_ | refine blk_alloc ?_ _)); refine blk_far ?_ NB101_123.out _; (with_reducible repeat (first | refine blk_drewN ?_ _ | refine blk_drew ?_ | refine blk_alloc ?_ _)); exact BK101.out⟩, ⟨by (with_reducible repeat (first | refine blk_drewN ?_ _ | refine blk_drew ?_ | refine blk_alloc ?_ _)); refine blk_far ?_ NB102_123.out _; (with_reducible repeat (first | refine blk_drewN ?_ _ | refine blk_drew ?_ | refine blk_alloc ?_ _)); refine blk_far ?_ NB102_123.out _; (with_reducible repeat (first | refine blk_drewN ?_ _ | refine blk_drew ?_ | refine blk_alloc ?_ _)); refine blk_far ?_ NB102_123.out _; (with_reducible repeat (first | refine blk_drewN ?_ _ | refine blk_drew ?_ | refine blk_alloc ?_ _)); refine blk_far ?_ NB102_123.out _; (with_reducible repeat (first | refine blk_drewN ?_ _ | refine blk_drew ?_ | refine blk_alloc ?_ _)); refine blk_far ?_ NB102_123.out _; (with_reducible repeat (first | refine blk_drewN ?_ _ | refine blk_drew ?_ | refine blk_alloc ?_ _)); refine blk_far ?_ NB102_123.out _; (with_reducible repeat (first | refine blk_drewN ?_ _ | refine blk_drew ?_ | refine blk_alloc ?_ _)); refine blk_far ?_ NB102_123.out _; (with_reducible repeat (first | refine blk_drewN ?_ _ | refine blk_drew ?_ | refine blk_alloc ?_ _)); refine blk_far ?_ NB102_123.out _; (with_reducible repeat (first | refine blk_drewN ?_ _ | refine blk_drew ?_ | refine blk_alloc ?_ _)); exact BK102.out⟩, ⟨by (with_reducible repeat (first | refine blk_drewN ?_ _ | refine blk_drew ?_ | refine blk_alloc ?_ _)); refine blk_far ?_ NB103_123.out _; (with_reducible repeat (first | refine blk_drewN ?_ _ | refine blk_drew ?_ | refine blk_alloc ?_ _)); refine blk_far ?_ NB103_123.out _; (with_reducible repeat (first | refine blk_drewN ?_ _ | refine blk_drew ?_ | refine blk_alloc ?_ _)); refine blk_far ?_ NB103_123.out _; (with_reducible repeat (first | refine blk_drewN ?_ _ | refine blk_drew ?_ | refine blk_alloc ?_ _)); refine blk_far ?_ NB103_123.out _; (with_reducible repeat (first | refine blk_drewN ?_ _ | refine blk_drew ?_ | refine blk_alloc ?_ _)); refine blk_far ?_ NB103_123.out _; (with_reducible repeat (first | refine blk_drewN ?_ _ | refine blk_drew ?_ | refine blk_alloc ?_ _)); refine blk_far ?_ NB103_123.out _; (with_reducible repeat (first | refine blk_drewN ?_ _ | refine blk_drew ?_ | refine blk_alloc ?_ _)); refine blk_far ?_ NB103_123.out _; (with_reducible repeat (first | refine blk_drewN ?_ _ | refine blk_drew ?_ | refine blk_alloc ?_ _)); refine blk_far ?_ NB103_123.out _; (with_reducible repeat (first | refine blk_drewN ?_ _ | refine blk_drew ?_ | refine blk_alloc ?_ _)); exact BK103.out⟩, ⟨by (with_reducible repeat (first | refine blk_drewN ?_ _ | refine blk_drew ?_ | refine blk_alloc ?_ _)); refine blk_far ?_ NB108_123.out _; (with_reducible repeat (first | refine blk_drewN ?_ _ | refine blk_drew ?_ | refine blk_alloc ?_ _)); refine blk_far ?_ NB108_123.out _; (with_reducible repeat (first | refine blk_drewN ?_ _ | refine blk_drew ?_ | refine blk_alloc ?_ _)); refine blk_far ?_ NB108_123.out _; (with_reducible repeat (first | refine blk_drewN ?_ _ | refine blk_drew ?_ | refine blk_alloc ?_ _)); refine blk_far ?_ NB108_123.out _; (with_reducible repeat (first | refine blk_drewN ?_ _ | refine blk_drew ?_ | refine blk_alloc ?_ _)); refine blk_far ?_ NB108_123.out _; (with_reducible repeat (first | refine blk_drewN ?_ _ | refine blk_drew ?_ | refine blk_alloc ?_ _)); refine blk_far ?_ NB108_123.out _; (with_reducible repeat (first | refine blk_drewN ?_ _ | refine blk_drew ?_ | refine blk_alloc ?_ _)); refine blk_far ?_ NB108_123.out _; (with_reducible repeat (first | refine blk_drewN ?_ _ | refine blk_drew ?_ | refine blk_alloc ?_ _)); refine blk_far ?_ NB108_123.out _; (with_reducible repeat (first | refine blk_drewN ?_ _ | refine blk_drew ?_ | refine blk_alloc ?_ _)); exact BK108.out⟩, ⟨by repeat (first | (with_reducible first | exact HB.out | apply bal | apply pbd | apply below_drew1 | refine below_set ?_ GE101.out | refine below_set ?_ GE102.out | refine below_set ?_ GE103.out | refine below_set ?_ GE108.out | refine below_set ?_ GE123.out) | exact HB.out)⟩⟩
                        · rw [if_neg c90] at H
                          exact absurd H (by simp)
                      · rw [if_neg c89] at H
                        exact absurd H (by simp)
                    · rw [if_neg c88] at H
                      have c88b0 : decide (x62_3 < (l0_2.length : Int)) = false := decide_eq_false c88
                      clear c88
                      replace H := Option.bind_eq_some_iff.mp H
                      obtain ⟨t124, A1040, H⟩ := H
                      replace H : (if t124 = true then (if x10_3 = true then (if t107 = t121 then (some true) else (if t107 = a0_1 then (some (t121 == a1_7)) else (some false))) else (some false)) else (some false)) = some r := H
                      have A104 := amk A1040
                      clear A1040
                      by_cases c105 : t124 = true
                      · subst c105
                        have H1 : (if x10_3 = true then (if t107 = t121 then (some true) else (if t107 = a0_1 then (some (t121 == a1_7)) else (some false))) else (some false)) = some r := by rw [if_pos rfl] at H; exact H
                        clear H
                        have H := H1
                        clear H1
                        by_cases c106 : x10_3 = true
                        · subst c106
                          have H1 : (if t107 = t121 then (some true) else (if t107 = a0_1 then (some (t121 == a1_7)) else (some false))) = some r := by rw [if_pos rfl] at H; exact H
                          clear H
                          have H := H1
                          clear H1
                          by_cases c107 : t107 = t121
                          · rw [if_pos c107] at H
                            have c107b0 : (t107 == t121) = true := beq_iff_eq.mpr c107
                            have c107b1 : (t107 != t121) = false := bne_eq_false_iff_eq.mpr c107
                            clear c107
                            obtain rfl := Option.some.inj H
                            go_wp2_with (first | ((with_reducible refine gate_callee (f := 44) rfl ?_); refine goesL_ (some 74) rfl rfl Try.func44 (by kernel_rfl) rfl #[] rfl (by (try simp only [List.map_toArray, List.map_cons, List.map_nil]); first | done | rfl | (simp only [List.length_drop, List.length_take]; rfl)) ?_; (with_reducible refine (doorwardlaw18_alive.calls k3  true _ A104.out).mono ?_); rintro e w108 ⟨rfl, hb⟩; refine ⟨_, rfl, ?_⟩; have n0_ := amk (Kd.V_below (by (with_reducible repeat (first | apply Kd.V_alloc | apply Kd.V_drewN | apply Kd.V_drew)); exact HO_60.out) hb); have n1_ := amk (Kd.V_below (by (with_reducible repeat (first | apply Kd.V_alloc | apply Kd.V_drewN | apply Kd.V_drew)); exact HO_102002.out) hb); have n2_ := amk (Kd.V_below (by (with_reducible repeat (first | apply Kd.V_alloc | apply Kd.V_drewN | apply Kd.V_drew)); exact HO_103000.out) hb); have n3_ := amk (Kd.V_below (by (with_reducible repeat (first | apply Kd.V_alloc | apply Kd.V_drewN | apply Kd.V_drew)); exact HO_103002.out) hb); have n4_ := amk (Kd.N_below (by (with_reducible repeat (first | apply Kd.N_alloc | apply Kd.N_drewN | apply Kd.N_drew)); exact HO_109002.out) hb); have n5_ := amk (blk_below (g := gb101) (o := .cells #[.int .u32 a0_0, .int .u32 a0_1, .slice A0_2 l0_2.length c0_2] 56 (0, 0)) (by (with_reducible repeat (first | refine blk_drewN ?_ _ | refine blk_drew ?_ | refine blk_alloc ?_ _)); exact BK101.out) hb); have n6_ := amk (blk_below (g := gb102) (o := .cells #[.slice A1_0 l1_0.length c1_0, .int .i64 a1_1, .slice A1_2 l1_2.length c1_2, .int .i64 a1_3, .int .u64 a1_4, .string a1_5, .int .u64 a1_6, .int .u32 a1_7] 58 (0, 0)) (by (with_reducible repeat (first | refine blk_drewN ?_ _ | refine blk_drew ?_ | refine blk_alloc ?_ _)); exact BK102.out) hb); have n7_ := amk (blk_below (g := gb103) (o := .cells #[.int .u32 a2_0, .int .u32 a2_1, .int .u64 a2_2, .int .u64 a2_3, .int .u64 a2_4, .int .u64 a2_5, .int .u64 a2_6, .int .u64 a2_7, .int .u64 a2_8] 49 (0, 0)) (by (with_reducible repeat (first | refine blk_drewN ?_ _ | refine blk_drew ?_ | refine blk_alloc ?_ _)); exact BK103.out) hb); have n8_ := amk (blk_below (g := gb108) (o := .cells #[.int .u32 a0_0, .int .u32 a0_1, .slice Ao59 y118.length co59] 56 (0, 0)) (by (with_reducible repeat (first | refine blk_drewN ?_ _ | refine blk_drew ?_ | refine blk_alloc ?_ _)); exact BK108.out) hb); have n9_ := amk (below_step (by repeat (first | (with_reducible first | exact HB.out | apply bal | apply pbd | apply below_drew1 | refine below_set ?_ GE101.out | refine below_set ?_ GE102.out | refine below_set ?_ GE103.out | refine below_set ?_ GE108.out) | exact HB.out)) hb); clear HO_60; clear HO_102002; clear HO_103000; clear HO_103002; clear HO_109002; clear BK101; clear BK102; clear BK103; clear BK108; clear HB; have HO_60 := n0_; have HO_102002 := n1_; have HO_103000 := n2_; have HO_103002 := n3_; have HO_109002 := n4_; have BK101 := n5_; have BK102 := n6_; have BK103 := n7_; have BK108 := n8_; have HB := n9_; clear n0_ n1_ n2_ n3_ n4_ n5_ n6_ n7_ n8_ n9_; (try clear hb); (try clear hb2); (try clear hk); (try clear hi)))
                            go_ret
                            exact ⟨by first | rfl | (simp [errW_none, errW_some] <;> rfl) | (simp [*, errW_none, errW_some] <;> rfl), by repeat (first | (with_reducible first | exact HB.out | apply bal | apply pbd | apply below_drew1 | refine below_set ?_ GE101.out | refine below_set ?_ GE102.out | refine below_set ?_ GE103.out | refine below_set ?_ GE108.out) | exact HB.out)⟩
                          · rw [if_neg c107] at H
                            have c107b0 : (t107 == t121) = false := beq_eq_false_iff_ne.mpr c107
                            have c107b1 : (t107 != t121) = true := bne_iff_ne.mpr c107
                            by_cases c109 : t107 = a0_1
                            · rw [if_pos c109] at H
                              have c109b0 : (t107 == a0_1) = true := beq_iff_eq.mpr c109
                              have c109b1 : (t107 != a0_1) = false := bne_eq_false_iff_eq.mpr c109
                              clear c109
                              obtain rfl := Option.some.inj H
                              go_wp2_with (first | ((with_reducible refine gate_callee (f := 44) rfl ?_); refine goesL_ (some 74) rfl rfl Try.func44 (by kernel_rfl) rfl #[] rfl (by (try simp only [List.map_toArray, List.map_cons, List.map_nil]); first | done | rfl | (simp only [List.length_drop, List.length_take]; rfl)) ?_; (with_reducible refine (doorwardlaw18_alive.calls k3  true _ A104.out).mono ?_); rintro e w110 ⟨rfl, hb⟩; refine ⟨_, rfl, ?_⟩; have n0_ := amk (Kd.V_below (by (with_reducible repeat (first | apply Kd.V_alloc | apply Kd.V_drewN | apply Kd.V_drew)); exact HO_60.out) hb); have n1_ := amk (Kd.V_below (by (with_reducible repeat (first | apply Kd.V_alloc | apply Kd.V_drewN | apply Kd.V_drew)); exact HO_102002.out) hb); have n2_ := amk (Kd.V_below (by (with_reducible repeat (first | apply Kd.V_alloc | apply Kd.V_drewN | apply Kd.V_drew)); exact HO_103000.out) hb); have n3_ := amk (Kd.V_below (by (with_reducible repeat (first | apply Kd.V_alloc | apply Kd.V_drewN | apply Kd.V_drew)); exact HO_103002.out) hb); have n4_ := amk (Kd.N_below (by (with_reducible repeat (first | apply Kd.N_alloc | apply Kd.N_drewN | apply Kd.N_drew)); exact HO_109002.out) hb); have n5_ := amk (blk_below (g := gb101) (o := .cells #[.int .u32 a0_0, .int .u32 a0_1, .slice A0_2 l0_2.length c0_2] 56 (0, 0)) (by (with_reducible repeat (first | refine blk_drewN ?_ _ | refine blk_drew ?_ | refine blk_alloc ?_ _)); exact BK101.out) hb); have n6_ := amk (blk_below (g := gb102) (o := .cells #[.slice A1_0 l1_0.length c1_0, .int .i64 a1_1, .slice A1_2 l1_2.length c1_2, .int .i64 a1_3, .int .u64 a1_4, .string a1_5, .int .u64 a1_6, .int .u32 a1_7] 58 (0, 0)) (by (with_reducible repeat (first | refine blk_drewN ?_ _ | refine blk_drew ?_ | refine blk_alloc ?_ _)); exact BK102.out) hb); have n7_ := amk (blk_below (g := gb103) (o := .cells #[.int .u32 a2_0, .int .u32 a2_1, .int .u64 a2_2, .int .u64 a2_3, .int .u64 a2_4, .int .u64 a2_5, .int .u64 a2_6, .int .u64 a2_7, .int .u64 a2_8] 49 (0, 0)) (by (with_reducible repeat (first | refine blk_drewN ?_ _ | refine blk_drew ?_ | refine blk_alloc ?_ _)); exact BK103.out) hb); have n8_ := amk (blk_below (g := gb108) (o := .cells #[.int .u32 a0_0, .int .u32 a0_1, .slice Ao59 y118.length co59] 56 (0, 0)) (by (with_reducible repeat (first | refine blk_drewN ?_ _ | refine blk_drew ?_ | refine blk_alloc ?_ _)); exact BK108.out) hb); have n9_ := amk (below_step (by repeat (first | (with_reducible first | exact HB.out | apply bal | apply pbd | apply below_drew1 | refine below_set ?_ GE101.out | refine below_set ?_ GE102.out | refine below_set ?_ GE103.out | refine below_set ?_ GE108.out) | exact HB.out)) hb); clear HO_60; clear HO_102002; clear HO_103000; clear HO_103002; clear HO_109002; clear BK101; clear BK102; clear BK103; clear BK108; clear HB; have HO_60 := n0_; have HO_102002 := n1_; have HO_103000 := n2_; have HO_103002 := n3_; have HO_109002 := n4_; have BK101 := n5_; have BK102 := n6_; have BK103 := n7_; have BK108 := n8_; have HB := n9_; clear n0_ n1_ n2_ n3_ n4_ n5_ n6_ n7_ n8_ n9_; (try clear hb); (try clear hb2); (try clear hk); (try clear hi); have hnb111 := NB101_102.out; have hnc111 := NB102_101.out; have hnb112 := NB101_103.out; have hnc112 := NB103_101.out; have hnb113 := NB101_108.out; have hnc113 := NB108_101.out; have hcz114_0 : w110.cell? ⟨gb101, 0, none⟩ = some (.int .u32 a0_0) := (blk_cell BK101.out 0).trans rfl; have hcz114_1 : w110.cell? ⟨gb101, 1, none⟩ = some (.int .u32 a0_1) := (blk_cell BK101.out 1).trans rfl; have hcz114_2 : w110.cell? ⟨gb101, 2, none⟩ = some (.slice A0_2 l0_2.length c0_2) := (blk_cell BK101.out 2).trans rfl; have hfz114_0 := blk_frozen BK101.out 0; have hfz114_1 := blk_frozen BK101.out 1; have hfz114_2 := blk_frozen BK101.out 2; have hnb115 := NB102_103.out; have hnc115 := NB103_102.out; have hnb116 := NB102_108.out; have hnc116 := NB108_102.out; have hcz117_0 : w110.cell? ⟨gb102, 0, none⟩ = some (.slice A1_0 l1_0.length c1_0) := (blk_cell BK102.out 0).trans rfl; have hcz117_1 : w110.cell? ⟨gb102, 1, none⟩ = some (.int .i64 a1_1) := (blk_cell BK102.out 1).trans rfl; have hcz117_2 : w110.cell? ⟨gb102, 2, none⟩ = some (.slice A1_2 l1_2.length c1_2) := (blk_cell BK102.out 2).trans rfl; have hcz117_3 : w110.cell? ⟨gb102, 3, none⟩ = some (.int .i64 a1_3) := (blk_cell BK102.out 3).trans rfl; have hcz117_4 : w110.cell? ⟨gb102, 4, none⟩ = some (.int .u64 a1_4) := (blk_cell BK102.out 4).trans rfl; have hcz117_5 : w110.cell? ⟨gb102, 5, none⟩ = some (.string a1_5) := (blk_cell BK102.out 5).trans rfl; have hcz117_6 : w110.cell? ⟨gb102, 6, none⟩ = some (.int .u64 a1_6) := (blk_cell BK102.out 6).trans rfl; have hcz117_7 : w110.cell? ⟨gb102, 7, none⟩ = some (.int .u32 a1_7) := (blk_cell BK102.out 7).trans rfl; have hfz117_0 := blk_frozen BK102.out 0; have hfz117_1 := blk_frozen BK102.out 1; have hfz117_2 := blk_frozen BK102.out 2; have hfz117_3 := blk_frozen BK102.out 3; have hfz117_4 := blk_frozen BK102.out 4; have hfz117_5 := blk_frozen BK102.out 5; have hfz117_6 := blk_frozen BK102.out 6; have hfz117_7 := blk_frozen BK102.out 7))
                              go_ret
                              exact ⟨by first | rfl | (simp [errW_none, errW_some] <;> rfl) | (simp [*, errW_none, errW_some] <;> rfl), by repeat (first | (with_reducible first | exact HB.out | apply bal | apply pbd | apply below_drew1 | refine below_set ?_ GE101.out | refine below_set ?_ GE102.out | refine below_set ?_ GE103.out | refine below_set ?_ GE108.out) | exact HB.out)⟩
                            · rw [if_neg c109] at H
                              have c109b0 : (t107 == a0_1) = false := beq_eq_false_iff_ne.mpr c109
                              have c109b1 : (t107 != a0_1) = true := bne_iff_ne.mpr c109
                              obtain rfl := Option.some.inj H
                              go_wp2_with (first | ((with_reducible refine gate_callee (f := 44) rfl ?_); refine goesL_ (some 74) rfl rfl Try.func44 (by kernel_rfl) rfl #[] rfl (by (try simp only [List.map_toArray, List.map_cons, List.map_nil]); first | done | rfl | (simp only [List.length_drop, List.length_take]; rfl)) ?_; (with_reducible refine (doorwardlaw18_alive.calls k3  true _ A104.out).mono ?_); rintro e w118 ⟨rfl, hb⟩; refine ⟨_, rfl, ?_⟩; have n0_ := amk (Kd.V_below (by (with_reducible repeat (first | apply Kd.V_alloc | apply Kd.V_drewN | apply Kd.V_drew)); exact HO_60.out) hb); have n1_ := amk (Kd.V_below (by (with_reducible repeat (first | apply Kd.V_alloc | apply Kd.V_drewN | apply Kd.V_drew)); exact HO_102002.out) hb); have n2_ := amk (Kd.V_below (by (with_reducible repeat (first | apply Kd.V_alloc | apply Kd.V_drewN | apply Kd.V_drew)); exact HO_103000.out) hb); have n3_ := amk (Kd.V_below (by (with_reducible repeat (first | apply Kd.V_alloc | apply Kd.V_drewN | apply Kd.V_drew)); exact HO_103002.out) hb); have n4_ := amk (Kd.N_below (by (with_reducible repeat (first | apply Kd.N_alloc | apply Kd.N_drewN | apply Kd.N_drew)); exact HO_109002.out) hb); have n5_ := amk (blk_below (g := gb101) (o := .cells #[.int .u32 a0_0, .int .u32 a0_1, .slice A0_2 l0_2.length c0_2] 56 (0, 0)) (by (with_reducible repeat (first | refine blk_drewN ?_ _ | refine blk_drew ?_ | refine blk_alloc ?_ _)); exact BK101.out) hb); have n6_ := amk (blk_below (g := gb102) (o := .cells #[.slice A1_0 l1_0.length c1_0, .int .i64 a1_1, .slice A1_2 l1_2.length c1_2, .int .i64 a1_3, .int .u64 a1_4, .string a1_5, .int .u64 a1_6, .int .u32 a1_7] 58 (0, 0)) (by (with_reducible repeat (first | refine blk_drewN ?_ _ | refine blk_drew ?_ | refine blk_alloc ?_ _)); exact BK102.out) hb); have n7_ := amk (blk_below (g := gb103) (o := .cells #[.int .u32 a2_0, .int .u32 a2_1, .int .u64 a2_2, .int .u64 a2_3, .int .u64 a2_4, .int .u64 a2_5, .int .u64 a2_6, .int .u64 a2_7, .int .u64 a2_8] 49 (0, 0)) (by (with_reducible repeat (first | refine blk_drewN ?_ _ | refine blk_drew ?_ | refine blk_alloc ?_ _)); exact BK103.out) hb); have n8_ := amk (blk_below (g := gb108) (o := .cells #[.int .u32 a0_0, .int .u32 a0_1, .slice Ao59 y118.length co59] 56 (0, 0)) (by (with_reducible repeat (first | refine blk_drewN ?_ _ | refine blk_drew ?_ | refine blk_alloc ?_ _)); exact BK108.out) hb); have n9_ := amk (below_step (by repeat (first | (with_reducible first | exact HB.out | apply bal | apply pbd | apply below_drew1 | refine below_set ?_ GE101.out | refine below_set ?_ GE102.out | refine below_set ?_ GE103.out | refine below_set ?_ GE108.out) | exact HB.out)) hb); clear HO_60; clear HO_102002; clear HO_103000; clear HO_103002; clear HO_109002; clear BK101; clear BK102; clear BK103; clear BK108; clear HB; have HO_60 := n0_; have HO_102002 := n1_; have HO_103000 := n2_; have HO_103002 := n3_; have HO_109002 := n4_; have BK101 := n5_; have BK102 := n6_; have BK103 := n7_; have BK108 := n8_; have HB := n9_; clear n0_ n1_ n2_ n3_ n4_ n5_ n6_ n7_ n8_ n9_; (try clear hb); (try clear hb2); (try clear hk); (try clear hi); have hnb119 := NB101_102.out; have hnc119 := NB102_101.out; have hnb120 := NB101_103.out; have hnc120 := NB103_101.out; have hnb121 := NB101_108.out; have hnc121 := NB108_101.out; have hcz122_0 : w118.cell? ⟨gb101, 0, none⟩ = some (.int .u32 a0_0) := (blk_cell BK101.out 0).trans rfl; have hcz122_1 : w118.cell? ⟨gb101, 1, none⟩ = some (.int .u32 a0_1) := (blk_cell BK101.out 1).trans rfl; have hcz122_2 : w118.cell? ⟨gb101, 2, none⟩ = some (.slice A0_2 l0_2.length c0_2) := (blk_cell BK101.out 2).trans rfl; have hfz122_0 := blk_frozen BK101.out 0; have hfz122_1 := blk_frozen BK101.out 1; have hfz122_2 := blk_frozen BK101.out 2))
                              go_ret
                              exact ⟨by first | rfl | (simp [errW_none, errW_some] <;> rfl) | (simp [*, errW_none, errW_some] <;> rfl), by repeat (first | (with_reducible first | exact HB.out | apply bal | apply pbd | apply below_drew1 | refine below_set ?_ GE101.out | refine below_set ?_ GE102.out | refine below_set ?_ GE103.out | refine below_set ?_ GE108.out) | exact HB.out)⟩
                        · replace c106 := Bool.eq_false_iff.mpr c106
                          subst c106
                          have H1 : (some false) = some r := by rw [if_neg (show ¬ (false = true) by decide)] at H; exact H
                          clear H
                          have H := H1
                          clear H1
                          obtain rfl := Option.some.inj H
                          go_wp2_with (first | ((with_reducible refine gate_callee (f := 44) rfl ?_); refine goesL_ (some 74) rfl rfl Try.func44 (by kernel_rfl) rfl #[] rfl (by (try simp only [List.map_toArray, List.map_cons, List.map_nil]); first | done | rfl | (simp only [List.length_drop, List.length_take]; rfl)) ?_; (with_reducible refine (doorwardlaw18_alive.calls k3  true _ A104.out).mono ?_); rintro e w123 ⟨rfl, hb⟩; refine ⟨_, rfl, ?_⟩; have n0_ := amk (Kd.V_below (by (with_reducible repeat (first | apply Kd.V_alloc | apply Kd.V_drewN | apply Kd.V_drew)); exact HO_60.out) hb); have n1_ := amk (Kd.V_below (by (with_reducible repeat (first | apply Kd.V_alloc | apply Kd.V_drewN | apply Kd.V_drew)); exact HO_102002.out) hb); have n2_ := amk (Kd.V_below (by (with_reducible repeat (first | apply Kd.V_alloc | apply Kd.V_drewN | apply Kd.V_drew)); exact HO_103000.out) hb); have n3_ := amk (Kd.V_below (by (with_reducible repeat (first | apply Kd.V_alloc | apply Kd.V_drewN | apply Kd.V_drew)); exact HO_103002.out) hb); have n4_ := amk (Kd.N_below (by (with_reducible repeat (first | apply Kd.N_alloc | apply Kd.N_drewN | apply Kd.N_drew)); exact HO_109002.out) hb); have n5_ := amk (blk_below (g := gb101) (o := .cells #[.int .u32 a0_0, .int .u32 a0_1, .slice A0_2 l0_2.length c0_2] 56 (0, 0)) (by (with_reducible repeat (first | refine blk_drewN ?_ _ | refine blk_drew ?_ | refine blk_alloc ?_ _)); exact BK101.out) hb); have n6_ := amk (blk_below (g := gb102) (o := .cells #[.slice A1_0 l1_0.length c1_0, .int .i64 a1_1, .slice A1_2 l1_2.length c1_2, .int .i64 a1_3, .int .u64 a1_4, .string a1_5, .int .u64 a1_6, .int .u32 a1_7] 58 (0, 0)) (by (with_reducible repeat (first | refine blk_drewN ?_ _ | refine blk_drew ?_ | refine blk_alloc ?_ _)); exact BK102.out) hb); have n7_ := amk (blk_below (g := gb103) (o := .cells #[.int .u32 a2_0, .int .u32 a2_1, .int .u64 a2_2, .int .u64 a2_3, .int .u64 a2_4, .int .u64 a2_5, .int .u64 a2_6, .int .u64 a2_7, .int .u64 a2_8] 49 (0, 0)) (by (with_reducible repeat (first | refine blk_drewN ?_ _ | refine blk_drew ?_ | refine blk_alloc ?_ _)); exact BK103.out) hb); have n8_ := amk (blk_below (g := gb108) (o := .cells #[.int .u32 a0_0, .int .u32 a0_1, .slice Ao59 y118.length co59] 56 (0, 0)) (by (with_reducible repeat (first | refine blk_drewN ?_ _ | refine blk_drew ?_ | refine blk_alloc ?_ _)); exact BK108.out) hb); have n9_ := amk (below_step (by repeat (first | (with_reducible first | exact HB.out | apply bal | apply pbd | apply below_drew1 | refine below_set ?_ GE101.out | refine below_set ?_ GE102.out | refine below_set ?_ GE103.out | refine below_set ?_ GE108.out) | exact HB.out)) hb); clear HO_60; clear HO_102002; clear HO_103000; clear HO_103002; clear HO_109002; clear BK101; clear BK102; clear BK103; clear BK108; clear HB; have HO_60 := n0_; have HO_102002 := n1_; have HO_103000 := n2_; have HO_103002 := n3_; have HO_109002 := n4_; have BK101 := n5_; have BK102 := n6_; have BK103 := n7_; have BK108 := n8_; have HB := n9_; clear n0_ n1_ n2_ n3_ n4_ n5_ n6_ n7_ n8_ n9_; (try clear hb); (try clear hb2); (try clear hk); (try clear hi)))
                          go_ret
                          exact ⟨by first | rfl | (simp [errW_none, errW_some] <;> rfl) | (simp [*, errW_none, errW_some] <;> rfl), by repeat (first | (with_reducible first | exact HB.out | apply bal | apply pbd | apply below_drew1 | refine below_set ?_ GE101.out | refine below_set ?_ GE102.out | refine below_set ?_ GE103.out | refine below_set ?_ GE108.out) | exact HB.out)⟩
                      · replace c105 := Bool.eq_false_iff.mpr c105
                        subst c105
                        have H1 : (some false) = some r := by rw [if_neg (show ¬ (false = true) by decide)] at H; exact H
                        clear H
                        have H := H1
                        clear H1
                        obtain rfl := Option.some.inj H
                        go_wp2_with (first | ((with_reducible refine gate_callee (f := 44) rfl ?_); refine goesL_ (some 74) rfl rfl Try.func44 (by kernel_rfl) rfl #[] rfl (by (try simp only [List.map_toArray, List.map_cons, List.map_nil]); first | done | rfl | (simp only [List.length_drop, List.length_take]; rfl)) ?_; (with_reducible refine (doorwardlaw18_alive.calls k3  false _ A104.out).mono ?_); rintro e w124 ⟨rfl, hb⟩; refine ⟨_, rfl, ?_⟩; have n0_ := amk (Kd.V_below (by (with_reducible repeat (first | apply Kd.V_alloc | apply Kd.V_drewN | apply Kd.V_drew)); exact HO_60.out) hb); have n1_ := amk (Kd.V_below (by (with_reducible repeat (first | apply Kd.V_alloc | apply Kd.V_drewN | apply Kd.V_drew)); exact HO_102002.out) hb); have n2_ := amk (Kd.V_below (by (with_reducible repeat (first | apply Kd.V_alloc | apply Kd.V_drewN | apply Kd.V_drew)); exact HO_103000.out) hb); have n3_ := amk (Kd.V_below (by (with_reducible repeat (first | apply Kd.V_alloc | apply Kd.V_drewN | apply Kd.V_drew)); exact HO_103002.out) hb); have n4_ := amk (Kd.N_below (by (with_reducible repeat (first | apply Kd.N_alloc | apply Kd.N_drewN | apply Kd.N_drew)); exact HO_109002.out) hb); have n5_ := amk (blk_below (g := gb101) (o := .cells #[.int .u32 a0_0, .int .u32 a0_1, .slice A0_2 l0_2.length c0_2] 56 (0, 0)) (by (with_reducible repeat (first | refine blk_drewN ?_ _ | refine blk_drew ?_ | refine blk_alloc ?_ _)); exact BK101.out) hb); have n6_ := amk (blk_below (g := gb102) (o := .cells #[.slice A1_0 l1_0.length c1_0, .int .i64 a1_1, .slice A1_2 l1_2.length c1_2, .int .i64 a1_3, .int .u64 a1_4, .string a1_5, .int .u64 a1_6, .int .u32 a1_7] 58 (0, 0)) (by (with_reducible repeat (first | refine blk_drewN ?_ _ | refine blk_drew ?_ | refine blk_alloc ?_ _)); exact BK102.out) hb); have n7_ := amk (blk_below (g := gb103) (o := .cells #[.int .u32 a2_0, .int .u32 a2_1, .int .u64 a2_2, .int .u64 a2_3, .int .u64 a2_4, .int .u64 a2_5, .int .u64 a2_6, .int .u64 a2_7, .int .u64 a2_8] 49 (0, 0)) (by (with_reducible repeat (first | refine blk_drewN ?_ _ | refine blk_drew ?_ | refine blk_alloc ?_ _)); exact BK103.out) hb); have n8_ := amk (blk_below (g := gb108) (o := .cells #[.int .u32 a0_0, .int .u32 a0_1, .slice Ao59 y118.length co59] 56 (0, 0)) (by (with_reducible repeat (first | refine blk_drewN ?_ _ | refine blk_drew ?_ | refine blk_alloc ?_ _)); exact BK108.out) hb); have n9_ := amk (below_step (by repeat (first | (with_reducible first | exact HB.out | apply bal | apply pbd | apply below_drew1 | refine below_set ?_ GE101.out | refine below_set ?_ GE102.out | refine below_set ?_ GE103.out | refine below_set ?_ GE108.out) | exact HB.out)) hb); clear HO_60; clear HO_102002; clear HO_103000; clear HO_103002; clear HO_109002; clear BK101; clear BK102; clear BK103; clear BK108; clear HB; have HO_60 := n0_; have HO_102002 := n1_; have HO_103000 := n2_; have HO_103002 := n3_; have HO_109002 := n4_; have BK101 := n5_; have BK102 := n6_; have BK103 := n7_; have BK108 := n8_; have HB := n9_; clear n0_ n1_ n2_ n3_ n4_ n5_ n6_ n7_ n8_ n9_; (try clear hb); (try clear hb2); (try clear hk); (try clear hi)))
                        go_ret
                        exact ⟨by first | rfl | (simp [errW_none, errW_some] <;> rfl) | (simp [*, errW_none, errW_some] <;> rfl), by repeat (first | (with_reducible first | exact HB.out | apply bal | apply pbd | apply below_drew1 | refine below_set ?_ GE101.out | refine below_set ?_ GE102.out | refine below_set ?_ GE103.out | refine below_set ?_ GE108.out) | exact HB.out)⟩
          · rw [if_neg c34] at H
            exact absurd H (by simp)
        · rw [if_neg c33] at H
          exact absurd H (by simp)
end Go.Proofs.Ytoeklekjhaigoaa.PMeanRules
end
