-- Written by a program of this session (wip/tools/unit.py) with the kit's print.
import Derived.Test.YtoeklekjhaigoaaW0x0
import Derived.Test.YtoeklekjhaigoaaW0x1
namespace Go.Proofs.Ytoeklekjhaigoaa.W0
open Go.RowKit Go.Proofs.YtoeklekjhaigoaaW.PrintWords Go.Proofs.YtoeklekjhaigoaaW.PrintLast Go.Proofs.YtoeklekjhaigoaaW.PrintMore
attribute [local go_sem] max2_int min2_int max_two min_two max_three min_three max_four min_four IntKind.wrap_u32 IntKind.wrap_u8   -- for this text's walks alone
set_option linter.unusedVariables false
open Go.Proofs.Ytoeklekjhaigoaa.Le Go.Proofs.Ytoeklekjhaigoaa.C1 Go.Proofs.Ytoeklekjhaigoaa.C2 Go.Proofs.Ytoeklekjhaigoaa.HAct
set_option linter.unusedSimpArgs false

/-! ### doorwardref19_Walk: function 37 -/
mutual
def doorwardref19_Walk.l0 : Nat → List (S40) → ByteArray → Int → Int → Option (Int × Int × Bool × Bool)
  | 0, _, _, _, _ => none
  | k + 1, x0, x1, x5, x6 => if x6 < (x0.length : Int) then (if 0 ≤ x6 then (if ((rd_T40 x0 x6).f0) < 1 then (doorwardref19_Walk.j1 k x0 x1 x5 x6 true ((rd_T40 x0 x6).f0) ((rd_T40 x0 x6).f1) ((rd_T40 x0 x6).f2) ((rd_T40 x0 x6).f3)) else (doorwardref19_Walk.j1 k x0 x1 x5 x6 (decide (((rd_T40 x0 x6).f0) > 8)) ((rd_T40 x0 x6).f0) ((rd_T40 x0 x6).f1) ((rd_T40 x0 x6).f2) ((rd_T40 x0 x6).f3))) else (none)) else (some ((-1), 0, false, false))
def doorwardref19_Walk.j1 : Nat → List (S40) → ByteArray → Int → Int → Bool → Int → Int → Int → Int → Option (Int × Int × Bool × Bool)
  | 0, _, _, _, _, _, _, _, _, _ => none
  | k + 1, x0, x1, x5, x6, x31, x108000, x108001, x108002, x108003 => if x31 = true then (some (0, 0, false, true)) else (if x108000 = 8 then (some (0, x108001, true, false)) else (if x108000 = 1 then ((doorwardref11_Word.f k x1 (wrap64 (x108001))).bind fun bt108 => (if bt108.2 = 0 then (doorwardref19_Walk.j2 k x0 x1 bt108.1 x6 x108000 x108001 x108002 x108003) else (some (0, 0, false, true)))) else (doorwardref19_Walk.j2 k x0 x1 x5 x6 x108000 x108001 x108002 x108003)))
def doorwardref19_Walk.j2 : Nat → List (S40) → ByteArray → Int → Int → Int → Int → Int → Int → Option (Int × Int × Bool × Bool)
  | 0, _, _, _, _, _, _, _, _ => none
  | k + 1, x0, x1, x5, x6, x108000, x108001, x108002, x108003 => if x108000 = 2 then (doorwardref19_Walk.j3 k x0 x1 (Go.bits .and .u32 x5 x108001) x6 x108000 x108001 x108002 x108003) else (doorwardref19_Walk.j3 k x0 x1 x5 x6 x108000 x108001 x108002 x108003)
def doorwardref19_Walk.j3 : Nat → List (S40) → ByteArray → Int → Int → Int → Int → Int → Int → Option (Int × Int × Bool × Bool)
  | 0, _, _, _, _, _, _, _, _ => none
  | k + 1, x0, x1, x5, x6, x108000, x108001, x108002, x108003 => if x108000 = 3 then (doorwardref19_Walk.j4 k x0 x1 x5 x6 true x108000 x108001 x108002 x108003) else (if x108000 = 4 then (doorwardref19_Walk.j4 k x0 x1 x5 x6 true x108000 x108001 x108002 x108003) else (if x108000 = 5 then (doorwardref19_Walk.j4 k x0 x1 x5 x6 true x108000 x108001 x108002 x108003) else (doorwardref19_Walk.j4 k x0 x1 x5 x6 (x108000 == 7) x108000 x108001 x108002 x108003)))
def doorwardref19_Walk.j4 : Nat → List (S40) → ByteArray → Int → Int → Bool → Int → Int → Int → Int → Option (Int × Int × Bool × Bool)
  | 0, _, _, _, _, _, _, _, _, _ => none
  | k + 1, x0, x1, x5, x6, x78, x108000, x108001, x108002, x108003 => if x78 = true then ((doorwardref19_holds.f x108000 x108001 x108002 x108003 x5).bind fun t110 => (if t110 = true then ((doorwardref19_on.f k x0 x6 x108002).bind fun t111 => (if t111 < 0 then (some (x108002, 0, false, false)) else (doorwardref19_Walk.l0 k x0 x1 x5 (wrap64 (t111 + 1))))) else ((doorwardref19_on.f k x0 x6 x108003).bind fun t112 => (if t112 < 0 then (some (x108003, 0, false, false)) else (doorwardref19_Walk.l0 k x0 x1 x5 (wrap64 (t112 + 1))))))) else (doorwardref19_Walk.l0 k x0 x1 x5 (wrap64 (x6 + 1)))
end
def doorwardref19_Walk.f (k : Nat) (l0 : List (S40)) (a1 : ByteArray) : Option (Int × Int × Bool × Bool) := if (a1.size : Int) = 64 then (doorwardref19_Walk.l0 k l0 a1 0 0) else (some (0, 0, false, true))
theorem doorwardref19_Walk.mono_l : ∀ k, (∀ y0 y1 y2 y3, LeO (doorwardref19_Walk.l0 k y0 y1 y2 y3) (doorwardref19_Walk.l0 (k + 1) y0 y1 y2 y3)) ∧ (∀ y0 y1 y2 y3 y4 y5 y6 y7 y8, LeO (doorwardref19_Walk.j1 k y0 y1 y2 y3 y4 y5 y6 y7 y8) (doorwardref19_Walk.j1 (k + 1) y0 y1 y2 y3 y4 y5 y6 y7 y8)) ∧ (∀ y0 y1 y2 y3 y4 y5 y6 y7, LeO (doorwardref19_Walk.j2 k y0 y1 y2 y3 y4 y5 y6 y7) (doorwardref19_Walk.j2 (k + 1) y0 y1 y2 y3 y4 y5 y6 y7)) ∧ (∀ y0 y1 y2 y3 y4 y5 y6 y7, LeO (doorwardref19_Walk.j3 k y0 y1 y2 y3 y4 y5 y6 y7) (doorwardref19_Walk.j3 (k + 1) y0 y1 y2 y3 y4 y5 y6 y7)) ∧ (∀ y0 y1 y2 y3 y4 y5 y6 y7 y8, LeO (doorwardref19_Walk.j4 k y0 y1 y2 y3 y4 y5 y6 y7 y8) (doorwardref19_Walk.j4 (k + 1) y0 y1 y2 y3 y4 y5 y6 y7 y8))
  | 0 => ⟨fun _ _ _ _ r h => by simp [doorwardref19_Walk.l0] at h, fun _ _ _ _ _ _ _ _ _ r h => by simp [doorwardref19_Walk.j1] at h, fun _ _ _ _ _ _ _ _ r h => by simp [doorwardref19_Walk.j2] at h, fun _ _ _ _ _ _ _ _ r h => by simp [doorwardref19_Walk.j3] at h, fun _ _ _ _ _ _ _ _ _ r h => by simp [doorwardref19_Walk.j4] at h⟩
  | k + 1 => by
    obtain ⟨ih0, ih1, ih2, ih3, ih4⟩ := doorwardref19_Walk.mono_l k
    refine ⟨?_, ?_, ?_, ?_, ?_⟩
    · intro y0 y1 y2 y3
      unfold doorwardref19_Walk.l0
      repeat' first
      | (with_reducible exact ih0 _ _ _ _)
      | (with_reducible exact ih1 _ _ _ _ _ _ _ _ _)
      | (with_reducible exact ih2 _ _ _ _ _ _ _ _)
      | (with_reducible exact ih3 _ _ _ _ _ _ _ _)
      | (with_reducible exact ih4 _ _ _ _ _ _ _ _ _)
      | (with_reducible exact doorwardref11_Word.mono _ _ _)
      | (with_reducible exact doorwardref19_on.mono _ _ _ _)
      | (with_reducible exact LeO.refl _)
      | (with_reducible exact LeO.none _)
      | (with_reducible refine LeO.ite ?_ ?_)
      | (with_reducible refine LeO.bind ?_ (fun _ => ?_))
      | exact ih0 _ _ _ _
      | exact ih1 _ _ _ _ _ _ _ _ _
      | exact ih2 _ _ _ _ _ _ _ _
      | exact ih3 _ _ _ _ _ _ _ _
      | exact ih4 _ _ _ _ _ _ _ _ _
      | exact doorwardref11_Word.mono _ _ _
      | exact doorwardref19_on.mono _ _ _ _
      | exact LeO.none _
      | refine LeO.ite ?_ ?_
      | refine LeO.bind ?_ (fun _ => ?_)
    · intro y0 y1 y2 y3 y4 y5 y6 y7 y8
      unfold doorwardref19_Walk.j1
      repeat' first
      | (with_reducible exact ih0 _ _ _ _)
      | (with_reducible exact ih1 _ _ _ _ _ _ _ _ _)
      | (with_reducible exact ih2 _ _ _ _ _ _ _ _)
      | (with_reducible exact ih3 _ _ _ _ _ _ _ _)
      | (with_reducible exact ih4 _ _ _ _ _ _ _ _ _)
      | (with_reducible exact doorwardref11_Word.mono _ _ _)
      | (with_reducible exact doorwardref19_on.mono _ _ _ _)
      | (with_reducible exact LeO.refl _)
      | (with_reducible exact LeO.none _)
      | (with_reducible refine LeO.ite ?_ ?_)
      | (with_reducible refine LeO.bind ?_ (fun _ => ?_))
      | exact ih0 _ _ _ _
      | exact ih1 _ _ _ _ _ _ _ _ _
      | exact ih2 _ _ _ _ _ _ _ _
      | exact ih3 _ _ _ _ _ _ _ _
      | exact ih4 _ _ _ _ _ _ _ _ _
      | exact doorwardref11_Word.mono _ _ _
      | exact doorwardref19_on.mono _ _ _ _
      | exact LeO.none _
      | refine LeO.ite ?_ ?_
      | refine LeO.bind ?_ (fun _ => ?_)
    · intro y0 y1 y2 y3 y4 y5 y6 y7
      unfold doorwardref19_Walk.j2
      repeat' first
      | (with_reducible exact ih0 _ _ _ _)
      | (with_reducible exact ih1 _ _ _ _ _ _ _ _ _)
      | (with_reducible exact ih2 _ _ _ _ _ _ _ _)
      | (with_reducible exact ih3 _ _ _ _ _ _ _ _)
      | (with_reducible exact ih4 _ _ _ _ _ _ _ _ _)
      | (with_reducible exact doorwardref11_Word.mono _ _ _)
      | (with_reducible exact doorwardref19_on.mono _ _ _ _)
      | (with_reducible exact LeO.refl _)
      | (with_reducible exact LeO.none _)
      | (with_reducible refine LeO.ite ?_ ?_)
      | (with_reducible refine LeO.bind ?_ (fun _ => ?_))
      | exact ih0 _ _ _ _
      | exact ih1 _ _ _ _ _ _ _ _ _
      | exact ih2 _ _ _ _ _ _ _ _
      | exact ih3 _ _ _ _ _ _ _ _
      | exact ih4 _ _ _ _ _ _ _ _ _
      | exact doorwardref11_Word.mono _ _ _
      | exact doorwardref19_on.mono _ _ _ _
      | exact LeO.none _
      | refine LeO.ite ?_ ?_
      | refine LeO.bind ?_ (fun _ => ?_)
    · intro y0 y1 y2 y3 y4 y5 y6 y7
      unfold doorwardref19_Walk.j3
      repeat' first
      | (with_reducible exact ih0 _ _ _ _)
      | (with_reducible exact ih1 _ _ _ _ _ _ _ _ _)
      | (with_reducible exact ih2 _ _ _ _ _ _ _ _)
      | (with_reducible exact ih3 _ _ _ _ _ _ _ _)
      | (with_reducible exact ih4 _ _ _ _ _ _ _ _ _)
      | (with_reducible exact doorwardref11_Word.mono _ _ _)
      | (with_reducible exact doorwardref19_on.mono _ _ _ _)
      | (with_reducible exact LeO.refl _)
      | (with_reducible exact LeO.none _)
      | (with_reducible refine LeO.ite ?_ ?_)
      | (with_reducible refine LeO.bind ?_ (fun _ => ?_))
      | exact ih0 _ _ _ _
      | exact ih1 _ _ _ _ _ _ _ _ _
      | exact ih2 _ _ _ _ _ _ _ _
      | exact ih3 _ _ _ _ _ _ _ _
      | exact ih4 _ _ _ _ _ _ _ _ _
      | exact doorwardref11_Word.mono _ _ _
      | exact doorwardref19_on.mono _ _ _ _
      | exact LeO.none _
      | refine LeO.ite ?_ ?_
      | refine LeO.bind ?_ (fun _ => ?_)
    · intro y0 y1 y2 y3 y4 y5 y6 y7 y8
      unfold doorwardref19_Walk.j4
      repeat' first
      | (with_reducible exact ih0 _ _ _ _)
      | (with_reducible exact ih1 _ _ _ _ _ _ _ _ _)
      | (with_reducible exact ih2 _ _ _ _ _ _ _ _)
      | (with_reducible exact ih3 _ _ _ _ _ _ _ _)
      | (with_reducible exact ih4 _ _ _ _ _ _ _ _ _)
      | (with_reducible exact doorwardref11_Word.mono _ _ _)
      | (with_reducible exact doorwardref19_on.mono _ _ _ _)
      | (with_reducible exact LeO.refl _)
      | (with_reducible exact LeO.none _)
      | (with_reducible refine LeO.ite ?_ ?_)
      | (with_reducible refine LeO.bind ?_ (fun _ => ?_))
      | exact ih0 _ _ _ _
      | exact ih1 _ _ _ _ _ _ _ _ _
      | exact ih2 _ _ _ _ _ _ _ _
      | exact ih3 _ _ _ _ _ _ _ _
      | exact ih4 _ _ _ _ _ _ _ _ _
      | exact doorwardref11_Word.mono _ _ _
      | exact doorwardref19_on.mono _ _ _ _
      | exact LeO.none _
      | refine LeO.ite ?_ ?_
      | refine LeO.bind ?_ (fun _ => ?_)
theorem doorwardref19_Walk.mono : ∀ a0 a1 k, LeO (doorwardref19_Walk.f k a0 a1) (doorwardref19_Walk.f (k + 1) a0 a1) := by
  intro a0 a1 k
  obtain ⟨ih0, ih1, ih2, ih3, ih4⟩ := doorwardref19_Walk.mono_l k
  unfold doorwardref19_Walk.f
  repeat' first
      | (with_reducible exact ih0 _ _ _ _)
      | (with_reducible exact ih1 _ _ _ _ _ _ _ _ _)
      | (with_reducible exact ih2 _ _ _ _ _ _ _ _)
      | (with_reducible exact ih3 _ _ _ _ _ _ _ _)
      | (with_reducible exact ih4 _ _ _ _ _ _ _ _ _)
      | (with_reducible exact doorwardref11_Word.mono _ _ _)
      | (with_reducible exact doorwardref19_on.mono _ _ _ _)
      | (with_reducible exact LeO.refl _)
      | (with_reducible exact LeO.none _)
      | (with_reducible refine LeO.ite ?_ ?_)
      | (with_reducible refine LeO.bind ?_ (fun _ => ?_))
      | exact ih0 _ _ _ _
      | exact ih1 _ _ _ _ _ _ _ _ _
      | exact ih2 _ _ _ _ _ _ _ _
      | exact ih3 _ _ _ _ _ _ _ _
      | exact ih4 _ _ _ _ _ _ _ _ _
      | exact doorwardref11_Word.mono _ _ _
      | exact doorwardref19_on.mono _ _ _ _
      | exact LeO.none _
      | refine LeO.ite ?_ ?_
      | refine LeO.bind ?_ (fun _ => ?_)
set_option maxHeartbeats 8000000 in
set_option maxRecDepth 100000 in
theorem doorwardref19_Walk.calls (k : Nat) (A0 : Option Addr) (c0 : Nat) (l0 : List (S40)) (a1 : ByteArray) (r1 : Int) (r2 : Int) (r3 : Bool) (r4 : Bool) (w : World) (hr0 : Kd.C k40 w A0 l0.length l0) (hc0 : l0.length ≤ c0) (h : doorwardref19_Walk.f k l0 a1 = some (r1, r2, r3, r4)) :
    Calls Try.prog 37 #[.slice A0 l0.length c0, .string a1] w fun e w' => e = .returned (.agg #[.int .i64 r1, .int .u32 r2, .bool r3, .bool r4]) ∧ Below w.heap.size w w' := by
  have hu36 := Try.underlying36
  have hu40 := Try.underlying40
  have HR0 := Aside0.mk hr0
  have HC0 := Aside0.mk hc0
  clear hr0 hc0
  have HB := Aside0.mk (Below.refl w.heap.size w)
  have H : (if (a1.size : Int) = 64 then (doorwardref19_Walk.l0 k l0 a1 0 0) else (some (0, 0, false, true))) = some (r1, r2, r3, r4) := h
  clear h
  by_cases c3 : (a1.size : Int) = 64
  · rw [if_pos c3] at H
    have c3b0 : ((a1.size : Int) == 64) = true := beq_iff_eq.mpr c3
    have c3b1 : ((a1.size : Int) != 64) = false := bne_eq_false_iff_eq.mpr c3
    clear c3
    have H' := Aside0.mk H
    clear H
    go_enter Try.func37, Try.ntmps37
    go_wp2_with (first | ((with_reducible refine gate_dst (N := 4) rfl ?_); refine box_event ?hg (N := 4) ?hd (cs := #[.int .i64 0, .int .u32 0, .bool false, .bool false]) (t := 36) ?hr ?_; (case hd => rfl); (case hg => rfl); (case hr => first | (go_simp; done) | (go_simp; rfl)); intro gb105 hg w4 hbox hb; have n0_ := Aside0.mk (below_step (by repeat (first | (with_reducible first | exact HB.out | apply below_alloc | apply pw_below_drewN | apply below_drew1) | exact HB.out)) hb); have n1_ := Aside0.mk (hbox); have n2_ := Aside0.mk ((by rw [hg]; exact (below_size (by repeat (first | (with_reducible first | exact HB.out | apply below_alloc | apply pw_below_drewN | apply below_drew1) | exact HB.out))) : w.heap.size ≤ gb105)); have n3_ := Aside0.mk ((by rw [hg]; exact (below_size (by repeat (first | (with_reducible first | exact HB.out | apply below_alloc | apply pw_below_drewN | apply below_drew1) | exact HB.out))) : w.heap.size ≤ gb105)); clear HB; have HB := n0_; have BK105 := n1_; have GW105 := n2_; have GE105 := n3_; clear n0_ n1_ n2_ n3_; clear hb hbox hg))
    go_loopg [5, 6] k (fun kq v5 v6 w' => ∃ (x5_1 : Int) (x6_1 : Int) (x106000_1 : Int) (x106001_1 : Int) (x106002_1 : Bool) (x106003_1 : Bool), v5 = .int .u32 x5_1 ∧ v6 = .int .i64 x6_1 ∧ Aside0 (doorwardref19_Walk.l0 kq l0 a1 x5_1 x6_1 = some (r1, r2, r3, r4)) ∧ Aside0 (kq ≤ k) ∧ Aside0 (w'.heap[gb105]? = some (.cells #[.int .i64 x106000_1, .int .u32 x106001_1, .bool x106002_1, .bool x106003_1] 36 (0, 0))) ∧ Aside0 (Below w.heap.size w w'))
    case atStart => exact ⟨(0), (0), (0), (0), (false), (false), (by first | rfl | (simp; done) | (simp [*]; done)), (by first | rfl | (simp; done) | (simp [*]; done)), H', ⟨Nat.le_refl _⟩, ⟨by (with_reducible repeat (first | refine blk_drewN ?_ _ | refine blk_drew ?_ | refine blk_alloc ?_ _)); exact BK105.out⟩, ⟨by repeat (first | (with_reducible first | exact HB.out | apply below_alloc | apply pw_below_drewN | apply below_drew1 | refine below_set ?_ GE105.out) | exact HB.out)⟩⟩
    case round =>
      clear H'
      try clear p2
      try clear c3
      try clear c3b0
      try clear c3b1
      obtain ⟨x5_1, x6_1, x106000_1, x106001_1, x106002_1, x106003_1, rfl, rfl, HA, HK1, BK105, HB⟩ := hrel
      cases gk with
      | zero => exact absurd HA.out (by simp [doorwardref19_Walk.l0])
      | succ k1 =>
        have H := HA.out
        clear HA
        simp only [doorwardref19_Walk.l0] at H
        by_cases c5 : x6_1 < (l0.length : Int)
        · rw [if_pos c5] at H
          have c5b0 : decide (x6_1 < (l0.length : Int)) = true := decide_eq_true c5
          clear c5
          by_cases c6 : 0 ≤ x6_1
          · rw [if_pos c6] at H
            have c6b0 : decide (0 ≤ x6_1) = true := decide_eq_true c6
            clear c6
            have HC7 := Aside0.mk H
            clear H
            have p106 : 0 ≤ (x6_1 : Int) := of_decide_eq_true (by first | (with_reducible assumption) | assumption)
            have q106 : x6_1 < (l0.length : Int) := of_decide_eq_true (by first | (with_reducible assumption) | assumption)
            obtain ⟨ad106, e106, hx106_0, hx106_1, hx106_2, hx106_3⟩ := at_T40 HR0.out x6_1 p106 q106
            cases e106
            replace hx106_0 := (HB.out.cell (World.block_lt_of_cell? w _ hx106_0)).trans hx106_0
            replace hx106_1 := (HB.out.cell (World.block_lt_of_cell? w _ hx106_1)).trans hx106_1
            replace hx106_2 := (HB.out.cell (World.block_lt_of_cell? w _ hx106_2)).trans hx106_2
            replace hx106_3 := (HB.out.cell (World.block_lt_of_cell? w _ hx106_3)).trans hx106_3
            replace p106 := eq_true p106
            replace q106 := eq_true q106
            go_upto_region 7 with (first | ((with_reducible refine gate_dst (N := 7) rfl ?_); refine box_event ?hg (N := 7) ?hd (cs := #[.int .i64 0, .int .u32 0, .int .i64 0, .int .i64 0]) (t := 40) ?hr ?_; (case hd => rfl); (case hg => rfl); (case hr => first | (go_simp; done) | (go_simp; rfl)); intro gb107 hg w8 hbox hb; have n0_ := Aside0.mk (blk_below (g := gb105) (o := .cells #[.int .i64 x106000_1, .int .u32 x106001_1, .bool x106002_1, .bool x106003_1] 36 (0, 0)) (by (with_reducible repeat (first | refine blk_drewN ?_ _ | refine blk_drew ?_ | refine blk_alloc ?_ _)); exact BK105.out) hb); have n1_ := Aside0.mk (below_step (by repeat (first | (with_reducible first | exact HB.out | apply below_alloc | apply pw_below_drewN | apply below_drew1 | refine below_set ?_ GE105.out) | exact HB.out)) hb); have n2_ := Aside0.mk (hbox); have n3_ := Aside0.mk ((by rw [hg]; exact (below_size (by repeat (first | (with_reducible first | exact HB.out | apply below_alloc | apply pw_below_drewN | apply below_drew1 | refine below_set ?_ GE105.out) | exact HB.out))) : w.heap.size ≤ gb107)); have n4_ := Aside0.mk ((by rw [hg]; exact (below_size (by repeat (first | (with_reducible first | exact HB.out | apply below_alloc | apply pw_below_drewN | apply below_drew1 | refine below_set ?_ GE105.out) | exact HB.out))) : w.heap.size ≤ gb107)); have n5_ := Aside0.mk ((by rw [hg]; exact Nat.ne_of_lt (blk_lt (g := gb105) (o := .cells #[.int .i64 x106000_1, .int .u32 x106001_1, .bool x106002_1, .bool x106003_1] 36 (0, 0)) (by (with_reducible repeat (first | refine blk_drewN ?_ _ | refine blk_drew ?_ | refine blk_alloc ?_ _)); exact BK105.out)) : gb105 ≠ gb107)); have n6_ := Aside0.mk ((by rw [hg]; exact Nat.ne_of_gt (blk_lt (g := gb105) (o := .cells #[.int .i64 x106000_1, .int .u32 x106001_1, .bool x106002_1, .bool x106003_1] 36 (0, 0)) (by (with_reducible repeat (first | refine blk_drewN ?_ _ | refine blk_drew ?_ | refine blk_alloc ?_ _)); exact BK105.out)) : gb107 ≠ gb105)); clear BK105; clear HB; have BK105 := n0_; have HB := n1_; have BK107 := n2_; have GW107 := n3_; have GE107 := n4_; have NB105_107 := n5_; have NB107_105 := n6_; clear n0_ n1_ n2_ n3_ n4_ n5_ n6_; clear hb hbox hg; have hnb9 := NB107_105.out; have hnc9 := NB105_107.out; have hcz10_0 : w8.cell? ⟨gb107, 0, none⟩ = some (.int .i64 0) := (blk_cell BK107.out 0).trans rfl; have hcz10_1 : w8.cell? ⟨gb107, 1, none⟩ = some (.int .u32 0) := (blk_cell BK107.out 1).trans rfl; have hcz10_2 : w8.cell? ⟨gb107, 2, none⟩ = some (.int .i64 0) := (blk_cell BK107.out 2).trans rfl; have hcz10_3 : w8.cell? ⟨gb107, 3, none⟩ = some (.int .i64 0) := (blk_cell BK107.out 3).trans rfl; have hfz10_0 := blk_frozen BK107.out 0; have hfz10_1 := blk_frozen BK107.out 1; have hfz10_2 := blk_frozen BK107.out 2; have hfz10_3 := blk_frozen BK107.out 3))
            (try simp only [Act.put, List.setIfInBounds_toArray, List.set_cons_zero, List.set_cons_succ])
            go_cut [31] (fun v31 wc => ∃ (kq : Nat) (x31_6 : Bool), v31 = .bool x31_6 ∧ Aside0 (doorwardref19_Walk.j1 kq l0 a1 x5_1 x6_1 x31_6 ((rd_T40 l0 x6_1).f0) ((rd_T40 l0 x6_1).f1) ((rd_T40 l0 x6_1).f2) ((rd_T40 l0 x6_1).f3) = some (r1, r2, r3, r4)) ∧ Aside0 (kq ≤ k1) ∧ Aside0 (wc.heap[gb105]? = some (.cells #[.int .i64 x106000_1, .int .u32 x106001_1, .bool x106002_1, .bool x106003_1] 36 (0, 0))) ∧ Aside0 (wc.heap[gb107]? = some (.cells #[.int .i64 ((rd_T40 l0 x6_1).f0), .int .u32 ((rd_T40 l0 x6_1).f1), .int .i64 ((rd_T40 l0 x6_1).f2), .int .i64 ((rd_T40 l0 x6_1).f3)] 40 (0, 0))) ∧ Aside0 (Below w.heap.size w wc))
            case first =>
              have H := HC7.out
              clear HC7
              by_cases c11 : ((rd_T40 l0 x6_1).f0) < 1
              · rw [if_pos c11] at H
                have c11b0 : decide (((rd_T40 l0 x6_1).f0) < 1) = true := decide_eq_true c11
                clear c11
                (first | rw [c11b0] | (simp only [i64_w, i32_w]; rw [c11b0]) | skip)
                have H' := Aside0.mk H
                clear H
                have hnb12 := NB107_105.out
                have hnc12 := NB105_107.out
                have hcz13_0 : w8.cell? ⟨gb107, 0, none⟩ = some (.int .i64 0) := (blk_cell BK107.out 0).trans rfl
                have hcz13_1 : w8.cell? ⟨gb107, 1, none⟩ = some (.int .u32 0) := (blk_cell BK107.out 1).trans rfl
                have hcz13_2 : w8.cell? ⟨gb107, 2, none⟩ = some (.int .i64 0) := (blk_cell BK107.out 2).trans rfl
                have hcz13_3 : w8.cell? ⟨gb107, 3, none⟩ = some (.int .i64 0) := (blk_cell BK107.out 3).trans rfl
                have hfz13_0 := blk_frozen BK107.out 0
                have hfz13_1 := blk_frozen BK107.out 1
                have hfz13_2 := blk_frozen BK107.out 2
                have hfz13_3 := blk_frozen BK107.out 3
                go_wp2
                go_meet
                case rel => exact ⟨_, (true), (by first | rfl | (simp; done) | (simp [*]; done)), H', ⟨by have := HK1.out; first | omega | exact Nat.le_refl _⟩, ⟨by (with_reducible repeat (first | refine blk_drewN ?_ _ | refine blk_drew ?_ | refine blk_alloc ?_ _)); refine blk_far ?_ NB105_107.out _; (with_reducible repeat (first | refine blk_drewN ?_ _ | refine blk_drew ?_ | refine blk_alloc ?_ _)); refine blk_far ?_ NB105_107.out _; (with_reducible repeat (first | refine blk_drewN ?_ _ | refine blk_drew ?_ | refine blk_alloc ?_ _)); refine blk_far ?_ NB105_107.out _; (with_reducible repeat (first | refine blk_drewN ?_ _ | refine blk_drew ?_ | refine blk_alloc ?_ _)); refine blk_far ?_ NB105_107.out _; (with_reducible repeat (first | refine blk_drewN ?_ _ | refine blk_drew ?_ | refine blk_alloc ?_ _)); exact BK105.out⟩, ⟨by (with_reducible repeat (first | refine blk_drewN ?_ _ | refine blk_drew ?_ | refine blk_alloc ?_ _)); refine blk_put (cs := #[.int .i64 ((rd_T40 l0 x6_1).f0), .int .u32 ((rd_T40 l0 x6_1).f1), .int .i64 ((rd_T40 l0 x6_1).f2), .int .i64 0]) ?_ 3 _ rfl; (with_reducible repeat (first | refine blk_drewN ?_ _ | refine blk_drew ?_ | refine blk_alloc ?_ _)); refine blk_put (cs := #[.int .i64 ((rd_T40 l0 x6_1).f0), .int .u32 ((rd_T40 l0 x6_1).f1), .int .i64 0, .int .i64 0]) ?_ 2 _ rfl; (with_reducible repeat (first | refine blk_drewN ?_ _ | refine blk_drew ?_ | refine blk_alloc ?_ _)); refine blk_put (cs := #[.int .i64 ((rd_T40 l0 x6_1).f0), .int .u32 0, .int .i64 0, .int .i64 0]) ?_ 1 _ rfl; (with_reducible repeat (first | refine blk_drewN ?_ _ | refine blk_drew ?_ | refine blk_alloc ?_ _)); refine blk_put (cs := #[.int .i64 0, .int .u32 0, .int .i64 0, .int .i64 0]) ?_ 0 _ rfl; (with_reducible repeat (first | refine blk_drewN ?_ _ | refine blk_drew ?_ | refine blk_alloc ?_ _)); exact BK107.out⟩, ⟨by repeat (first | (with_reducible first | exact HB.out | apply below_alloc | apply pw_below_drewN | apply below_drew1 | refine below_set ?_ GE105.out | refine below_set ?_ GE107.out) | exact HB.out)⟩⟩
              · rw [if_neg c11] at H
                have c11b0 : decide (((rd_T40 l0 x6_1).f0) < 1) = false := decide_eq_false c11
                clear c11
                (first | rw [c11b0] | (simp only [i64_w, i32_w]; rw [c11b0]) | skip)
                have H' := Aside0.mk H
                clear H
                have hnb14 := NB107_105.out
                have hnc14 := NB105_107.out
                have hcz15_0 : w8.cell? ⟨gb107, 0, none⟩ = some (.int .i64 0) := (blk_cell BK107.out 0).trans rfl
                have hcz15_1 : w8.cell? ⟨gb107, 1, none⟩ = some (.int .u32 0) := (blk_cell BK107.out 1).trans rfl
                have hcz15_2 : w8.cell? ⟨gb107, 2, none⟩ = some (.int .i64 0) := (blk_cell BK107.out 2).trans rfl
                have hcz15_3 : w8.cell? ⟨gb107, 3, none⟩ = some (.int .i64 0) := (blk_cell BK107.out 3).trans rfl
                have hfz15_0 := blk_frozen BK107.out 0
                have hfz15_1 := blk_frozen BK107.out 1
                have hfz15_2 := blk_frozen BK107.out 2
                have hfz15_3 := blk_frozen BK107.out 3
                go_wp2
                go_meet
                case rel => exact ⟨_, (decide (((rd_T40 l0 x6_1).f0) > 8)), (by first | rfl | (simp; done) | (simp [*]; done)), H', ⟨by have := HK1.out; first | omega | exact Nat.le_refl _⟩, ⟨by (with_reducible repeat (first | refine blk_drewN ?_ _ | refine blk_drew ?_ | refine blk_alloc ?_ _)); refine blk_far ?_ NB105_107.out _; (with_reducible repeat (first | refine blk_drewN ?_ _ | refine blk_drew ?_ | refine blk_alloc ?_ _)); refine blk_far ?_ NB105_107.out _; (with_reducible repeat (first | refine blk_drewN ?_ _ | refine blk_drew ?_ | refine blk_alloc ?_ _)); refine blk_far ?_ NB105_107.out _; (with_reducible repeat (first | refine blk_drewN ?_ _ | refine blk_drew ?_ | refine blk_alloc ?_ _)); refine blk_far ?_ NB105_107.out _; (with_reducible repeat (first | refine blk_drewN ?_ _ | refine blk_drew ?_ | refine blk_alloc ?_ _)); exact BK105.out⟩, ⟨by (with_reducible repeat (first | refine blk_drewN ?_ _ | refine blk_drew ?_ | refine blk_alloc ?_ _)); refine blk_put (cs := #[.int .i64 ((rd_T40 l0 x6_1).f0), .int .u32 ((rd_T40 l0 x6_1).f1), .int .i64 ((rd_T40 l0 x6_1).f2), .int .i64 0]) ?_ 3 _ rfl; (with_reducible repeat (first | refine blk_drewN ?_ _ | refine blk_drew ?_ | refine blk_alloc ?_ _)); refine blk_put (cs := #[.int .i64 ((rd_T40 l0 x6_1).f0), .int .u32 ((rd_T40 l0 x6_1).f1), .int .i64 0, .int .i64 0]) ?_ 2 _ rfl; (with_reducible repeat (first | refine blk_drewN ?_ _ | refine blk_drew ?_ | refine blk_alloc ?_ _)); refine blk_put (cs := #[.int .i64 ((rd_T40 l0 x6_1).f0), .int .u32 0, .int .i64 0, .int .i64 0]) ?_ 1 _ rfl; (with_reducible repeat (first | refine blk_drewN ?_ _ | refine blk_drew ?_ | refine blk_alloc ?_ _)); refine blk_put (cs := #[.int .i64 0, .int .u32 0, .int .i64 0, .int .i64 0]) ?_ 0 _ rfl; (with_reducible repeat (first | refine blk_drewN ?_ _ | refine blk_drew ?_ | refine blk_alloc ?_ _)); exact BK107.out⟩, ⟨by repeat (first | (with_reducible first | exact HB.out | apply below_alloc | apply pw_below_drewN | apply below_drew1 | refine below_set ?_ GE105.out | refine below_set ?_ GE107.out) | exact HB.out)⟩⟩
            case rest =>
              clear HC7
              try clear c1
              try clear p1
              try clear q1
              try clear hx1
              try clear p2
              try clear c3
              try clear c3b0
              try clear c3b1
              try clear c5
              try clear c5b0
              try clear c6
              try clear c6b0
              try clear c9
              try clear p10
              try clear q10
              try clear hx10
              try clear c11
              try clear c11b0
              try clear c12
              try clear c14
              try clear hcz10_0
              try clear hcz10_1
              try clear hcz10_2
              try clear hcz10_3
              try clear hcz13_0
              try clear hcz13_1
              try clear hcz13_2
              try clear hcz13_3
              try clear hcz15_0
              try clear hcz15_1
              try clear hcz15_2
              try clear hcz15_3
              try clear hfz10_0
              try clear hfz10_1
              try clear hfz10_2
              try clear hfz10_3
              try clear hfz13_0
              try clear hfz13_1
              try clear hfz13_2
              try clear hfz13_3
              try clear hfz15_0
              try clear hfz15_1
              try clear hfz15_2
              try clear hfz15_3
              try clear hx106_0
              try clear hx106_1
              try clear hx106_2
              try clear hx106_3
              try clear p106
              try clear p2
              try clear q106
              obtain ⟨kq, x31_6, rfl, HA, HJ6, BK105, BK107, HB⟩ := hcut
              cases kq with
              | zero => exact absurd HA.out (by simp [doorwardref19_Walk.j1])
              | succ kj6 =>
                have H := HA.out
                clear HA
                simp only [doorwardref19_Walk.j1] at H
                by_cases c16 : x31_6 = true
                · subst c16
                  have H1 : (some (0, 0, false, true)) = some (r1, r2, r3, r4) := by rw [if_pos rfl] at H; exact H
                  clear H
                  have H := H1
                  clear H1
                  simp only [Option.some.injEq, Prod.mk.injEq] at H
                  obtain ⟨rfl, rfl, rfl, rfl⟩ := H
                  have hnb17 := NB105_107.out
                  have hnc17 := NB107_105.out
                  have hcz18_0 : wc.cell? ⟨gb105, 0, none⟩ = some (.int .i64 x106000_1) := (blk_cell BK105.out 0).trans rfl
                  have hcz18_1 : wc.cell? ⟨gb105, 1, none⟩ = some (.int .u32 x106001_1) := (blk_cell BK105.out 1).trans rfl
                  have hcz18_2 : wc.cell? ⟨gb105, 2, none⟩ = some (.bool x106002_1) := (blk_cell BK105.out 2).trans rfl
                  have hcz18_3 : wc.cell? ⟨gb105, 3, none⟩ = some (.bool x106003_1) := (blk_cell BK105.out 3).trans rfl
                  have hfz18_0 := blk_frozen BK105.out 0
                  have hfz18_1 := blk_frozen BK105.out 1
                  have hfz18_2 := blk_frozen BK105.out 2
                  have hfz18_3 := blk_frozen BK105.out 3
                  go_wp2
                  refine bodyPost_ret (results_cell_row rfl _ _ gb105 36 #[.int .i64 0, .int .u32 0, .bool false, .bool true] (0, 0) _ rfl (by (with_reducible repeat (first | refine blk_drewN ?_ _ | refine blk_drew ?_ | refine blk_alloc ?_ _)); refine blk_put (cs := #[.int .i64 0, .int .u32 0, .bool false, .bool x106003_1]) ?_ 3 _ rfl; (with_reducible repeat (first | refine blk_drewN ?_ _ | refine blk_drew ?_ | refine blk_alloc ?_ _)); refine blk_put (cs := #[.int .i64 0, .int .u32 0, .bool x106002_1, .bool x106003_1]) ?_ 2 _ rfl; (with_reducible repeat (first | refine blk_drewN ?_ _ | refine blk_drew ?_ | refine blk_alloc ?_ _)); refine blk_put (cs := #[.int .i64 0, .int .u32 x106001_1, .bool x106002_1, .bool x106003_1]) ?_ 1 _ rfl; (with_reducible repeat (first | refine blk_drewN ?_ _ | refine blk_drew ?_ | refine blk_alloc ?_ _)); refine blk_put (cs := #[.int .i64 x106000_1, .int .u32 x106001_1, .bool x106002_1, .bool x106003_1]) ?_ 0 _ rfl; (with_reducible repeat (first | refine blk_drewN ?_ _ | refine blk_drew ?_ | refine blk_alloc ?_ _)); exact BK105.out) Try.underlying36 rfl (by kernel_rfl)) rfl ?_
                  exact ⟨by first | rfl | (simp [errW_none, errW_some] <;> rfl) | (simp [*, errW_none, errW_some] <;> rfl), by repeat (first | (with_reducible first | exact HB.out | apply below_alloc | apply pw_below_drewN | apply below_drew1 | refine below_set ?_ GE105.out | refine below_set ?_ GE107.out) | exact HB.out)⟩
                · replace c16 := Bool.eq_false_iff.mpr c16
                  subst c16
                  have H1 : (if ((rd_T40 l0 x6_1).f0) = 8 then (some (0, ((rd_T40 l0 x6_1).f1), true, false)) else (if ((rd_T40 l0 x6_1).f0) = 1 then ((doorwardref11_Word.f kj6 a1 (wrap64 (((rd_T40 l0 x6_1).f1)))).bind fun bt108 => (if bt108.2 = 0 then (doorwardref19_Walk.j2 kj6 l0 a1 bt108.1 x6_1 ((rd_T40 l0 x6_1).f0) ((rd_T40 l0 x6_1).f1) ((rd_T40 l0 x6_1).f2) ((rd_T40 l0 x6_1).f3)) else (some (0, 0, false, true)))) else (doorwardref19_Walk.j2 kj6 l0 a1 x5_1 x6_1 ((rd_T40 l0 x6_1).f0) ((rd_T40 l0 x6_1).f1) ((rd_T40 l0 x6_1).f2) ((rd_T40 l0 x6_1).f3)))) = some (r1, r2, r3, r4) := by rw [if_neg (show ¬ (false = true) by decide)] at H; exact H
                  clear H
                  have H := H1
                  clear H1
                  by_cases c19 : ((rd_T40 l0 x6_1).f0) = 8
                  · rw [if_pos c19] at H
                    have c19b0 : (((rd_T40 l0 x6_1).f0) == 8) = true := beq_iff_eq.mpr c19
                    have c19b1 : (((rd_T40 l0 x6_1).f0) != 8) = false := bne_eq_false_iff_eq.mpr c19
                    clear c19
                    simp only [Option.some.injEq, Prod.mk.injEq] at H
                    obtain ⟨rfl, rfl, rfl, rfl⟩ := H
                    have hnb20 := NB107_105.out
                    have hnc20 := NB105_107.out
                    have hcz21_0 : wc.cell? ⟨gb107, 0, none⟩ = some (.int .i64 ((rd_T40 l0 x6_1).f0)) := (blk_cell BK107.out 0).trans rfl
                    have hcz21_1 : wc.cell? ⟨gb107, 1, none⟩ = some (.int .u32 ((rd_T40 l0 x6_1).f1)) := (blk_cell BK107.out 1).trans rfl
                    have hcz21_2 : wc.cell? ⟨gb107, 2, none⟩ = some (.int .i64 ((rd_T40 l0 x6_1).f2)) := (blk_cell BK107.out 2).trans rfl
                    have hcz21_3 : wc.cell? ⟨gb107, 3, none⟩ = some (.int .i64 ((rd_T40 l0 x6_1).f3)) := (blk_cell BK107.out 3).trans rfl
                    have hfz21_0 := blk_frozen BK107.out 0
                    have hfz21_1 := blk_frozen BK107.out 1
                    have hfz21_2 := blk_frozen BK107.out 2
                    have hfz21_3 := blk_frozen BK107.out 3
                    have hcz22_0 : wc.cell? ⟨gb105, 0, none⟩ = some (.int .i64 x106000_1) := (blk_cell BK105.out 0).trans rfl
                    have hcz22_1 : wc.cell? ⟨gb105, 1, none⟩ = some (.int .u32 x106001_1) := (blk_cell BK105.out 1).trans rfl
                    have hcz22_2 : wc.cell? ⟨gb105, 2, none⟩ = some (.bool x106002_1) := (blk_cell BK105.out 2).trans rfl
                    have hcz22_3 : wc.cell? ⟨gb105, 3, none⟩ = some (.bool x106003_1) := (blk_cell BK105.out 3).trans rfl
                    have hfz22_0 := blk_frozen BK105.out 0
                    have hfz22_1 := blk_frozen BK105.out 1
                    have hfz22_2 := blk_frozen BK105.out 2
                    have hfz22_3 := blk_frozen BK105.out 3
                    go_wp2
                    refine bodyPost_ret (results_cell_row rfl _ _ gb105 36 #[.int .i64 0, .int .u32 ((rd_T40 l0 x6_1).f1), .bool true, .bool false] (0, 0) _ rfl (by (with_reducible repeat (first | refine blk_drewN ?_ _ | refine blk_drew ?_ | refine blk_alloc ?_ _)); refine blk_put (cs := #[.int .i64 0, .int .u32 ((rd_T40 l0 x6_1).f1), .bool true, .bool x106003_1]) ?_ 3 _ rfl; (with_reducible repeat (first | refine blk_drewN ?_ _ | refine blk_drew ?_ | refine blk_alloc ?_ _)); refine blk_put (cs := #[.int .i64 0, .int .u32 ((rd_T40 l0 x6_1).f1), .bool x106002_1, .bool x106003_1]) ?_ 2 _ rfl; (with_reducible repeat (first | refine blk_drewN ?_ _ | refine blk_drew ?_ | refine blk_alloc ?_ _)); refine blk_put (cs := #[.int .i64 0, .int .u32 x106001_1, .bool x106002_1, .bool x106003_1]) ?_ 1 _ rfl; (with_reducible repeat (first | refine blk_drewN ?_ _ | refine blk_drew ?_ | refine blk_alloc ?_ _)); refine blk_put (cs := #[.int .i64 x106000_1, .int .u32 x106001_1, .bool x106002_1, .bool x106003_1]) ?_ 0 _ rfl; (with_reducible repeat (first | refine blk_drewN ?_ _ | refine blk_drew ?_ | refine blk_alloc ?_ _)); exact BK105.out) Try.underlying36 rfl (by kernel_rfl)) rfl ?_
                    exact ⟨by first | rfl | (simp [errW_none, errW_some] <;> rfl) | (simp [*, errW_none, errW_some] <;> rfl), by repeat (first | (with_reducible first | exact HB.out | apply below_alloc | apply pw_below_drewN | apply below_drew1 | refine below_set ?_ GE105.out | refine below_set ?_ GE107.out) | exact HB.out)⟩
                  · rw [if_neg c19] at H
                    have c19b0 : (((rd_T40 l0 x6_1).f0) == 8) = false := beq_eq_false_iff_ne.mpr c19
                    have c19b1 : (((rd_T40 l0 x6_1).f0) != 8) = true := bne_iff_ne.mpr c19
                    have HC23 := Aside0.mk H
                    clear H
                    have hnb24 := NB107_105.out
                    have hnc24 := NB105_107.out
                    have hcz25_0 : wc.cell? ⟨gb107, 0, none⟩ = some (.int .i64 ((rd_T40 l0 x6_1).f0)) := (blk_cell BK107.out 0).trans rfl
                    have hcz25_1 : wc.cell? ⟨gb107, 1, none⟩ = some (.int .u32 ((rd_T40 l0 x6_1).f1)) := (blk_cell BK107.out 1).trans rfl
                    have hcz25_2 : wc.cell? ⟨gb107, 2, none⟩ = some (.int .i64 ((rd_T40 l0 x6_1).f2)) := (blk_cell BK107.out 2).trans rfl
                    have hcz25_3 : wc.cell? ⟨gb107, 3, none⟩ = some (.int .i64 ((rd_T40 l0 x6_1).f3)) := (blk_cell BK107.out 3).trans rfl
                    have hfz25_0 := blk_frozen BK107.out 0
                    have hfz25_1 := blk_frozen BK107.out 1
                    have hfz25_2 := blk_frozen BK107.out 2
                    have hfz25_3 := blk_frozen BK107.out 3
                    go_upto_if 41 with (fail)
                    go_cut [5] (fun v5 wc => ∃ (kq : Nat) (x5_22 : Int) (x106000_22 : Int) (x106001_22 : Int) (x106002_22 : Bool) (x106003_22 : Bool), v5 = .int .u32 x5_22 ∧ Aside0 (doorwardref19_Walk.j2 kq l0 a1 x5_22 x6_1 ((rd_T40 l0 x6_1).f0) ((rd_T40 l0 x6_1).f1) ((rd_T40 l0 x6_1).f2) ((rd_T40 l0 x6_1).f3) = some (r1, r2, r3, r4)) ∧ Aside0 (kq ≤ kj6) ∧ Aside0 (wc.heap[gb105]? = some (.cells #[.int .i64 x106000_22, .int .u32 x106001_22, .bool x106002_22, .bool x106003_22] 36 (0, 0))) ∧ Aside0 (wc.heap[gb107]? = some (.cells #[.int .i64 ((rd_T40 l0 x6_1).f0), .int .u32 ((rd_T40 l0 x6_1).f1), .int .i64 ((rd_T40 l0 x6_1).f2), .int .i64 ((rd_T40 l0 x6_1).f3)] 40 (0, 0))) ∧ Aside0 (Below w.heap.size w wc))
                    case first =>
                      have H := HC23.out
                      clear HC23
                      by_cases c26 : ((rd_T40 l0 x6_1).f0) = 1
                      · rw [if_pos c26] at H
                        have c26b0 : (((rd_T40 l0 x6_1).f0) == 1) = true := beq_iff_eq.mpr c26
                        have c26b1 : (((rd_T40 l0 x6_1).f0) != 1) = false := bne_eq_false_iff_eq.mpr c26
                        clear c26
                        (first | rw [c26b0] | (simp only [i64_w, i32_w]; rw [c26b0]) | skip)
                        replace H := Option.bind_eq_some_iff.mp H
                        obtain ⟨⟨t108, t109⟩, A270, H⟩ := H
                        replace H : (if t109 = 0 then (doorwardref19_Walk.j2 kj6 l0 a1 t108 x6_1 ((rd_T40 l0 x6_1).f0) ((rd_T40 l0 x6_1).f1) ((rd_T40 l0 x6_1).f2) ((rd_T40 l0 x6_1).f3)) else (some (0, 0, false, true))) = some (r1, r2, r3, r4) := H
                        have A27 := Aside0.mk A270
                        clear A270
                        by_cases c28 : t109 = 0
                        · rw [if_pos c28] at H
                          have c28b0 : (t109 == 0) = true := beq_iff_eq.mpr c28
                          have c28b1 : (t109 != 0) = false := bne_eq_false_iff_eq.mpr c28
                          clear c28
                          have H' := Aside0.mk H
                          clear H
                          have hnb29 := NB107_105.out
                          have hnc29 := NB105_107.out
                          have hcz30_0 : wc.cell? ⟨gb107, 0, none⟩ = some (.int .i64 ((rd_T40 l0 x6_1).f0)) := (blk_cell BK107.out 0).trans rfl
                          have hcz30_1 : wc.cell? ⟨gb107, 1, none⟩ = some (.int .u32 ((rd_T40 l0 x6_1).f1)) := (blk_cell BK107.out 1).trans rfl
                          have hcz30_2 : wc.cell? ⟨gb107, 2, none⟩ = some (.int .i64 ((rd_T40 l0 x6_1).f2)) := (blk_cell BK107.out 2).trans rfl
                          have hcz30_3 : wc.cell? ⟨gb107, 3, none⟩ = some (.int .i64 ((rd_T40 l0 x6_1).f3)) := (blk_cell BK107.out 3).trans rfl
                          have hfz30_0 := blk_frozen BK107.out 0
                          have hfz30_1 := blk_frozen BK107.out 1
                          have hfz30_2 := blk_frozen BK107.out 2
                          have hfz30_3 := blk_frozen BK107.out 3
                          go_wp2_with (first | ((with_reducible refine gate_callee (f := 83) rfl ?_); refine goesL_ (some 47) rfl rfl Try.func83 (by kernel_rfl) rfl #[.string a1, .int .i64 (wrap64 (((rd_T40 l0 x6_1).f1)))] rfl (by (try simp only [List.map_toArray, List.map_cons, List.map_nil]); first | done | rfl | (simp only [List.length_drop, List.length_take]; rfl)) ?_; (with_reducible refine (doorwardref11_Word.calls kj6 a1 (wrap64 (((rd_T40 l0 x6_1).f1))) t108 t109 _ A27.out).mono ?_); rintro e w' ⟨rfl, ⟨nd, rfl⟩⟩; refine ⟨_, rfl, ?_⟩))
                          go_meet
                          case rel => exact ⟨_, (t108), (x106000_1), (x106001_1), (x106002_1), (x106003_1), (by first | rfl | (simp; done) | (simp [*]; done)), H', ⟨by have := HK1.out; have := HJ6.out; first | omega | exact Nat.le_refl _⟩, ⟨by (with_reducible repeat (first | refine blk_drewN ?_ _ | refine blk_drew ?_ | refine blk_alloc ?_ _)); exact BK105.out⟩, ⟨by (with_reducible repeat (first | refine blk_drewN ?_ _ | refine blk_drew ?_ | refine blk_alloc ?_ _)); exact BK107.out⟩, ⟨by repeat (first | (with_reducible first | exact HB.out | apply below_alloc | apply pw_below_drewN | apply below_drew1 | refine below_set ?_ GE105.out | refine below_set ?_ GE107.out) | exact HB.out)⟩⟩
                        · rw [if_neg c28] at H
                          have c28b0 : (t109 == 0) = false := beq_eq_false_iff_ne.mpr c28
                          have c28b1 : (t109 != 0) = true := bne_iff_ne.mpr c28
                          simp only [Option.some.injEq, Prod.mk.injEq] at H
                          obtain ⟨rfl, rfl, rfl, rfl⟩ := H
                          have hnb31 := NB107_105.out
                          have hnc31 := NB105_107.out
                          have hcz32_0 : wc.cell? ⟨gb107, 0, none⟩ = some (.int .i64 ((rd_T40 l0 x6_1).f0)) := (blk_cell BK107.out 0).trans rfl
                          have hcz32_1 : wc.cell? ⟨gb107, 1, none⟩ = some (.int .u32 ((rd_T40 l0 x6_1).f1)) := (blk_cell BK107.out 1).trans rfl
                          have hcz32_2 : wc.cell? ⟨gb107, 2, none⟩ = some (.int .i64 ((rd_T40 l0 x6_1).f2)) := (blk_cell BK107.out 2).trans rfl
                          have hcz32_3 : wc.cell? ⟨gb107, 3, none⟩ = some (.int .i64 ((rd_T40 l0 x6_1).f3)) := (blk_cell BK107.out 3).trans rfl
                          have hfz32_0 := blk_frozen BK107.out 0
                          have hfz32_1 := blk_frozen BK107.out 1
                          have hfz32_2 := blk_frozen BK107.out 2
                          have hfz32_3 := blk_frozen BK107.out 3
                          go_wp2_with (first | ((with_reducible refine gate_callee (f := 83) rfl ?_); refine goesL_ (some 47) rfl rfl Try.func83 (by kernel_rfl) rfl #[.string a1, .int .i64 (wrap64 (((rd_T40 l0 x6_1).f1)))] rfl (by (try simp only [List.map_toArray, List.map_cons, List.map_nil]); first | done | rfl | (simp only [List.length_drop, List.length_take]; rfl)) ?_; (with_reducible refine (doorwardref11_Word.calls kj6 a1 (wrap64 (((rd_T40 l0 x6_1).f1))) t108 t109 _ A27.out).mono ?_); rintro e w' ⟨rfl, ⟨nd, rfl⟩⟩; refine ⟨_, rfl, ?_⟩; (try (rw [drewN_self wc]; generalize hq_ : World.drewN wc _ = wc; have n0_ : Aside0 (wc.heap[gb105]? = some (.cells #[.int .i64 x106000_1, .int .u32 x106001_1, .bool x106002_1, .bool x106003_1] 36 (0, 0))) := ⟨by rw [← hq_]; exact (by (with_reducible repeat (first | refine blk_drewN ?_ _ | refine blk_drew ?_ | refine blk_alloc ?_ _)); exact BK105.out)⟩; have n1_ : Aside0 (wc.heap[gb107]? = some (.cells #[.int .i64 ((rd_T40 l0 x6_1).f0), .int .u32 ((rd_T40 l0 x6_1).f1), .int .i64 ((rd_T40 l0 x6_1).f2), .int .i64 ((rd_T40 l0 x6_1).f3)] 40 (0, 0))) := ⟨by rw [← hq_]; exact (by (with_reducible repeat (first | refine blk_drewN ?_ _ | refine blk_drew ?_ | refine blk_alloc ?_ _)); exact BK107.out)⟩; have n2_ : Aside0 (Below w.heap.size w wc) := ⟨by rw [← hq_]; exact (by repeat (first | (with_reducible first | exact HB.out | apply below_alloc | apply pw_below_drewN | apply below_drew1 | refine below_set ?_ GE105.out | refine below_set ?_ GE107.out) | exact HB.out))⟩; clear BK105 BK107 HB hq_; have BK105 := n0_; have BK107 := n1_; have HB := n2_; clear n0_ n1_ n2_)); have hcz33_0 : wc.cell? ⟨gb105, 0, none⟩ = some (.int .i64 x106000_1) := (blk_cell BK105.out 0).trans rfl; have hcz33_1 : wc.cell? ⟨gb105, 1, none⟩ = some (.int .u32 x106001_1) := (blk_cell BK105.out 1).trans rfl; have hcz33_2 : wc.cell? ⟨gb105, 2, none⟩ = some (.bool x106002_1) := (blk_cell BK105.out 2).trans rfl; have hcz33_3 : wc.cell? ⟨gb105, 3, none⟩ = some (.bool x106003_1) := (blk_cell BK105.out 3).trans rfl; have hfz33_0 := blk_frozen BK105.out 0; have hfz33_1 := blk_frozen BK105.out 1; have hfz33_2 := blk_frozen BK105.out 2; have hfz33_3 := blk_frozen BK105.out 3))
                          refine bodyPost_ret (results_cell_row rfl _ _ gb105 36 #[.int .i64 0, .int .u32 0, .bool false, .bool true] (0, 0) _ rfl (by (with_reducible repeat (first | refine blk_drewN ?_ _ | refine blk_drew ?_ | refine blk_alloc ?_ _)); refine blk_put (cs := #[.int .i64 0, .int .u32 0, .bool false, .bool x106003_1]) ?_ 3 _ rfl; (with_reducible repeat (first | refine blk_drewN ?_ _ | refine blk_drew ?_ | refine blk_alloc ?_ _)); refine blk_put (cs := #[.int .i64 0, .int .u32 0, .bool x106002_1, .bool x106003_1]) ?_ 2 _ rfl; (with_reducible repeat (first | refine blk_drewN ?_ _ | refine blk_drew ?_ | refine blk_alloc ?_ _)); refine blk_put (cs := #[.int .i64 0, .int .u32 x106001_1, .bool x106002_1, .bool x106003_1]) ?_ 1 _ rfl; (with_reducible repeat (first | refine blk_drewN ?_ _ | refine blk_drew ?_ | refine blk_alloc ?_ _)); refine blk_put (cs := #[.int .i64 x106000_1, .int .u32 x106001_1, .bool x106002_1, .bool x106003_1]) ?_ 0 _ rfl; (with_reducible repeat (first | refine blk_drewN ?_ _ | refine blk_drew ?_ | refine blk_alloc ?_ _)); exact BK105.out) Try.underlying36 rfl (by kernel_rfl)) rfl ?_
                          exact ⟨by first | rfl | (simp [errW_none, errW_some] <;> rfl) | (simp [*, errW_none, errW_some] <;> rfl), by repeat (first | (with_reducible first | exact HB.out | apply below_alloc | apply pw_below_drewN | apply below_drew1 | refine below_set ?_ GE105.out | refine below_set ?_ GE107.out) | exact HB.out)⟩
                      · rw [if_neg c26] at H
                        have c26b0 : (((rd_T40 l0 x6_1).f0) == 1) = false := beq_eq_false_iff_ne.mpr c26
                        have c26b1 : (((rd_T40 l0 x6_1).f0) != 1) = true := bne_iff_ne.mpr c26
                        (first | rw [c26b0] | (simp only [i64_w, i32_w]; rw [c26b0]) | skip)
                        have H' := Aside0.mk H
                        clear H
                        go_wp2
                        go_meet
                        case rel => exact ⟨_, (x5_1), (x106000_1), (x106001_1), (x106002_1), (x106003_1), (by first | rfl | (simp; done) | (simp [*]; done)), H', ⟨by have := HK1.out; have := HJ6.out; first | omega | exact Nat.le_refl _⟩, ⟨by (with_reducible repeat (first | refine blk_drewN ?_ _ | refine blk_drew ?_ | refine blk_alloc ?_ _)); exact BK105.out⟩, ⟨by (with_reducible repeat (first | refine blk_drewN ?_ _ | refine blk_drew ?_ | refine blk_alloc ?_ _)); exact BK107.out⟩, ⟨by repeat (first | (with_reducible first | exact HB.out | apply below_alloc | apply pw_below_drewN | apply below_drew1 | refine below_set ?_ GE105.out | refine below_set ?_ GE107.out) | exact HB.out)⟩⟩
                    case rest =>
                      clear HC23
                      try clear c1
                      try clear p1
                      try clear q1
                      try clear hx1
                      try clear c2
                      try clear p2
                      try clear c3
                      try clear c3b0
                      try clear c3b1
                      try clear c5
                      try clear c5b0
                      try clear c6
                      try clear c6b0
                      try clear p6
                      try clear c8
                      try clear c9
                      try clear p10
                      try clear q10
                      try clear hx10
                      try clear c11
                      try clear c11b0
                      try clear c12
                      try clear c14
                      try clear c16
                      try clear c17
                      try clear c19
                      try clear c19b0
                      try clear c19b1
                      try clear c20
                      try clear c24
                      try clear c26
                      try clear c26b0
                      try clear c26b1
                      try clear c28
                      try clear c28b0
                      try clear c28b1
                      try clear c29
                      try clear c31
                      try clear hcz10_0
                      try clear hcz10_1
                      try clear hcz10_2
                      try clear hcz10_3
                      try clear hcz13_0
                      try clear hcz13_1
                      try clear hcz13_2
                      try clear hcz13_3
                      try clear hcz15_0
                      try clear hcz15_1
                      try clear hcz15_2
                      try clear hcz15_3
                      try clear hcz18_0
                      try clear hcz18_1
                      try clear hcz18_2
                      try clear hcz18_3
                      try clear hcz21_0
                      try clear hcz21_1
                      try clear hcz21_2
                      try clear hcz21_3
                      try clear hcz22_0
                      try clear hcz22_1
                      try clear hcz22_2
                      try clear hcz22_3
                      try clear hcz25_0
                      try clear hcz25_1
                      try clear hcz25_2
                      try clear hcz25_3
                      try clear hcz30_0
                      try clear hcz30_1
                      try clear hcz30_2
                      try clear hcz30_3
                      try clear hcz32_0
                      try clear hcz32_1
                      try clear hcz32_2
                      try clear hcz32_3
                      try clear hcz33_0
                      try clear hcz33_1
                      try clear hcz33_2
                      try clear hcz33_3
                      try clear hfz10_0
                      try clear hfz10_1
                      try clear hfz10_2
                      try clear hfz10_3
                      try clear hfz13_0
                      try clear hfz13_1
                      try clear hfz13_2
                      try clear hfz13_3
                      try clear hfz15_0
                      try clear hfz15_1
                      try clear hfz15_2
                      try clear hfz15_3
                      try clear hfz18_0
                      try clear hfz18_1
                      try clear hfz18_2
                      try clear hfz18_3
                      try clear hfz21_0
                      try clear hfz21_1
                      try clear hfz21_2
                      try clear hfz21_3
                      try clear hfz22_0
                      try clear hfz22_1
                      try clear hfz22_2
                      try clear hfz22_3
                      try clear hfz25_0
                      try clear hfz25_1
                      try clear hfz25_2
                      try clear hfz25_3
                      try clear hfz30_0
                      try clear hfz30_1
                      try clear hfz30_2
                      try clear hfz30_3
                      try clear hfz32_0
                      try clear hfz32_1
                      try clear hfz32_2
                      try clear hfz32_3
                      try clear hfz33_0
                      try clear hfz33_1
                      try clear hfz33_2
                      try clear hfz33_3
                      try clear hx106_0
                      try clear hx106_1
                      try clear hx106_2
                      try clear hx106_3
                      try clear p1
                      try clear p10
                      try clear p106
                      try clear p2
                      try clear q1
                      try clear q10
                      try clear q106
                      obtain ⟨kq, x5_22, x106000_22, x106001_22, x106002_22, x106003_22, rfl, HA, HJ22, BK105, BK107, HB⟩ := hcut
                      cases kq with
                      | zero => exact absurd HA.out (by simp [doorwardref19_Walk.j2])
                      | succ kj22 =>
                        have H := HA.out
                        clear HA
                        simp only [doorwardref19_Walk.j2] at H
                        have HC34 := Aside0.mk H
                        clear H
                        have hnb35 := NB107_105.out
                        have hnc35 := NB105_107.out
                        have hcz36_0 : wc.cell? ⟨gb107, 0, none⟩ = some (.int .i64 ((rd_T40 l0 x6_1).f0)) := (blk_cell BK107.out 0).trans rfl
                        have hcz36_1 : wc.cell? ⟨gb107, 1, none⟩ = some (.int .u32 ((rd_T40 l0 x6_1).f1)) := (blk_cell BK107.out 1).trans rfl
                        have hcz36_2 : wc.cell? ⟨gb107, 2, none⟩ = some (.int .i64 ((rd_T40 l0 x6_1).f2)) := (blk_cell BK107.out 2).trans rfl
                        have hcz36_3 : wc.cell? ⟨gb107, 3, none⟩ = some (.int .i64 ((rd_T40 l0 x6_1).f3)) := (blk_cell BK107.out 3).trans rfl
                        have hfz36_0 := blk_frozen BK107.out 0
                        have hfz36_1 := blk_frozen BK107.out 1
                        have hfz36_2 := blk_frozen BK107.out 2
                        have hfz36_3 := blk_frozen BK107.out 3
                        go_upto_if 56 with (fail)
                        go_cut [5] (fun v5 wc => ∃ (kq : Nat) (x5_33 : Int), v5 = .int .u32 x5_33 ∧ Aside0 (doorwardref19_Walk.j3 kq l0 a1 x5_33 x6_1 ((rd_T40 l0 x6_1).f0) ((rd_T40 l0 x6_1).f1) ((rd_T40 l0 x6_1).f2) ((rd_T40 l0 x6_1).f3) = some (r1, r2, r3, r4)) ∧ Aside0 (kq ≤ kj22) ∧ Aside0 (wc.heap[gb105]? = some (.cells #[.int .i64 x106000_22, .int .u32 x106001_22, .bool x106002_22, .bool x106003_22] 36 (0, 0))) ∧ Aside0 (wc.heap[gb107]? = some (.cells #[.int .i64 ((rd_T40 l0 x6_1).f0), .int .u32 ((rd_T40 l0 x6_1).f1), .int .i64 ((rd_T40 l0 x6_1).f2), .int .i64 ((rd_T40 l0 x6_1).f3)] 40 (0, 0))) ∧ Aside0 (Below w.heap.size w wc))
                        case first =>
                          have H := HC34.out
                          clear HC34
                          by_cases c37 : ((rd_T40 l0 x6_1).f0) = 2
                          · rw [if_pos c37] at H
                            have c37b0 : (((rd_T40 l0 x6_1).f0) == 2) = true := beq_iff_eq.mpr c37
                            have c37b1 : (((rd_T40 l0 x6_1).f0) != 2) = false := bne_eq_false_iff_eq.mpr c37
                            clear c37
                            (first | rw [c37b0] | (simp only [i64_w, i32_w]; rw [c37b0]) | skip)
                            have H' := Aside0.mk H
                            clear H
                            have hnb38 := NB107_105.out
                            have hnc38 := NB105_107.out
                            have hcz39_0 : wc.cell? ⟨gb107, 0, none⟩ = some (.int .i64 ((rd_T40 l0 x6_1).f0)) := (blk_cell BK107.out 0).trans rfl
                            have hcz39_1 : wc.cell? ⟨gb107, 1, none⟩ = some (.int .u32 ((rd_T40 l0 x6_1).f1)) := (blk_cell BK107.out 1).trans rfl
                            have hcz39_2 : wc.cell? ⟨gb107, 2, none⟩ = some (.int .i64 ((rd_T40 l0 x6_1).f2)) := (blk_cell BK107.out 2).trans rfl
                            have hcz39_3 : wc.cell? ⟨gb107, 3, none⟩ = some (.int .i64 ((rd_T40 l0 x6_1).f3)) := (blk_cell BK107.out 3).trans rfl
                            have hfz39_0 := blk_frozen BK107.out 0
                            have hfz39_1 := blk_frozen BK107.out 1
                            have hfz39_2 := blk_frozen BK107.out 2
                            have hfz39_3 := blk_frozen BK107.out 3
                            go_wp2
                            go_meet
                            case rel => exact ⟨_, (Go.bits .and .u32 x5_22 ((rd_T40 l0 x6_1).f1)), (by first | rfl | (simp; done) | (simp [*]; done)), H', ⟨by have := HK1.out; have := HJ6.out; have := HJ22.out; first | omega | exact Nat.le_refl _⟩, ⟨by (with_reducible repeat (first | refine blk_drewN ?_ _ | refine blk_drew ?_ | refine blk_alloc ?_ _)); exact BK105.out⟩, ⟨by (with_reducible repeat (first | refine blk_drewN ?_ _ | refine blk_drew ?_ | refine blk_alloc ?_ _)); exact BK107.out⟩, ⟨by repeat (first | (with_reducible first | exact HB.out | apply below_alloc | apply pw_below_drewN | apply below_drew1 | refine below_set ?_ GE105.out | refine below_set ?_ GE107.out) | exact HB.out)⟩⟩
                          · rw [if_neg c37] at H
                            have c37b0 : (((rd_T40 l0 x6_1).f0) == 2) = false := beq_eq_false_iff_ne.mpr c37
                            have c37b1 : (((rd_T40 l0 x6_1).f0) != 2) = true := bne_iff_ne.mpr c37
                            (first | rw [c37b0] | (simp only [i64_w, i32_w]; rw [c37b0]) | skip)
                            have H' := Aside0.mk H
                            clear H
                            go_wp2
                            go_meet
                            case rel => exact ⟨_, (x5_22), (by first | rfl | (simp; done) | (simp [*]; done)), H', ⟨by have := HK1.out; have := HJ6.out; have := HJ22.out; first | omega | exact Nat.le_refl _⟩, ⟨by (with_reducible repeat (first | refine blk_drewN ?_ _ | refine blk_drew ?_ | refine blk_alloc ?_ _)); exact BK105.out⟩, ⟨by (with_reducible repeat (first | refine blk_drewN ?_ _ | refine blk_drew ?_ | refine blk_alloc ?_ _)); exact BK107.out⟩, ⟨by repeat (first | (with_reducible first | exact HB.out | apply below_alloc | apply pw_below_drewN | apply below_drew1 | refine below_set ?_ GE105.out | refine below_set ?_ GE107.out) | exact HB.out)⟩⟩
                        case rest =>
                          clear HC34
                          try clear c1
                          try clear p1
                          try clear q1
                          try clear hx1
                          try clear c2
                          try clear p2
                          try clear c3
                          try clear c3b0
                          try clear c3b1
                          try clear c5
                          try clear c5b0
                          try clear c6
                          try clear c6b0
                          try clear p6
                          try clear c8
                          try clear c9
                          try clear p10
                          try clear q10
                          try clear hx10
                          try clear c11
                          try clear c11b0
                          try clear c12
                          try clear c14
                          try clear c16
                          try clear c17
                          try clear c19
                          try clear c19b0
                          try clear c19b1
                          try clear c20
                          try clear c24
                          try clear c26
                          try clear c26b0
                          try clear c26b1
                          try clear c28
                          try clear c28b0
                          try clear c28b1
                          try clear c29
                          try clear c31
                          try clear c35
                          try clear c37
                          try clear c37b0
                          try clear c37b1
                          try clear c38
                          try clear hcz10_0
                          try clear hcz10_1
                          try clear hcz10_2
                          try clear hcz10_3
                          try clear hcz13_0
                          try clear hcz13_1
                          try clear hcz13_2
                          try clear hcz13_3
                          try clear hcz15_0
                          try clear hcz15_1
                          try clear hcz15_2
                          try clear hcz15_3
                          try clear hcz18_0
                          try clear hcz18_1
                          try clear hcz18_2
                          try clear hcz18_3
                          try clear hcz21_0
                          try clear hcz21_1
                          try clear hcz21_2
                          try clear hcz21_3
                          try clear hcz22_0
                          try clear hcz22_1
                          try clear hcz22_2
                          try clear hcz22_3
                          try clear hcz25_0
                          try clear hcz25_1
                          try clear hcz25_2
                          try clear hcz25_3
                          try clear hcz30_0
                          try clear hcz30_1
                          try clear hcz30_2
                          try clear hcz30_3
                          try clear hcz32_0
                          try clear hcz32_1
                          try clear hcz32_2
                          try clear hcz32_3
                          try clear hcz33_0
                          try clear hcz33_1
                          try clear hcz33_2
                          try clear hcz33_3
                          try clear hcz36_0
                          try clear hcz36_1
                          try clear hcz36_2
                          try clear hcz36_3
                          try clear hcz39_0
                          try clear hcz39_1
                          try clear hcz39_2
                          try clear hcz39_3
                          try clear hfz10_0
                          try clear hfz10_1
                          try clear hfz10_2
                          try clear hfz10_3
                          try clear hfz13_0
                          try clear hfz13_1
                          try clear hfz13_2
                          try clear hfz13_3
                          try clear hfz15_0
                          try clear hfz15_1
                          try clear hfz15_2
                          try clear hfz15_3
                          try clear hfz18_0
                          try clear hfz18_1
                          try clear hfz18_2
                          try clear hfz18_3
                          try clear hfz21_0
                          try clear hfz21_1
                          try clear hfz21_2
                          try clear hfz21_3
                          try clear hfz22_0
                          try clear hfz22_1
                          try clear hfz22_2
                          try clear hfz22_3
                          try clear hfz25_0
                          try clear hfz25_1
                          try clear hfz25_2
                          try clear hfz25_3
                          try clear hfz30_0
                          try clear hfz30_1
                          try clear hfz30_2
                          try clear hfz30_3
                          try clear hfz32_0
                          try clear hfz32_1
                          try clear hfz32_2
                          try clear hfz32_3
                          try clear hfz33_0
                          try clear hfz33_1
                          try clear hfz33_2
                          try clear hfz33_3
                          try clear hfz36_0
                          try clear hfz36_1
                          try clear hfz36_2
                          try clear hfz36_3
                          try clear hfz39_0
                          try clear hfz39_1
                          try clear hfz39_2
                          try clear hfz39_3
                          try clear hx106_0
                          try clear hx106_1
                          try clear hx106_2
                          try clear hx106_3
                          try clear p1
                          try clear p10
                          try clear p106
                          try clear p2
                          try clear p6
                          try clear q1
                          try clear q10
                          try clear q106
                          obtain ⟨kq, x5_33, rfl, HA, HJ33, BK105, BK107, HB⟩ := hcut
                          cases kq with
                          | zero => exact absurd HA.out (by simp [doorwardref19_Walk.j3])
                          | succ kj33 =>
                            have H := HA.out
                            clear HA
                            simp only [doorwardref19_Walk.j3] at H
                            have HC40 := Aside0.mk H
                            clear H
                            go_upto_region 18 with (fail)
                            go_cut [78] (fun v78 wc => ∃ (kq : Nat) (x78_39 : Bool), v78 = .bool x78_39 ∧ Aside0 (doorwardref19_Walk.j4 kq l0 a1 x5_33 x6_1 x78_39 ((rd_T40 l0 x6_1).f0) ((rd_T40 l0 x6_1).f1) ((rd_T40 l0 x6_1).f2) ((rd_T40 l0 x6_1).f3) = some (r1, r2, r3, r4)) ∧ Aside0 (kq ≤ kj33) ∧ Aside0 (wc.heap[gb105]? = some (.cells #[.int .i64 x106000_22, .int .u32 x106001_22, .bool x106002_22, .bool x106003_22] 36 (0, 0))) ∧ Aside0 (wc.heap[gb107]? = some (.cells #[.int .i64 ((rd_T40 l0 x6_1).f0), .int .u32 ((rd_T40 l0 x6_1).f1), .int .i64 ((rd_T40 l0 x6_1).f2), .int .i64 ((rd_T40 l0 x6_1).f3)] 40 (0, 0))) ∧ Aside0 (Below w.heap.size w wc))
                            case first =>
                              have H := HC40.out
                              clear HC40
                              by_cases c41 : ((rd_T40 l0 x6_1).f0) = 3
                              · rw [if_pos c41] at H
                                have c41b0 : (((rd_T40 l0 x6_1).f0) == 3) = true := beq_iff_eq.mpr c41
                                have c41b1 : (((rd_T40 l0 x6_1).f0) != 3) = false := bne_eq_false_iff_eq.mpr c41
                                clear c41
                                (first | rw [c41b0] | (simp only [i64_w, i32_w]; rw [c41b0]) | skip)
                                have H' := Aside0.mk H
                                clear H
                                have hnb42 := NB107_105.out
                                have hnc42 := NB105_107.out
                                have hcz43_0 : wc.cell? ⟨gb107, 0, none⟩ = some (.int .i64 ((rd_T40 l0 x6_1).f0)) := (blk_cell BK107.out 0).trans rfl
                                have hcz43_1 : wc.cell? ⟨gb107, 1, none⟩ = some (.int .u32 ((rd_T40 l0 x6_1).f1)) := (blk_cell BK107.out 1).trans rfl
                                have hcz43_2 : wc.cell? ⟨gb107, 2, none⟩ = some (.int .i64 ((rd_T40 l0 x6_1).f2)) := (blk_cell BK107.out 2).trans rfl
                                have hcz43_3 : wc.cell? ⟨gb107, 3, none⟩ = some (.int .i64 ((rd_T40 l0 x6_1).f3)) := (blk_cell BK107.out 3).trans rfl
                                have hfz43_0 := blk_frozen BK107.out 0
                                have hfz43_1 := blk_frozen BK107.out 1
                                have hfz43_2 := blk_frozen BK107.out 2
                                have hfz43_3 := blk_frozen BK107.out 3
                                go_wp2
                                go_meet
                                case rel => exact ⟨_, (true), (by first | rfl | (simp; done) | (simp [*]; done)), H', ⟨by have := HK1.out; have := HJ6.out; have := HJ22.out; have := HJ33.out; first | omega | exact Nat.le_refl _⟩, ⟨by (with_reducible repeat (first | refine blk_drewN ?_ _ | refine blk_drew ?_ | refine blk_alloc ?_ _)); exact BK105.out⟩, ⟨by (with_reducible repeat (first | refine blk_drewN ?_ _ | refine blk_drew ?_ | refine blk_alloc ?_ _)); exact BK107.out⟩, ⟨by repeat (first | (with_reducible first | exact HB.out | apply below_alloc | apply pw_below_drewN | apply below_drew1 | refine below_set ?_ GE105.out | refine below_set ?_ GE107.out) | exact HB.out)⟩⟩
                              · rw [if_neg c41] at H
                                have c41b0 : (((rd_T40 l0 x6_1).f0) == 3) = false := beq_eq_false_iff_ne.mpr c41
                                have c41b1 : (((rd_T40 l0 x6_1).f0) != 3) = true := bne_iff_ne.mpr c41
                                (first | rw [c41b0] | (simp only [i64_w, i32_w]; rw [c41b0]) | skip)
                                by_cases c44 : ((rd_T40 l0 x6_1).f0) = 4
                                · rw [if_pos c44] at H
                                  have c44b0 : (((rd_T40 l0 x6_1).f0) == 4) = true := beq_iff_eq.mpr c44
                                  have c44b1 : (((rd_T40 l0 x6_1).f0) != 4) = false := bne_eq_false_iff_eq.mpr c44
                                  clear c44
                                  have H' := Aside0.mk H
                                  clear H
                                  have hnb45 := NB107_105.out
                                  have hnc45 := NB105_107.out
                                  have hcz46_0 : wc.cell? ⟨gb107, 0, none⟩ = some (.int .i64 ((rd_T40 l0 x6_1).f0)) := (blk_cell BK107.out 0).trans rfl
                                  have hcz46_1 : wc.cell? ⟨gb107, 1, none⟩ = some (.int .u32 ((rd_T40 l0 x6_1).f1)) := (blk_cell BK107.out 1).trans rfl
                                  have hcz46_2 : wc.cell? ⟨gb107, 2, none⟩ = some (.int .i64 ((rd_T40 l0 x6_1).f2)) := (blk_cell BK107.out 2).trans rfl
                                  have hcz46_3 : wc.cell? ⟨gb107, 3, none⟩ = some (.int .i64 ((rd_T40 l0 x6_1).f3)) := (blk_cell BK107.out 3).trans rfl
                                  have hfz46_0 := blk_frozen BK107.out 0
                                  have hfz46_1 := blk_frozen BK107.out 1
                                  have hfz46_2 := blk_frozen BK107.out 2
                                  have hfz46_3 := blk_frozen BK107.out 3
                                  go_wp2
                                  go_meet
                                  case rel => exact ⟨_, (true), (by first | rfl | (simp; done) | (simp [*]; done)), H', ⟨by have := HK1.out; have := HJ6.out; have := HJ22.out; have := HJ33.out; first | omega | exact Nat.le_refl _⟩, ⟨by (with_reducible repeat (first | refine blk_drewN ?_ _ | refine blk_drew ?_ | refine blk_alloc ?_ _)); exact BK105.out⟩, ⟨by (with_reducible repeat (first | refine blk_drewN ?_ _ | refine blk_drew ?_ | refine blk_alloc ?_ _)); exact BK107.out⟩, ⟨by repeat (first | (with_reducible first | exact HB.out | apply below_alloc | apply pw_below_drewN | apply below_drew1 | refine below_set ?_ GE105.out | refine below_set ?_ GE107.out) | exact HB.out)⟩⟩
                                · rw [if_neg c44] at H
                                  have c44b0 : (((rd_T40 l0 x6_1).f0) == 4) = false := beq_eq_false_iff_ne.mpr c44
                                  have c44b1 : (((rd_T40 l0 x6_1).f0) != 4) = true := bne_iff_ne.mpr c44
                                  by_cases c47 : ((rd_T40 l0 x6_1).f0) = 5
                                  · rw [if_pos c47] at H
                                    have c47b0 : (((rd_T40 l0 x6_1).f0) == 5) = true := beq_iff_eq.mpr c47
                                    have c47b1 : (((rd_T40 l0 x6_1).f0) != 5) = false := bne_eq_false_iff_eq.mpr c47
                                    clear c47
                                    have H' := Aside0.mk H
                                    clear H
                                    have hnb48 := NB107_105.out
                                    have hnc48 := NB105_107.out
                                    have hcz49_0 : wc.cell? ⟨gb107, 0, none⟩ = some (.int .i64 ((rd_T40 l0 x6_1).f0)) := (blk_cell BK107.out 0).trans rfl
                                    have hcz49_1 : wc.cell? ⟨gb107, 1, none⟩ = some (.int .u32 ((rd_T40 l0 x6_1).f1)) := (blk_cell BK107.out 1).trans rfl
                                    have hcz49_2 : wc.cell? ⟨gb107, 2, none⟩ = some (.int .i64 ((rd_T40 l0 x6_1).f2)) := (blk_cell BK107.out 2).trans rfl
                                    have hcz49_3 : wc.cell? ⟨gb107, 3, none⟩ = some (.int .i64 ((rd_T40 l0 x6_1).f3)) := (blk_cell BK107.out 3).trans rfl
                                    have hfz49_0 := blk_frozen BK107.out 0
                                    have hfz49_1 := blk_frozen BK107.out 1
                                    have hfz49_2 := blk_frozen BK107.out 2
                                    have hfz49_3 := blk_frozen BK107.out 3
                                    go_wp2
                                    go_meet
                                    case rel => exact ⟨_, (true), (by first | rfl | (simp; done) | (simp [*]; done)), H', ⟨by have := HK1.out; have := HJ6.out; have := HJ22.out; have := HJ33.out; first | omega | exact Nat.le_refl _⟩, ⟨by (with_reducible repeat (first | refine blk_drewN ?_ _ | refine blk_drew ?_ | refine blk_alloc ?_ _)); exact BK105.out⟩, ⟨by (with_reducible repeat (first | refine blk_drewN ?_ _ | refine blk_drew ?_ | refine blk_alloc ?_ _)); exact BK107.out⟩, ⟨by repeat (first | (with_reducible first | exact HB.out | apply below_alloc | apply pw_below_drewN | apply below_drew1 | refine below_set ?_ GE105.out | refine below_set ?_ GE107.out) | exact HB.out)⟩⟩
                                  · rw [if_neg c47] at H
                                    have c47b0 : (((rd_T40 l0 x6_1).f0) == 5) = false := beq_eq_false_iff_ne.mpr c47
                                    have c47b1 : (((rd_T40 l0 x6_1).f0) != 5) = true := bne_iff_ne.mpr c47
                                    have H' := Aside0.mk H
                                    clear H
                                    have hnb50 := NB107_105.out
                                    have hnc50 := NB105_107.out
                                    have hcz51_0 : wc.cell? ⟨gb107, 0, none⟩ = some (.int .i64 ((rd_T40 l0 x6_1).f0)) := (blk_cell BK107.out 0).trans rfl
                                    have hcz51_1 : wc.cell? ⟨gb107, 1, none⟩ = some (.int .u32 ((rd_T40 l0 x6_1).f1)) := (blk_cell BK107.out 1).trans rfl
                                    have hcz51_2 : wc.cell? ⟨gb107, 2, none⟩ = some (.int .i64 ((rd_T40 l0 x6_1).f2)) := (blk_cell BK107.out 2).trans rfl
                                    have hcz51_3 : wc.cell? ⟨gb107, 3, none⟩ = some (.int .i64 ((rd_T40 l0 x6_1).f3)) := (blk_cell BK107.out 3).trans rfl
                                    have hfz51_0 := blk_frozen BK107.out 0
                                    have hfz51_1 := blk_frozen BK107.out 1
                                    have hfz51_2 := blk_frozen BK107.out 2
                                    have hfz51_3 := blk_frozen BK107.out 3
                                    go_wp2
                                    go_meet
                                    case rel => exact ⟨_, ((((rd_T40 l0 x6_1).f0) == 7)), (by first | rfl | (simp; done) | (simp [*]; done)), H', ⟨by have := HK1.out; have := HJ6.out; have := HJ22.out; have := HJ33.out; first | omega | exact Nat.le_refl _⟩, ⟨by (with_reducible repeat (first | refine blk_drewN ?_ _ | refine blk_drew ?_ | refine blk_alloc ?_ _)); exact BK105.out⟩, ⟨by (with_reducible repeat (first | refine blk_drewN ?_ _ | refine blk_drew ?_ | refine blk_alloc ?_ _)); exact BK107.out⟩, ⟨by repeat (first | (with_reducible first | exact HB.out | apply below_alloc | apply pw_below_drewN | apply below_drew1 | refine below_set ?_ GE105.out | refine below_set ?_ GE107.out) | exact HB.out)⟩⟩
                            case rest =>
                              clear HC40
                              try clear c1
                              try clear p1
                              try clear q1
                              try clear hx1
                              try clear c2
                              try clear p2
                              try clear c3
                              try clear c3b0
                              try clear c3b1
                              try clear c4
                              try clear c5
                              try clear c5b0
                              try clear c6
                              try clear c6b0
                              try clear p6
                              try clear c8
                              try clear c9
                              try clear p10
                              try clear q10
                              try clear hx10
                              try clear c11
                              try clear c11b0
                              try clear c12
                              try clear c14
                              try clear c16
                              try clear c17
                              try clear c19
                              try clear c19b0
                              try clear c19b1
                              try clear c20
                              try clear c24
                              try clear c26
                              try clear c26b0
                              try clear c26b1
                              try clear c28
                              try clear c28b0
                              try clear c28b1
                              try clear c29
                              try clear c31
                              try clear c35
                              try clear c37
                              try clear c37b0
                              try clear c37b1
                              try clear c38
                              try clear c41
                              try clear c41b0
                              try clear c41b1
                              try clear c42
                              try clear c44
                              try clear c44b0
                              try clear c44b1
                              try clear c45
                              try clear c47
                              try clear c47b0
                              try clear c47b1
                              try clear c48
                              try clear c50
                              try clear hcz10_0
                              try clear hcz10_1
                              try clear hcz10_2
                              try clear hcz10_3
                              try clear hcz13_0
                              try clear hcz13_1
                              try clear hcz13_2
                              try clear hcz13_3
                              try clear hcz15_0
                              try clear hcz15_1
                              try clear hcz15_2
                              try clear hcz15_3
                              try clear hcz18_0
                              try clear hcz18_1
                              try clear hcz18_2
                              try clear hcz18_3
                              try clear hcz21_0
                              try clear hcz21_1
                              try clear hcz21_2
                              try clear hcz21_3
                              try clear hcz22_0
                              try clear hcz22_1
                              try clear hcz22_2
                              try clear hcz22_3
                              try clear hcz25_0
                              try clear hcz25_1
                              try clear hcz25_2
                              try clear hcz25_3
                              try clear hcz30_0
                              try clear hcz30_1
                              try clear hcz30_2
                              try clear hcz30_3
                              try clear hcz32_0
                              try clear hcz32_1
                              try clear hcz32_2
                              try clear hcz32_3
                              try clear hcz33_0
                              try clear hcz33_1
                              try clear hcz33_2
                              try clear hcz33_3
                              try clear hcz36_0
                              try clear hcz36_1
                              try clear hcz36_2
                              try clear hcz36_3
                              try clear hcz39_0
                              try clear hcz39_1
                              try clear hcz39_2
                              try clear hcz39_3
                              try clear hcz43_0
                              try clear hcz43_1
                              try clear hcz43_2
                              try clear hcz43_3
                              try clear hcz46_0
                              try clear hcz46_1
                              try clear hcz46_2
                              try clear hcz46_3
                              try clear hcz49_0
                              try clear hcz49_1
                              try clear hcz49_2
                              try clear hcz49_3
                              try clear hcz51_0
                              try clear hcz51_1
                              try clear hcz51_2
                              try clear hcz51_3
                              try clear hfz10_0
                              try clear hfz10_1
                              try clear hfz10_2
                              try clear hfz10_3
                              try clear hfz13_0
                              try clear hfz13_1
                              try clear hfz13_2
                              try clear hfz13_3
                              try clear hfz15_0
                              try clear hfz15_1
                              try clear hfz15_2
                              try clear hfz15_3
                              try clear hfz18_0
                              try clear hfz18_1
                              try clear hfz18_2
                              try clear hfz18_3
                              try clear hfz21_0
                              try clear hfz21_1
                              try clear hfz21_2
                              try clear hfz21_3
                              try clear hfz22_0
                              try clear hfz22_1
                              try clear hfz22_2
                              try clear hfz22_3
                              try clear hfz25_0
                              try clear hfz25_1
                              try clear hfz25_2
                              try clear hfz25_3
                              try clear hfz30_0
                              try clear hfz30_1
                              try clear hfz30_2
                              try clear hfz30_3
                              try clear hfz32_0
                              try clear hfz32_1
                              try clear hfz32_2
                              try clear hfz32_3
                              try clear hfz33_0
                              try clear hfz33_1
                              try clear hfz33_2
                              try clear hfz33_3
                              try clear hfz36_0
                              try clear hfz36_1
                              try clear hfz36_2
                              try clear hfz36_3
                              try clear hfz39_0
                              try clear hfz39_1
                              try clear hfz39_2
                              try clear hfz39_3
                              try clear hfz43_0
                              try clear hfz43_1
                              try clear hfz43_2
                              try clear hfz43_3
                              try clear hfz46_0
                              try clear hfz46_1
                              try clear hfz46_2
                              try clear hfz46_3
                              try clear hfz49_0
                              try clear hfz49_1
                              try clear hfz49_2
                              try clear hfz49_3
                              try clear hfz51_0
                              try clear hfz51_1
                              try clear hfz51_2
                              try clear hfz51_3
                              try clear hx106_0
                              try clear hx106_1
                              try clear hx106_2
                              try clear hx106_3
                              try clear p1
                              try clear p10
                              try clear p106
                              try clear p2
                              try clear p6
                              try clear q1
                              try clear q10
                              try clear q106
                              obtain ⟨kq, x78_39, rfl, HA, HJ39, BK105, BK107, HB⟩ := hcut
                              cases kq with
                              | zero => exact absurd HA.out (by simp [doorwardref19_Walk.j4])
                              | succ kj39 =>
                                have H := HA.out
                                clear HA
                                simp only [doorwardref19_Walk.j4] at H
                                by_cases c52 : x78_39 = true
                                · subst c52
                                  have H1 : ((doorwardref19_holds.f ((rd_T40 l0 x6_1).f0) ((rd_T40 l0 x6_1).f1) ((rd_T40 l0 x6_1).f2) ((rd_T40 l0 x6_1).f3) x5_33).bind fun t110 => (if t110 = true then ((doorwardref19_on.f kj39 l0 x6_1 ((rd_T40 l0 x6_1).f2)).bind fun t111 => (if t111 < 0 then (some (((rd_T40 l0 x6_1).f2), 0, false, false)) else (doorwardref19_Walk.l0 kj39 l0 a1 x5_33 (wrap64 (t111 + 1))))) else ((doorwardref19_on.f kj39 l0 x6_1 ((rd_T40 l0 x6_1).f3)).bind fun t112 => (if t112 < 0 then (some (((rd_T40 l0 x6_1).f3), 0, false, false)) else (doorwardref19_Walk.l0 kj39 l0 a1 x5_33 (wrap64 (t112 + 1))))))) = some (r1, r2, r3, r4) := by rw [if_pos rfl] at H; exact H
                                  clear H
                                  have H := H1
                                  clear H1
                                  replace H := Option.bind_eq_some_iff.mp H
                                  obtain ⟨t110, A530, H⟩ := H
                                  replace H : (if t110 = true then ((doorwardref19_on.f kj39 l0 x6_1 ((rd_T40 l0 x6_1).f2)).bind fun t111 => (if t111 < 0 then (some (((rd_T40 l0 x6_1).f2), 0, false, false)) else (doorwardref19_Walk.l0 kj39 l0 a1 x5_33 (wrap64 (t111 + 1))))) else ((doorwardref19_on.f kj39 l0 x6_1 ((rd_T40 l0 x6_1).f3)).bind fun t112 => (if t112 < 0 then (some (((rd_T40 l0 x6_1).f3), 0, false, false)) else (doorwardref19_Walk.l0 kj39 l0 a1 x5_33 (wrap64 (t112 + 1)))))) = some (r1, r2, r3, r4) := H
                                  have A53 := Aside0.mk A530
                                  clear A530
                                  by_cases c54 : t110 = true
                                  · subst c54
                                    have H1 : ((doorwardref19_on.f kj39 l0 x6_1 ((rd_T40 l0 x6_1).f2)).bind fun t111 => (if t111 < 0 then (some (((rd_T40 l0 x6_1).f2), 0, false, false)) else (doorwardref19_Walk.l0 kj39 l0 a1 x5_33 (wrap64 (t111 + 1))))) = some (r1, r2, r3, r4) := by rw [if_pos rfl] at H; exact H
                                    clear H
                                    have H := H1
                                    clear H1
                                    replace H := Option.bind_eq_some_iff.mp H
                                    obtain ⟨t111, A550, H⟩ := H
                                    replace H : (if t111 < 0 then (some (((rd_T40 l0 x6_1).f2), 0, false, false)) else (doorwardref19_Walk.l0 kj39 l0 a1 x5_33 (wrap64 (t111 + 1)))) = some (r1, r2, r3, r4) := H
                                    have A55 := Aside0.mk A550
                                    clear A550
                                    by_cases c56 : t111 < 0
                                    · rw [if_pos c56] at H
                                      have c56b0 : decide (t111 < 0) = true := decide_eq_true c56
                                      clear c56
                                      simp only [Option.some.injEq, Prod.mk.injEq] at H
                                      obtain ⟨rfl, rfl, rfl, rfl⟩ := H
                                      have hnb57 := NB107_105.out
                                      have hnc57 := NB105_107.out
                                      have hcz58_0 : wc.cell? ⟨gb107, 0, none⟩ = some (.int .i64 ((rd_T40 l0 x6_1).f0)) := (blk_cell BK107.out 0).trans rfl
                                      have hcz58_1 : wc.cell? ⟨gb107, 1, none⟩ = some (.int .u32 ((rd_T40 l0 x6_1).f1)) := (blk_cell BK107.out 1).trans rfl
                                      have hcz58_2 : wc.cell? ⟨gb107, 2, none⟩ = some (.int .i64 ((rd_T40 l0 x6_1).f2)) := (blk_cell BK107.out 2).trans rfl
                                      have hcz58_3 : wc.cell? ⟨gb107, 3, none⟩ = some (.int .i64 ((rd_T40 l0 x6_1).f3)) := (blk_cell BK107.out 3).trans rfl
                                      have hfz58_0 := blk_frozen BK107.out 0
                                      have hfz58_1 := blk_frozen BK107.out 1
                                      have hfz58_2 := blk_frozen BK107.out 2
                                      have hfz58_3 := blk_frozen BK107.out 3
                                      go_wp2_with (first | ((with_reducible refine gate_callee (f := 84) rfl ?_); refine goesL_ (some 83) rfl rfl Try.func84 (by kernel_rfl) rfl #[.agg #[.int .i64 ((rd_T40 l0 x6_1).f0), .int .u32 ((rd_T40 l0 x6_1).f1), .int .i64 ((rd_T40 l0 x6_1).f2), .int .i64 ((rd_T40 l0 x6_1).f3)], .int .u32 x5_33] rfl (by (try simp only [List.map_toArray, List.map_cons, List.map_nil]); first | done | rfl | (simp only [List.length_drop, List.length_take]; rfl)) ?_; (with_reducible refine (doorwardref19_holds.calls ((rd_T40 l0 x6_1).f0) ((rd_T40 l0 x6_1).f1) ((rd_T40 l0 x6_1).f2) ((rd_T40 l0 x6_1).f3) x5_33 true _ A53.out).mono ?_); rintro e w59 ⟨rfl, hb⟩; refine ⟨_, rfl, ?_⟩; have n0_ := Aside0.mk (blk_below (g := gb105) (o := .cells #[.int .i64 x106000_22, .int .u32 x106001_22, .bool x106002_22, .bool x106003_22] 36 (0, 0)) (by (with_reducible repeat (first | refine blk_drewN ?_ _ | refine blk_drew ?_ | refine blk_alloc ?_ _)); exact BK105.out) hb); have n1_ := Aside0.mk (blk_below (g := gb107) (o := .cells #[.int .i64 ((rd_T40 l0 x6_1).f0), .int .u32 ((rd_T40 l0 x6_1).f1), .int .i64 ((rd_T40 l0 x6_1).f2), .int .i64 ((rd_T40 l0 x6_1).f3)] 40 (0, 0)) (by (with_reducible repeat (first | refine blk_drewN ?_ _ | refine blk_drew ?_ | refine blk_alloc ?_ _)); exact BK107.out) hb); have n2_ := Aside0.mk (below_step (by repeat (first | (with_reducible first | exact HB.out | apply below_alloc | apply pw_below_drewN | apply below_drew1 | refine below_set ?_ GE105.out | refine below_set ?_ GE107.out) | exact HB.out)) hb); clear BK105; clear BK107; clear HB; have BK105 := n0_; have BK107 := n1_; have HB := n2_; clear n0_ n1_ n2_; (try clear hb); (try clear hb2); (try clear hk); (try clear hi); have hcz60_0 : w59.cell? ⟨gb107, 0, none⟩ = some (.int .i64 ((rd_T40 l0 x6_1).f0)) := (blk_cell BK107.out 0).trans rfl; have hcz60_1 : w59.cell? ⟨gb107, 1, none⟩ = some (.int .u32 ((rd_T40 l0 x6_1).f1)) := (blk_cell BK107.out 1).trans rfl; have hcz60_2 : w59.cell? ⟨gb107, 2, none⟩ = some (.int .i64 ((rd_T40 l0 x6_1).f2)) := (blk_cell BK107.out 2).trans rfl; have hcz60_3 : w59.cell? ⟨gb107, 3, none⟩ = some (.int .i64 ((rd_T40 l0 x6_1).f3)) := (blk_cell BK107.out 3).trans rfl; have hfz60_0 := blk_frozen BK107.out 0; have hfz60_1 := blk_frozen BK107.out 1; have hfz60_2 := blk_frozen BK107.out 2; have hfz60_3 := blk_frozen BK107.out 3) | ((with_reducible refine gate_callee (f := 85) rfl ?_); refine goesL_ (some 89) rfl rfl Try.func85 (by kernel_rfl) rfl #[.slice (some ad106) l0.length c0, .int .i64 x6_1, .int .i64 ((rd_T40 l0 x6_1).f2)] rfl (by (try simp only [List.map_toArray, List.map_cons, List.map_nil]); first | done | rfl | (simp only [List.length_drop, List.length_take]; rfl)) ?_; (with_reducible refine (doorwardref19_on.calls kj39 _ _ l0 x6_1 ((rd_T40 l0 x6_1).f2) t111 _ ?side1 ?side2 A55.out).mono ?_); (case side1 => repeat (first | exact (Kd.C_below HR0.out HB.out) | (with_reducible refine Kd.C_alloc ?_ _) | (with_reducible refine Kd.C_drewN ?_ _) | (with_reducible refine Kd.C_drew ?_))); (case side2 => exact HC0.out); rintro e w' ⟨rfl, ⟨nd, rfl⟩⟩; refine ⟨_, rfl, ?_⟩; (try (rw [drewN_self w59]; generalize hq_ : World.drewN w59 _ = w59; have n0_ : Aside0 (w59.heap[gb105]? = some (.cells #[.int .i64 x106000_22, .int .u32 x106001_22, .bool x106002_22, .bool x106003_22] 36 (0, 0))) := ⟨by rw [← hq_]; exact (by (with_reducible repeat (first | refine blk_drewN ?_ _ | refine blk_drew ?_ | refine blk_alloc ?_ _)); exact BK105.out)⟩; have n1_ : Aside0 (w59.heap[gb107]? = some (.cells #[.int .i64 ((rd_T40 l0 x6_1).f0), .int .u32 ((rd_T40 l0 x6_1).f1), .int .i64 ((rd_T40 l0 x6_1).f2), .int .i64 ((rd_T40 l0 x6_1).f3)] 40 (0, 0))) := ⟨by rw [← hq_]; exact (by (with_reducible repeat (first | refine blk_drewN ?_ _ | refine blk_drew ?_ | refine blk_alloc ?_ _)); exact BK107.out)⟩; have n2_ : Aside0 (Below w.heap.size w w59) := ⟨by rw [← hq_]; exact (by repeat (first | (with_reducible first | exact HB.out | apply below_alloc | apply pw_below_drewN | apply below_drew1 | refine below_set ?_ GE105.out | refine below_set ?_ GE107.out) | exact HB.out))⟩; clear BK105 BK107 HB hq_; have BK105 := n0_; have BK107 := n1_; have HB := n2_; clear n0_ n1_ n2_)); have hcz61_0 : w59.cell? ⟨gb105, 0, none⟩ = some (.int .i64 x106000_22) := (blk_cell BK105.out 0).trans rfl; have hcz61_1 : w59.cell? ⟨gb105, 1, none⟩ = some (.int .u32 x106001_22) := (blk_cell BK105.out 1).trans rfl; have hcz61_2 : w59.cell? ⟨gb105, 2, none⟩ = some (.bool x106002_22) := (blk_cell BK105.out 2).trans rfl; have hcz61_3 : w59.cell? ⟨gb105, 3, none⟩ = some (.bool x106003_22) := (blk_cell BK105.out 3).trans rfl; have hfz61_0 := blk_frozen BK105.out 0; have hfz61_1 := blk_frozen BK105.out 1; have hfz61_2 := blk_frozen BK105.out 2; have hfz61_3 := blk_frozen BK105.out 3))
                                      refine bodyPost_ret (results_cell_row rfl _ _ gb105 36 #[.int .i64 ((rd_T40 l0 x6_1).f2), .int .u32 0, .bool false, .bool false] (0, 0) _ rfl (by (with_reducible repeat (first | refine blk_drewN ?_ _ | refine blk_drew ?_ | refine blk_alloc ?_ _)); refine blk_put (cs := #[.int .i64 ((rd_T40 l0 x6_1).f2), .int .u32 0, .bool false, .bool x106003_22]) ?_ 3 _ rfl; (with_reducible repeat (first | refine blk_drewN ?_ _ | refine blk_drew ?_ | refine blk_alloc ?_ _)); refine blk_put (cs := #[.int .i64 ((rd_T40 l0 x6_1).f2), .int .u32 0, .bool x106002_22, .bool x106003_22]) ?_ 2 _ rfl; (with_reducible repeat (first | refine blk_drewN ?_ _ | refine blk_drew ?_ | refine blk_alloc ?_ _)); refine blk_put (cs := #[.int .i64 ((rd_T40 l0 x6_1).f2), .int .u32 x106001_22, .bool x106002_22, .bool x106003_22]) ?_ 1 _ rfl; (with_reducible repeat (first | refine blk_drewN ?_ _ | refine blk_drew ?_ | refine blk_alloc ?_ _)); refine blk_put (cs := #[.int .i64 x106000_22, .int .u32 x106001_22, .bool x106002_22, .bool x106003_22]) ?_ 0 _ rfl; (with_reducible repeat (first | refine blk_drewN ?_ _ | refine blk_drew ?_ | refine blk_alloc ?_ _)); exact BK105.out) Try.underlying36 rfl (by kernel_rfl)) rfl ?_
                                      exact ⟨by first | rfl | (simp [errW_none, errW_some] <;> rfl) | (simp [*, errW_none, errW_some] <;> rfl), by repeat (first | (with_reducible first | exact HB.out | apply below_alloc | apply pw_below_drewN | apply below_drew1 | refine below_set ?_ GE105.out | refine below_set ?_ GE107.out) | exact HB.out)⟩
                                    · rw [if_neg c56] at H
                                      have c56b0 : decide (t111 < 0) = false := decide_eq_false c56
                                      clear c56
                                      have H' := Aside0.mk H
                                      clear H
                                      have hnb62 := NB107_105.out
                                      have hnc62 := NB105_107.out
                                      have hcz63_0 : wc.cell? ⟨gb107, 0, none⟩ = some (.int .i64 ((rd_T40 l0 x6_1).f0)) := (blk_cell BK107.out 0).trans rfl
                                      have hcz63_1 : wc.cell? ⟨gb107, 1, none⟩ = some (.int .u32 ((rd_T40 l0 x6_1).f1)) := (blk_cell BK107.out 1).trans rfl
                                      have hcz63_2 : wc.cell? ⟨gb107, 2, none⟩ = some (.int .i64 ((rd_T40 l0 x6_1).f2)) := (blk_cell BK107.out 2).trans rfl
                                      have hcz63_3 : wc.cell? ⟨gb107, 3, none⟩ = some (.int .i64 ((rd_T40 l0 x6_1).f3)) := (blk_cell BK107.out 3).trans rfl
                                      have hfz63_0 := blk_frozen BK107.out 0
                                      have hfz63_1 := blk_frozen BK107.out 1
                                      have hfz63_2 := blk_frozen BK107.out 2
                                      have hfz63_3 := blk_frozen BK107.out 3
                                      go_wp2_with (first | ((with_reducible refine gate_callee (f := 84) rfl ?_); refine goesL_ (some 83) rfl rfl Try.func84 (by kernel_rfl) rfl #[.agg #[.int .i64 ((rd_T40 l0 x6_1).f0), .int .u32 ((rd_T40 l0 x6_1).f1), .int .i64 ((rd_T40 l0 x6_1).f2), .int .i64 ((rd_T40 l0 x6_1).f3)], .int .u32 x5_33] rfl (by (try simp only [List.map_toArray, List.map_cons, List.map_nil]); first | done | rfl | (simp only [List.length_drop, List.length_take]; rfl)) ?_; (with_reducible refine (doorwardref19_holds.calls ((rd_T40 l0 x6_1).f0) ((rd_T40 l0 x6_1).f1) ((rd_T40 l0 x6_1).f2) ((rd_T40 l0 x6_1).f3) x5_33 true _ A53.out).mono ?_); rintro e w64 ⟨rfl, hb⟩; refine ⟨_, rfl, ?_⟩; have n0_ := Aside0.mk (blk_below (g := gb105) (o := .cells #[.int .i64 x106000_22, .int .u32 x106001_22, .bool x106002_22, .bool x106003_22] 36 (0, 0)) (by (with_reducible repeat (first | refine blk_drewN ?_ _ | refine blk_drew ?_ | refine blk_alloc ?_ _)); exact BK105.out) hb); have n1_ := Aside0.mk (blk_below (g := gb107) (o := .cells #[.int .i64 ((rd_T40 l0 x6_1).f0), .int .u32 ((rd_T40 l0 x6_1).f1), .int .i64 ((rd_T40 l0 x6_1).f2), .int .i64 ((rd_T40 l0 x6_1).f3)] 40 (0, 0)) (by (with_reducible repeat (first | refine blk_drewN ?_ _ | refine blk_drew ?_ | refine blk_alloc ?_ _)); exact BK107.out) hb); have n2_ := Aside0.mk (below_step (by repeat (first | (with_reducible first | exact HB.out | apply below_alloc | apply pw_below_drewN | apply below_drew1 | refine below_set ?_ GE105.out | refine below_set ?_ GE107.out) | exact HB.out)) hb); clear BK105; clear BK107; clear HB; have BK105 := n0_; have BK107 := n1_; have HB := n2_; clear n0_ n1_ n2_; (try clear hb); (try clear hb2); (try clear hk); (try clear hi); have hcz65_0 : w64.cell? ⟨gb107, 0, none⟩ = some (.int .i64 ((rd_T40 l0 x6_1).f0)) := (blk_cell BK107.out 0).trans rfl; have hcz65_1 : w64.cell? ⟨gb107, 1, none⟩ = some (.int .u32 ((rd_T40 l0 x6_1).f1)) := (blk_cell BK107.out 1).trans rfl; have hcz65_2 : w64.cell? ⟨gb107, 2, none⟩ = some (.int .i64 ((rd_T40 l0 x6_1).f2)) := (blk_cell BK107.out 2).trans rfl; have hcz65_3 : w64.cell? ⟨gb107, 3, none⟩ = some (.int .i64 ((rd_T40 l0 x6_1).f3)) := (blk_cell BK107.out 3).trans rfl; have hfz65_0 := blk_frozen BK107.out 0; have hfz65_1 := blk_frozen BK107.out 1; have hfz65_2 := blk_frozen BK107.out 2; have hfz65_3 := blk_frozen BK107.out 3) | ((with_reducible refine gate_callee (f := 85) rfl ?_); refine goesL_ (some 89) rfl rfl Try.func85 (by kernel_rfl) rfl #[.slice (some ad106) l0.length c0, .int .i64 x6_1, .int .i64 ((rd_T40 l0 x6_1).f2)] rfl (by (try simp only [List.map_toArray, List.map_cons, List.map_nil]); first | done | rfl | (simp only [List.length_drop, List.length_take]; rfl)) ?_; (with_reducible refine (doorwardref19_on.calls kj39 _ _ l0 x6_1 ((rd_T40 l0 x6_1).f2) t111 _ ?side1 ?side2 A55.out).mono ?_); (case side1 => repeat (first | exact (Kd.C_below HR0.out HB.out) | (with_reducible refine Kd.C_alloc ?_ _) | (with_reducible refine Kd.C_drewN ?_ _) | (with_reducible refine Kd.C_drew ?_))); (case side2 => exact HC0.out); rintro e w' ⟨rfl, ⟨nd, rfl⟩⟩; refine ⟨_, rfl, ?_⟩))
                                      go_roundg kj39
                                      case measure => have := HK1.out; have := HJ6.out; have := HJ22.out; have := HJ33.out; have := HJ39.out; omega
                                      case rel => exact ⟨(x5_33), (wrap64 (t111 + 1)), (x106000_22), (x106001_22), (x106002_22), (x106003_22), (by first | rfl | (simp; done) | (simp [*]; done)), (by first | rfl | (simp; done) | (simp [*]; done)), H', ⟨by have := HK1.out; have := HJ6.out; have := HJ22.out; have := HJ33.out; have := HJ39.out; omega⟩, ⟨by (with_reducible repeat (first | refine blk_drewN ?_ _ | refine blk_drew ?_ | refine blk_alloc ?_ _)); exact BK105.out⟩, ⟨by repeat (first | (with_reducible first | exact HB.out | apply below_alloc | apply pw_below_drewN | apply below_drew1 | refine below_set ?_ GE105.out | refine below_set ?_ GE107.out) | exact HB.out)⟩⟩
                                  · replace c54 := Bool.eq_false_iff.mpr c54
                                    subst c54
                                    have H1 : ((doorwardref19_on.f kj39 l0 x6_1 ((rd_T40 l0 x6_1).f3)).bind fun t112 => (if t112 < 0 then (some (((rd_T40 l0 x6_1).f3), 0, false, false)) else (doorwardref19_Walk.l0 kj39 l0 a1 x5_33 (wrap64 (t112 + 1))))) = some (r1, r2, r3, r4) := by rw [if_neg (show ¬ (false = true) by decide)] at H; exact H
                                    clear H
                                    have H := H1
                                    clear H1
                                    replace H := Option.bind_eq_some_iff.mp H
                                    obtain ⟨t112, A660, H⟩ := H
                                    replace H : (if t112 < 0 then (some (((rd_T40 l0 x6_1).f3), 0, false, false)) else (doorwardref19_Walk.l0 kj39 l0 a1 x5_33 (wrap64 (t112 + 1)))) = some (r1, r2, r3, r4) := H
                                    have A66 := Aside0.mk A660
                                    clear A660
                                    by_cases c67 : t112 < 0
                                    · rw [if_pos c67] at H
                                      have c67b0 : decide (t112 < 0) = true := decide_eq_true c67
                                      clear c67
                                      simp only [Option.some.injEq, Prod.mk.injEq] at H
                                      obtain ⟨rfl, rfl, rfl, rfl⟩ := H
                                      have hnb68 := NB107_105.out
                                      have hnc68 := NB105_107.out
                                      have hcz69_0 : wc.cell? ⟨gb107, 0, none⟩ = some (.int .i64 ((rd_T40 l0 x6_1).f0)) := (blk_cell BK107.out 0).trans rfl
                                      have hcz69_1 : wc.cell? ⟨gb107, 1, none⟩ = some (.int .u32 ((rd_T40 l0 x6_1).f1)) := (blk_cell BK107.out 1).trans rfl
                                      have hcz69_2 : wc.cell? ⟨gb107, 2, none⟩ = some (.int .i64 ((rd_T40 l0 x6_1).f2)) := (blk_cell BK107.out 2).trans rfl
                                      have hcz69_3 : wc.cell? ⟨gb107, 3, none⟩ = some (.int .i64 ((rd_T40 l0 x6_1).f3)) := (blk_cell BK107.out 3).trans rfl
                                      have hfz69_0 := blk_frozen BK107.out 0
                                      have hfz69_1 := blk_frozen BK107.out 1
                                      have hfz69_2 := blk_frozen BK107.out 2
                                      have hfz69_3 := blk_frozen BK107.out 3
                                      go_wp2_with (first | ((with_reducible refine gate_callee (f := 84) rfl ?_); refine goesL_ (some 83) rfl rfl Try.func84 (by kernel_rfl) rfl #[.agg #[.int .i64 ((rd_T40 l0 x6_1).f0), .int .u32 ((rd_T40 l0 x6_1).f1), .int .i64 ((rd_T40 l0 x6_1).f2), .int .i64 ((rd_T40 l0 x6_1).f3)], .int .u32 x5_33] rfl (by (try simp only [List.map_toArray, List.map_cons, List.map_nil]); first | done | rfl | (simp only [List.length_drop, List.length_take]; rfl)) ?_; (with_reducible refine (doorwardref19_holds.calls ((rd_T40 l0 x6_1).f0) ((rd_T40 l0 x6_1).f1) ((rd_T40 l0 x6_1).f2) ((rd_T40 l0 x6_1).f3) x5_33 false _ A53.out).mono ?_); rintro e w70 ⟨rfl, hb⟩; refine ⟨_, rfl, ?_⟩; have n0_ := Aside0.mk (blk_below (g := gb105) (o := .cells #[.int .i64 x106000_22, .int .u32 x106001_22, .bool x106002_22, .bool x106003_22] 36 (0, 0)) (by (with_reducible repeat (first | refine blk_drewN ?_ _ | refine blk_drew ?_ | refine blk_alloc ?_ _)); exact BK105.out) hb); have n1_ := Aside0.mk (blk_below (g := gb107) (o := .cells #[.int .i64 ((rd_T40 l0 x6_1).f0), .int .u32 ((rd_T40 l0 x6_1).f1), .int .i64 ((rd_T40 l0 x6_1).f2), .int .i64 ((rd_T40 l0 x6_1).f3)] 40 (0, 0)) (by (with_reducible repeat (first | refine blk_drewN ?_ _ | refine blk_drew ?_ | refine blk_alloc ?_ _)); exact BK107.out) hb); have n2_ := Aside0.mk (below_step (by repeat (first | (with_reducible first | exact HB.out | apply below_alloc | apply pw_below_drewN | apply below_drew1 | refine below_set ?_ GE105.out | refine below_set ?_ GE107.out) | exact HB.out)) hb); clear BK105; clear BK107; clear HB; have BK105 := n0_; have BK107 := n1_; have HB := n2_; clear n0_ n1_ n2_; (try clear hb); (try clear hb2); (try clear hk); (try clear hi)) | ((with_reducible refine gate_callee (f := 85) rfl ?_); refine goesL_ (some 89) rfl rfl Try.func85 (by kernel_rfl) rfl #[.slice (some ad106) l0.length c0, .int .i64 x6_1, .int .i64 ((rd_T40 l0 x6_1).f3)] rfl (by (try simp only [List.map_toArray, List.map_cons, List.map_nil]); first | done | rfl | (simp only [List.length_drop, List.length_take]; rfl)) ?_; (with_reducible refine (doorwardref19_on.calls kj39 _ _ l0 x6_1 ((rd_T40 l0 x6_1).f3) t112 _ ?side1 ?side2 A66.out).mono ?_); (case side1 => repeat (first | exact (Kd.C_below HR0.out HB.out) | (with_reducible refine Kd.C_alloc ?_ _) | (with_reducible refine Kd.C_drewN ?_ _) | (with_reducible refine Kd.C_drew ?_))); (case side2 => exact HC0.out); rintro e w' ⟨rfl, ⟨nd, rfl⟩⟩; refine ⟨_, rfl, ?_⟩; (try (rw [drewN_self w70]; generalize hq_ : World.drewN w70 _ = w70; have n0_ : Aside0 (w70.heap[gb105]? = some (.cells #[.int .i64 x106000_22, .int .u32 x106001_22, .bool x106002_22, .bool x106003_22] 36 (0, 0))) := ⟨by rw [← hq_]; exact (by (with_reducible repeat (first | refine blk_drewN ?_ _ | refine blk_drew ?_ | refine blk_alloc ?_ _)); exact BK105.out)⟩; have n1_ : Aside0 (w70.heap[gb107]? = some (.cells #[.int .i64 ((rd_T40 l0 x6_1).f0), .int .u32 ((rd_T40 l0 x6_1).f1), .int .i64 ((rd_T40 l0 x6_1).f2), .int .i64 ((rd_T40 l0 x6_1).f3)] 40 (0, 0))) := ⟨by rw [← hq_]; exact (by (with_reducible repeat (first | refine blk_drewN ?_ _ | refine blk_drew ?_ | refine blk_alloc ?_ _)); exact BK107.out)⟩; have n2_ : Aside0 (Below w.heap.size w w70) := ⟨by rw [← hq_]; exact (by repeat (first | (with_reducible first | exact HB.out | apply below_alloc | apply pw_below_drewN | apply below_drew1 | refine below_set ?_ GE105.out | refine below_set ?_ GE107.out) | exact HB.out))⟩; clear BK105 BK107 HB hq_; have BK105 := n0_; have BK107 := n1_; have HB := n2_; clear n0_ n1_ n2_)); have hcz71_0 : w70.cell? ⟨gb105, 0, none⟩ = some (.int .i64 x106000_22) := (blk_cell BK105.out 0).trans rfl; have hcz71_1 : w70.cell? ⟨gb105, 1, none⟩ = some (.int .u32 x106001_22) := (blk_cell BK105.out 1).trans rfl; have hcz71_2 : w70.cell? ⟨gb105, 2, none⟩ = some (.bool x106002_22) := (blk_cell BK105.out 2).trans rfl; have hcz71_3 : w70.cell? ⟨gb105, 3, none⟩ = some (.bool x106003_22) := (blk_cell BK105.out 3).trans rfl; have hfz71_0 := blk_frozen BK105.out 0; have hfz71_1 := blk_frozen BK105.out 1; have hfz71_2 := blk_frozen BK105.out 2; have hfz71_3 := blk_frozen BK105.out 3))
                                      refine bodyPost_ret (results_cell_row rfl _ _ gb105 36 #[.int .i64 ((rd_T40 l0 x6_1).f3), .int .u32 0, .bool false, .bool false] (0, 0) _ rfl (by (with_reducible repeat (first | refine blk_drewN ?_ _ | refine blk_drew ?_ | refine blk_alloc ?_ _)); refine blk_put (cs := #[.int .i64 ((rd_T40 l0 x6_1).f3), .int .u32 0, .bool false, .bool x106003_22]) ?_ 3 _ rfl; (with_reducible repeat (first | refine blk_drewN ?_ _ | refine blk_drew ?_ | refine blk_alloc ?_ _)); refine blk_put (cs := #[.int .i64 ((rd_T40 l0 x6_1).f3), .int .u32 0, .bool x106002_22, .bool x106003_22]) ?_ 2 _ rfl; (with_reducible repeat (first | refine blk_drewN ?_ _ | refine blk_drew ?_ | refine blk_alloc ?_ _)); refine blk_put (cs := #[.int .i64 ((rd_T40 l0 x6_1).f3), .int .u32 x106001_22, .bool x106002_22, .bool x106003_22]) ?_ 1 _ rfl; (with_reducible repeat (first | refine blk_drewN ?_ _ | refine blk_drew ?_ | refine blk_alloc ?_ _)); refine blk_put (cs := #[.int .i64 x106000_22, .int .u32 x106001_22, .bool x106002_22, .bool x106003_22]) ?_ 0 _ rfl; (with_reducible repeat (first | refine blk_drewN ?_ _ | refine blk_drew ?_ | refine blk_alloc ?_ _)); exact BK105.out) Try.underlying36 rfl (by kernel_rfl)) rfl ?_
                                      exact ⟨by first | rfl | (simp [errW_none, errW_some] <;> rfl) | (simp [*, errW_none, errW_some] <;> rfl), by repeat (first | (with_reducible first | exact HB.out | apply below_alloc | apply pw_below_drewN | apply below_drew1 | refine below_set ?_ GE105.out | refine below_set ?_ GE107.out) | exact HB.out)⟩
                                    · rw [if_neg c67] at H
                                      have c67b0 : decide (t112 < 0) = false := decide_eq_false c67
                                      clear c67
                                      have H' := Aside0.mk H
                                      clear H
                                      have hnb72 := NB107_105.out
                                      have hnc72 := NB105_107.out
                                      have hcz73_0 : wc.cell? ⟨gb107, 0, none⟩ = some (.int .i64 ((rd_T40 l0 x6_1).f0)) := (blk_cell BK107.out 0).trans rfl
                                      have hcz73_1 : wc.cell? ⟨gb107, 1, none⟩ = some (.int .u32 ((rd_T40 l0 x6_1).f1)) := (blk_cell BK107.out 1).trans rfl
                                      have hcz73_2 : wc.cell? ⟨gb107, 2, none⟩ = some (.int .i64 ((rd_T40 l0 x6_1).f2)) := (blk_cell BK107.out 2).trans rfl
                                      have hcz73_3 : wc.cell? ⟨gb107, 3, none⟩ = some (.int .i64 ((rd_T40 l0 x6_1).f3)) := (blk_cell BK107.out 3).trans rfl
                                      have hfz73_0 := blk_frozen BK107.out 0
                                      have hfz73_1 := blk_frozen BK107.out 1
                                      have hfz73_2 := blk_frozen BK107.out 2
                                      have hfz73_3 := blk_frozen BK107.out 3
                                      go_wp2_with (first | ((with_reducible refine gate_callee (f := 84) rfl ?_); refine goesL_ (some 83) rfl rfl Try.func84 (by kernel_rfl) rfl #[.agg #[.int .i64 ((rd_T40 l0 x6_1).f0), .int .u32 ((rd_T40 l0 x6_1).f1), .int .i64 ((rd_T40 l0 x6_1).f2), .int .i64 ((rd_T40 l0 x6_1).f3)], .int .u32 x5_33] rfl (by (try simp only [List.map_toArray, List.map_cons, List.map_nil]); first | done | rfl | (simp only [List.length_drop, List.length_take]; rfl)) ?_; (with_reducible refine (doorwardref19_holds.calls ((rd_T40 l0 x6_1).f0) ((rd_T40 l0 x6_1).f1) ((rd_T40 l0 x6_1).f2) ((rd_T40 l0 x6_1).f3) x5_33 false _ A53.out).mono ?_); rintro e w74 ⟨rfl, hb⟩; refine ⟨_, rfl, ?_⟩; have n0_ := Aside0.mk (blk_below (g := gb105) (o := .cells #[.int .i64 x106000_22, .int .u32 x106001_22, .bool x106002_22, .bool x106003_22] 36 (0, 0)) (by (with_reducible repeat (first | refine blk_drewN ?_ _ | refine blk_drew ?_ | refine blk_alloc ?_ _)); exact BK105.out) hb); have n1_ := Aside0.mk (blk_below (g := gb107) (o := .cells #[.int .i64 ((rd_T40 l0 x6_1).f0), .int .u32 ((rd_T40 l0 x6_1).f1), .int .i64 ((rd_T40 l0 x6_1).f2), .int .i64 ((rd_T40 l0 x6_1).f3)] 40 (0, 0)) (by (with_reducible repeat (first | refine blk_drewN ?_ _ | refine blk_drew ?_ | refine blk_alloc ?_ _)); exact BK107.out) hb); have n2_ := Aside0.mk (below_step (by repeat (first | (with_reducible first | exact HB.out | apply below_alloc | apply pw_below_drewN | apply below_drew1 | refine below_set ?_ GE105.out | refine below_set ?_ GE107.out) | exact HB.out)) hb); clear BK105; clear BK107; clear HB; have BK105 := n0_; have BK107 := n1_; have HB := n2_; clear n0_ n1_ n2_; (try clear hb); (try clear hb2); (try clear hk); (try clear hi)) | ((with_reducible refine gate_callee (f := 85) rfl ?_); refine goesL_ (some 89) rfl rfl Try.func85 (by kernel_rfl) rfl #[.slice (some ad106) l0.length c0, .int .i64 x6_1, .int .i64 ((rd_T40 l0 x6_1).f3)] rfl (by (try simp only [List.map_toArray, List.map_cons, List.map_nil]); first | done | rfl | (simp only [List.length_drop, List.length_take]; rfl)) ?_; (with_reducible refine (doorwardref19_on.calls kj39 _ _ l0 x6_1 ((rd_T40 l0 x6_1).f3) t112 _ ?side1 ?side2 A66.out).mono ?_); (case side1 => repeat (first | exact (Kd.C_below HR0.out HB.out) | (with_reducible refine Kd.C_alloc ?_ _) | (with_reducible refine Kd.C_drewN ?_ _) | (with_reducible refine Kd.C_drew ?_))); (case side2 => exact HC0.out); rintro e w' ⟨rfl, ⟨nd, rfl⟩⟩; refine ⟨_, rfl, ?_⟩))
                                      go_roundg kj39
                                      case measure => have := HK1.out; have := HJ6.out; have := HJ22.out; have := HJ33.out; have := HJ39.out; omega
                                      case rel => exact ⟨(x5_33), (wrap64 (t112 + 1)), (x106000_22), (x106001_22), (x106002_22), (x106003_22), (by first | rfl | (simp; done) | (simp [*]; done)), (by first | rfl | (simp; done) | (simp [*]; done)), H', ⟨by have := HK1.out; have := HJ6.out; have := HJ22.out; have := HJ33.out; have := HJ39.out; omega⟩, ⟨by (with_reducible repeat (first | refine blk_drewN ?_ _ | refine blk_drew ?_ | refine blk_alloc ?_ _)); exact BK105.out⟩, ⟨by repeat (first | (with_reducible first | exact HB.out | apply below_alloc | apply pw_below_drewN | apply below_drew1 | refine below_set ?_ GE105.out | refine below_set ?_ GE107.out) | exact HB.out)⟩⟩
                                · replace c52 := Bool.eq_false_iff.mpr c52
                                  subst c52
                                  have H1 : (doorwardref19_Walk.l0 kj39 l0 a1 x5_33 (wrap64 (x6_1 + 1))) = some (r1, r2, r3, r4) := by rw [if_neg (show ¬ (false = true) by decide)] at H; exact H
                                  clear H
                                  have H := H1
                                  clear H1
                                  have H' := Aside0.mk H
                                  clear H
                                  go_wp2
                                  go_roundg kj39
                                  case measure => have := HK1.out; have := HJ6.out; have := HJ22.out; have := HJ33.out; have := HJ39.out; omega
                                  case rel => exact ⟨(x5_33), (wrap64 (x6_1 + 1)), (x106000_22), (x106001_22), (x106002_22), (x106003_22), (by first | rfl | (simp; done) | (simp [*]; done)), (by first | rfl | (simp; done) | (simp [*]; done)), H', ⟨by have := HK1.out; have := HJ6.out; have := HJ22.out; have := HJ33.out; have := HJ39.out; omega⟩, ⟨by (with_reducible repeat (first | refine blk_drewN ?_ _ | refine blk_drew ?_ | refine blk_alloc ?_ _)); exact BK105.out⟩, ⟨by repeat (first | (with_reducible first | exact HB.out | apply below_alloc | apply pw_below_drewN | apply below_drew1 | refine below_set ?_ GE105.out | refine below_set ?_ GE107.out) | exact HB.out)⟩⟩
          · rw [if_neg c6] at H
            exact absurd H (by simp)
        · rw [if_neg c5] at H
          have c5b0 : decide (x6_1 < (l0.length : Int)) = false := decide_eq_false c5
          clear c5
          simp only [Option.some.injEq, Prod.mk.injEq] at H
          obtain ⟨rfl, rfl, rfl, rfl⟩ := H
          have hcz75_0 : wr.cell? ⟨gb105, 0, none⟩ = some (.int .i64 x106000_1) := (blk_cell BK105.out 0).trans rfl
          have hcz75_1 : wr.cell? ⟨gb105, 1, none⟩ = some (.int .u32 x106001_1) := (blk_cell BK105.out 1).trans rfl
          have hcz75_2 : wr.cell? ⟨gb105, 2, none⟩ = some (.bool x106002_1) := (blk_cell BK105.out 2).trans rfl
          have hcz75_3 : wr.cell? ⟨gb105, 3, none⟩ = some (.bool x106003_1) := (blk_cell BK105.out 3).trans rfl
          have hfz75_0 := blk_frozen BK105.out 0
          have hfz75_1 := blk_frozen BK105.out 1
          have hfz75_2 := blk_frozen BK105.out 2
          have hfz75_3 := blk_frozen BK105.out 3
          go_wp2
          refine bodyPost_ret (results_cell_row rfl _ _ gb105 36 #[.int .i64 (-1), .int .u32 0, .bool false, .bool false] (0, 0) _ rfl (by (with_reducible repeat (first | refine blk_drewN ?_ _ | refine blk_drew ?_ | refine blk_alloc ?_ _)); refine blk_put (cs := #[.int .i64 (-1), .int .u32 0, .bool false, .bool x106003_1]) ?_ 3 _ rfl; (with_reducible repeat (first | refine blk_drewN ?_ _ | refine blk_drew ?_ | refine blk_alloc ?_ _)); refine blk_put (cs := #[.int .i64 (-1), .int .u32 0, .bool x106002_1, .bool x106003_1]) ?_ 2 _ rfl; (with_reducible repeat (first | refine blk_drewN ?_ _ | refine blk_drew ?_ | refine blk_alloc ?_ _)); refine blk_put (cs := #[.int .i64 (-1), .int .u32 x106001_1, .bool x106002_1, .bool x106003_1]) ?_ 1 _ rfl; (with_reducible repeat (first | refine blk_drewN ?_ _ | refine blk_drew ?_ | refine blk_alloc ?_ _)); refine blk_put (cs := #[.int .i64 x106000_1, .int .u32 x106001_1, .bool x106002_1, .bool x106003_1]) ?_ 0 _ rfl; (with_reducible repeat (first | refine blk_drewN ?_ _ | refine blk_drew ?_ | refine blk_alloc ?_ _)); exact BK105.out) Try.underlying36 rfl (by kernel_rfl)) rfl ?_
          exact ⟨by first | rfl | (simp [errW_none, errW_some] <;> rfl) | (simp [*, errW_none, errW_some] <;> rfl), by repeat (first | (with_reducible first | exact HB.out | apply below_alloc | apply pw_below_drewN | apply below_drew1 | refine below_set ?_ GE105.out) | exact HB.out)⟩
  · rw [if_neg c3] at H
    have c3b0 : ((a1.size : Int) == 64) = false := beq_eq_false_iff_ne.mpr c3
    have c3b1 : ((a1.size : Int) != 64) = true := bne_iff_ne.mpr c3
    simp only [Option.some.injEq, Prod.mk.injEq] at H
    obtain ⟨rfl, rfl, rfl, rfl⟩ := H
    go_enter Try.func37, Try.ntmps37
    go_wp2_with (first | ((with_reducible refine gate_dst (N := 4) rfl ?_); refine box_event ?hg (N := 4) ?hd (cs := #[.int .i64 0, .int .u32 0, .bool false, .bool false]) (t := 36) ?hr ?_; (case hd => rfl); (case hg => rfl); (case hr => first | (go_simp; done) | (go_simp; rfl)); intro gb105 hg w76 hbox hb; have n0_ := Aside0.mk (below_step (by repeat (first | (with_reducible first | exact HB.out | apply below_alloc | apply pw_below_drewN | apply below_drew1) | exact HB.out)) hb); have n1_ := Aside0.mk (hbox); have n2_ := Aside0.mk ((by rw [hg]; exact (below_size (by repeat (first | (with_reducible first | exact HB.out | apply below_alloc | apply pw_below_drewN | apply below_drew1) | exact HB.out))) : w.heap.size ≤ gb105)); have n3_ := Aside0.mk ((by rw [hg]; exact (below_size (by repeat (first | (with_reducible first | exact HB.out | apply below_alloc | apply pw_below_drewN | apply below_drew1) | exact HB.out))) : w.heap.size ≤ gb105)); clear HB; have HB := n0_; have BK105 := n1_; have GW105 := n2_; have GE105 := n3_; clear n0_ n1_ n2_ n3_; clear hb hbox hg; have hcz77_0 : w76.cell? ⟨gb105, 0, none⟩ = some (.int .i64 0) := (blk_cell BK105.out 0).trans rfl; have hcz77_1 : w76.cell? ⟨gb105, 1, none⟩ = some (.int .u32 0) := (blk_cell BK105.out 1).trans rfl; have hcz77_2 : w76.cell? ⟨gb105, 2, none⟩ = some (.bool false) := (blk_cell BK105.out 2).trans rfl; have hcz77_3 : w76.cell? ⟨gb105, 3, none⟩ = some (.bool false) := (blk_cell BK105.out 3).trans rfl; have hfz77_0 := blk_frozen BK105.out 0; have hfz77_1 := blk_frozen BK105.out 1; have hfz77_2 := blk_frozen BK105.out 2; have hfz77_3 := blk_frozen BK105.out 3))
    refine bodyPost_ret (results_cell_row rfl _ _ gb105 36 #[.int .i64 0, .int .u32 0, .bool false, .bool true] (0, 0) _ rfl (by (with_reducible repeat (first | refine blk_drewN ?_ _ | refine blk_drew ?_ | refine blk_alloc ?_ _)); refine blk_put (cs := #[.int .i64 0, .int .u32 0, .bool false, .bool false]) ?_ 3 _ rfl; (with_reducible repeat (first | refine blk_drewN ?_ _ | refine blk_drew ?_ | refine blk_alloc ?_ _)); refine blk_put (cs := #[.int .i64 0, .int .u32 0, .bool false, .bool false]) ?_ 2 _ rfl; (with_reducible repeat (first | refine blk_drewN ?_ _ | refine blk_drew ?_ | refine blk_alloc ?_ _)); refine blk_put (cs := #[.int .i64 0, .int .u32 0, .bool false, .bool false]) ?_ 1 _ rfl; (with_reducible repeat (first | refine blk_drewN ?_ _ | refine blk_drew ?_ | refine blk_alloc ?_ _)); refine blk_put (cs := #[.int .i64 0, .int .u32 0, .bool false, .bool false]) ?_ 0 _ rfl; (with_reducible repeat (first | refine blk_drewN ?_ _ | refine blk_drew ?_ | refine blk_alloc ?_ _)); exact BK105.out) Try.underlying36 rfl (by kernel_rfl)) rfl ?_
    exact ⟨by first | rfl | (simp [errW_none, errW_some] <;> rfl) | (simp [*, errW_none, errW_some] <;> rfl), by repeat (first | (with_reducible first | exact HB.out | apply below_alloc | apply pw_below_drewN | apply below_drew1 | refine below_set ?_ GE105.out) | exact HB.out)⟩

end Go.Proofs.Ytoeklekjhaigoaa.W0
