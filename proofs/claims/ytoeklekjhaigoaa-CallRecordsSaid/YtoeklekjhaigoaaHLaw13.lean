import Derived.Test.YtoeklekjhaigoaaProg
import Derived.Below
import Derived.Deep.Draws
import Derived.Deep.AppendLies
import Derived.Maps.AppendAt
import Derived.OwnWalk
import Derived.Laws.BytesArg
import Derived.Laws.MakeOwn
import Derived.Laws.OwnMore
import Derived.Deep.OwnRows
import Derived.Tactics
import Derived.Lib.ConvBytes
import Derived.Laws.Slices
import Derived.WalkKit
import Derived.KernelRfl
import Derived.RowKit3
import Derived.Deep.LoopGhost
import Derived.Deep.QuietTactic
import Derived.BigQuiet
import Derived.WideLaws
import Derived.Deep.DeepCutAuto
import Derived.Deep.CutBlock
import Derived.Deep.RegionHeld3
import Derived.Laws.Rows
import Derived.Lib.AppendStr
import Derived.ArgAppend
import Derived.Laws.IdiomCopy
import Derived.OrdersHeld
import Derived.Laws.BitsLemmas
import Derived.RowKit
import Derived.Test.YtoeklekjhaigoaaWWords
import Derived.Test.YtoeklekjhaigoaaWLast
import Derived.Test.YtoeklekjhaigoaaWTab
import Derived.Test.YtoeklekjhaigoaaWFour
import Derived.Test.YtoeklekjhaigoaaWQPut
import Derived.Test.YtoeklekjhaigoaaWApart
import Derived.Test.YtoeklekjhaigoaaWArr
import Derived.Test.YtoeklekjhaigoaaWZeros
import Derived.Test.YtoeklekjhaigoaaWFoot
import Derived.Test.YtoeklekjhaigoaaWKept
import Derived.Test.YtoeklekjhaigoaaWShare
import Derived.Test.YtoeklekjhaigoaaWN
import Derived.Test.YtoeklekjhaigoaaWFootNe
import Derived.Test.YtoeklekjhaigoaaWAt
import Derived.Test.YtoeklekjhaigoaaWEqStruct
import Derived.Test.YtoeklekjhaigoaaWRepsOne
import Derived.Test.YtoeklekjhaigoaaWInv
import Derived.Test.YtoeklekjhaigoaaWInvWords
import Derived.Test.YtoeklekjhaigoaaWGuard
import Derived.Test.YtoeklekjhaigoaaWNEv
import Derived.Test.YtoeklekjhaigoaaWMore
import Derived.Laws.Tables
import Derived.Laws.CopyOwn
import Derived.Deep.WholeRow
import Derived.ChangeKeysEq
import Derived.Shelf.Abstract
import Derived.Deep.RegionLaw
import Derived.Maps.OwnSet
import Derived.Test.YtoeklekjhaigoaaHRefPack
import Derived.Test.YtoeklekjhaigoaaK49
import Derived.Test.YtoeklekjhaigoaaQCall
namespace Go.Proofs.Ytoeklekjhaigoaa.HLaw13
open Go.RowKit Go.Proofs.YtoeklekjhaigoaaW.PrintWords Go.Proofs.YtoeklekjhaigoaaW.PrintLast Go.Proofs.YtoeklekjhaigoaaW.PrintMore Go.Proofs.Ytoeklekjhaigoaa.Le Go.Proofs.Ytoeklekjhaigoaa.C1 Go.Proofs.Ytoeklekjhaigoaa.QCall Go.Proofs.Ytoeklekjhaigoaa.QLe Go.Proofs.Ytoeklekjhaigoaa.QNum Go.Proofs.Ytoeklekjhaigoaa.HPack Go.Proofs.Ytoeklekjhaigoaa.HUnpack Go.Proofs.Ytoeklekjhaigoaa.HRefPack
set_option linter.unusedVariables false
set_option linter.unusedSimpArgs false
set_option maxRecDepth 100000
attribute [local go_sem] max2_int min2_int max_two min_two max_three min_three max_four min_four IntKind.wrap_u32 IntKind.wrap_u8
theorem eqS47 (d : Nat) (w : World) (a0 a1 a2 a3 a4 a5 : Int) :
    (Op.equalIn (d + 2) 47 (.agg #[.int .u64 a0, .int .u64 a1, .int .u64 a2, .int .u64 a3, .int .u64 a4, .int .u64 a5]) (.agg #[.int .u64 a0, .int .u64 a1, .int .u64 a2, .int .u64 a3, .int .u64 a4, .int .u64 a5])).run Try.prog w = .ok true w := by
  obtain ⟨inf, hi, hs⟩ := Option.map_eq_some_iff.1 size30
  have hc : Try.prog.cellsOf 30 = 1 := by simp [Program.cellsOf, hi, hs]
  rw [run_equalIn_array w (d + 1) _ _ Try.underlying47 hi, hc]
  have h30 := Try.underlying30
  rw [show List.range 6 = [0, 1, 2, 3, 4, 5] from rfl]
  simp only [Op.eqItems, Sem.run_bind, Nat.zero_mul, Nat.one_mul, Nat.reduceMul]
  go_simp
theorem eqS49 (d : Nat) (w : World) (nr arch ip a0 a1 a2 a3 a4 a5 : Int) :
    (Op.equalIn (d + 3) 49 (.agg #[.int .u32 nr, .int .u32 arch, .int .u64 ip, .int .u64 a0, .int .u64 a1, .int .u64 a2, .int .u64 a3, .int .u64 a4, .int .u64 a5]) (.agg #[.int .u32 nr, .int .u32 arch, .int .u64 ip, .int .u64 a0, .int .u64 a1, .int .u64 a2, .int .u64 a3, .int .u64 a4, .int .u64 a5])).run Try.prog w = .ok true w := by
  refine eqA_of Try.underlying49 (by kernel_rfl) ?_
  refine eqf_end (by rfl) (by go_simp; rfl) (by go_simp; rfl) (by go_simp) ?_
  refine eqf_end (by rfl) (by go_simp; rfl) (by go_simp; rfl) (by go_simp) ?_
  refine eqf_end (by rfl) (by go_simp; rfl) (by go_simp; rfl) (by go_simp) ?_
  refine eqf_last (by rfl) (by go_simp) (by go_simp) (eqS47 d w a0 a1 a2 a3 a4 a5)
abbrev UnpAny (f : Nat) (t : ByteArray) (x0 x1 x2 x3 x4 x5 x6 x7 x8 x9 : Int) : Prop := ∀ W : World, Calls Try.prog f #[.string t] W fun e w' => e = .returned (.tuple #[.agg #[.int .u32 x0, .int .u32 x1, .int .u64 x2, .int .u64 x3, .int .u64 x4, .int .u64 x5, .int .u64 x6, .int .u64 x7, .int .u64 x8], .int .i64 x9]) ∧ Below W.heap.size W w'
theorem unp_both (t : ByteArray) (ht : t.size ≤ 140737488355328) : ∃ x0 x1 x2 x3 x4 x5 x6 x7 x8 x9 : Int, UnpAny 55 t x0 x1 x2 x3 x4 x5 x6 x7 x8 x9 ∧ UnpAny 56 t x0 x1 x2 x3 x4 x5 x6 x7 x8 x9 := by
  cases hu : unp t with
  | none =>
    exact ⟨0, 0, 0, 0, 0, 0, 0, 0, 0, 52, fun W => (unpack_any t W ht).mono (fun e w' h => by rw [hu] at h; exact ⟨h.2, h.1⟩), fun W => (refUnpack_any t W ht).mono (fun e w' h => by rw [hu] at h; exact ⟨h.2, h.1⟩)⟩
  | some x =>
    obtain ⟨x0, x1, x2, x3, x4, x5, x6, x7, x8⟩ := x
    exact ⟨x0, x1, x2, x3, x4, x5, x6, x7, x8, 0, fun W => (unpack_any t W ht).mono (fun e w' h => by rw [hu] at h; exact ⟨h.2, h.1⟩), fun W => (refUnpack_any t W ht).mono (fun e w' h => by rw [hu] at h; exact ⟨h.2, h.1⟩)⟩
def R9 (w : World) (g : Nat) (x0 x1 x2 x3 x4 x5 x6 x7 x8 : Int) : Prop := w.heap[g]? = some (.cells #[.int .u32 x0, .int .u32 x1, .int .u64 x2, .int .u64 x3, .int .u64 x4, .int .u64 x5, .int .u64 x6, .int .u64 x7, .int .u64 x8] 49 (0, 0))
theorem R9.below {w w1 : World} {g : Nat} {x0 x1 x2 x3 x4 x5 x6 x7 x8 : Int} (h : R9 w g x0 x1 x2 x3 x4 x5 x6 x7 x8) (hb : Below w.heap.size w w1) : R9 w1 g x0 x1 x2 x3 x4 x5 x6 x7 x8 := blk_below h hb
theorem R9.alloc {w : World} {g : Nat} {x0 x1 x2 x3 x4 x5 x6 x7 x8 : Int} (h : R9 w g x0 x1 x2 x3 x4 x5 x6 x7 x8) (o : Obj) : R9 (w.alloc o) g x0 x1 x2 x3 x4 x5 x6 x7 x8 := blk_alloc h o
theorem R9.new (w : World) (x0 x1 x2 x3 x4 x5 x6 x7 x8 : Int) : R9 (w.alloc (.cells #[.int .u32 x0, .int .u32 x1, .int .u64 x2, .int .u64 x3, .int .u64 x4, .int .u64 x5, .int .u64 x6, .int .u64 x7, .int .u64 x8] 49)) w.heap.size x0 x1 x2 x3 x4 x5 x6 x7 x8 := heap_alloc_new _ _
theorem R9.drew {w : World} {g : Nat} {x0 x1 x2 x3 x4 x5 x6 x7 x8 : Int} (h : R9 w g x0 x1 x2 x3 x4 x5 x6 x7 x8) : R9 w.drew g x0 x1 x2 x3 x4 x5 x6 x7 x8 := h
theorem s27 {w : World} {gc ga gb : Nat} {nr arch ip a0 a1 a2 a3 a4 a5 x0 x1 x2 x3 x4 x5 x6 x7 x8 : Int} (hc : R9 w gc nr arch ip a0 a1 a2 a3 a4 a5) (ha : R9 w ga x0 x1 x2 x3 x4 x5 x6 x7 x8) (hb : R9 w gb x0 x1 x2 x3 x4 x5 x6 x7 x8) :
    w.cell? ⟨gc, 0, none⟩ = some (.int .u32 nr) ∧ w.cell? ⟨gc, 1, none⟩ = some (.int .u32 arch) ∧ w.cell? ⟨gc, 2, none⟩ = some (.int .u64 ip) ∧ w.cell? ⟨gc, 3, none⟩ = some (.int .u64 a0) ∧ w.cell? ⟨gc, 4, none⟩ = some (.int .u64 a1) ∧ w.cell? ⟨gc, 5, none⟩ = some (.int .u64 a2) ∧ w.cell? ⟨gc, 6, none⟩ = some (.int .u64 a3) ∧ w.cell? ⟨gc, 7, none⟩ = some (.int .u64 a4) ∧ w.cell? ⟨gc, 8, none⟩ = some (.int .u64 a5) ∧ w.cell? ⟨ga, 0, none⟩ = some (.int .u32 x0) ∧ w.cell? ⟨ga, 1, none⟩ = some (.int .u32 x1) ∧ w.cell? ⟨ga, 2, none⟩ = some (.int .u64 x2) ∧ w.cell? ⟨ga, 3, none⟩ = some (.int .u64 x3) ∧ w.cell? ⟨ga, 4, none⟩ = some (.int .u64 x4) ∧ w.cell? ⟨ga, 5, none⟩ = some (.int .u64 x5) ∧ w.cell? ⟨ga, 6, none⟩ = some (.int .u64 x6) ∧ w.cell? ⟨ga, 7, none⟩ = some (.int .u64 x7) ∧ w.cell? ⟨ga, 8, none⟩ = some (.int .u64 x8) ∧ w.cell? ⟨gb, 0, none⟩ = some (.int .u32 x0) ∧ w.cell? ⟨gb, 1, none⟩ = some (.int .u32 x1) ∧ w.cell? ⟨gb, 2, none⟩ = some (.int .u64 x2) ∧ w.cell? ⟨gb, 3, none⟩ = some (.int .u64 x3) ∧ w.cell? ⟨gb, 4, none⟩ = some (.int .u64 x4) ∧ w.cell? ⟨gb, 5, none⟩ = some (.int .u64 x5) ∧ w.cell? ⟨gb, 6, none⟩ = some (.int .u64 x6) ∧ w.cell? ⟨gb, 7, none⟩ = some (.int .u64 x7) ∧ w.cell? ⟨gb, 8, none⟩ = some (.int .u64 x8) :=
  ⟨blk_cell hc 0, blk_cell hc 1, blk_cell hc 2, blk_cell hc 3, blk_cell hc 4, blk_cell hc 5, blk_cell hc 6, blk_cell hc 7, blk_cell hc 8, blk_cell ha 0, blk_cell ha 1, blk_cell ha 2, blk_cell ha 3, blk_cell ha 4, blk_cell ha 5, blk_cell ha 6, blk_cell ha 7, blk_cell ha 8, blk_cell hb 0, blk_cell hb 1, blk_cell hb 2, blk_cell hb 3, blk_cell hb 4, blk_cell hb 5, blk_cell hb 6, blk_cell hb 7, blk_cell hb 8⟩
abbrev PackAny (f : Nat) (x0 x1 x2 x3 x4 x5 x6 x7 x8 : Int) (r : ByteArray) : Prop := ∀ W : World, Calls Try.prog f #[.agg #[.int .u32 x0, .int .u32 x1, .int .u64 x2, .int .u64 x3, .int .u64 x4, .int .u64 x5, .int .u64 x6, .int .u64 x7, .int .u64 x8]] W fun e w' => e = .returned (.string r) ∧ Below W.heap.size W w'
theorem alive_any (W : World) : Calls Try.prog 32 #[] W fun e w' => e = .returned (.bool true) ∧ Below W.heap.size W w' :=
  (doorwardlaw13_alive.calls 40 true W (alive_ok 40 (by omega))).mono (fun e w' h => ⟨h.1, by first | exact h.2 | exact h.2.below⟩)
set_option maxHeartbeats 4000000 in
theorem records_any (s : ByteArray) (nr arch ip a0 a1 a2 a3 a4 a5 : Int) (w : World) (hs : s.size ≤ 140737488351232) (rec : ByteArray) (hp1 : PackAny 53 nr arch ip a0 a1 a2 a3 a4 a5 rec) (hp2 : PackAny 57 nr arch ip a0 a1 a2 a3 a4 a5 rec) :
  Calls Try.prog 14 #[.agg #[.int .u32 nr, .int .u32 arch, .int .u64 ip, .int .u64 a0, .int .u64 a1, .int .u64 a2, .int .u64 a3, .int .u64 a4, .int .u64 a5], .string s] w fun e w2 => e = .returned (.bool true) ∧ Below w.heap.size w w2 := by
  have hu49 := Try.underlying49
  obtain ⟨t, ht, htv⟩ : ∃ t : ByteArray, t.size ≤ 80 ∧ ((s.size ≤ 80 ∧ t = s) ∨ (80 < s.size ∧ t = s.extract 0 80)) := by
    by_cases h80 : s.size ≤ 80
    · exact ⟨s, h80, .inl ⟨h80, rfl⟩⟩
    · refine ⟨s.extract 0 80, ?_, .inr ⟨by omega, rfl⟩⟩
      rw [← len_data, ext_data]; simp; omega
  obtain ⟨x0, x1, x2, x3, x4, x5, x6, x7, x8, x9, hu1, hu2⟩ := unp_both t (by omega)
  have q1 := Aside0.mk hu1
  have q2 := Aside0.mk hu2
  have q3 := Aside0.mk hp1
  have q4 := Aside0.mk hp2
  have hE1 := fun W => eqS49 9997 W nr arch ip a0 a1 a2 a3 a4 a5
  have hE2 := fun W => eqS49 9997 W x0 x1 x2 x3 x4 x5 x6 x7 x8
  clear hu1 hu2 hp1 hp2
  have hc0 := Aside0.mk (R9.new w nr arch ip a0 a1 a2 a3 a4 a5)
  have hb0 := Aside0.mk (below_alloc (Below.refl w.heap.size w) (.cells #[.int .u32 nr, .int .u32 arch, .int .u64 ip, .int .u64 a0, .int .u64 a1, .int .u64 a2, .int .u64 a3, .int .u64 a4, .int .u64 a5] 49))
  generalize hwc : (w.alloc (.cells #[.int .u32 nr, .int .u32 arch, .int .u64 ip, .int .u64 a0, .int .u64 a1, .int .u64 a2, .int .u64 a3, .int .u64 a4, .int .u64 a5] 49)) = wc at hc0 hb0
  have HWC := Aside0.mk hwc
  clear hwc
  rcases htv with ⟨h80, rfl⟩ | ⟨h80, rfl⟩
  all_goals (
    go_enter Try.func14, Try.ntmps14
    go_wp2_with (first | (go_at_call 55; rw [HWC.out]; (with_reducible refine (q1.out wc).mono ?_); rintro e w1 ⟨rfl, hb1⟩; have HC1 := Aside0.mk (R9.alloc (R9.below hc0.out hb1) (.cells #[.int .u32 x0, .int .u32 x1, .int .u64 x2, .int .u64 x3, .int .u64 x4, .int .u64 x5, .int .u64 x6, .int .u64 x7, .int .u64 x8] 49)); have HA1 := Aside0.mk (R9.new w1 x0 x1 x2 x3 x4 x5 x6 x7 x8); have HB1 := Aside0.mk (below_alloc (below_step hb0.out hb1) (.cells #[.int .u32 x0, .int .u32 x1, .int .u64 x2, .int .u64 x3, .int .u64 x4, .int .u64 x5, .int .u64 x6, .int .u64 x7, .int .u64 x8] 49)); clear hb1) | (go_at_call 56; (with_reducible refine (q2.out _).mono ?_); rintro e w2 ⟨rfl, hb2⟩; have HC2 := Aside0.mk (R9.drew <| R9.alloc (R9.below HC1.out hb2) (.cells #[.int .u32 x0, .int .u32 x1, .int .u64 x2, .int .u64 x3, .int .u64 x4, .int .u64 x5, .int .u64 x6, .int .u64 x7, .int .u64 x8] 49)); have HA2 := Aside0.mk (R9.drew <| R9.alloc (R9.below HA1.out hb2) (.cells #[.int .u32 x0, .int .u32 x1, .int .u64 x2, .int .u64 x3, .int .u64 x4, .int .u64 x5, .int .u64 x6, .int .u64 x7, .int .u64 x8] 49)); have HX2 := Aside0.mk (R9.drew <| R9.new w2 x0 x1 x2 x3 x4 x5 x6 x7 x8); have HB2 := Aside0.mk (below_drew1 (below_alloc (below_step HB1.out hb2) (.cells #[.int .u32 x0, .int .u32 x1, .int .u64 x2, .int .u64 x3, .int .u64 x4, .int .u64 x5, .int .u64 x6, .int .u64 x7, .int .u64 x8] 49))); clear hb2))
    go_region_held3 (fun W' : World => W'.cell? ⟨w.heap.size, 0, none⟩ = some (.int .u32 nr) ∧ W'.cell? ⟨w.heap.size, 1, none⟩ = some (.int .u32 arch) ∧ W'.cell? ⟨w.heap.size, 2, none⟩ = some (.int .u64 ip) ∧ W'.cell? ⟨w.heap.size, 3, none⟩ = some (.int .u64 a0) ∧ W'.cell? ⟨w.heap.size, 4, none⟩ = some (.int .u64 a1) ∧ W'.cell? ⟨w.heap.size, 5, none⟩ = some (.int .u64 a2) ∧ W'.cell? ⟨w.heap.size, 6, none⟩ = some (.int .u64 a3) ∧ W'.cell? ⟨w.heap.size, 7, none⟩ = some (.int .u64 a4) ∧ W'.cell? ⟨w.heap.size, 8, none⟩ = some (.int .u64 a5) ∧ W'.cell? ⟨w1.heap.size, 0, none⟩ = some (.int .u32 x0) ∧ W'.cell? ⟨w1.heap.size, 1, none⟩ = some (.int .u32 x1) ∧ W'.cell? ⟨w1.heap.size, 2, none⟩ = some (.int .u64 x2) ∧ W'.cell? ⟨w1.heap.size, 3, none⟩ = some (.int .u64 x3) ∧ W'.cell? ⟨w1.heap.size, 4, none⟩ = some (.int .u64 x4) ∧ W'.cell? ⟨w1.heap.size, 5, none⟩ = some (.int .u64 x5) ∧ W'.cell? ⟨w1.heap.size, 6, none⟩ = some (.int .u64 x6) ∧ W'.cell? ⟨w1.heap.size, 7, none⟩ = some (.int .u64 x7) ∧ W'.cell? ⟨w1.heap.size, 8, none⟩ = some (.int .u64 x8) ∧ W'.cell? ⟨w2.heap.size, 0, none⟩ = some (.int .u32 x0) ∧ W'.cell? ⟨w2.heap.size, 1, none⟩ = some (.int .u32 x1) ∧ W'.cell? ⟨w2.heap.size, 2, none⟩ = some (.int .u64 x2) ∧ W'.cell? ⟨w2.heap.size, 3, none⟩ = some (.int .u64 x3) ∧ W'.cell? ⟨w2.heap.size, 4, none⟩ = some (.int .u64 x4) ∧ W'.cell? ⟨w2.heap.size, 5, none⟩ = some (.int .u64 x5) ∧ W'.cell? ⟨w2.heap.size, 6, none⟩ = some (.int .u64 x6) ∧ W'.cell? ⟨w2.heap.size, 7, none⟩ = some (.int .u64 x7) ∧ W'.cell? ⟨w2.heap.size, 8, none⟩ = some (.int .u64 x8)) (first | exact s27 HC5.out HA5.out HX5.out | exact s27 HC4.out HA4.out HX4.out | exact s27 HC3.out HA3.out HX3.out | exact s27 HC2.out HA2.out HX2.out) (first | (go_at_call 32; (with_reducible refine (alive_any _).mono ?_); rintro e w3 ⟨rfl, hb3⟩; have HC3 := Aside0.mk (R9.below HC2.out hb3); have HA3 := Aside0.mk (R9.below HA2.out hb3); have HX3 := Aside0.mk (R9.below HX2.out hb3); have HB3 := Aside0.mk (below_step HB2.out hb3); clear hb3) | (go_at_call 53; (with_reducible refine (q3.out _).mono ?_); rintro e w4 ⟨rfl, hb4⟩; have HC4 := Aside0.mk (R9.below HC3.out hb4); have HA4 := Aside0.mk (R9.below HA3.out hb4); have HX4 := Aside0.mk (R9.below HX3.out hb4); have HB4 := Aside0.mk (below_step HB3.out hb4); clear hb4) | (go_at_call 57; (with_reducible refine (q4.out _).mono ?_); rintro e w5 ⟨rfl, hb5⟩; have HC5 := Aside0.mk (R9.below HC4.out hb5); have HA5 := Aside0.mk (R9.below HA4.out hb5); have HX5 := Aside0.mk (R9.below HX4.out hb5); have HB5 := Aside0.mk (below_step HB4.out hb5); clear hb5))
    go_wp2
    go_ret
    exact ⟨rfl, HB5.out⟩)
end Go.Proofs.Ytoeklekjhaigoaa.HLaw13
