/- VmRuns: what any filter returns of any record, in how many steps, or that it goes wrong, is as the document says. -/
import Derived.Test.YtefkhcijgiagdaaZVmRuns0
section
namespace Go.Proofs.Ytefkhcijgiagdaa.HMr
open Go.RowKit Go.Proofs.YtefkhcijgiagdaaW.PrintWords Go.Proofs.YtefkhcijgiagdaaW.PrintLast Go.Proofs.YtefkhcijgiagdaaW.PrintMore Go.Proofs.Ytefkhcijgiagdaa.HKnown Go.Proofs.Ytefkhcijgiagdaa.I1 Go.Proofs.Ytefkhcijgiagdaa.QVm Go.Proofs.Ytefkhcijgiagdaa.QLe Go.Proofs.Ytefkhcijgiagdaa.V0 Go.Proofs.Ytefkhcijgiagdaa.HVm Go.Proofs.Ytefkhcijgiagdaa.QIn
set_option linter.unusedVariables false
set_option linter.unusedSimpArgs false
set_option maxRecDepth 100000
def StPost (w : World) (z : Int) (R : R1) (e : Ending) (w' : World) : Prop :=
  ∃ v2 at2 out2 d2 wr2, e = .returned (.agg (mL v2 at2 out2 d2 wr2).toArray) ∧ v2.cs.length = 16 ∧ Below w.heap.size w w' ∧ (match R with | .bad => wr2 = true | .done o => wr2 = false ∧ d2 = true ∧ out2 = o | .next v' s => wr2 = false ∧ d2 = false ∧ out2 = 0 ∧ v2 = v' ∧ at2 = wrap64 (z + 1 + (s : Int)))
theorem z_len : z0.cs.length = 16 := rfl
theorem least_same (a : Int) (W : World) : Calls Try.prog 146 #[.int .i64 a] W fun e w' => e = .returned (.int .i64 (if a < 0 then 0 else a)) ∧ w' = W := by
  by_cases h : a < 0
  · rw [if_pos h]
    have hd : decide (a < 0) = true := decide_eq_true h
    go_enter Try.func146, Try.ntmps146
    go_wp2
    go_ret
    exact ⟨rfl, rfl⟩
  · rw [if_neg h]
    have hd : decide (a < 0) = false := decide_eq_false h
    go_enter Try.func146, Try.ntmps146
    go_wp2
    go_ret
    exact ⟨rfl, rfl⟩
theorem alloc_set (w : World) (p : Addr) (u : Value) (o : Obj) : ((w.setCell p u).alloc o).heap[w.heap.size]? = some o := by
  have := heap_alloc_new (w.setCell p u) o
  have e : (w.setCell p u).heap.size = w.heap.size := by simp [World.setCell]
  rw [e] at this
  exact this
theorem known_c (c : Int) (W : World) : Calls Try.prog 45 #[.int .i64 c] W fun e w' => e = .returned (.bool (knownB c)) ∧ Drawn0 W w' := doorwardref10_Known.calls 1 c (knownB c) W (refKnown c 1 (Nat.le_refl _))
theorem blk2 (w : World) (a : Obj) (c : Array Value) (t : TypeId) : ((w.alloc a).alloc (.cells c t)).heap[w.heap.size + 1]? = some (.cells c t (0, 0)) := by
  have := heap_alloc_new (w.alloc a) (.cells c t)
  rw [World.size_alloc] at this
  exact this
theorem row2 (w : World) (a : Obj) (z c : Array Value) (t : TypeId) : ((w.alloc a).alloc (.cells z t)).setRow (w.heap.size + 1) c = (w.alloc a).alloc (.cells c t) := by
  have := World.setRow_alloc_new (w.alloc a) z c t
  rw [World.size_alloc] at this
  exact this
/-- The world when the instruction was looked up: the machine, the result's place. -/
structure S0 (w w1 : World) (v : V) (z : Int) : Prop where
  M : Mb w1 w.heap.size v z 0 false false
  Z : w1.heap[w.heap.size + 1]? = some (.cells (mL z0 0 0 false false).toArray 159 (0, 0))
  B : Below w.heap.size w w1
theorem s0_new {w w1 : World} {v : V} {z : Int} (hl : v.cs.length = 16) (hb : Below ((w.alloc (.cells (mL v z 0 false false).toArray 159)).alloc (.cells (mL z0 0 0 false false).toArray 159)).heap.size ((w.alloc (.cells (mL v z 0 false false).toArray 159)).alloc (.cells (mL z0 0 0 false false).toArray 159)) w1) : S0 w w1 v z := by
  refine ⟨⟨blk_below (blk_alloc (heap_alloc_new _ _) _) hb, hl⟩, blk_below ?_ hb, below_step (below_alloc (below_alloc (Below.refl w.heap.size w) _) _) hb⟩
  have := heap_alloc_new (w.alloc (.cells (mL v z 0 false false).toArray 159)) (.cells (mL z0 0 0 false false).toArray 159)
  rw [World.size_alloc] at this
  exact this
theorem s0_new' {w w1 : World} {v : V} {z : Int} {Cs : Array Value} (hl : v.cs.length = 16) (hCs : (mL v z 0 false false).toArray = Cs) (hb : Below ((w.alloc (.cells Cs 159)).alloc (.cells (mL z0 0 0 false false).toArray 159)).heap.size ((w.alloc (.cells Cs 159)).alloc (.cells (mL z0 0 0 false false).toArray 159)) w1) : S0 w w1 v z := by
  subst hCs
  exact s0_new hl hb
/-- A store into the machine's cells leaves the result's place. -/
theorem zfar {w W : World} (h : W.heap[w.heap.size + 1]? = some (.cells (mL z0 0 0 false false).toArray 159 (0, 0))) (k : Nat) (u : Value) : (W.setCell ⟨w.heap.size, k, none⟩ u).heap[w.heap.size + 1]? = some (.cells (mL z0 0 0 false false).toArray 159 (0, 0)) := blk_far h (by show w.heap.size + 1 ≠ w.heap.size; omega) u
set_option maxHeartbeats 4000000 in
theorem st_neg {w : World} {rec : ByteArray} {v : V} (A0 : Option Addr) (n c0 : Nat) (hl : v.cs.length = 16) (z : Int) (hz : z < 0) :
    Calls Try.prog 121 #[.agg (mL v z 0 false false).toArray, .slice A0 n c0, .string rec] w (StPost w z .bad) := by
  have hu159 := Try.underlying159
  have hu28 := Try.underlying28
  have hu97 := Try.underlying97
  have HV := Aside0.mk hl
  have h18 : (mL v z 0 false false).toArray[18]? = some (.int .i64 z) := by rw [getA]; exact mL_tail hl 0
  have h21 : (mL v z 0 false false).toArray[21]? = some (.bool false) := by rw [getA]; exact mL_tail hl 3
  have HE := Aside0.mk (toA (show (mL v z 0 false false).set 21 (.bool true) = mL v z 0 false true from mL_set hl 3 _))
  obtain ⟨Cs, hCs⟩ : ∃ Cs, (mL v z 0 false false).toArray = Cs := ⟨_, rfl⟩
  rw [hCs] at HE h18 h21 ⊢
  have hd : decide (z < 0) = true := decide_eq_true hz
  clear hCs hl
  go_enter Try.func121, Try.ntmps121
  go_wp2_with (first | ((with_reducible refine gate_dst (N := 32) rfl ?_); rw [HE.out]; refine wpList_load_row rfl 159 (.tmp 3) rfl w.heap.size rfl 159 _ (0, 0) _ (blk_alloc (heap_alloc_new _ _) _) Try.underlying159 rfl (mL_size HV.out _ _ _ _) ?_) | (refine wpList_store_row rfl 159 (.tmp 6) (.tmp 32) rfl (w.heap.size + 1) _ rfl rfl 159 _ (blk2 _ _ _ _) (mL_size HV.out _ _ _ _) (by simp [mL_len HV.out]) (mL_one _ _ _ _ _) ?_; rw [row2]))
  refine bodyPost_ret (v := .agg (mL v z 0 false true).toArray) (results_cell_row (p := 6) (by kernel_rfl) _ _ (w.heap.size + 1) 159 _ (0, 0) _ rfl (blk2 _ _ _ _) Try.underlying159 rfl (mL_size HV.out _ _ _ _)) rfl ?_
  exact ⟨v, z, 0, false, true, rfl, HV.out, below_alloc (below_alloc (Below.refl _ _) _) _, rfl⟩
set_option maxHeartbeats 4000000 in
theorem st_outr {w : World} {rec : ByteArray} {v : V} (A0 : Option Addr) (n c0 : Nat) (hl : v.cs.length = 16) (z : Int) (hz0 : 0 ≤ z) (hz : (n : Int) ≤ z) :
    Calls Try.prog 121 #[.agg (mL v z 0 false false).toArray, .slice A0 n c0, .string rec] w (StPost w z .bad) := by
  have hu159 := Try.underlying159
  have hu28 := Try.underlying28
  have hu97 := Try.underlying97
  have HV := Aside0.mk hl
  have h18 : (mL v z 0 false false).toArray[18]? = some (.int .i64 z) := by rw [getA]; exact mL_tail hl 0
  have h21 : (mL v z 0 false false).toArray[21]? = some (.bool false) := by rw [getA]; exact mL_tail hl 3
  have HE := Aside0.mk (toA (show (mL v z 0 false false).set 21 (.bool true) = mL v z 0 false true from mL_set hl 3 _))
  obtain ⟨Cs, hCs⟩ : ∃ Cs, (mL v z 0 false false).toArray = Cs := ⟨_, rfl⟩
  rw [hCs] at HE h18 h21 ⊢
  have hd : decide (z < 0) = false := decide_eq_false (by omega)
  have hd2 : decide ((n : Int) ≤ z) = true := decide_eq_true hz
  clear hCs hl
  go_enter Try.func121, Try.ntmps121
  go_wp2_with (first | ((with_reducible refine gate_dst (N := 32) rfl ?_); rw [HE.out]; refine wpList_load_row rfl 159 (.tmp 3) rfl w.heap.size rfl 159 _ (0, 0) _ (blk_alloc (heap_alloc_new _ _) _) Try.underlying159 rfl (mL_size HV.out _ _ _ _) ?_) | (refine wpList_store_row rfl 159 (.tmp 6) (.tmp 32) rfl (w.heap.size + 1) _ rfl rfl 159 _ (blk2 _ _ _ _) (mL_size HV.out _ _ _ _) (by simp [mL_len HV.out]) (mL_one _ _ _ _ _) ?_; rw [row2]))
  refine bodyPost_ret (v := .agg (mL v z 0 false true).toArray) (results_cell_row (p := 6) (by kernel_rfl) _ _ (w.heap.size + 1) 159 _ (0, 0) _ rfl (blk2 _ _ _ _) Try.underlying159 rfl (mL_size HV.out _ _ _ _)) rfl ?_
  exact ⟨v, z, 0, false, true, rfl, HV.out, below_alloc (below_alloc (Below.refl _ _) _) _, rfl⟩
end Go.Proofs.Ytefkhcijgiagdaa.HMr
end
