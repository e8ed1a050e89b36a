-- Written by a program of this session (wip/tools/unit.py) with the kit's print.
import Derived.Test.YtoeklekjhaigoaaC2x0
namespace Go.Proofs.Ytoeklekjhaigoaa.C2
open Go.RowKit Go.Proofs.YtoeklekjhaigoaaW.PrintWords Go.Proofs.YtoeklekjhaigoaaW.PrintLast Go.Proofs.YtoeklekjhaigoaaW.PrintMore
attribute [local go_sem] max2_int min2_int max_two min_two max_three min_three max_four min_four IntKind.wrap_u32 IntKind.wrap_u8   -- for this text's walks alone
set_option linter.unusedVariables false
open Go.Proofs.Ytoeklekjhaigoaa.Le Go.Proofs.Ytoeklekjhaigoaa.C1
set_option linter.unusedSimpArgs false

/-! ### doorwardref13_Arch: function 39 -/
def doorwardref13_Arch.f (a0 : ByteArray) : Option (Int × Bool) := if a0.toList = ([120, 56, 54, 95, 54, 52] : List UInt8) then (some (3221225534, true)) else (if a0.toList = ([97, 97, 114, 99, 104, 54, 52] : List UInt8) then (some (3221225655, true)) else (some (0, false)))
set_option maxHeartbeats 8000000 in
set_option maxRecDepth 100000 in
theorem doorwardref13_Arch.calls (a0 : ByteArray) (r1 : Int) (r2 : Bool) (w : World) (h : doorwardref13_Arch.f a0 = some (r1, r2)) :
    Calls Try.prog 39 #[.string a0] w fun e w' => e = .returned (.tuple #[.int .u32 r1, .bool r2]) ∧ Drawn0 w w' := by
  have H : (if a0.toList = ([120, 56, 54, 95, 54, 52] : List UInt8) then (some (3221225534, true)) else (if a0.toList = ([97, 97, 114, 99, 104, 54, 52] : List UInt8) then (some (3221225655, true)) else (some (0, false)))) = some (r1, r2) := h
  clear h
  by_cases c2 : a0.toList = ([120, 56, 54, 95, 54, 52] : List UInt8)
  · rw [if_pos c2] at H
    have c2b0 : (a0.toList == ([120, 56, 54, 95, 54, 52] : List UInt8)) = true := beq_iff_eq.mpr c2
    have c2b1 : (a0.toList != ([120, 56, 54, 95, 54, 52] : List UInt8)) = false := bne_eq_false_iff_eq.mpr c2
    clear c2
    simp only [Option.some.injEq, Prod.mk.injEq] at H
    obtain ⟨rfl, rfl⟩ := H
    go_enter Try.func39, Try.ntmps39
    go_wp2
    go_ret2
    exact ⟨by first | rfl | (simp; done) | (simp [*]; done), by repeat (first | exact Drawn0.refl _ | apply Drawn0.step)⟩
  · rw [if_neg c2] at H
    have c2b0 : (a0.toList == ([120, 56, 54, 95, 54, 52] : List UInt8)) = false := beq_eq_false_iff_ne.mpr c2
    have c2b1 : (a0.toList != ([120, 56, 54, 95, 54, 52] : List UInt8)) = true := bne_iff_ne.mpr c2
    by_cases c3 : a0.toList = ([97, 97, 114, 99, 104, 54, 52] : List UInt8)
    · rw [if_pos c3] at H
      have c3b0 : (a0.toList == ([97, 97, 114, 99, 104, 54, 52] : List UInt8)) = true := beq_iff_eq.mpr c3
      have c3b1 : (a0.toList != ([97, 97, 114, 99, 104, 54, 52] : List UInt8)) = false := bne_eq_false_iff_eq.mpr c3
      clear c3
      simp only [Option.some.injEq, Prod.mk.injEq] at H
      obtain ⟨rfl, rfl⟩ := H
      go_enter Try.func39, Try.ntmps39
      go_wp2
      go_ret2
      exact ⟨by first | rfl | (simp; done) | (simp [*]; done), by repeat (first | exact Drawn0.refl _ | apply Drawn0.step)⟩
    · rw [if_neg c3] at H
      have c3b0 : (a0.toList == ([97, 97, 114, 99, 104, 54, 52] : List UInt8)) = false := beq_eq_false_iff_ne.mpr c3
      have c3b1 : (a0.toList != ([97, 97, 114, 99, 104, 54, 52] : List UInt8)) = true := bne_iff_ne.mpr c3
      simp only [Option.some.injEq, Prod.mk.injEq] at H
      obtain ⟨rfl, rfl⟩ := H
      go_enter Try.func39, Try.ntmps39
      go_wp2
      go_ret2
      exact ⟨by first | rfl | (simp; done) | (simp [*]; done), by repeat (first | exact Drawn0.refl _ | apply Drawn0.step)⟩

/-! ### doorwardref13_x86: function 119 -/
def doorwardref13_x86.f  : Option (List Int) := some (([0, 1, 2, 3, 4, 5, 8, 9, 10, 11, 12, 16, 21, 22, 32, 39, 41, 42, 43, 49, 50, 56, 57, 59, 60, 62, 63, 72, 101, 102, 165, 202, 231, 257, 317] : List Int))
set_option maxHeartbeats 8000000 in
set_option maxRecDepth 100000 in
theorem doorwardref13_x86.calls  (r : List Int) (w : World) (h : doorwardref13_x86.f  = some r) :
    Calls Try.prog 119 #[] w fun e w' => ∃ v0_ : Value, e = .returned (v0_) ∧ Kd.R (Kd.int .i64) 3 w' w.heap.size (fun _ => True) v0_ r ∧ Below w.heap.size w w' := by
  have HB := Aside0.mk (Below.refl w.heap.size w)
  have H : (some (([0, 1, 2, 3, 4, 5, 8, 9, 10, 11, 12, 16, 21, 22, 32, 39, 41, 42, 43, 49, 50, 56, 57, 59, 60, 62, 63, 72, 101, 102, 165, 202, 231, 257, 317] : List Int))) = some r := h
  clear h
  obtain ⟨y101, hy101⟩ : ∃ y_ : List Int, y_ = (([0, 1, 2, 3, 4, 5, 8, 9, 10, 11, 12, 16, 21, 22, 32, 39, 41, 42, 43, 49, 50, 56, 57, 59, 60, 62, 63, 72, 101, 102, 165, 202, 231, 257, 317] : List Int)) := ⟨_, rfl⟩
  replace H : (some y101) = some r := by first | (rw [hy101]; with_reducible exact H) | (have H2_ := (Option.bind_some _ _).symm.trans H; rw [hy101]; with_reducible exact H2_) | (have H2_ := (Option.bind_some _ _).symm.trans H; with_reducible exact H2_) | with_reducible exact H | (rw [hy101]; exact H) | exact H
  have Ny101 := Aside0.mk hy101
  clear hy101
  obtain rfl := Option.some.inj H
  go_enter Try.func119, Try.ntmps119
  go_wp2_with (first | ((with_reducible refine gate_dst (N := 1) rfl ?_); refine Kd.R_lit (Kd.int .i64) _ 3 ?hg (N := 1) ?hd (xs := ([0, 1, 2, 3, 4, 5, 8, 9, 10, 11, 12, 16, 21, 22, 32, 39, 41, 42, 43, 49, 50, 56, 57, 59, 60, 62, 63, 72, 101, 102, 165, 202, 231, 257, 317] : List Int)) (inner := [.int .i64 0, .int .i64 1, .int .i64 2, .int .i64 3, .int .i64 4, .int .i64 5, .int .i64 8, .int .i64 9, .int .i64 10, .int .i64 11, .int .i64 12, .int .i64 16, .int .i64 21, .int .i64 22, .int .i64 32, .int .i64 39, .int .i64 41, .int .i64 42, .int .i64 43, .int .i64 49, .int .i64 50, .int .i64 56, .int .i64 57, .int .i64 59, .int .i64 60, .int .i64 62, .int .i64 63, .int .i64 72, .int .i64 101, .int .i64 102, .int .i64 165, .int .i64 202, .int .i64 231, .int .i64 257, .int .i64 317]) (ok := fun _ => True) (okp := fun _ => True) ?hr ?hp (fun _ hk => hk) trivial (Below.refl _ _) (Nat.le_refl _) (by simp) ?_; (case hd => rfl); (case hg => rfl); (case hr => first | (go_simp; done) | (go_simp; rfl)); (case hp => exact (Reps.one (show Kd.M (Kd.int .i64) _ _ _ 0 [.int .i64 0] from rfl) (Reps.one (show Kd.M (Kd.int .i64) _ _ _ 1 [.int .i64 1] from rfl) (Reps.one (show Kd.M (Kd.int .i64) _ _ _ 2 [.int .i64 2] from rfl) (Reps.one (show Kd.M (Kd.int .i64) _ _ _ 3 [.int .i64 3] from rfl) (Reps.one (show Kd.M (Kd.int .i64) _ _ _ 4 [.int .i64 4] from rfl) (Reps.one (show Kd.M (Kd.int .i64) _ _ _ 5 [.int .i64 5] from rfl) (Reps.one (show Kd.M (Kd.int .i64) _ _ _ 8 [.int .i64 8] from rfl) (Reps.one (show Kd.M (Kd.int .i64) _ _ _ 9 [.int .i64 9] from rfl) (Reps.one (show Kd.M (Kd.int .i64) _ _ _ 10 [.int .i64 10] from rfl) (Reps.one (show Kd.M (Kd.int .i64) _ _ _ 11 [.int .i64 11] from rfl) (Reps.one (show Kd.M (Kd.int .i64) _ _ _ 12 [.int .i64 12] from rfl) (Reps.one (show Kd.M (Kd.int .i64) _ _ _ 16 [.int .i64 16] from rfl) (Reps.one (show Kd.M (Kd.int .i64) _ _ _ 21 [.int .i64 21] from rfl) (Reps.one (show Kd.M (Kd.int .i64) _ _ _ 22 [.int .i64 22] from rfl) (Reps.one (show Kd.M (Kd.int .i64) _ _ _ 32 [.int .i64 32] from rfl) (Reps.one (show Kd.M (Kd.int .i64) _ _ _ 39 [.int .i64 39] from rfl) (Reps.one (show Kd.M (Kd.int .i64) _ _ _ 41 [.int .i64 41] from rfl) (Reps.one (show Kd.M (Kd.int .i64) _ _ _ 42 [.int .i64 42] from rfl) (Reps.one (show Kd.M (Kd.int .i64) _ _ _ 43 [.int .i64 43] from rfl) (Reps.one (show Kd.M (Kd.int .i64) _ _ _ 49 [.int .i64 49] from rfl) (Reps.one (show Kd.M (Kd.int .i64) _ _ _ 50 [.int .i64 50] from rfl) (Reps.one (show Kd.M (Kd.int .i64) _ _ _ 56 [.int .i64 56] from rfl) (Reps.one (show Kd.M (Kd.int .i64) _ _ _ 57 [.int .i64 57] from rfl) (Reps.one (show Kd.M (Kd.int .i64) _ _ _ 59 [.int .i64 59] from rfl) (Reps.one (show Kd.M (Kd.int .i64) _ _ _ 60 [.int .i64 60] from rfl) (Reps.one (show Kd.M (Kd.int .i64) _ _ _ 62 [.int .i64 62] from rfl) (Reps.one (show Kd.M (Kd.int .i64) _ _ _ 63 [.int .i64 63] from rfl) (Reps.one (show Kd.M (Kd.int .i64) _ _ _ 72 [.int .i64 72] from rfl) (Reps.one (show Kd.M (Kd.int .i64) _ _ _ 101 [.int .i64 101] from rfl) (Reps.one (show Kd.M (Kd.int .i64) _ _ _ 102 [.int .i64 102] from rfl) (Reps.one (show Kd.M (Kd.int .i64) _ _ _ 165 [.int .i64 165] from rfl) (Reps.one (show Kd.M (Kd.int .i64) _ _ _ 202 [.int .i64 202] from rfl) (Reps.one (show Kd.M (Kd.int .i64) _ _ _ 231 [.int .i64 231] from rfl) (Reps.one (show Kd.M (Kd.int .i64) _ _ _ 257 [.int .i64 257] from rfl) (Reps.one (show Kd.M (Kd.int .i64) _ _ _ 317 [.int .i64 317] from rfl) (Reps.none _ _))))))))))))))))))))))))))))))))))))); intro v102 w1 ho2 hb hg_ hnew_; clear hg_ hnew_; (first | rw [← Ny101.out] at ho2 | (simp only [Int.reduceToNat] at ho2; rw [← Ny101.out] at ho2)); have n0_ := Aside0.mk (Kd.R_lower ho2 (below_size (by repeat (first | (with_reducible first | exact HB.out | apply below_alloc | apply pw_below_drewN | apply below_drew1) | exact HB.out)))); have n1_ := Aside0.mk (below_step (by repeat (first | (with_reducible first | exact HB.out | apply below_alloc | apply pw_below_drewN | apply below_drew1) | exact HB.out)) hb); clear HB; have HO103 := n0_; have HB := n1_; clear n0_ n1_; clear hb ho2))
  go_ret
  exact ⟨_, by first | rfl | (simp [errW_none, errW_some] <;> rfl) | (simp [*, errW_none, errW_some] <;> rfl), by (with_reducible repeat (first | apply Kd.R_alloc | apply Kd.R_drewN | apply Kd.R_drew)); exact HO103.out, by repeat (first | (with_reducible first | exact HB.out | apply below_alloc | apply pw_below_drewN | apply below_drew1) | exact HB.out)⟩

/-! ### doorwardref13_arm: function 120 -/
def doorwardref13_arm.f  : Option (List Int) := some (([63, 64, (-1), 57, (-1), 80, 62, 222, 226, 215, 214, 29, (-1), (-1), 23, 172, 198, 203, 202, 200, 201, 220, (-1), 221, 93, 129, 160, 25, 117, 174, 40, 98, 94, 56, 277] : List Int))
set_option maxHeartbeats 8000000 in
set_option maxRecDepth 100000 in
theorem doorwardref13_arm.calls  (r : List Int) (w : World) (h : doorwardref13_arm.f  = some r) :
    Calls Try.prog 120 #[] w fun e w' => ∃ v0_ : Value, e = .returned (v0_) ∧ Kd.R (Kd.int .i64) 3 w' w.heap.size (fun _ => True) v0_ r ∧ Below w.heap.size w w' := by
  have HB := Aside0.mk (Below.refl w.heap.size w)
  have H : (some (([63, 64, (-1), 57, (-1), 80, 62, 222, 226, 215, 214, 29, (-1), (-1), 23, 172, 198, 203, 202, 200, 201, 220, (-1), 221, 93, 129, 160, 25, 117, 174, 40, 98, 94, 56, 277] : List Int))) = some r := h
  clear h
  obtain ⟨y104, hy104⟩ : ∃ y_ : List Int, y_ = (([63, 64, (-1), 57, (-1), 80, 62, 222, 226, 215, 214, 29, (-1), (-1), 23, 172, 198, 203, 202, 200, 201, 220, (-1), 221, 93, 129, 160, 25, 117, 174, 40, 98, 94, 56, 277] : List Int)) := ⟨_, rfl⟩
  replace H : (some y104) = some r := by first | (rw [hy104]; with_reducible exact H) | (have H2_ := (Option.bind_some _ _).symm.trans H; rw [hy104]; with_reducible exact H2_) | (have H2_ := (Option.bind_some _ _).symm.trans H; with_reducible exact H2_) | with_reducible exact H | (rw [hy104]; exact H) | exact H
  have Ny104 := Aside0.mk hy104
  clear hy104
  obtain rfl := Option.some.inj H
  go_enter Try.func120, Try.ntmps120
  go_wp2_with (first | ((with_reducible refine gate_dst (N := 1) rfl ?_); refine Kd.R_lit (Kd.int .i64) _ 3 ?hg (N := 1) ?hd (xs := ([63, 64, (-1), 57, (-1), 80, 62, 222, 226, 215, 214, 29, (-1), (-1), 23, 172, 198, 203, 202, 200, 201, 220, (-1), 221, 93, 129, 160, 25, 117, 174, 40, 98, 94, 56, 277] : List Int)) (inner := [.int .i64 63, .int .i64 64, .int .i64 (-1), .int .i64 57, .int .i64 (-1), .int .i64 80, .int .i64 62, .int .i64 222, .int .i64 226, .int .i64 215, .int .i64 214, .int .i64 29, .int .i64 (-1), .int .i64 (-1), .int .i64 23, .int .i64 172, .int .i64 198, .int .i64 203, .int .i64 202, .int .i64 200, .int .i64 201, .int .i64 220, .int .i64 (-1), .int .i64 221, .int .i64 93, .int .i64 129, .int .i64 160, .int .i64 25, .int .i64 117, .int .i64 174, .int .i64 40, .int .i64 98, .int .i64 94, .int .i64 56, .int .i64 277]) (ok := fun _ => True) (okp := fun _ => True) ?hr ?hp (fun _ hk => hk) trivial (Below.refl _ _) (Nat.le_refl _) (by simp) ?_; (case hd => rfl); (case hg => rfl); (case hr => first | (go_simp; done) | (go_simp; rfl)); (case hp => exact (Reps.one (show Kd.M (Kd.int .i64) _ _ _ 63 [.int .i64 63] from rfl) (Reps.one (show Kd.M (Kd.int .i64) _ _ _ 64 [.int .i64 64] from rfl) (Reps.one (show Kd.M (Kd.int .i64) _ _ _ (-1) [.int .i64 (-1)] from rfl) (Reps.one (show Kd.M (Kd.int .i64) _ _ _ 57 [.int .i64 57] from rfl) (Reps.one (show Kd.M (Kd.int .i64) _ _ _ (-1) [.int .i64 (-1)] from rfl) (Reps.one (show Kd.M (Kd.int .i64) _ _ _ 80 [.int .i64 80] from rfl) (Reps.one (show Kd.M (Kd.int .i64) _ _ _ 62 [.int .i64 62] from rfl) (Reps.one (show Kd.M (Kd.int .i64) _ _ _ 222 [.int .i64 222] from rfl) (Reps.one (show Kd.M (Kd.int .i64) _ _ _ 226 [.int .i64 226] from rfl) (Reps.one (show Kd.M (Kd.int .i64) _ _ _ 215 [.int .i64 215] from rfl) (Reps.one (show Kd.M (Kd.int .i64) _ _ _ 214 [.int .i64 214] from rfl) (Reps.one (show Kd.M (Kd.int .i64) _ _ _ 29 [.int .i64 29] from rfl) (Reps.one (show Kd.M (Kd.int .i64) _ _ _ (-1) [.int .i64 (-1)] from rfl) (Reps.one (show Kd.M (Kd.int .i64) _ _ _ (-1) [.int .i64 (-1)] from rfl) (Reps.one (show Kd.M (Kd.int .i64) _ _ _ 23 [.int .i64 23] from rfl) (Reps.one (show Kd.M (Kd.int .i64) _ _ _ 172 [.int .i64 172] from rfl) (Reps.one (show Kd.M (Kd.int .i64) _ _ _ 198 [.int .i64 198] from rfl) (Reps.one (show Kd.M (Kd.int .i64) _ _ _ 203 [.int .i64 203] from rfl) (Reps.one (show Kd.M (Kd.int .i64) _ _ _ 202 [.int .i64 202] from rfl) (Reps.one (show Kd.M (Kd.int .i64) _ _ _ 200 [.int .i64 200] from rfl) (Reps.one (show Kd.M (Kd.int .i64) _ _ _ 201 [.int .i64 201] from rfl) (Reps.one (show Kd.M (Kd.int .i64) _ _ _ 220 [.int .i64 220] from rfl) (Reps.one (show Kd.M (Kd.int .i64) _ _ _ (-1) [.int .i64 (-1)] from rfl) (Reps.one (show Kd.M (Kd.int .i64) _ _ _ 221 [.int .i64 221] from rfl) (Reps.one (show Kd.M (Kd.int .i64) _ _ _ 93 [.int .i64 93] from rfl) (Reps.one (show Kd.M (Kd.int .i64) _ _ _ 129 [.int .i64 129] from rfl) (Reps.one (show Kd.M (Kd.int .i64) _ _ _ 160 [.int .i64 160] from rfl) (Reps.one (show Kd.M (Kd.int .i64) _ _ _ 25 [.int .i64 25] from rfl) (Reps.one (show Kd.M (Kd.int .i64) _ _ _ 117 [.int .i64 117] from rfl) (Reps.one (show Kd.M (Kd.int .i64) _ _ _ 174 [.int .i64 174] from rfl) (Reps.one (show Kd.M (Kd.int .i64) _ _ _ 40 [.int .i64 40] from rfl) (Reps.one (show Kd.M (Kd.int .i64) _ _ _ 98 [.int .i64 98] from rfl) (Reps.one (show Kd.M (Kd.int .i64) _ _ _ 94 [.int .i64 94] from rfl) (Reps.one (show Kd.M (Kd.int .i64) _ _ _ 56 [.int .i64 56] from rfl) (Reps.one (show Kd.M (Kd.int .i64) _ _ _ 277 [.int .i64 277] from rfl) (Reps.none _ _))))))))))))))))))))))))))))))))))))); intro v105 w1 ho2 hb hg_ hnew_; clear hg_ hnew_; (first | rw [← Ny104.out] at ho2 | (simp only [Int.reduceToNat] at ho2; rw [← Ny104.out] at ho2)); have n0_ := Aside0.mk (Kd.R_lower ho2 (below_size (by repeat (first | (with_reducible first | exact HB.out | apply below_alloc | apply pw_below_drewN | apply below_drew1) | exact HB.out)))); have n1_ := Aside0.mk (below_step (by repeat (first | (with_reducible first | exact HB.out | apply below_alloc | apply pw_below_drewN | apply below_drew1) | exact HB.out)) hb); clear HB; have HO106 := n0_; have HB := n1_; clear n0_ n1_; clear hb ho2))
  go_ret
  exact ⟨_, by first | rfl | (simp [errW_none, errW_some] <;> rfl) | (simp [*, errW_none, errW_some] <;> rfl), by (with_reducible repeat (first | apply Kd.R_alloc | apply Kd.R_drewN | apply Kd.R_drew)); exact HO106.out, by repeat (first | (with_reducible first | exact HB.out | apply below_alloc | apply pw_below_drewN | apply below_drew1) | exact HB.out)⟩

/-! ### doorwardref13_row: function 86 -/
def doorwardref13_row.f (a0 : Int) : Option (List Int) := if a0 = 3221225534 then ((doorwardref13_x86.f).bind fun t107 => (some t107)) else (if a0 = 3221225655 then ((doorwardref13_arm.f).bind fun t110 => (some t110)) else (some (([] : List Int))))
set_option maxHeartbeats 8000000 in
set_option maxRecDepth 100000 in
theorem doorwardref13_row.calls (a0 : Int) (r : List Int) (w : World) (h : doorwardref13_row.f a0 = some r) :
    Calls Try.prog 86 #[.int .u32 a0] w fun e w' => ∃ v0_ : Value, e = .returned (v0_) ∧ Kd.R (Kd.int .i64) 3 w' w.heap.size (fun _ => True) v0_ r ∧ Below w.heap.size w w' := by
  have HB := Aside0.mk (Below.refl w.heap.size w)
  have H : (if a0 = 3221225534 then ((doorwardref13_x86.f).bind fun t107 => (some t107)) else (if a0 = 3221225655 then ((doorwardref13_arm.f).bind fun t110 => (some t110)) else (some (([] : List Int))))) = some r := h
  clear h
  by_cases c2 : a0 = 3221225534
  · rw [if_pos c2] at H
    have c2b0 : (a0 == 3221225534) = true := beq_iff_eq.mpr c2
    have c2b1 : (a0 != 3221225534) = false := bne_eq_false_iff_eq.mpr c2
    clear c2
    replace H := Option.bind_eq_some_iff.mp H
    obtain ⟨t107, A30, H⟩ := H
    replace H : (some t107) = some r := H
    have A3 := Aside0.mk A30
    clear A30
    obtain rfl := Option.some.inj H
    go_enter Try.func86, Try.ntmps86
    go_wp2_with (first | ((with_reducible refine gate_callee (f := 119) rfl ?_); refine goesL_ (some 5) rfl rfl Try.func119 (by kernel_rfl) rfl #[] rfl (by (try simp only [List.map_toArray, List.map_cons, List.map_nil]); first | done | rfl | (simp only [List.length_drop, List.length_take]; rfl)) ?_; (with_reducible refine (doorwardref13_x86.calls  t107 _ A3.out).mono ?_); rintro e w4 ⟨v108, rfl, ho0, hb⟩; refine ⟨_, rfl, ?_⟩; have n0_ := Aside0.mk (Kd.R_lower ho0 (below_size (by repeat (first | (with_reducible first | exact HB.out | apply below_alloc | apply pw_below_drewN | apply below_drew1) | exact HB.out)))); have n1_ := Aside0.mk (below_step (by repeat (first | (with_reducible first | exact HB.out | apply below_alloc | apply pw_below_drewN | apply below_drew1) | exact HB.out)) hb); clear HB; have HO109 := n0_; have HB := n1_; clear n0_ n1_; (try clear hb); (try clear hb2); (try clear hk); (try clear hi); (try clear ho0)))
    go_ret
    exact ⟨_, by first | rfl | (simp [errW_none, errW_some] <;> rfl) | (simp [*, errW_none, errW_some] <;> rfl), by (with_reducible repeat (first | apply Kd.R_alloc | apply Kd.R_drewN | apply Kd.R_drew)); exact HO109.out, by repeat (first | (with_reducible first | exact HB.out | apply below_alloc | apply pw_below_drewN | apply below_drew1) | exact HB.out)⟩
  · rw [if_neg c2] at H
    have c2b0 : (a0 == 3221225534) = false := beq_eq_false_iff_ne.mpr c2
    have c2b1 : (a0 != 3221225534) = true := bne_iff_ne.mpr c2
    by_cases c5 : a0 = 3221225655
    · rw [if_pos c5] at H
      have c5b0 : (a0 == 3221225655) = true := beq_iff_eq.mpr c5
      have c5b1 : (a0 != 3221225655) = false := bne_eq_false_iff_eq.mpr c5
      clear c5
      replace H := Option.bind_eq_some_iff.mp H
      obtain ⟨t110, A60, H⟩ := H
      replace H : (some t110) = some r := H
      have A6 := Aside0.mk A60
      clear A60
      obtain rfl := Option.some.inj H
      go_enter Try.func86, Try.ntmps86
      go_wp2_with (first | ((with_reducible refine gate_callee (f := 120) rfl ?_); refine goesL_ (some 8) rfl rfl Try.func120 (by kernel_rfl) rfl #[] rfl (by (try simp only [List.map_toArray, List.map_cons, List.map_nil]); first | done | rfl | (simp only [List.length_drop, List.length_take]; rfl)) ?_; (with_reducible refine (doorwardref13_arm.calls  t110 _ A6.out).mono ?_); rintro e w7 ⟨v111, rfl, ho0, hb⟩; refine ⟨_, rfl, ?_⟩; have n0_ := Aside0.mk (Kd.R_lower ho0 (below_size (by repeat (first | (with_reducible first | exact HB.out | apply below_alloc | apply pw_below_drewN | apply below_drew1) | exact HB.out)))); have n1_ := Aside0.mk (below_step (by repeat (first | (with_reducible first | exact HB.out | apply below_alloc | apply pw_below_drewN | apply below_drew1) | exact HB.out)) hb); clear HB; have HO112 := n0_; have HB := n1_; clear n0_ n1_; (try clear hb); (try clear hb2); (try clear hk); (try clear hi); (try clear ho0)))
      go_ret
      exact ⟨_, by first | rfl | (simp [errW_none, errW_some] <;> rfl) | (simp [*, errW_none, errW_some] <;> rfl), by (with_reducible repeat (first | apply Kd.R_alloc | apply Kd.R_drewN | apply Kd.R_drew)); exact HO112.out, by repeat (first | (with_reducible first | exact HB.out | apply below_alloc | apply pw_below_drewN | apply below_drew1) | exact HB.out)⟩
    · rw [if_neg c5] at H
      have c5b0 : (a0 == 3221225655) = false := beq_eq_false_iff_ne.mpr c5
      have c5b1 : (a0 != 3221225655) = true := bne_iff_ne.mpr c5
      obtain ⟨y113, hy113⟩ : ∃ y_ : List Int, y_ = (([] : List Int)) := ⟨_, rfl⟩
      replace H : (some y113) = some r := by first | (rw [hy113]; with_reducible exact H) | (have H2_ := (Option.bind_some _ _).symm.trans H; rw [hy113]; with_reducible exact H2_) | (have H2_ := (Option.bind_some _ _).symm.trans H; with_reducible exact H2_) | with_reducible exact H | (rw [hy113]; exact H) | exact H
      have Ny113 := Aside0.mk hy113
      clear hy113
      obtain rfl := Option.some.inj H
      go_enter Try.func86, Try.ntmps86
      go_wp2_with (first | ((with_reducible refine gate_dst (N := 9) rfl ?_); refine Kd.R_lit (Kd.int .i64) _ 3 ?hg (N := 9) ?hd (xs := ([] : List Int)) (inner := []) (ok := fun _ => True) (okp := fun _ => True) ?hr ?hp (fun _ hk => hk) trivial (Below.refl _ _) (Nat.le_refl _) (by simp) ?_; (case hd => rfl); (case hg => rfl); (case hr => first | (go_simp; done) | (go_simp; rfl)); (case hp => exact (Reps.none _ _)); intro v114 w8 ho9 hb hg_ hnew_; clear hg_ hnew_; (first | rw [← Ny113.out] at ho9 | (simp only [Int.reduceToNat] at ho9; rw [← Ny113.out] at ho9)); have n0_ := Aside0.mk (Kd.R_lower ho9 (below_size (by repeat (first | (with_reducible first | exact HB.out | apply below_alloc | apply pw_below_drewN | apply below_drew1) | exact HB.out)))); have n1_ := Aside0.mk (below_step (by repeat (first | (with_reducible first | exact HB.out | apply below_alloc | apply pw_below_drewN | apply below_drew1) | exact HB.out)) hb); clear HB; have HO115 := n0_; have HB := n1_; clear n0_ n1_; clear hb ho9))
      go_ret
      exact ⟨_, by first | rfl | (simp [errW_none, errW_some] <;> rfl) | (simp [*, errW_none, errW_some] <;> rfl), by (with_reducible repeat (first | apply Kd.R_alloc | apply Kd.R_drewN | apply Kd.R_drew)); exact HO115.out, by repeat (first | (with_reducible first | exact HB.out | apply below_alloc | apply pw_below_drewN | apply below_drew1) | exact HB.out)⟩

/-! ### doorwardref13_Names: function 87 -/
def doorwardref13_Names.f  : Option (List ByteArray) := some (([(⟨#[114, 101, 97, 100]⟩ : ByteArray), (⟨#[119, 114, 105, 116, 101]⟩ : ByteArray), (⟨#[111, 112, 101, 110]⟩ : ByteArray), (⟨#[99, 108, 111, 115, 101]⟩ : ByteArray), (⟨#[115, 116, 97, 116]⟩ : ByteArray), (⟨#[102, 115, 116, 97, 116]⟩ : ByteArray), (⟨#[108, 115, 101, 101, 107]⟩ : ByteArray), (⟨#[109, 109, 97, 112]⟩ : ByteArray), (⟨#[109, 112, 114, 111, 116, 101, 99, 116]⟩ : ByteArray), (⟨#[109, 117, 110, 109, 97, 112]⟩ : ByteArray), (⟨#[98, 114, 107]⟩ : ByteArray), (⟨#[105, 111, 99, 116, 108]⟩ : ByteArray), (⟨#[97, 99, 99, 101, 115, 115]⟩ : ByteArray), (⟨#[112, 105, 112, 101]⟩ : ByteArray), (⟨#[100, 117, 112]⟩ : ByteArray), (⟨#[103, 101, 116, 112, 105, 100]⟩ : ByteArray), (⟨#[115, 111, 99, 107, 101, 116]⟩ : ByteArray), (⟨#[99, 111, 110, 110, 101, 99, 116]⟩ : ByteArray), (⟨#[97, 99, 99, 101, 112, 116]⟩ : ByteArray), (⟨#[98, 105, 110, 100]⟩ : ByteArray), (⟨#[108, 105, 115, 116, 101, 110]⟩ : ByteArray), (⟨#[99, 108, 111, 110, 101]⟩ : ByteArray), (⟨#[102, 111, 114, 107]⟩ : ByteArray), (⟨#[101, 120, 101, 99, 118, 101]⟩ : ByteArray), (⟨#[101, 120, 105, 116]⟩ : ByteArray), (⟨#[107, 105, 108, 108]⟩ : ByteArray), (⟨#[117, 110, 97, 109, 101]⟩ : ByteArray), (⟨#[102, 99, 110, 116, 108]⟩ : ByteArray), (⟨#[112, 116, 114, 97, 99, 101]⟩ : ByteArray), (⟨#[103, 101, 116, 117, 105, 100]⟩ : ByteArray), (⟨#[109, 111, 117, 110, 116]⟩ : ByteArray), (⟨#[102, 117, 116, 101, 120]⟩ : ByteArray), (⟨#[101, 120, 105, 116, 95, 103, 114, 111, 117, 112]⟩ : ByteArray), (⟨#[111, 112, 101, 110, 97, 116]⟩ : ByteArray), (⟨#[115, 101, 99, 99, 111, 109, 112]⟩ : ByteArray)] : List ByteArray))
set_option maxHeartbeats 8000000 in
set_option maxRecDepth 100000 in
theorem doorwardref13_Names.calls  (r : List ByteArray) (w : World) (h : doorwardref13_Names.f  = some r) :
    Calls Try.prog 87 #[] w fun e w' => ∃ v0_ : Value, e = .returned (v0_) ∧ Kd.R Kd.string 9 w' w.heap.size (fun _ => True) v0_ r ∧ Below w.heap.size w w' := by
  have HB := Aside0.mk (Below.refl w.heap.size w)
  have H : (some (([(⟨#[114, 101, 97, 100]⟩ : ByteArray), (⟨#[119, 114, 105, 116, 101]⟩ : ByteArray), (⟨#[111, 112, 101, 110]⟩ : ByteArray), (⟨#[99, 108, 111, 115, 101]⟩ : ByteArray), (⟨#[115, 116, 97, 116]⟩ : ByteArray), (⟨#[102, 115, 116, 97, 116]⟩ : ByteArray), (⟨#[108, 115, 101, 101, 107]⟩ : ByteArray), (⟨#[109, 109, 97, 112]⟩ : ByteArray), (⟨#[109, 112, 114, 111, 116, 101, 99, 116]⟩ : ByteArray), (⟨#[109, 117, 110, 109, 97, 112]⟩ : ByteArray), (⟨#[98, 114, 107]⟩ : ByteArray), (⟨#[105, 111, 99, 116, 108]⟩ : ByteArray), (⟨#[97, 99, 99, 101, 115, 115]⟩ : ByteArray), (⟨#[112, 105, 112, 101]⟩ : ByteArray), (⟨#[100, 117, 112]⟩ : ByteArray), (⟨#[103, 101, 116, 112, 105, 100]⟩ : ByteArray), (⟨#[115, 111, 99, 107, 101, 116]⟩ : ByteArray), (⟨#[99, 111, 110, 110, 101, 99, 116]⟩ : ByteArray), (⟨#[97, 99, 99, 101, 112, 116]⟩ : ByteArray), (⟨#[98, 105, 110, 100]⟩ : ByteArray), (⟨#[108, 105, 115, 116, 101, 110]⟩ : ByteArray), (⟨#[99, 108, 111, 110, 101]⟩ : ByteArray), (⟨#[102, 111, 114, 107]⟩ : ByteArray), (⟨#[101, 120, 101, 99, 118, 101]⟩ : ByteArray), (⟨#[101, 120, 105, 116]⟩ : ByteArray), (⟨#[107, 105, 108, 108]⟩ : ByteArray), (⟨#[117, 110, 97, 109, 101]⟩ : ByteArray), (⟨#[102, 99, 110, 116, 108]⟩ : ByteArray), (⟨#[112, 116, 114, 97, 99, 101]⟩ : ByteArray), (⟨#[103, 101, 116, 117, 105, 100]⟩ : ByteArray), (⟨#[109, 111, 117, 110, 116]⟩ : ByteArray), (⟨#[102, 117, 116, 101, 120]⟩ : ByteArray), (⟨#[101, 120, 105, 116, 95, 103, 114, 111, 117, 112]⟩ : ByteArray), (⟨#[111, 112, 101, 110, 97, 116]⟩ : ByteArray), (⟨#[115, 101, 99, 99, 111, 109, 112]⟩ : ByteArray)] : List ByteArray))) = some r := h
  clear h
  obtain ⟨y116, hy116⟩ : ∃ y_ : List ByteArray, y_ = (([(⟨#[114, 101, 97, 100]⟩ : ByteArray), (⟨#[119, 114, 105, 116, 101]⟩ : ByteArray), (⟨#[111, 112, 101, 110]⟩ : ByteArray), (⟨#[99, 108, 111, 115, 101]⟩ : ByteArray), (⟨#[115, 116, 97, 116]⟩ : ByteArray), (⟨#[102, 115, 116, 97, 116]⟩ : ByteArray), (⟨#[108, 115, 101, 101, 107]⟩ : ByteArray), (⟨#[109, 109, 97, 112]⟩ : ByteArray), (⟨#[109, 112, 114, 111, 116, 101, 99, 116]⟩ : ByteArray), (⟨#[109, 117, 110, 109, 97, 112]⟩ : ByteArray), (⟨#[98, 114, 107]⟩ : ByteArray), (⟨#[105, 111, 99, 116, 108]⟩ : ByteArray), (⟨#[97, 99, 99, 101, 115, 115]⟩ : ByteArray), (⟨#[112, 105, 112, 101]⟩ : ByteArray), (⟨#[100, 117, 112]⟩ : ByteArray), (⟨#[103, 101, 116, 112, 105, 100]⟩ : ByteArray), (⟨#[115, 111, 99, 107, 101, 116]⟩ : ByteArray), (⟨#[99, 111, 110, 110, 101, 99, 116]⟩ : ByteArray), (⟨#[97, 99, 99, 101, 112, 116]⟩ : ByteArray), (⟨#[98, 105, 110, 100]⟩ : ByteArray), (⟨#[108, 105, 115, 116, 101, 110]⟩ : ByteArray), (⟨#[99, 108, 111, 110, 101]⟩ : ByteArray), (⟨#[102, 111, 114, 107]⟩ : ByteArray), (⟨#[101, 120, 101, 99, 118, 101]⟩ : ByteArray), (⟨#[101, 120, 105, 116]⟩ : ByteArray), (⟨#[107, 105, 108, 108]⟩ : ByteArray), (⟨#[117, 110, 97, 109, 101]⟩ : ByteArray), (⟨#[102, 99, 110, 116, 108]⟩ : ByteArray), (⟨#[112, 116, 114, 97, 99, 101]⟩ : ByteArray), (⟨#[103, 101, 116, 117, 105, 100]⟩ : ByteArray), (⟨#[109, 111, 117, 110, 116]⟩ : ByteArray), (⟨#[102, 117, 116, 101, 120]⟩ : ByteArray), (⟨#[101, 120, 105, 116, 95, 103, 114, 111, 117, 112]⟩ : ByteArray), (⟨#[111, 112, 101, 110, 97, 116]⟩ : ByteArray), (⟨#[115, 101, 99, 99, 111, 109, 112]⟩ : ByteArray)] : List ByteArray)) := ⟨_, rfl⟩
  replace H : (some y116) = some r := by first | (rw [hy116]; with_reducible exact H) | (have H2_ := (Option.bind_some _ _).symm.trans H; rw [hy116]; with_reducible exact H2_) | (have H2_ := (Option.bind_some _ _).symm.trans H; with_reducible exact H2_) | with_reducible exact H | (rw [hy116]; exact H) | exact H
  have Ny116 := Aside0.mk hy116
  clear hy116
  obtain rfl := Option.some.inj H
  go_enter Try.func87, Try.ntmps87
  go_wp2_with (first | ((with_reducible refine gate_dst (N := 1) rfl ?_); refine Kd.R_lit Kd.string _ 9 ?hg (N := 1) ?hd (xs := ([(⟨#[114, 101, 97, 100]⟩ : ByteArray), (⟨#[119, 114, 105, 116, 101]⟩ : ByteArray), (⟨#[111, 112, 101, 110]⟩ : ByteArray), (⟨#[99, 108, 111, 115, 101]⟩ : ByteArray), (⟨#[115, 116, 97, 116]⟩ : ByteArray), (⟨#[102, 115, 116, 97, 116]⟩ : ByteArray), (⟨#[108, 115, 101, 101, 107]⟩ : ByteArray), (⟨#[109, 109, 97, 112]⟩ : ByteArray), (⟨#[109, 112, 114, 111, 116, 101, 99, 116]⟩ : ByteArray), (⟨#[109, 117, 110, 109, 97, 112]⟩ : ByteArray), (⟨#[98, 114, 107]⟩ : ByteArray), (⟨#[105, 111, 99, 116, 108]⟩ : ByteArray), (⟨#[97, 99, 99, 101, 115, 115]⟩ : ByteArray), (⟨#[112, 105, 112, 101]⟩ : ByteArray), (⟨#[100, 117, 112]⟩ : ByteArray), (⟨#[103, 101, 116, 112, 105, 100]⟩ : ByteArray), (⟨#[115, 111, 99, 107, 101, 116]⟩ : ByteArray), (⟨#[99, 111, 110, 110, 101, 99, 116]⟩ : ByteArray), (⟨#[97, 99, 99, 101, 112, 116]⟩ : ByteArray), (⟨#[98, 105, 110, 100]⟩ : ByteArray), (⟨#[108, 105, 115, 116, 101, 110]⟩ : ByteArray), (⟨#[99, 108, 111, 110, 101]⟩ : ByteArray), (⟨#[102, 111, 114, 107]⟩ : ByteArray), (⟨#[101, 120, 101, 99, 118, 101]⟩ : ByteArray), (⟨#[101, 120, 105, 116]⟩ : ByteArray), (⟨#[107, 105, 108, 108]⟩ : ByteArray), (⟨#[117, 110, 97, 109, 101]⟩ : ByteArray), (⟨#[102, 99, 110, 116, 108]⟩ : ByteArray), (⟨#[112, 116, 114, 97, 99, 101]⟩ : ByteArray), (⟨#[103, 101, 116, 117, 105, 100]⟩ : ByteArray), (⟨#[109, 111, 117, 110, 116]⟩ : ByteArray), (⟨#[102, 117, 116, 101, 120]⟩ : ByteArray), (⟨#[101, 120, 105, 116, 95, 103, 114, 111, 117, 112]⟩ : ByteArray), (⟨#[111, 112, 101, 110, 97, 116]⟩ : ByteArray), (⟨#[115, 101, 99, 99, 111, 109, 112]⟩ : ByteArray)] : List ByteArray)) (inner := [.string (⟨#[114, 101, 97, 100]⟩ : ByteArray), .string (⟨#[119, 114, 105, 116, 101]⟩ : ByteArray), .string (⟨#[111, 112, 101, 110]⟩ : ByteArray), .string (⟨#[99, 108, 111, 115, 101]⟩ : ByteArray), .string (⟨#[115, 116, 97, 116]⟩ : ByteArray), .string (⟨#[102, 115, 116, 97, 116]⟩ : ByteArray), .string (⟨#[108, 115, 101, 101, 107]⟩ : ByteArray), .string (⟨#[109, 109, 97, 112]⟩ : ByteArray), .string (⟨#[109, 112, 114, 111, 116, 101, 99, 116]⟩ : ByteArray), .string (⟨#[109, 117, 110, 109, 97, 112]⟩ : ByteArray), .string (⟨#[98, 114, 107]⟩ : ByteArray), .string (⟨#[105, 111, 99, 116, 108]⟩ : ByteArray), .string (⟨#[97, 99, 99, 101, 115, 115]⟩ : ByteArray), .string (⟨#[112, 105, 112, 101]⟩ : ByteArray), .string (⟨#[100, 117, 112]⟩ : ByteArray), .string (⟨#[103, 101, 116, 112, 105, 100]⟩ : ByteArray), .string (⟨#[115, 111, 99, 107, 101, 116]⟩ : ByteArray), .string (⟨#[99, 111, 110, 110, 101, 99, 116]⟩ : ByteArray), .string (⟨#[97, 99, 99, 101, 112, 116]⟩ : ByteArray), .string (⟨#[98, 105, 110, 100]⟩ : ByteArray), .string (⟨#[108, 105, 115, 116, 101, 110]⟩ : ByteArray), .string (⟨#[99, 108, 111, 110, 101]⟩ : ByteArray), .string (⟨#[102, 111, 114, 107]⟩ : ByteArray), .string (⟨#[101, 120, 101, 99, 118, 101]⟩ : ByteArray), .string (⟨#[101, 120, 105, 116]⟩ : ByteArray), .string (⟨#[107, 105, 108, 108]⟩ : ByteArray), .string (⟨#[117, 110, 97, 109, 101]⟩ : ByteArray), .string (⟨#[102, 99, 110, 116, 108]⟩ : ByteArray), .string (⟨#[112, 116, 114, 97, 99, 101]⟩ : ByteArray), .string (⟨#[103, 101, 116, 117, 105, 100]⟩ : ByteArray), .string (⟨#[109, 111, 117, 110, 116]⟩ : ByteArray), .string (⟨#[102, 117, 116, 101, 120]⟩ : ByteArray), .string (⟨#[101, 120, 105, 116, 95, 103, 114, 111, 117, 112]⟩ : ByteArray), .string (⟨#[111, 112, 101, 110, 97, 116]⟩ : ByteArray), .string (⟨#[115, 101, 99, 99, 111, 109, 112]⟩ : ByteArray)]) (ok := fun _ => True) (okp := fun _ => True) ?hr ?hp (fun _ hk => hk) trivial (Below.refl _ _) (Nat.le_refl _) (by simp) ?_; (case hd => rfl); (case hg => rfl); (case hr => first | (go_simp; done) | (go_simp; rfl)); (case hp => exact (Reps.one (show Kd.M Kd.string _ _ _ (⟨#[114, 101, 97, 100]⟩ : ByteArray) [.string (⟨#[114, 101, 97, 100]⟩ : ByteArray)] from rfl) (Reps.one (show Kd.M Kd.string _ _ _ (⟨#[119, 114, 105, 116, 101]⟩ : ByteArray) [.string (⟨#[119, 114, 105, 116, 101]⟩ : ByteArray)] from rfl) (Reps.one (show Kd.M Kd.string _ _ _ (⟨#[111, 112, 101, 110]⟩ : ByteArray) [.string (⟨#[111, 112, 101, 110]⟩ : ByteArray)] from rfl) (Reps.one (show Kd.M Kd.string _ _ _ (⟨#[99, 108, 111, 115, 101]⟩ : ByteArray) [.string (⟨#[99, 108, 111, 115, 101]⟩ : ByteArray)] from rfl) (Reps.one (show Kd.M Kd.string _ _ _ (⟨#[115, 116, 97, 116]⟩ : ByteArray) [.string (⟨#[115, 116, 97, 116]⟩ : ByteArray)] from rfl) (Reps.one (show Kd.M Kd.string _ _ _ (⟨#[102, 115, 116, 97, 116]⟩ : ByteArray) [.string (⟨#[102, 115, 116, 97, 116]⟩ : ByteArray)] from rfl) (Reps.one (show Kd.M Kd.string _ _ _ (⟨#[108, 115, 101, 101, 107]⟩ : ByteArray) [.string (⟨#[108, 115, 101, 101, 107]⟩ : ByteArray)] from rfl) (Reps.one (show Kd.M Kd.string _ _ _ (⟨#[109, 109, 97, 112]⟩ : ByteArray) [.string (⟨#[109, 109, 97, 112]⟩ : ByteArray)] from rfl) (Reps.one (show Kd.M Kd.string _ _ _ (⟨#[109, 112, 114, 111, 116, 101, 99, 116]⟩ : ByteArray) [.string (⟨#[109, 112, 114, 111, 116, 101, 99, 116]⟩ : ByteArray)] from rfl) (Reps.one (show Kd.M Kd.string _ _ _ (⟨#[109, 117, 110, 109, 97, 112]⟩ : ByteArray) [.string (⟨#[109, 117, 110, 109, 97, 112]⟩ : ByteArray)] from rfl) (Reps.one (show Kd.M Kd.string _ _ _ (⟨#[98, 114, 107]⟩ : ByteArray) [.string (⟨#[98, 114, 107]⟩ : ByteArray)] from rfl) (Reps.one (show Kd.M Kd.string _ _ _ (⟨#[105, 111, 99, 116, 108]⟩ : ByteArray) [.string (⟨#[105, 111, 99, 116, 108]⟩ : ByteArray)] from rfl) (Reps.one (show Kd.M Kd.string _ _ _ (⟨#[97, 99, 99, 101, 115, 115]⟩ : ByteArray) [.string (⟨#[97, 99, 99, 101, 115, 115]⟩ : ByteArray)] from rfl) (Reps.one (show Kd.M Kd.string _ _ _ (⟨#[112, 105, 112, 101]⟩ : ByteArray) [.string (⟨#[112, 105, 112, 101]⟩ : ByteArray)] from rfl) (Reps.one (show Kd.M Kd.string _ _ _ (⟨#[100, 117, 112]⟩ : ByteArray) [.string (⟨#[100, 117, 112]⟩ : ByteArray)] from rfl) (Reps.one (show Kd.M Kd.string _ _ _ (⟨#[103, 101, 116, 112, 105, 100]⟩ : ByteArray) [.string (⟨#[103, 101, 116, 112, 105, 100]⟩ : ByteArray)] from rfl) (Reps.one (show Kd.M Kd.string _ _ _ (⟨#[115, 111, 99, 107, 101, 116]⟩ : ByteArray) [.string (⟨#[115, 111, 99, 107, 101, 116]⟩ : ByteArray)] from rfl) (Reps.one (show Kd.M Kd.string _ _ _ (⟨#[99, 111, 110, 110, 101, 99, 116]⟩ : ByteArray) [.string (⟨#[99, 111, 110, 110, 101, 99, 116]⟩ : ByteArray)] from rfl) (Reps.one (show Kd.M Kd.string _ _ _ (⟨#[97, 99, 99, 101, 112, 116]⟩ : ByteArray) [.string (⟨#[97, 99, 99, 101, 112, 116]⟩ : ByteArray)] from rfl) (Reps.one (show Kd.M Kd.string _ _ _ (⟨#[98, 105, 110, 100]⟩ : ByteArray) [.string (⟨#[98, 105, 110, 100]⟩ : ByteArray)] from rfl) (Reps.one (show Kd.M Kd.string _ _ _ (⟨#[108, 105, 115, 116, 101, 110]⟩ : ByteArray) [.string (⟨#[108, 105, 115, 116, 101, 110]⟩ : ByteArray)] from rfl) (Reps.one (show Kd.M Kd.string _ _ _ (⟨#[99, 108, 111, 110, 101]⟩ : ByteArray) [.string (⟨#[99, 108, 111, 110, 101]⟩ : ByteArray)] from rfl) (Reps.one (show Kd.M Kd.string _ _ _ (⟨#[102, 111, 114, 107]⟩ : ByteArray) [.string (⟨#[102, 111, 114, 107]⟩ : ByteArray)] from rfl) (Reps.one (show Kd.M Kd.string _ _ _ (⟨#[101, 120, 101, 99, 118, 101]⟩ : ByteArray) [.string (⟨#[101, 120, 101, 99, 118, 101]⟩ : ByteArray)] from rfl) (Reps.one (show Kd.M Kd.string _ _ _ (⟨#[101, 120, 105, 116]⟩ : ByteArray) [.string (⟨#[101, 120, 105, 116]⟩ : ByteArray)] from rfl) (Reps.one (show Kd.M Kd.string _ _ _ (⟨#[107, 105, 108, 108]⟩ : ByteArray) [.string (⟨#[107, 105, 108, 108]⟩ : ByteArray)] from rfl) (Reps.one (show Kd.M Kd.string _ _ _ (⟨#[117, 110, 97, 109, 101]⟩ : ByteArray) [.string (⟨#[117, 110, 97, 109, 101]⟩ : ByteArray)] from rfl) (Reps.one (show Kd.M Kd.string _ _ _ (⟨#[102, 99, 110, 116, 108]⟩ : ByteArray) [.string (⟨#[102, 99, 110, 116, 108]⟩ : ByteArray)] from rfl) (Reps.one (show Kd.M Kd.string _ _ _ (⟨#[112, 116, 114, 97, 99, 101]⟩ : ByteArray) [.string (⟨#[112, 116, 114, 97, 99, 101]⟩ : ByteArray)] from rfl) (Reps.one (show Kd.M Kd.string _ _ _ (⟨#[103, 101, 116, 117, 105, 100]⟩ : ByteArray) [.string (⟨#[103, 101, 116, 117, 105, 100]⟩ : ByteArray)] from rfl) (Reps.one (show Kd.M Kd.string _ _ _ (⟨#[109, 111, 117, 110, 116]⟩ : ByteArray) [.string (⟨#[109, 111, 117, 110, 116]⟩ : ByteArray)] from rfl) (Reps.one (show Kd.M Kd.string _ _ _ (⟨#[102, 117, 116, 101, 120]⟩ : ByteArray) [.string (⟨#[102, 117, 116, 101, 120]⟩ : ByteArray)] from rfl) (Reps.one (show Kd.M Kd.string _ _ _ (⟨#[101, 120, 105, 116, 95, 103, 114, 111, 117, 112]⟩ : ByteArray) [.string (⟨#[101, 120, 105, 116, 95, 103, 114, 111, 117, 112]⟩ : ByteArray)] from rfl) (Reps.one (show Kd.M Kd.string _ _ _ (⟨#[111, 112, 101, 110, 97, 116]⟩ : ByteArray) [.string (⟨#[111, 112, 101, 110, 97, 116]⟩ : ByteArray)] from rfl) (Reps.one (show Kd.M Kd.string _ _ _ (⟨#[115, 101, 99, 99, 111, 109, 112]⟩ : ByteArray) [.string (⟨#[115, 101, 99, 99, 111, 109, 112]⟩ : ByteArray)] from rfl) (Reps.none _ _))))))))))))))))))))))))))))))))))))); intro v117 w1 ho2 hb hg_ hnew_; clear hg_ hnew_; (first | rw [← Ny116.out] at ho2 | (simp only [Int.reduceToNat] at ho2; rw [← Ny116.out] at ho2)); have n0_ := Aside0.mk (Kd.R_lower ho2 (below_size (by repeat (first | (with_reducible first | exact HB.out | apply below_alloc | apply pw_below_drewN | apply below_drew1) | exact HB.out)))); have n1_ := Aside0.mk (below_step (by repeat (first | (with_reducible first | exact HB.out | apply below_alloc | apply pw_below_drewN | apply below_drew1) | exact HB.out)) hb); clear HB; have HO118 := n0_; have HB := n1_; clear n0_ n1_; clear hb ho2))
  go_ret
  exact ⟨_, by first | rfl | (simp [errW_none, errW_some] <;> rfl) | (simp [*, errW_none, errW_some] <;> rfl), by (with_reducible repeat (first | apply Kd.R_alloc | apply Kd.R_drewN | apply Kd.R_drew)); exact HO118.out, by repeat (first | (with_reducible first | exact HB.out | apply below_alloc | apply pw_below_drewN | apply below_drew1) | exact HB.out)⟩

/-! ### doorwardref13_Nr: function 40 -/
def doorwardref13_Nr.l0 : Nat → ByteArray → List ByteArray → List Int → Int → Int → Option (Int × Bool)
  | 0, _, _, _, _, _ => none
  | k + 1, x1, x7, x13, x14, x15 => if x15 < x14 then (if 0 ≤ x15 then (if x15 < (x13.length : Int) then (if x15 < (x7.length : Int) then (if (rdOf ByteArray.empty x7 x15).toList = x1.toList then (if (rd x13 x15) ≥ 0 then (some ((rd x13 x15) % 4294967296, true)) else (doorwardref13_Nr.l0 k x1 x7 x13 x14 (wrap64 (x15 + 1)))) else (doorwardref13_Nr.l0 k x1 x7 x13 x14 (wrap64 (x15 + 1)))) else (none)) else (none)) else (none)) else (some (0, false))
def doorwardref13_Nr.f (k : Nat) (a0 : Int) (a1 : ByteArray) : Option (Int × Bool) := (doorwardref13_row.f a0).bind fun t119 => ((doorwardref13_Names.f).bind fun t122 => (doorwardref13_Nr.l0 k a1 t122 t119 (t119.length : Int) 0))
theorem doorwardref13_Nr.mono_l : ∀ k, (∀ y0 y1 y2 y3 y4, LeO (doorwardref13_Nr.l0 k y0 y1 y2 y3 y4) (doorwardref13_Nr.l0 (k + 1) y0 y1 y2 y3 y4))
  | 0 => fun _ _ _ _ _ r h => by simp [doorwardref13_Nr.l0] at h
  | k + 1 => by
    have ih0 := doorwardref13_Nr.mono_l k
    · intro y0 y1 y2 y3 y4
      unfold doorwardref13_Nr.l0
      repeat' first
      | (with_reducible exact ih0 _ _ _ _ _)
      | (with_reducible exact LeO.refl _)
      | (with_reducible exact LeO.none _)
      | (with_reducible refine LeO.ite ?_ ?_)
      | (with_reducible refine LeO.bind ?_ (fun _ => ?_))
      | exact ih0 _ _ _ _ _
      | exact LeO.none _
      | refine LeO.ite ?_ ?_
      | refine LeO.bind ?_ (fun _ => ?_)
theorem doorwardref13_Nr.mono : ∀ a0 a1 k, LeO (doorwardref13_Nr.f k a0 a1) (doorwardref13_Nr.f (k + 1) a0 a1) := by
  intro a0 a1 k
  have ih0 := doorwardref13_Nr.mono_l k
  unfold doorwardref13_Nr.f
  repeat' first
      | (with_reducible exact ih0 _ _ _ _ _)
      | (with_reducible exact LeO.refl _)
      | (with_reducible exact LeO.none _)
      | (with_reducible refine LeO.ite ?_ ?_)
      | (with_reducible refine LeO.bind ?_ (fun _ => ?_))
      | exact ih0 _ _ _ _ _
      | exact LeO.none _
      | refine LeO.ite ?_ ?_
      | refine LeO.bind ?_ (fun _ => ?_)
set_option maxHeartbeats 8000000 in
set_option maxRecDepth 100000 in
theorem doorwardref13_Nr.calls (k : Nat) (a0 : Int) (a1 : ByteArray) (r1 : Int) (r2 : Bool) (w : World) (h : doorwardref13_Nr.f k a0 a1 = some (r1, r2)) :
    Calls Try.prog 40 #[.int .u32 a0, .string a1] w fun e w' => e = .returned (.tuple #[.int .u32 r1, .bool r2]) ∧ Below w.heap.size w w' := by
  have HB := Aside0.mk (Below.refl w.heap.size w)
  have H : ((doorwardref13_row.f a0).bind fun t119 => ((doorwardref13_Names.f).bind fun t122 => (doorwardref13_Nr.l0 k a1 t122 t119 (t119.length : Int) 0))) = some (r1, r2) := h
  clear h
  replace H := Option.bind_eq_some_iff.mp H
  obtain ⟨t119, A30, H⟩ := H
  replace H : ((doorwardref13_Names.f).bind fun t122 => (doorwardref13_Nr.l0 k a1 t122 t119 (t119.length : Int) 0)) = some (r1, r2) := H
  have A3 := Aside0.mk A30
  clear A30
  replace H := Option.bind_eq_some_iff.mp H
  obtain ⟨t122, A40, H⟩ := H
  replace H : (doorwardref13_Nr.l0 k a1 t122 t119 (t119.length : Int) 0) = some (r1, r2) := H
  have A4 := Aside0.mk A40
  clear A40
  have H' := Aside0.mk H
  clear H
  go_enter Try.func40, Try.ntmps40
  go_wp2_with (first | ((with_reducible refine gate_callee (f := 86) rfl ?_); refine goesL_ (some 11) rfl rfl Try.func86 (by kernel_rfl) rfl #[.int .u32 a0] rfl (by (try simp only [List.map_toArray, List.map_cons, List.map_nil]); first | done | rfl | (simp only [List.length_drop, List.length_take]; rfl)) ?_; (with_reducible refine (doorwardref13_row.calls a0 t119 _ A3.out).mono ?_); rintro e w5 ⟨v120, rfl, ho0, hb⟩; refine ⟨_, rfl, ?_⟩; have n0_ := Aside0.mk (Kd.R_lower ho0 (below_size (by repeat (first | (with_reducible first | exact HB.out | apply below_alloc | apply pw_below_drewN | apply below_drew1) | exact HB.out)))); have n1_ := Aside0.mk (below_step (by repeat (first | (with_reducible first | exact HB.out | apply below_alloc | apply pw_below_drewN | apply below_drew1) | exact HB.out)) hb); clear HB; have HO121 := n0_; have HB := n1_; clear n0_ n1_; (try clear hb); (try clear hb2); (try clear hk); (try clear hi); (try clear ho0)) | ((with_reducible refine gate_callee (f := 87) rfl ?_); refine goesL_ (some 12) rfl rfl Try.func87 (by kernel_rfl) rfl #[] rfl (by (try simp only [List.map_toArray, List.map_cons, List.map_nil]); first | done | rfl | (simp only [List.length_drop, List.length_take]; rfl)) ?_; (with_reducible refine (doorwardref13_Names.calls  t122 _ A4.out).mono ?_); rintro e w6 ⟨v123, rfl, ho0, hb⟩; refine ⟨_, rfl, ?_⟩; have n0_ := Aside0.mk (Kd.R_below (by (with_reducible repeat (first | apply Kd.R_alloc | apply Kd.R_drewN | apply Kd.R_drew)); exact HO121.out) hb); have n1_ := Aside0.mk (Kd.R_lower ho0 (below_size (by repeat (first | (with_reducible first | exact HB.out | apply below_alloc | apply pw_below_drewN | apply below_drew1) | exact HB.out)))); have n2_ := Aside0.mk (below_step (by repeat (first | (with_reducible first | exact HB.out | apply below_alloc | apply pw_below_drewN | apply below_drew1) | exact HB.out)) hb); clear HO121; clear HB; have HO121 := n0_; have HO124 := n1_; have HB := n2_; clear n0_ n1_ n2_; (try clear hb); (try clear hb2); (try clear hk); (try clear hi); (try clear ho0); obtain ⟨Ao7, co7, eo7⟩ := Kd.R_slice HO121.out; subst eo7))
  go_loopg [15] k (fun kq v15 w' => ∃ (x15_1 : Int), v15 = .int .i64 x15_1 ∧ Aside0 (doorwardref13_Nr.l0 kq a1 t122 t119 (t119.length : Int) x15_1 = some (r1, r2)) ∧ Aside0 (kq ≤ k) ∧ Aside0 (Kd.R Kd.string 9 w' w.heap.size (fun _ => True) v123 t122) ∧ Aside0 (Kd.R (Kd.int .i64) 3 w' w.heap.size (fun _ => True) (.slice Ao7 t119.length co7) t119) ∧ Aside0 (Below w.heap.size w w'))
  case atStart => exact ⟨(0), (by first | rfl | (simp; done) | (simp [*]; done)), H', ⟨Nat.le_refl _⟩, ⟨by (with_reducible repeat (first | apply Kd.R_alloc | apply Kd.R_drewN | apply Kd.R_drew)); exact HO124.out⟩, ⟨by (with_reducible repeat (first | apply Kd.R_alloc | apply Kd.R_drewN | apply Kd.R_drew)); exact HO121.out⟩, ⟨by repeat (first | (with_reducible first | exact HB.out | apply below_alloc | apply pw_below_drewN | apply below_drew1) | exact HB.out)⟩⟩
  case round =>
    clear H'
    try clear p2
    try clear c4
    obtain ⟨x15_1, rfl, HA, HK1, HO_7, HO_13, HB⟩ := hrel
    cases gk with
    | zero => exact absurd HA.out (by simp [doorwardref13_Nr.l0])
    | succ k1 =>
      have H := HA.out
      clear HA
      simp only [doorwardref13_Nr.l0] at H
      by_cases c8 : x15_1 < (t119.length : Int)
      · rw [if_pos c8] at H
        have c8b0 : decide (x15_1 < (t119.length : Int)) = true := decide_eq_true c8
        clear c8
        by_cases c9 : 0 ≤ x15_1
        · rw [if_pos c9] at H
          have c9b0 : decide (0 ≤ x15_1) = true := decide_eq_true c9
          clear c9
          by_cases c10 : x15_1 < (t119.length : Int)
          · rw [if_pos c10] at H
            have c10b0 : decide (x15_1 < (t119.length : Int)) = true := decide_eq_true c10
            clear c10
            by_cases c11 : x15_1 < (t122.length : Int)
            · rw [if_pos c11] at H
              have c11b0 : decide (x15_1 < (t122.length : Int)) = true := decide_eq_true c11
              clear c11
              by_cases c12 : (rdOf ByteArray.empty t122 x15_1).toList = a1.toList
              · rw [if_pos c12] at H
                have c12b0 : ((rdOf ByteArray.empty t122 x15_1).toList == a1.toList) = true := beq_iff_eq.mpr c12
                have c12b1 : ((rdOf ByteArray.empty t122 x15_1).toList != a1.toList) = false := bne_eq_false_iff_eq.mpr c12
                clear c12
                by_cases c13 : (rd t119 x15_1) ≥ 0
                · rw [if_pos c13] at H
                  have c13b0 : decide (0 ≤ (rd t119 x15_1)) = true := decide_eq_true c13
                  clear c13
                  simp only [Option.some.injEq, Prod.mk.injEq] at H
                  obtain ⟨rfl, rfl⟩ := H
                  have p125 : 0 ≤ (x15_1 : Int) := of_decide_eq_true (by first | (with_reducible assumption) | assumption)
                  have q125 : x15_1 < (t119.length : Int) := of_decide_eq_true (by first | (with_reducible assumption) | assumption)
                  obtain ⟨ad125, e125, hx125_0⟩ := Kd.at_int (Kd.R_reads' HO_13.out).2.2 x15_1 p125 q125
                  cases e125
                  replace p125 := eq_true p125
                  replace q125 := eq_true q125
                  obtain ⟨Ao14, co14, eo14⟩ := Kd.R_slice HO_7.out
                  subst eo14
                  have p126 : 0 ≤ (x15_1 : Int) := of_decide_eq_true (by first | (with_reducible assumption) | assumption)
                  have q126 : x15_1 < (t122.length : Int) := of_decide_eq_true (by first | (with_reducible assumption) | assumption)
                  obtain ⟨ad126, e126, hx126_0⟩ := Kd.at_string (Kd.R_reads' HO_7.out).2.2 x15_1 p126 q126
                  cases e126
                  replace p126 := eq_true p126
                  replace q126 := eq_true q126
                  go_wp2
                  go_ret2
                  exact ⟨by first | rfl | (simp [errW_none, errW_some] <;> rfl) | (simp [*, errW_none, errW_some] <;> rfl), by repeat (first | (with_reducible first | exact HB.out | apply below_alloc | apply pw_below_drewN | apply below_drew1) | exact HB.out)⟩
                · rw [if_neg c13] at H
                  have c13b0 : decide (0 ≤ (rd t119 x15_1)) = false := decide_eq_false c13
                  clear c13
                  have H' := Aside0.mk H
                  clear H
                  have p125 : 0 ≤ (x15_1 : Int) := of_decide_eq_true (by first | (with_reducible assumption) | assumption)
                  have q125 : x15_1 < (t119.length : Int) := of_decide_eq_true (by first | (with_reducible assumption) | assumption)
                  obtain ⟨ad125, e125, hx125_0⟩ := Kd.at_int (Kd.R_reads' HO_13.out).2.2 x15_1 p125 q125
                  cases e125
                  replace p125 := eq_true p125
                  replace q125 := eq_true q125
                  obtain ⟨Ao15, co15, eo15⟩ := Kd.R_slice HO_7.out
                  subst eo15
                  have p126 : 0 ≤ (x15_1 : Int) := of_decide_eq_true (by first | (with_reducible assumption) | assumption)
                  have q126 : x15_1 < (t122.length : Int) := of_decide_eq_true (by first | (with_reducible assumption) | assumption)
                  obtain ⟨ad126, e126, hx126_0⟩ := Kd.at_string (Kd.R_reads' HO_7.out).2.2 x15_1 p126 q126
                  cases e126
                  replace p126 := eq_true p126
                  replace q126 := eq_true q126
                  go_wp2
                  go_roundg k1
                  case measure => have := HK1.out; omega
                  case rel => exact ⟨(wrap64 (x15_1 + 1)), (by first | rfl | (simp; done) | (simp [*]; done)), H', ⟨by have := HK1.out; omega⟩, ⟨by (with_reducible repeat (first | apply Kd.R_alloc | apply Kd.R_drewN | apply Kd.R_drew)); exact HO_7.out⟩, ⟨by (with_reducible repeat (first | apply Kd.R_alloc | apply Kd.R_drewN | apply Kd.R_drew)); exact HO_13.out⟩, ⟨by repeat (first | (with_reducible first | exact HB.out | apply below_alloc | apply pw_below_drewN | apply below_drew1) | exact HB.out)⟩⟩
              · rw [if_neg c12] at H
                have c12b0 : ((rdOf ByteArray.empty t122 x15_1).toList == a1.toList) = false := beq_eq_false_iff_ne.mpr c12
                have c12b1 : ((rdOf ByteArray.empty t122 x15_1).toList != a1.toList) = true := bne_iff_ne.mpr c12
                have H' := Aside0.mk H
                clear H
                have p125 : 0 ≤ (x15_1 : Int) := of_decide_eq_true (by first | (with_reducible assumption) | assumption)
                have q125 : x15_1 < (t119.length : Int) := of_decide_eq_true (by first | (with_reducible assumption) | assumption)
                obtain ⟨ad125, e125, hx125_0⟩ := Kd.at_int (Kd.R_reads' HO_13.out).2.2 x15_1 p125 q125
                cases e125
                replace p125 := eq_true p125
                replace q125 := eq_true q125
                obtain ⟨Ao16, co16, eo16⟩ := Kd.R_slice HO_7.out
                subst eo16
                have p126 : 0 ≤ (x15_1 : Int) := of_decide_eq_true (by first | (with_reducible assumption) | assumption)
                have q126 : x15_1 < (t122.length : Int) := of_decide_eq_true (by first | (with_reducible assumption) | assumption)
                obtain ⟨ad126, e126, hx126_0⟩ := Kd.at_string (Kd.R_reads' HO_7.out).2.2 x15_1 p126 q126
                cases e126
                replace p126 := eq_true p126
                replace q126 := eq_true q126
                go_wp2
                go_roundg k1
                case measure => have := HK1.out; omega
                case rel => exact ⟨(wrap64 (x15_1 + 1)), (by first | rfl | (simp; done) | (simp [*]; done)), H', ⟨by have := HK1.out; omega⟩, ⟨by (with_reducible repeat (first | apply Kd.R_alloc | apply Kd.R_drewN | apply Kd.R_drew)); exact HO_7.out⟩, ⟨by (with_reducible repeat (first | apply Kd.R_alloc | apply Kd.R_drewN | apply Kd.R_drew)); exact HO_13.out⟩, ⟨by repeat (first | (with_reducible first | exact HB.out | apply below_alloc | apply pw_below_drewN | apply below_drew1) | exact HB.out)⟩⟩
            · rw [if_neg c11] at H
              exact absurd H (by simp)
          · rw [if_neg c10] at H
            exact absurd H (by simp)
        · rw [if_neg c9] at H
          exact absurd H (by simp)
      · rw [if_neg c8] at H
        have c8b0 : decide (x15_1 < (t119.length : Int)) = false := decide_eq_false c8
        clear c8
        simp only [Option.some.injEq, Prod.mk.injEq] at H
        obtain ⟨rfl, rfl⟩ := H
        go_wp2
        go_ret2
        exact ⟨by first | rfl | (simp [errW_none, errW_some] <;> rfl) | (simp [*, errW_none, errW_some] <;> rfl), by repeat (first | (with_reducible first | exact HB.out | apply below_alloc | apply pw_below_drewN | apply below_drew1) | exact HB.out)⟩

/-! ### doorwardref13_Name: function 41 -/
def doorwardref13_Name.l0 : Nat → Int → List ByteArray → List Int → Int → Int → Option (ByteArray × Bool)
  | 0, _, _, _, _, _ => none
  | k + 1, x1, x6, x11, x12, x13 => if x13 < x12 then (if 0 ≤ x13 then (if x13 < (x11.length : Int) then (if (rd x11 x13) ≥ 0 then (if ((rd x11 x13) % 4294967296) = x1 then (if x13 < (x6.length : Int) then (some (rdOf ByteArray.empty x6 x13, true)) else (none)) else (doorwardref13_Name.l0 k x1 x6 x11 x12 (wrap64 (x13 + 1)))) else (doorwardref13_Name.l0 k x1 x6 x11 x12 (wrap64 (x13 + 1)))) else (none)) else (none)) else (some ((⟨#[]⟩ : ByteArray), false))
def doorwardref13_Name.f (k : Nat) (a0 : Int) (a1 : Int) : Option (ByteArray × Bool) := (doorwardref13_Names.f).bind fun t127 => ((doorwardref13_row.f a0).bind fun t130 => (doorwardref13_Name.l0 k a1 t127 t130 (t130.length : Int) 0))
theorem doorwardref13_Name.mono_l : ∀ k, (∀ y0 y1 y2 y3 y4, LeO (doorwardref13_Name.l0 k y0 y1 y2 y3 y4) (doorwardref13_Name.l0 (k + 1) y0 y1 y2 y3 y4))
  | 0 => fun _ _ _ _ _ r h => by simp [doorwardref13_Name.l0] at h
  | k + 1 => by
    have ih0 := doorwardref13_Name.mono_l k
    · intro y0 y1 y2 y3 y4
      unfold doorwardref13_Name.l0
      repeat' first
      | (with_reducible exact ih0 _ _ _ _ _)
      | (with_reducible exact LeO.refl _)
      | (with_reducible exact LeO.none _)
      | (with_reducible refine LeO.ite ?_ ?_)
      | (with_reducible refine LeO.bind ?_ (fun _ => ?_))
      | exact ih0 _ _ _ _ _
      | exact LeO.none _
      | refine LeO.ite ?_ ?_
      | refine LeO.bind ?_ (fun _ => ?_)
theorem doorwardref13_Name.mono : ∀ a0 a1 k, LeO (doorwardref13_Name.f k a0 a1) (doorwardref13_Name.f (k + 1) a0 a1) := by
  intro a0 a1 k
  have ih0 := doorwardref13_Name.mono_l k
  unfold doorwardref13_Name.f
  repeat' first
      | (with_reducible exact ih0 _ _ _ _ _)
      | (with_reducible exact LeO.refl _)
      | (with_reducible exact LeO.none _)
      | (with_reducible refine LeO.ite ?_ ?_)
      | (with_reducible refine LeO.bind ?_ (fun _ => ?_))
      | exact ih0 _ _ _ _ _
      | exact LeO.none _
      | refine LeO.ite ?_ ?_
      | refine LeO.bind ?_ (fun _ => ?_)
set_option maxHeartbeats 8000000 in
set_option maxRecDepth 100000 in
theorem doorwardref13_Name.calls (k : Nat) (a0 : Int) (a1 : Int) (r1 : ByteArray) (r2 : Bool) (w : World) (h : doorwardref13_Name.f k a0 a1 = some (r1, r2)) :
    Calls Try.prog 41 #[.int .u32 a0, .int .u32 a1] w fun e w' => e = .returned (.tuple #[.string r1, .bool r2]) ∧ Below w.heap.size w w' := by
  have HB := Aside0.mk (Below.refl w.heap.size w)
  have H : ((doorwardref13_Names.f).bind fun t127 => ((doorwardref13_row.f a0).bind fun t130 => (doorwardref13_Name.l0 k a1 t127 t130 (t130.length : Int) 0))) = some (r1, r2) := h
  clear h
  replace H := Option.bind_eq_some_iff.mp H
  obtain ⟨t127, A30, H⟩ := H
  replace H : ((doorwardref13_row.f a0).bind fun t130 => (doorwardref13_Name.l0 k a1 t127 t130 (t130.length : Int) 0)) = some (r1, r2) := H
  have A3 := Aside0.mk A30
  clear A30
  replace H := Option.bind_eq_some_iff.mp H
  obtain ⟨t130, A40, H⟩ := H
  replace H : (doorwardref13_Name.l0 k a1 t127 t130 (t130.length : Int) 0) = some (r1, r2) := H
  have A4 := Aside0.mk A40
  clear A40
  have H' := Aside0.mk H
  clear H
  go_enter Try.func41, Try.ntmps41
  go_wp2_with (first | ((with_reducible refine gate_callee (f := 87) rfl ?_); refine goesL_ (some 9) rfl rfl Try.func87 (by kernel_rfl) rfl #[] rfl (by (try simp only [List.map_toArray, List.map_cons, List.map_nil]); first | done | rfl | (simp only [List.length_drop, List.length_take]; rfl)) ?_; (with_reducible refine (doorwardref13_Names.calls  t127 _ A3.out).mono ?_); rintro e w5 ⟨v128, rfl, ho0, hb⟩; refine ⟨_, rfl, ?_⟩; have n0_ := Aside0.mk (Kd.R_lower ho0 (below_size (by repeat (first | (with_reducible first | exact HB.out | apply below_alloc | apply pw_below_drewN | apply below_drew1) | exact HB.out)))); have n1_ := Aside0.mk (below_step (by repeat (first | (with_reducible first | exact HB.out | apply below_alloc | apply pw_below_drewN | apply below_drew1) | exact HB.out)) hb); clear HB; have HO129 := n0_; have HB := n1_; clear n0_ n1_; (try clear hb); (try clear hb2); (try clear hk); (try clear hi); (try clear ho0)) | ((with_reducible refine gate_callee (f := 86) rfl ?_); refine goesL_ (some 11) rfl rfl Try.func86 (by kernel_rfl) rfl #[.int .u32 a0] rfl (by (try simp only [List.map_toArray, List.map_cons, List.map_nil]); first | done | rfl | (simp only [List.length_drop, List.length_take]; rfl)) ?_; (with_reducible refine (doorwardref13_row.calls a0 t130 _ A4.out).mono ?_); rintro e w6 ⟨v131, rfl, ho0, hb⟩; refine ⟨_, rfl, ?_⟩; have n0_ := Aside0.mk (Kd.R_below (by (with_reducible repeat (first | apply Kd.R_alloc | apply Kd.R_drewN | apply Kd.R_drew)); exact HO129.out) hb); have n1_ := Aside0.mk (Kd.R_lower ho0 (below_size (by repeat (first | (with_reducible first | exact HB.out | apply below_alloc | apply pw_below_drewN | apply below_drew1) | exact HB.out)))); have n2_ := Aside0.mk (below_step (by repeat (first | (with_reducible first | exact HB.out | apply below_alloc | apply pw_below_drewN | apply below_drew1) | exact HB.out)) hb); clear HO129; clear HB; have HO129 := n0_; have HO132 := n1_; have HB := n2_; clear n0_ n1_ n2_; (try clear hb); (try clear hb2); (try clear hk); (try clear hi); (try clear ho0); obtain ⟨Ao7, co7, eo7⟩ := Kd.R_slice HO132.out; subst eo7))
  go_loopg [13] k (fun kq v13 w' => ∃ (x13_1 : Int), v13 = .int .i64 x13_1 ∧ Aside0 (doorwardref13_Name.l0 kq a1 t127 t130 (t130.length : Int) x13_1 = some (r1, r2)) ∧ Aside0 (kq ≤ k) ∧ Aside0 (Kd.R Kd.string 9 w' w.heap.size (fun _ => True) v128 t127) ∧ Aside0 (Kd.R (Kd.int .i64) 3 w' w.heap.size (fun _ => True) (.slice Ao7 t130.length co7) t130) ∧ Aside0 (Below w.heap.size w w'))
  case atStart => exact ⟨(0), (by first | rfl | (simp; done) | (simp [*]; done)), H', ⟨Nat.le_refl _⟩, ⟨by (with_reducible repeat (first | apply Kd.R_alloc | apply Kd.R_drewN | apply Kd.R_drew)); exact HO129.out⟩, ⟨by (with_reducible repeat (first | apply Kd.R_alloc | apply Kd.R_drewN | apply Kd.R_drew)); exact HO132.out⟩, ⟨by repeat (first | (with_reducible first | exact HB.out | apply below_alloc | apply pw_below_drewN | apply below_drew1) | exact HB.out)⟩⟩
  case round =>
    clear H'
    try clear p2
    try clear c4
    obtain ⟨x13_1, rfl, HA, HK1, HO_6, HO_11, HB⟩ := hrel
    cases gk with
    | zero => exact absurd HA.out (by simp [doorwardref13_Name.l0])
    | succ k1 =>
      have H := HA.out
      clear HA
      simp only [doorwardref13_Name.l0] at H
      by_cases c8 : x13_1 < (t130.length : Int)
      · rw [if_pos c8] at H
        have c8b0 : decide (x13_1 < (t130.length : Int)) = true := decide_eq_true c8
        clear c8
        by_cases c9 : 0 ≤ x13_1
        · rw [if_pos c9] at H
          have c9b0 : decide (0 ≤ x13_1) = true := decide_eq_true c9
          clear c9
          by_cases c10 : x13_1 < (t130.length : Int)
          · rw [if_pos c10] at H
            have c10b0 : decide (x13_1 < (t130.length : Int)) = true := decide_eq_true c10
            clear c10
            by_cases c11 : (rd t130 x13_1) ≥ 0
            · rw [if_pos c11] at H
              have c11b0 : decide (0 ≤ (rd t130 x13_1)) = true := decide_eq_true c11
              clear c11
              by_cases c12 : ((rd t130 x13_1) % 4294967296) = a1
              · rw [if_pos c12] at H
                have c12b0 : (((rd t130 x13_1) % 4294967296) == a1) = true := beq_iff_eq.mpr c12
                have c12b1 : (((rd t130 x13_1) % 4294967296) != a1) = false := bne_eq_false_iff_eq.mpr c12
                clear c12
                by_cases c13 : x13_1 < (t127.length : Int)
                · rw [if_pos c13] at H
                  have c13b0 : decide (x13_1 < (t127.length : Int)) = true := decide_eq_true c13
                  clear c13
                  simp only [Option.some.injEq, Prod.mk.injEq] at H
                  obtain ⟨rfl, rfl⟩ := H
                  have p133 : 0 ≤ (x13_1 : Int) := of_decide_eq_true (by first | (with_reducible assumption) | assumption)
                  have q133 : x13_1 < (t130.length : Int) := of_decide_eq_true (by first | (with_reducible assumption) | assumption)
                  obtain ⟨ad133, e133, hx133_0⟩ := Kd.at_int (Kd.R_reads' HO_11.out).2.2 x13_1 p133 q133
                  cases e133
                  replace p133 := eq_true p133
                  replace q133 := eq_true q133
                  obtain ⟨Ao14, co14, eo14⟩ := Kd.R_slice HO_6.out
                  subst eo14
                  have p134 : 0 ≤ (x13_1 : Int) := of_decide_eq_true (by first | (with_reducible assumption) | assumption)
                  have q134 : x13_1 < (t127.length : Int) := of_decide_eq_true (by first | (with_reducible assumption) | assumption)
                  obtain ⟨ad134, e134, hx134_0⟩ := Kd.at_string (Kd.R_reads' HO_6.out).2.2 x13_1 p134 q134
                  cases e134
                  replace p134 := eq_true p134
                  replace q134 := eq_true q134
                  go_wp2
                  go_ret2
                  exact ⟨by first | rfl | (simp [errW_none, errW_some] <;> rfl) | (simp [*, errW_none, errW_some] <;> rfl), by repeat (first | (with_reducible first | exact HB.out | apply below_alloc | apply pw_below_drewN | apply below_drew1) | exact HB.out)⟩
                · rw [if_neg c13] at H
                  exact absurd H (by simp)
              · rw [if_neg c12] at H
                have c12b0 : (((rd t130 x13_1) % 4294967296) == a1) = false := beq_eq_false_iff_ne.mpr c12
                have c12b1 : (((rd t130 x13_1) % 4294967296) != a1) = true := bne_iff_ne.mpr c12
                have H' := Aside0.mk H
                clear H
                have p133 : 0 ≤ (x13_1 : Int) := of_decide_eq_true (by first | (with_reducible assumption) | assumption)
                have q133 : x13_1 < (t130.length : Int) := of_decide_eq_true (by first | (with_reducible assumption) | assumption)
                obtain ⟨ad133, e133, hx133_0⟩ := Kd.at_int (Kd.R_reads' HO_11.out).2.2 x13_1 p133 q133
                cases e133
                replace p133 := eq_true p133
                replace q133 := eq_true q133
                go_wp2
                go_roundg k1
                case measure => have := HK1.out; omega
                case rel => exact ⟨(wrap64 (x13_1 + 1)), (by first | rfl | (simp; done) | (simp [*]; done)), H', ⟨by have := HK1.out; omega⟩, ⟨by (with_reducible repeat (first | apply Kd.R_alloc | apply Kd.R_drewN | apply Kd.R_drew)); exact HO_6.out⟩, ⟨by (with_reducible repeat (first | apply Kd.R_alloc | apply Kd.R_drewN | apply Kd.R_drew)); exact HO_11.out⟩, ⟨by repeat (first | (with_reducible first | exact HB.out | apply below_alloc | apply pw_below_drewN | apply below_drew1) | exact HB.out)⟩⟩
            · rw [if_neg c11] at H
              have c11b0 : decide (0 ≤ (rd t130 x13_1)) = false := decide_eq_false c11
              clear c11
              have H' := Aside0.mk H
              clear H
              have p133 : 0 ≤ (x13_1 : Int) := of_decide_eq_true (by first | (with_reducible assumption) | assumption)
              have q133 : x13_1 < (t130.length : Int) := of_decide_eq_true (by first | (with_reducible assumption) | assumption)
              obtain ⟨ad133, e133, hx133_0⟩ := Kd.at_int (Kd.R_reads' HO_11.out).2.2 x13_1 p133 q133
              cases e133
              replace p133 := eq_true p133
              replace q133 := eq_true q133
              go_wp2
              go_roundg k1
              case measure => have := HK1.out; omega
              case rel => exact ⟨(wrap64 (x13_1 + 1)), (by first | rfl | (simp; done) | (simp [*]; done)), H', ⟨by have := HK1.out; omega⟩, ⟨by (with_reducible repeat (first | apply Kd.R_alloc | apply Kd.R_drewN | apply Kd.R_drew)); exact HO_6.out⟩, ⟨by (with_reducible repeat (first | apply Kd.R_alloc | apply Kd.R_drewN | apply Kd.R_drew)); exact HO_11.out⟩, ⟨by repeat (first | (with_reducible first | exact HB.out | apply below_alloc | apply pw_below_drewN | apply below_drew1) | exact HB.out)⟩⟩
          · rw [if_neg c10] at H
            exact absurd H (by simp)
        · rw [if_neg c9] at H
          exact absurd H (by simp)
      · rw [if_neg c8] at H
        have c8b0 : decide (x13_1 < (t130.length : Int)) = false := decide_eq_false c8
        clear c8
        simp only [Option.some.injEq, Prod.mk.injEq] at H
        obtain ⟨rfl, rfl⟩ := H
        go_wp2
        go_ret2
        exact ⟨by first | rfl | (simp [errW_none, errW_some] <;> rfl) | (simp [*, errW_none, errW_some] <;> rfl), by repeat (first | (with_reducible first | exact HB.out | apply below_alloc | apply pw_below_drewN | apply below_drew1) | exact HB.out)⟩

/-! ### doorwardref13_Action: function 42 -/
def doorwardref13_Action.j0 : Nat → ByteArray → Int → Bool → Option (Int × Bool)
  | 0, _, _, _ => none
  | k + 1, x0, x1, x19 => if x19 = true then (some (0, false)) else (if x0.toList = ([107, 105, 108, 108] : List UInt8) then (some (2147483648, true)) else (if x0.toList = ([107, 105, 108, 108, 95, 116, 104, 114, 101, 97, 100] : List UInt8) then (some (0, true)) else (if x0.toList = ([108, 111, 103] : List UInt8) then (some (2147221504, true)) else (if x0.toList = ([97, 108, 108, 111, 119] : List UInt8) then (some (2147418112, true)) else (if x0.toList = ([101, 114, 114, 110, 111] : List UInt8) then (if x1 ≤ 4095 then (some ((327680 + ((x1) % 4294967296)) % 4294967296, true)) else (some (0, false))) else (if x0.toList = ([116, 114, 97, 112] : List UInt8) then (if x1 ≤ 65535 then (some ((196608 + ((x1) % 4294967296)) % 4294967296, true)) else (some (0, false))) else (if x0.toList = ([116, 114, 97, 99, 101] : List UInt8) then (if x1 ≤ 65535 then (some ((2146435072 + ((x1) % 4294967296)) % 4294967296, true)) else (some (0, false))) else (some (0, false)))))))))
def doorwardref13_Action.f (k : Nat) (a0 : ByteArray) (a1 : Int) : Option (Int × Bool) := if a1 > 0 then (if a0.toList = ([101, 114, 114, 110, 111] : List UInt8) then (doorwardref13_Action.j0 k a0 a1 false) else (if a0.toList = ([116, 114, 97, 112] : List UInt8) then (doorwardref13_Action.j0 k a0 a1 false) else (doorwardref13_Action.j0 k a0 a1 (a0.toList != ([116, 114, 97, 99, 101] : List UInt8))))) else (doorwardref13_Action.j0 k a0 a1 false)
theorem doorwardref13_Action.mono_l : ∀ k, (∀ y0 y1 y2, LeO (doorwardref13_Action.j0 k y0 y1 y2) (doorwardref13_Action.j0 (k + 1) y0 y1 y2))
  | 0 => fun _ _ _ r h => by simp [doorwardref13_Action.j0] at h
  | k + 1 => by
    have ih0 := doorwardref13_Action.mono_l k
    · intro y0 y1 y2
      unfold doorwardref13_Action.j0
      repeat' first
      | (with_reducible exact ih0 _ _ _)
      | (with_reducible exact LeO.refl _)
      | (with_reducible exact LeO.none _)
      | (with_reducible refine LeO.ite ?_ ?_)
      | (with_reducible refine LeO.bind ?_ (fun _ => ?_))
      | exact ih0 _ _ _
      | exact LeO.none _
      | refine LeO.ite ?_ ?_
      | refine LeO.bind ?_ (fun _ => ?_)
theorem doorwardref13_Action.mono : ∀ a0 a1 k, LeO (doorwardref13_Action.f k a0 a1) (doorwardref13_Action.f (k + 1) a0 a1) := by
  intro a0 a1 k
  have ih0 := doorwardref13_Action.mono_l k
  unfold doorwardref13_Action.f
  repeat' first
      | (with_reducible exact ih0 _ _ _)
      | (with_reducible exact LeO.refl _)
      | (with_reducible exact LeO.none _)
      | (with_reducible refine LeO.ite ?_ ?_)
      | (with_reducible refine LeO.bind ?_ (fun _ => ?_))
      | exact ih0 _ _ _
      | exact LeO.none _
      | refine LeO.ite ?_ ?_
      | refine LeO.bind ?_ (fun _ => ?_)
set_option maxHeartbeats 8000000 in
set_option maxRecDepth 100000 in
theorem doorwardref13_Action.calls (k : Nat) (a0 : ByteArray) (a1 : Int) (r1 : Int) (r2 : Bool) (w : World) (h : doorwardref13_Action.f k a0 a1 = some (r1, r2)) :
    Calls Try.prog 42 #[.string a0, .int .u64 a1] w fun e w' => e = .returned (.tuple #[.int .u32 r1, .bool r2]) ∧ Drawn0 w w' := by
  have H : (if a1 > 0 then (if a0.toList = ([101, 114, 114, 110, 111] : List UInt8) then (doorwardref13_Action.j0 k a0 a1 false) else (if a0.toList = ([116, 114, 97, 112] : List UInt8) then (doorwardref13_Action.j0 k a0 a1 false) else (doorwardref13_Action.j0 k a0 a1 (a0.toList != ([116, 114, 97, 99, 101] : List UInt8))))) else (doorwardref13_Action.j0 k a0 a1 false)) = some (r1, r2) := h
  clear h
  have HC3 := Aside0.mk H
  clear H
  go_enter Try.func42, Try.ntmps42
  go_upto_region 1 with (fail)
  go_cut [19] (fun v19 wc => ∃ (kq : Nat) (x19_2 : Bool), v19 = .bool x19_2 ∧ Aside0 (doorwardref13_Action.j0 kq a0 a1 x19_2 = some (r1, r2)) ∧ Aside0 (kq ≤ k) ∧ Drawn0 w wc)
  case first =>
    have H := HC3.out
    clear HC3
    by_cases c4 : a1 > 0
    · rw [if_pos c4] at H
      have c4b0 : decide (0 < a1) = true := decide_eq_true c4
      clear c4
      (first | rw [c4b0] | (simp only [i64_w, i32_w]; rw [c4b0]) | skip)
      by_cases c5 : a0.toList = ([101, 114, 114, 110, 111] : List UInt8)
      · rw [if_pos c5] at H
        have c5b0 : (a0.toList == ([101, 114, 114, 110, 111] : List UInt8)) = true := beq_iff_eq.mpr c5
        have c5b1 : (a0.toList != ([101, 114, 114, 110, 111] : List UInt8)) = false := bne_eq_false_iff_eq.mpr c5
        clear c5
        have H' := Aside0.mk H
        clear H
        go_wp2
        go_meet
        case rel => exact ⟨_, (false), (by first | rfl | (simp; done) | (simp [*]; done)), H', ⟨by first | omega | exact Nat.le_refl _⟩, by repeat (first | exact Drawn0.refl _ | apply Drawn0.step)⟩
      · rw [if_neg c5] at H
        have c5b0 : (a0.toList == ([101, 114, 114, 110, 111] : List UInt8)) = false := beq_eq_false_iff_ne.mpr c5
        have c5b1 : (a0.toList != ([101, 114, 114, 110, 111] : List UInt8)) = true := bne_iff_ne.mpr c5
        by_cases c6 : a0.toList = ([116, 114, 97, 112] : List UInt8)
        · rw [if_pos c6] at H
          have c6b0 : (a0.toList == ([116, 114, 97, 112] : List UInt8)) = true := beq_iff_eq.mpr c6
          have c6b1 : (a0.toList != ([116, 114, 97, 112] : List UInt8)) = false := bne_eq_false_iff_eq.mpr c6
          clear c6
          have H' := Aside0.mk H
          clear H
          go_wp2
          go_meet
          case rel => exact ⟨_, (false), (by first | rfl | (simp; done) | (simp [*]; done)), H', ⟨by first | omega | exact Nat.le_refl _⟩, by repeat (first | exact Drawn0.refl _ | apply Drawn0.step)⟩
        · rw [if_neg c6] at H
          have c6b0 : (a0.toList == ([116, 114, 97, 112] : List UInt8)) = false := beq_eq_false_iff_ne.mpr c6
          have c6b1 : (a0.toList != ([116, 114, 97, 112] : List UInt8)) = true := bne_iff_ne.mpr c6
          have H' := Aside0.mk H
          clear H
          go_wp2
          go_meet
          case rel => exact ⟨_, ((a0.toList != ([116, 114, 97, 99, 101] : List UInt8))), (by first | rfl | (simp; done) | (simp [*]; done)), H', ⟨by first | omega | exact Nat.le_refl _⟩, by repeat (first | exact Drawn0.refl _ | apply Drawn0.step)⟩
    · rw [if_neg c4] at H
      have c4b0 : decide (0 < a1) = false := decide_eq_false c4
      clear c4
      (first | rw [c4b0] | (simp only [i64_w, i32_w]; rw [c4b0]) | skip)
      have H' := Aside0.mk H
      clear H
      go_wp2
      go_meet
      case rel => exact ⟨_, (false), (by first | rfl | (simp; done) | (simp [*]; done)), H', ⟨by first | omega | exact Nat.le_refl _⟩, by repeat (first | exact Drawn0.refl _ | apply Drawn0.step)⟩
  case rest =>
    clear HC3
    try clear p2
    try clear c4
    try clear c4b0
    try clear c5
    try clear c5b0
    try clear c5b1
    try clear c6
    try clear c6b0
    try clear c6b1
    obtain ⟨kq, x19_2, rfl, HA, HJ2, ⟨mc2, rfl⟩⟩ := hcut
    cases kq with
    | zero => exact absurd HA.out (by simp [doorwardref13_Action.j0])
    | succ kj2 =>
      have H := HA.out
      clear HA
      simp only [doorwardref13_Action.j0] at H
      by_cases c7 : x19_2 = true
      · subst c7
        have H1 : (some (0, false)) = some (r1, r2) := by rw [if_pos rfl] at H; exact H
        clear H
        have H := H1
        clear H1
        simp only [Option.some.injEq, Prod.mk.injEq] at H
        obtain ⟨rfl, rfl⟩ := H
        go_wp2
        go_ret2
        exact ⟨by first | rfl | (simp; done) | (simp [*]; done), by repeat (first | exact Drawn0.refl _ | apply Drawn0.step)⟩
      · replace c7 := Bool.eq_false_iff.mpr c7
        subst c7
        have H1 : (if a0.toList = ([107, 105, 108, 108] : List UInt8) then (some (2147483648, true)) else (if a0.toList = ([107, 105, 108, 108, 95, 116, 104, 114, 101, 97, 100] : List UInt8) then (some (0, true)) else (if a0.toList = ([108, 111, 103] : List UInt8) then (some (2147221504, true)) else (if a0.toList = ([97, 108, 108, 111, 119] : List UInt8) then (some (2147418112, true)) else (if a0.toList = ([101, 114, 114, 110, 111] : List UInt8) then (if a1 ≤ 4095 then (some ((327680 + ((a1) % 4294967296)) % 4294967296, true)) else (some (0, false))) else (if a0.toList = ([116, 114, 97, 112] : List UInt8) then (if a1 ≤ 65535 then (some ((196608 + ((a1) % 4294967296)) % 4294967296, true)) else (some (0, false))) else (if a0.toList = ([116, 114, 97, 99, 101] : List UInt8) then (if a1 ≤ 65535 then (some ((2146435072 + ((a1) % 4294967296)) % 4294967296, true)) else (some (0, false))) else (some (0, false))))))))) = some (r1, r2) := by rw [if_neg (show ¬ (false = true) by decide)] at H; exact H
        clear H
        have H := H1
        clear H1
        by_cases c8 : a0.toList = ([107, 105, 108, 108] : List UInt8)
        · rw [if_pos c8] at H
          have c8b0 : (a0.toList == ([107, 105, 108, 108] : List UInt8)) = true := beq_iff_eq.mpr c8
          have c8b1 : (a0.toList != ([107, 105, 108, 108] : List UInt8)) = false := bne_eq_false_iff_eq.mpr c8
          clear c8
          simp only [Option.some.injEq, Prod.mk.injEq] at H
          obtain ⟨rfl, rfl⟩ := H
          go_wp2
          go_ret2
          exact ⟨by first | rfl | (simp; done) | (simp [*]; done), by repeat (first | exact Drawn0.refl _ | apply Drawn0.step)⟩
        · rw [if_neg c8] at H
          have c8b0 : (a0.toList == ([107, 105, 108, 108] : List UInt8)) = false := beq_eq_false_iff_ne.mpr c8
          have c8b1 : (a0.toList != ([107, 105, 108, 108] : List UInt8)) = true := bne_iff_ne.mpr c8
          by_cases c9 : a0.toList = ([107, 105, 108, 108, 95, 116, 104, 114, 101, 97, 100] : List UInt8)
          · rw [if_pos c9] at H
            have c9b0 : (a0.toList == ([107, 105, 108, 108, 95, 116, 104, 114, 101, 97, 100] : List UInt8)) = true := beq_iff_eq.mpr c9
            have c9b1 : (a0.toList != ([107, 105, 108, 108, 95, 116, 104, 114, 101, 97, 100] : List UInt8)) = false := bne_eq_false_iff_eq.mpr c9
            clear c9
            simp only [Option.some.injEq, Prod.mk.injEq] at H
            obtain ⟨rfl, rfl⟩ := H
            go_wp2
            go_ret2
            exact ⟨by first | rfl | (simp; done) | (simp [*]; done), by repeat (first | exact Drawn0.refl _ | apply Drawn0.step)⟩
          · rw [if_neg c9] at H
            have c9b0 : (a0.toList == ([107, 105, 108, 108, 95, 116, 104, 114, 101, 97, 100] : List UInt8)) = false := beq_eq_false_iff_ne.mpr c9
            have c9b1 : (a0.toList != ([107, 105, 108, 108, 95, 116, 104, 114, 101, 97, 100] : List UInt8)) = true := bne_iff_ne.mpr c9
            by_cases c10 : a0.toList = ([108, 111, 103] : List UInt8)
            · rw [if_pos c10] at H
              have c10b0 : (a0.toList == ([108, 111, 103] : List UInt8)) = true := beq_iff_eq.mpr c10
              have c10b1 : (a0.toList != ([108, 111, 103] : List UInt8)) = false := bne_eq_false_iff_eq.mpr c10
              clear c10
              simp only [Option.some.injEq, Prod.mk.injEq] at H
              obtain ⟨rfl, rfl⟩ := H
              go_wp2
              go_ret2
              exact ⟨by first | rfl | (simp; done) | (simp [*]; done), by repeat (first | exact Drawn0.refl _ | apply Drawn0.step)⟩
            · rw [if_neg c10] at H
              have c10b0 : (a0.toList == ([108, 111, 103] : List UInt8)) = false := beq_eq_false_iff_ne.mpr c10
              have c10b1 : (a0.toList != ([108, 111, 103] : List UInt8)) = true := bne_iff_ne.mpr c10
              by_cases c11 : a0.toList = ([97, 108, 108, 111, 119] : List UInt8)
              · rw [if_pos c11] at H
                have c11b0 : (a0.toList == ([97, 108, 108, 111, 119] : List UInt8)) = true := beq_iff_eq.mpr c11
                have c11b1 : (a0.toList != ([97, 108, 108, 111, 119] : List UInt8)) = false := bne_eq_false_iff_eq.mpr c11
                clear c11
                simp only [Option.some.injEq, Prod.mk.injEq] at H
                obtain ⟨rfl, rfl⟩ := H
                go_wp2
                go_ret2
                exact ⟨by first | rfl | (simp; done) | (simp [*]; done), by repeat (first | exact Drawn0.refl _ | apply Drawn0.step)⟩
              · rw [if_neg c11] at H
                have c11b0 : (a0.toList == ([97, 108, 108, 111, 119] : List UInt8)) = false := beq_eq_false_iff_ne.mpr c11
                have c11b1 : (a0.toList != ([97, 108, 108, 111, 119] : List UInt8)) = true := bne_iff_ne.mpr c11
                by_cases c12 : a0.toList = ([101, 114, 114, 110, 111] : List UInt8)
                · rw [if_pos c12] at H
                  have c12b0 : (a0.toList == ([101, 114, 114, 110, 111] : List UInt8)) = true := beq_iff_eq.mpr c12
                  have c12b1 : (a0.toList != ([101, 114, 114, 110, 111] : List UInt8)) = false := bne_eq_false_iff_eq.mpr c12
                  clear c12
                  by_cases c13 : a1 ≤ 4095
                  · rw [if_pos c13] at H
                    have c13b0 : decide (a1 ≤ 4095) = true := decide_eq_true c13
                    clear c13
                    simp only [Option.some.injEq, Prod.mk.injEq] at H
                    obtain ⟨rfl, rfl⟩ := H
                    go_wp2
                    go_ret2
                    exact ⟨by first | rfl | (simp; done) | (simp [*]; done), by repeat (first | exact Drawn0.refl _ | apply Drawn0.step)⟩
                  · rw [if_neg c13] at H
                    have c13b0 : decide (a1 ≤ 4095) = false := decide_eq_false c13
                    clear c13
                    simp only [Option.some.injEq, Prod.mk.injEq] at H
                    obtain ⟨rfl, rfl⟩ := H
                    go_wp2
                    go_ret2
                    exact ⟨by first | rfl | (simp; done) | (simp [*]; done), by repeat (first | exact Drawn0.refl _ | apply Drawn0.step)⟩
                · rw [if_neg c12] at H
                  have c12b0 : (a0.toList == ([101, 114, 114, 110, 111] : List UInt8)) = false := beq_eq_false_iff_ne.mpr c12
                  have c12b1 : (a0.toList != ([101, 114, 114, 110, 111] : List UInt8)) = true := bne_iff_ne.mpr c12
                  by_cases c14 : a0.toList = ([116, 114, 97, 112] : List UInt8)
                  · rw [if_pos c14] at H
                    have c14b0 : (a0.toList == ([116, 114, 97, 112] : List UInt8)) = true := beq_iff_eq.mpr c14
                    have c14b1 : (a0.toList != ([116, 114, 97, 112] : List UInt8)) = false := bne_eq_false_iff_eq.mpr c14
                    clear c14
                    by_cases c15 : a1 ≤ 65535
                    · rw [if_pos c15] at H
                      have c15b0 : decide (a1 ≤ 65535) = true := decide_eq_true c15
                      clear c15
                      simp only [Option.some.injEq, Prod.mk.injEq] at H
                      obtain ⟨rfl, rfl⟩ := H
                      go_wp2
                      go_ret2
                      exact ⟨by first | rfl | (simp; done) | (simp [*]; done), by repeat (first | exact Drawn0.refl _ | apply Drawn0.step)⟩
                    · rw [if_neg c15] at H
                      have c15b0 : decide (a1 ≤ 65535) = false := decide_eq_false c15
                      clear c15
                      simp only [Option.some.injEq, Prod.mk.injEq] at H
                      obtain ⟨rfl, rfl⟩ := H
                      go_wp2
                      go_ret2
                      exact ⟨by first | rfl | (simp; done) | (simp [*]; done), by repeat (first | exact Drawn0.refl _ | apply Drawn0.step)⟩
                  · rw [if_neg c14] at H
                    have c14b0 : (a0.toList == ([116, 114, 97, 112] : List UInt8)) = false := beq_eq_false_iff_ne.mpr c14
                    have c14b1 : (a0.toList != ([116, 114, 97, 112] : List UInt8)) = true := bne_iff_ne.mpr c14
                    by_cases c16 : a0.toList = ([116, 114, 97, 99, 101] : List UInt8)
                    · rw [if_pos c16] at H
                      have c16b0 : (a0.toList == ([116, 114, 97, 99, 101] : List UInt8)) = true := beq_iff_eq.mpr c16
                      have c16b1 : (a0.toList != ([116, 114, 97, 99, 101] : List UInt8)) = false := bne_eq_false_iff_eq.mpr c16
                      clear c16
                      by_cases c17 : a1 ≤ 65535
                      · rw [if_pos c17] at H
                        have c17b0 : decide (a1 ≤ 65535) = true := decide_eq_true c17
                        clear c17
                        simp only [Option.some.injEq, Prod.mk.injEq] at H
                        obtain ⟨rfl, rfl⟩ := H
                        go_wp2
                        go_ret2
                        exact ⟨by first | rfl | (simp; done) | (simp [*]; done), by repeat (first | exact Drawn0.refl _ | apply Drawn0.step)⟩
                      · rw [if_neg c17] at H
                        have c17b0 : decide (a1 ≤ 65535) = false := decide_eq_false c17
                        clear c17
                        simp only [Option.some.injEq, Prod.mk.injEq] at H
                        obtain ⟨rfl, rfl⟩ := H
                        go_wp2
                        go_ret2
                        exact ⟨by first | rfl | (simp; done) | (simp [*]; done), by repeat (first | exact Drawn0.refl _ | apply Drawn0.step)⟩
                    · rw [if_neg c16] at H
                      have c16b0 : (a0.toList == ([116, 114, 97, 99, 101] : List UInt8)) = false := beq_eq_false_iff_ne.mpr c16
                      have c16b1 : (a0.toList != ([116, 114, 97, 99, 101] : List UInt8)) = true := bne_iff_ne.mpr c16
                      simp only [Option.some.injEq, Prod.mk.injEq] at H
                      obtain ⟨rfl, rfl⟩ := H
                      go_wp2
                      go_ret2
                      exact ⟨by first | rfl | (simp; done) | (simp [*]; done), by repeat (first | exact Drawn0.refl _ | apply Drawn0.step)⟩

end Go.Proofs.Ytoeklekjhaigoaa.C2
