/- EmitMakes: how many instructions any steps become, and which, or why none, is as the reference says. -/
import Derived.Test.YtefkhcijgiagdaaZEmitMakes0
section
namespace Go.Proofs.Ytefkhcijgiagdaa.E1
open Go.RowKit Go.Proofs.YtefkhcijgiagdaaW.PrintWords Go.Proofs.YtefkhcijgiagdaaW.PrintLast Go.Proofs.YtefkhcijgiagdaaW.PrintMore
attribute [local go_sem] max2_int min2_int max_two min_two max_three min_three max_four min_four IntKind.wrap_u32 IntKind.wrap_u8   -- for this text's walks alone
set_option linter.unusedVariables false
open Go.Proofs.Ytefkhcijgiagdaa.Le Go.Proofs.Ytefkhcijgiagdaa.I1
set_option linter.unusedSimpArgs false
def doorwardref21_Assemble.l0 : Nat → List (S40) → List (S28) → List (S40) → Int → Int → Option ((List (S28)) × Int)
  | 0, _, _, _, _, _ => none
  | k + 1, x0, x4, x15, x16, x17 => if x17 < x16 then (if 0 ≤ x17 then (if x17 < (x15.length : Int) then (if ((rd_T40 x15 x17).f0) = 1 then (if x4.length < 4398046511104 then (doorwardref21_Assemble.l0 k x0 (x4 ++ [(⟨32, 0, 0, (rd_T40 x15 x17).f1⟩ : S28)]) x15 x16 (wrap64 (x17 + 1))) else (none)) else (if ((rd_T40 x15 x17).f0) = 2 then (if x4.length < 4398046511104 then (doorwardref21_Assemble.l0 k x0 (x4 ++ [(⟨84, 0, 0, (rd_T40 x15 x17).f1⟩ : S28)]) x15 x16 (wrap64 (x17 + 1))) else (none)) else (if ((rd_T40 x15 x17).f0) = 3 then ((doorwardref21_ja.f k x0 x17 (wrap64 ((x4.length : Int) + 1)) ((rd_T40 x15 x17).f2)).bind fun bt138 => ((doorwardref21_ja.f k x0 x17 (wrap64 ((x4.length : Int) + 2)) ((rd_T40 x15 x17).f3)).bind fun bt142 => ((some (([(⟨21, 0, 1, (rd_T40 x15 x17).f1⟩ : S28), (⟨bt138.1, bt138.2.1, bt138.2.2.1, bt138.2.2.2⟩ : S28), (⟨bt142.1, bt142.2.1, bt142.2.2.1, bt142.2.2.2⟩ : S28)] : List (S28)) : List (S28))).bind fun y146 => (if x4.length + y146.length < 4398046511104 then (doorwardref21_Assemble.l0 k x0 (x4 ++ y146) x15 x16 (wrap64 (x17 + 1))) else (none))))) else (if ((rd_T40 x15 x17).f0) = 4 then ((doorwardref21_ja.f k x0 x17 (wrap64 ((x4.length : Int) + 1)) ((rd_T40 x15 x17).f2)).bind fun bt152 => ((doorwardref21_ja.f k x0 x17 (wrap64 ((x4.length : Int) + 2)) ((rd_T40 x15 x17).f3)).bind fun bt156 => ((some (([(⟨37, 0, 1, (rd_T40 x15 x17).f1⟩ : S28), (⟨bt152.1, bt152.2.1, bt152.2.2.1, bt152.2.2.2⟩ : S28), (⟨bt156.1, bt156.2.1, bt156.2.2.1, bt156.2.2.2⟩ : S28)] : List (S28)) : List (S28))).bind fun y160 => (if x4.length + y160.length < 4398046511104 then (doorwardref21_Assemble.l0 k x0 (x4 ++ y160) x15 x16 (wrap64 (x17 + 1))) else (none))))) else (if ((rd_T40 x15 x17).f0) = 5 then ((doorwardref21_ja.f k x0 x17 (wrap64 ((x4.length : Int) + 1)) ((rd_T40 x15 x17).f2)).bind fun bt166 => ((doorwardref21_ja.f k x0 x17 (wrap64 ((x4.length : Int) + 2)) ((rd_T40 x15 x17).f3)).bind fun bt170 => ((some (([(⟨53, 0, 1, (rd_T40 x15 x17).f1⟩ : S28), (⟨bt166.1, bt166.2.1, bt166.2.2.1, bt166.2.2.2⟩ : S28), (⟨bt170.1, bt170.2.1, bt170.2.2.1, bt170.2.2.2⟩ : S28)] : List (S28)) : List (S28))).bind fun y174 => (if x4.length + y174.length < 4398046511104 then (doorwardref21_Assemble.l0 k x0 (x4 ++ y174) x15 x16 (wrap64 (x17 + 1))) else (none))))) else (if ((rd_T40 x15 x17).f0) = 7 then ((doorwardref21_ja.f k x0 x17 (x4.length : Int) ((rd_T40 x15 x17).f2)).bind fun bt180 => (if x4.length < 4398046511104 then (doorwardref21_Assemble.l0 k x0 (x4 ++ [(⟨bt180.1, bt180.2.1, bt180.2.2.1, bt180.2.2.2⟩ : S28)]) x15 x16 (wrap64 (x17 + 1))) else (none))) else (if ((rd_T40 x15 x17).f0) = 8 then (if x4.length < 4398046511104 then (doorwardref21_Assemble.l0 k x0 (x4 ++ [(⟨6, 0, 0, (rd_T40 x15 x17).f1⟩ : S28)]) x15 x16 (wrap64 (x17 + 1))) else (none)) else (doorwardref21_Assemble.l0 k x0 x4 x15 x16 (wrap64 (x17 + 1)))))))))) else (none)) else (none)) else (some (x4, 0))
def doorwardref21_Assemble.f (k : Nat) (l0 : List (S40)) : Option ((List (S28)) × Int) := (doorwardref21_fits.f k l0).bind fun t125 => (if t125 = true then ((doorwardref21_Size.f k l0).bind fun t126 => (if t126 > 4096 then (some (([] : List (S28)), 64)) else (doorwardref21_Assemble.l0 k l0 (([] : List (S28))) l0 (l0.length : Int) 0))) else (some (([] : List (S28)), 1)))
def doorwardref21_Assemble.T16 : Bool × List (List Nat × List Nat) := (true, [([], []), ([], []), ([1], [1]), ([2], [2]), ([], []), ([], []), ([], []), ([6], [6]), ([], []), ([8], [8]), ([4, 5, 7, 9], [4, 5, 7, 9]), ([], []), ([], []), ([], []), ([13], [13]), ([], []), ([15], [15]), ([11, 12, 14, 16, 10], [11, 12, 14, 16]), ([3, 10, 17], [3, 10, 17]), ([0, 18, 17], [0, 18]), ([19, 19, 0, 1, 2, 3, 4, 5, 6, 7, 8, 9, 10, 11, 12, 13, 14, 15, 16, 17, 18, 19], [0, 19])])
def doorwardref21_Assemble.B16 : List Nat := [0, 0, 2, 6, 0, 0, 0, 64, 0, 256, 1008, 0, 0, 0, 8192, 0, 32768, 131056, 262142, 524287, 1048575]
theorem doorwardref21_Assemble.tab16 : rtab .any (opsOf Try.f52 16) = doorwardref21_Assemble.T16 := by kernel_rfl
theorem doorwardref21_Assemble.bits16 : waitsOk doorwardref21_Assemble.T16.2 doorwardref21_Assemble.B16 = true := by kernel_rfl
def doorwardref21_Assemble.T18 : Bool × List (List Nat × List Nat) := (true, [([], []), ([], []), ([1], [1]), ([2], [2]), ([], []), ([], []), ([], []), ([6], [6]), ([], []), ([8], [8]), ([4, 5, 7, 9], [4, 5, 7, 9]), ([], []), ([], []), ([], []), ([13], [13]), ([], []), ([15], [15]), ([11, 12, 14, 16, 10], [11, 12, 14, 16]), ([3, 10, 17], [3, 10, 17]), ([0, 18, 17], [0, 18]), ([19, 19, 0, 1, 2, 3, 4, 5, 6, 7, 8, 9, 10, 11, 12, 13, 14, 15, 16, 17, 18, 19], [0, 19])])
def doorwardref21_Assemble.B18 : List Nat := [0, 0, 2, 6, 0, 0, 0, 64, 0, 256, 1008, 0, 0, 0, 8192, 0, 32768, 131056, 262142, 524287, 1048575]
theorem doorwardref21_Assemble.tab18 : rtab .any (opsOf Try.f52 18) = doorwardref21_Assemble.T18 := by kernel_rfl
theorem doorwardref21_Assemble.bits18 : waitsOk doorwardref21_Assemble.T18.2 doorwardref21_Assemble.B18 = true := by kernel_rfl
def doorwardref21_Assemble.T20 : Bool × List (List Nat × List Nat) := (true, [([], []), ([], []), ([1], [1]), ([2], [2]), ([], []), ([], []), ([], []), ([6], [6]), ([], []), ([8], [8]), ([4, 5, 7, 9], [4, 5, 7, 9]), ([], []), ([], []), ([], []), ([13], [13]), ([], []), ([15], [15]), ([11, 12, 14, 16, 10], [11, 12, 14, 16]), ([3, 10, 17], [3, 10, 17]), ([0, 18, 17], [0, 18]), ([19, 19, 0, 1, 2, 3, 4, 5, 6, 7, 8, 9, 10, 11, 12, 13, 14, 15, 16, 17, 18, 19], [0, 19])])
def doorwardref21_Assemble.B20 : List Nat := [0, 0, 2, 6, 0, 0, 0, 64, 0, 256, 1008, 0, 0, 0, 8192, 0, 32768, 131056, 262142, 524287, 1048575]
theorem doorwardref21_Assemble.tab20 : rtab .any (opsOf Try.f52 20) = doorwardref21_Assemble.T20 := by kernel_rfl
theorem doorwardref21_Assemble.bits20 : waitsOk doorwardref21_Assemble.T20.2 doorwardref21_Assemble.B20 = true := by kernel_rfl
set_option maxHeartbeats 8000000 in
set_option maxRecDepth 100000 in
theorem doorwardref21_Assemble.calls (k : Nat) (A0 : Option Addr) (c0 : Nat) (l0 : List (S40)) (r1 : List (S28)) (r2 : Int) (w : World) (hr0 : Kd.C k40 w A0 l0.length l0) (hc0 : l0.length ≤ c0) (h : doorwardref21_Assemble.f k l0 = some (r1, r2)) :
    Calls Try.prog 52 #[.slice A0 l0.length c0] w fun e w' => ∃ v0_ : Value, e = .returned (.tuple #[v0_, .int .i64 r2]) ∧ Kd.R k28 28 w' w.heap.size (fun _ => True) v0_ r1 ∧ Below w.heap.size w w' := by
  have hu40 := Try.underlying40
  have hu28 := Try.underlying28
  have HR0 := Aside0.mk hr0
  have HC0 := Aside0.mk hc0
  clear hr0 hc0
  have HB := Aside0.mk (Below.refl w.heap.size w)
  have H : ((doorwardref21_fits.f k l0).bind fun t125 => (if t125 = true then ((doorwardref21_Size.f k l0).bind fun t126 => (if t126 > 4096 then (some (([] : List (S28)), 64)) else (doorwardref21_Assemble.l0 k l0 (([] : List (S28))) l0 (l0.length : Int) 0))) else (some (([] : List (S28)), 1)))) = some (r1, r2) := h
  clear h
  replace H := Option.bind_eq_some_iff.mp H
  obtain ⟨t125, A20, H⟩ := H
  replace H : (if t125 = true then ((doorwardref21_Size.f k l0).bind fun t126 => (if t126 > 4096 then (some (([] : List (S28)), 64)) else (doorwardref21_Assemble.l0 k l0 (([] : List (S28))) l0 (l0.length : Int) 0))) else (some (([] : List (S28)), 1))) = some (r1, r2) := H
  have A2 := Aside0.mk A20
  clear A20
  by_cases c3 : t125 = true
  · subst c3
    have H1 : ((doorwardref21_Size.f k l0).bind fun t126 => (if t126 > 4096 then (some (([] : List (S28)), 64)) else (doorwardref21_Assemble.l0 k l0 (([] : List (S28))) l0 (l0.length : Int) 0))) = some (r1, r2) := by rw [if_pos rfl] at H; exact H
    clear H
    have H := H1
    clear H1
    replace H := Option.bind_eq_some_iff.mp H
    obtain ⟨t126, A40, H⟩ := H
    replace H : (if t126 > 4096 then (some (([] : List (S28)), 64)) else (doorwardref21_Assemble.l0 k l0 (([] : List (S28))) l0 (l0.length : Int) 0)) = some (r1, r2) := H
    have A4 := Aside0.mk A40
    clear A40
    by_cases c5 : t126 > 4096
    · rw [if_pos c5] at H
      have c5b0 : decide (4096 < t126) = true := decide_eq_true c5
      clear c5
      simp only [Option.some.injEq, Prod.mk.injEq] at H
      obtain ⟨rfl, rfl⟩ := H
      go_enter Try.func52, Try.ntmps52
      go_wp2_with (first | ((with_reducible refine gate_callee (f := 97) rfl ?_); refine goesL_ (some 9) rfl rfl Try.func97 (by kernel_rfl) rfl #[.slice A0 l0.length c0] rfl (by (try simp only [List.map_toArray, List.map_cons, List.map_nil]); first | done | rfl | (simp only [List.length_drop, List.length_take]; rfl)) ?_; (with_reducible refine (doorwardref21_fits.calls k _ _ l0 true _ ?side1 ?side2 A2.out).mono ?_); (case side1 => repeat (first | exact HR0.out | (with_reducible refine Kd.C_alloc ?_ _) | (with_reducible refine Kd.C_drewN ?_ _) | (with_reducible refine Kd.C_drew ?_))); (case side2 => exact HC0.out); rintro e w6 ⟨rfl, hb⟩; refine ⟨_, rfl, ?_⟩; have n0_ := Aside0.mk (below_step (by repeat (first | (with_reducible first | exact HB.out | apply below_alloc | apply pw_below_drewN | apply below_drew1) | exact HB.out)) hb); clear HB; have HB := n0_; clear n0_; (try clear hb); (try clear hb2); (try clear hk); (try clear hi)) | ((with_reducible refine gate_callee (f := 51) rfl ?_); refine goesL_ (some 12) rfl rfl Try.func51 (by kernel_rfl) rfl #[.slice A0 l0.length c0] rfl (by (try simp only [List.map_toArray, List.map_cons, List.map_nil]); first | done | rfl | (simp only [List.length_drop, List.length_take]; rfl)) ?_; (with_reducible refine (doorwardref21_Size.calls k _ _ l0 t126 _ ?side1 ?side2 A4.out).mono ?_); (case side1 => repeat (first | exact (Kd.C_below HR0.out HB.out) | (with_reducible refine Kd.C_alloc ?_ _) | (with_reducible refine Kd.C_drewN ?_ _) | (with_reducible refine Kd.C_drew ?_))); (case side2 => exact HC0.out); rintro e w7 ⟨rfl, hb⟩; refine ⟨_, rfl, ?_⟩; have n0_ := Aside0.mk (below_step (by repeat (first | (with_reducible first | exact HB.out | apply below_alloc | apply pw_below_drewN | apply below_drew1) | exact HB.out)) hb); clear HB; have HB := n0_; clear n0_; (try clear hb); (try clear hb2); (try clear hk); (try clear hi)))
      go_ret2
      exact ⟨_, by first | rfl | (simp [errW_none, errW_some] <;> rfl) | (simp [*, errW_none, errW_some] <;> rfl), by first | exact Kd.R_nil _ _ _ _ _ | exact Kd.N_nil _ _ _ _ _ | exact Kd.V_nil _ _ _ _ _ | exact Kd.Q_nil _ _ _ _ _ | exact Kd.S_nil _ _ _ _ _, by repeat (first | (with_reducible first | exact HB.out | apply below_alloc | apply pw_below_drewN | apply below_drew1) | exact HB.out)⟩
    · rw [if_neg c5] at H
      have c5b0 : decide (4096 < t126) = false := decide_eq_false c5
      clear c5
      obtain ⟨y127, hy127⟩ : ∃ y_ : List (S28), y_ = (([] : List (S28))) := ⟨_, rfl⟩
      replace H : (doorwardref21_Assemble.l0 k l0 y127 l0 (l0.length : Int) 0) = some (r1, r2) := by first | (rw [hy127]; with_reducible exact H) | (have H2_ := (Option.bind_some _ _).symm.trans H; rw [hy127]; with_reducible exact H2_) | (have H2_ := (Option.bind_some _ _).symm.trans H; with_reducible exact H2_) | with_reducible exact H | (rw [hy127]; exact H) | exact H
      have Ny127 := Aside0.mk hy127
      clear hy127
      have H' := Aside0.mk H
      clear H
      go_enter Try.func52, Try.ntmps52
      go_wp2_with (first | ((with_reducible refine gate_callee (f := 97) rfl ?_); refine goesL_ (some 9) rfl rfl Try.func97 (by kernel_rfl) rfl #[.slice A0 l0.length c0] rfl (by (try simp only [List.map_toArray, List.map_cons, List.map_nil]); first | done | rfl | (simp only [List.length_drop, List.length_take]; rfl)) ?_; (with_reducible refine (doorwardref21_fits.calls k _ _ l0 true _ ?side1 ?side2 A2.out).mono ?_); (case side1 => repeat (first | exact HR0.out | (with_reducible refine Kd.C_alloc ?_ _) | (with_reducible refine Kd.C_drewN ?_ _) | (with_reducible refine Kd.C_drew ?_))); (case side2 => exact HC0.out); rintro e w8 ⟨rfl, hb⟩; refine ⟨_, rfl, ?_⟩; have n0_ := Aside0.mk (below_step (by repeat (first | (with_reducible first | exact HB.out | apply below_alloc | apply pw_below_drewN | apply below_drew1) | exact HB.out)) hb); clear HB; have HB := n0_; clear n0_; (try clear hb); (try clear hb2); (try clear hk); (try clear hi)) | ((with_reducible refine gate_callee (f := 51) rfl ?_); refine goesL_ (some 12) rfl rfl Try.func51 (by kernel_rfl) rfl #[.slice A0 l0.length c0] rfl (by (try simp only [List.map_toArray, List.map_cons, List.map_nil]); first | done | rfl | (simp only [List.length_drop, List.length_take]; rfl)) ?_; (with_reducible refine (doorwardref21_Size.calls k _ _ l0 t126 _ ?side1 ?side2 A4.out).mono ?_); (case side1 => repeat (first | exact (Kd.C_below HR0.out HB.out) | (with_reducible refine Kd.C_alloc ?_ _) | (with_reducible refine Kd.C_drewN ?_ _) | (with_reducible refine Kd.C_drew ?_))); (case side2 => exact HC0.out); rintro e w9 ⟨rfl, hb⟩; refine ⟨_, rfl, ?_⟩; have n0_ := Aside0.mk (below_step (by repeat (first | (with_reducible first | exact HB.out | apply below_alloc | apply pw_below_drewN | apply below_drew1) | exact HB.out)) hb); clear HB; have HB := n0_; clear n0_; (try clear hb); (try clear hb2); (try clear hk); (try clear hi)) | ((with_reducible refine gate_dst (N := 14) rfl ?_); refine Kd.R_lit k28 _ 28 ?hg (N := 14) ?hd (xs := ([] : List (S28))) (inner := []) (ok := fun _ => True) (okp := fun _ => True) ?hr ?hp (fun _ hk => hk) trivial (Below.refl _ _) (Nat.le_refl _) (by simp) ?_; (case hd => rfl); (case hg => rfl); (case hr => first | (go_simp; done) | (go_simp; rfl)); (case hp => exact (Reps.none _ _)); intro v128 w10 ho11 hb hg_ hnew_; clear hg_ hnew_; (first | rw [← Ny127.out] at ho11 | (simp only [Int.reduceToNat] at ho11; rw [← Ny127.out] at ho11)); have n0_ := Aside0.mk (Kd.R_lower ho11 (below_size (by repeat (first | (with_reducible first | exact HB.out | apply below_alloc | apply pw_below_drewN | apply below_drew1) | exact HB.out)))); have n1_ := Aside0.mk (below_step (by repeat (first | (with_reducible first | exact HB.out | apply below_alloc | apply pw_below_drewN | apply below_drew1) | exact HB.out)) hb); clear HB; have HO129 := n0_; have HB := n1_; clear n0_ n1_; clear hb ho11))
      go_loopg [4, 17] k (fun kq v4 v17 w' => ∃ (x4_1 : List (S28)) (x17_1 : Int), v17 = .int .i64 x17_1 ∧ Aside0 (doorwardref21_Assemble.l0 kq l0 x4_1 l0 (l0.length : Int) x17_1 = some (r1, r2)) ∧ Aside0 (kq ≤ k) ∧ Aside0 (Kd.R k28 28 w' w.heap.size (fun _ => True) v4 x4_1) ∧ Aside0 (Below w.heap.size w w'))
      case atStart => exact ⟨(y127), (0), (by first | rfl | (simp; done) | (simp [*]; done)), H', ⟨Nat.le_refl _⟩, ⟨by (with_reducible repeat (first | apply Kd.R_alloc | apply Kd.R_drewN | apply Kd.R_drew)); exact HO129.out⟩, ⟨by repeat (first | (with_reducible first | exact HB.out | apply below_alloc | apply pw_below_drewN | apply below_drew1) | exact HB.out)⟩⟩
      case round =>
        clear H'
        try clear p2
        try clear c3
        try clear c5
        try clear c5b0
        try clear c9
        obtain ⟨x4_1, x17_1, rfl, HA, HK1, HO_4, HB⟩ := hrel
        cases gk with
        | zero => exact absurd HA.out (by simp [doorwardref21_Assemble.l0])
        | succ k1 =>
          have H := HA.out
          clear HA
          simp only [doorwardref21_Assemble.l0] at H
          by_cases c12 : x17_1 < (l0.length : Int)
          · rw [if_pos c12] at H
            have c12b0 : decide (x17_1 < (l0.length : Int)) = true := decide_eq_true c12
            clear c12
            by_cases c13 : 0 ≤ x17_1
            · rw [if_pos c13] at H
              have c13b0 : decide (0 ≤ x17_1) = true := decide_eq_true c13
              clear c13
              by_cases c14 : x17_1 < (l0.length : Int)
              · rw [if_pos c14] at H
                have c14b0 : decide (x17_1 < (l0.length : Int)) = true := decide_eq_true c14
                clear c14
                by_cases c15 : ((rd_T40 l0 x17_1).f0) = 1
                · rw [if_pos c15] at H
                  have c15b0 : (((rd_T40 l0 x17_1).f0) == 1) = true := beq_iff_eq.mpr c15
                  have c15b1 : (((rd_T40 l0 x17_1).f0) != 1) = false := bne_eq_false_iff_eq.mpr c15
                  clear c15
                  by_cases c16 : x4_1.length < 4398046511104
                  · rw [if_pos c16] at H
                    have LMc16 := Aside0.mk c16
                    clear c16
                    obtain ⟨y132, hy132⟩ : ∃ y_ : List (S28), y_ = (x4_1 ++ [(⟨32, 0, 0, (rd_T40 l0 x17_1).f1⟩ : S28)]) := ⟨_, rfl⟩
                    replace H : (doorwardref21_Assemble.l0 k1 l0 y132 l0 (l0.length : Int) (wrap64 (x17_1 + 1))) = some (r1, r2) := by first | (rw [hy132]; with_reducible exact H) | (have H2_ := (Option.bind_some _ _).symm.trans H; rw [hy132]; with_reducible exact H2_) | (have H2_ := (Option.bind_some _ _).symm.trans H; with_reducible exact H2_) | with_reducible exact H | (rw [hy132]; exact H) | exact H
                    have Ny132 := Aside0.mk hy132
                    clear hy132
                    have H' := Aside0.mk H
                    clear H
                    have p130 : 0 ≤ (x17_1 : Int) := of_decide_eq_true (by first | (with_reducible assumption) | assumption)
                    have q130 : x17_1 < (l0.length : Int) := of_decide_eq_true (by first | (with_reducible assumption) | assumption)
                    obtain ⟨ad130, e130, hx130_0, hx130_1, hx130_2, hx130_3⟩ := at_T40 HR0.out x17_1 p130 q130
                    cases e130
                    replace hx130_0 := (HB.out.cell (World.block_lt_of_cell? w _ hx130_0)).trans hx130_0
                    replace hx130_1 := (HB.out.cell (World.block_lt_of_cell? w _ hx130_1)).trans hx130_1
                    replace hx130_2 := (HB.out.cell (World.block_lt_of_cell? w _ hx130_2)).trans hx130_2
                    replace hx130_3 := (HB.out.cell (World.block_lt_of_cell? w _ hx130_3)).trans hx130_3
                    replace p130 := eq_true p130
                    replace q130 := eq_true q130
                    go_wp2_with (first | ((with_reducible refine gate_dst (N := 6) rfl ?_); refine box_event ?hg (N := 6) ?hd (cs := #[.int .i64 0, .int .u32 0, .int .i64 0, .int .i64 0]) (t := 40) ?hr ?_; (case hd => rfl); (case hg => rfl); (case hr => first | (go_simp; done) | (go_simp; rfl)); intro gb131 hg w17 hbox hb; have n0_ := Aside0.mk (Kd.R_below (by (with_reducible repeat (first | apply Kd.R_alloc | apply Kd.R_drewN | apply Kd.R_drew)); exact HO_4.out) hb); have n1_ := Aside0.mk (below_step (by repeat (first | (with_reducible first | exact HB.out | apply below_alloc | apply pw_below_drewN | apply below_drew1) | exact HB.out)) hb); have n2_ := Aside0.mk (hbox); have n3_ := Aside0.mk ((by rw [hg]; exact (below_size (by repeat (first | (with_reducible first | exact HB.out | apply below_alloc | apply pw_below_drewN | apply below_drew1) | exact HB.out))) : w.heap.size ≤ gb131)); have n4_ := Aside0.mk ((by rw [hg]; exact (below_size (by repeat (first | (with_reducible first | exact HB.out | apply below_alloc | apply pw_below_drewN | apply below_drew1) | exact HB.out))) : w.heap.size ≤ gb131)); clear HO_4; clear HB; have HO_4 := n0_; have HB := n1_; have BK131 := n2_; have GW131 := n3_; have GE131 := n4_; clear n0_ n1_ n2_ n3_ n4_; clear hb hbox hg; have hcz18_0 : w17.cell? ⟨gb131, 0, none⟩ = some (.int .i64 0) := (blk_cell BK131.out 0).trans rfl; have hcz18_1 : w17.cell? ⟨gb131, 1, none⟩ = some (.int .u32 0) := (blk_cell BK131.out 1).trans rfl; have hcz18_2 : w17.cell? ⟨gb131, 2, none⟩ = some (.int .i64 0) := (blk_cell BK131.out 2).trans rfl; have hcz18_3 : w17.cell? ⟨gb131, 3, none⟩ = some (.int .i64 0) := (blk_cell BK131.out 3).trans rfl; have hfz18_0 := blk_frozen BK131.out 0; have hfz18_1 := blk_frozen BK131.out 1; have hfz18_2 := blk_frozen BK131.out 2; have hfz18_3 := blk_frozen BK131.out 3; obtain ⟨Ao19, co19, eo19⟩ := Kd.R_slice HO_4.out; subst eo19) | ((with_reducible refine gate_builtin (b := .append) (xs := #[.tmp 28, .tmp 32]) rfl ?_); at_builtin; refine Kd.R_append k28 (w0 := w) w.heap.size rfl (.tmp 28) (.tmp 32) 34 28 (.agg #[(.int .i64 0), (.int .i64 0), (.int .i64 0), (.int .u32 0)]) 32 rfl Try.underlying34 info28 rfl (by decide) (by omega) (.slice Ao19 x4_1.length co19) x4_1 (⟨32, 0, 0, (rd_T40 l0 x17_1).f1⟩ : S28) [.int .i64 32, .int .i64 0, .int .i64 0, .int .u32 ((rd_T40 l0 x17_1).f1)] (fun _ => True) (fun _ => False) rfl (by first | (go_simp; done) | (go_simp; rfl)) ?aP (fun _ hk => hk.elim) ?aF ?aO ?aB ?aS ?aL ?_; (case aP => exact k28_mkM _ _ _ (⟨32, 0, 0, (rd_T40 l0 x17_1).f1⟩ : S28)); (case aB => exact (by repeat (first | (with_reducible first | exact HB.out | apply below_alloc | apply pw_below_drewN | apply below_drew1 | refine below_set ?_ GE131.out) | exact HB.out))); (case aF => exact (fun _ _ => trivial)); (case aO => exact (by (with_reducible repeat (first | apply Kd.R_alloc | apply Kd.R_drewN | apply Kd.R_drew)); exact Kd.R_mono (Kd.R_far (p := ⟨gb131, 3, none⟩) (Kd.R_far (p := ⟨gb131, 2, none⟩) (Kd.R_far (p := ⟨gb131, 1, none⟩) (Kd.R_far (p := ⟨gb131, 0, none⟩) (Kd.R_types HO_4.out BK131.out (by decide)) (fun _ hk => hk.2) (.int .i64 ((rd_T40 l0 x17_1).f0))) (fun _ hk => hk.2) (.int .u32 ((rd_T40 l0 x17_1).f1))) (fun _ hk => hk.2) (.int .i64 ((rd_T40 l0 x17_1).f2))) (fun _ hk => hk.2) (.int .i64 ((rd_T40 l0 x17_1).f3))) (fun _ hk => trivial))); (case aS => exact (below_size (by repeat (first | (with_reducible first | exact HB.out | apply below_alloc | apply pw_below_drewN | apply below_drew1 | refine below_set ?_ GE131.out) | exact HB.out)))); (case aL => have := LMc16.out; omega); intro v133 w20 ho hb hg hat; rw [← Ny132.out] at ho; have n0_ := Aside0.mk (blk_grown (g := gb131) (o := .cells #[.int .i64 ((rd_T40 l0 x17_1).f0), .int .u32 ((rd_T40 l0 x17_1).f1), .int .i64 ((rd_T40 l0 x17_1).f2), .int .i64 ((rd_T40 l0 x17_1).f3)] 40 (0, 0)) (by (with_reducible repeat (first | refine blk_drewN ?_ _ | refine blk_drew ?_ | refine blk_alloc ?_ _)); refine blk_put (cs := #[.int .i64 ((rd_T40 l0 x17_1).f0), .int .u32 ((rd_T40 l0 x17_1).f1), .int .i64 ((rd_T40 l0 x17_1).f2), .int .i64 0]) ?_ 3 _ rfl; (with_reducible repeat (first | refine blk_drewN ?_ _ | refine blk_drew ?_ | refine blk_alloc ?_ _)); refine blk_put (cs := #[.int .i64 ((rd_T40 l0 x17_1).f0), .int .u32 ((rd_T40 l0 x17_1).f1), .int .i64 0, .int .i64 0]) ?_ 2 _ rfl; (with_reducible repeat (first | refine blk_drewN ?_ _ | refine blk_drew ?_ | refine blk_alloc ?_ _)); refine blk_put (cs := #[.int .i64 ((rd_T40 l0 x17_1).f0), .int .u32 0, .int .i64 0, .int .i64 0]) ?_ 1 _ rfl; (with_reducible repeat (first | refine blk_drewN ?_ _ | refine blk_drew ?_ | refine blk_alloc ?_ _)); refine blk_put (cs := #[.int .i64 0, .int .u32 0, .int .i64 0, .int .i64 0]) ?_ 0 _ rfl; (with_reducible repeat (first | refine blk_drewN ?_ _ | refine blk_drew ?_ | refine blk_alloc ?_ _)); exact BK131.out) hg (Kd.R_ne HO_4.out BK131.out (by decide))); have n1_ := Aside0.mk (hb); have n2_ := Aside0.mk (ho); clear BK131; clear HB; clear HO_4; have BK131 := n0_; have HB := n1_; have HO134 := n2_; clear n0_ n1_ n2_; clear ho hb hg hat))
                    go_roundg k1
                    case measure => have := HK1.out; omega
                    case rel => exact ⟨(y132), (wrap64 (x17_1 + 1)), (by first | rfl | (simp; done) | (simp [*]; done)), H', ⟨by have := HK1.out; omega⟩, ⟨by (with_reducible repeat (first | apply Kd.R_alloc | apply Kd.R_drewN | apply Kd.R_drew)); exact HO134.out⟩, ⟨by repeat (first | (with_reducible first | exact HB.out | apply below_alloc | apply pw_below_drewN | apply below_drew1 | refine below_set ?_ GE131.out) | exact HB.out)⟩⟩
                  · rw [if_neg c16] at H
                    exact absurd H (by simp)
                · rw [if_neg c15] at H
                  have c15b0 : (((rd_T40 l0 x17_1).f0) == 1) = false := beq_eq_false_iff_ne.mpr c15
                  have c15b1 : (((rd_T40 l0 x17_1).f0) != 1) = true := bne_iff_ne.mpr c15
                  by_cases c21 : ((rd_T40 l0 x17_1).f0) = 2
                  · rw [if_pos c21] at H
                    have c21b0 : (((rd_T40 l0 x17_1).f0) == 2) = true := beq_iff_eq.mpr c21
                    have c21b1 : (((rd_T40 l0 x17_1).f0) != 2) = false := bne_eq_false_iff_eq.mpr c21
                    clear c21
                    by_cases c22 : x4_1.length < 4398046511104
                    · rw [if_pos c22] at H
                      have LMc22 := Aside0.mk c22
                      clear c22
                      obtain ⟨y135, hy135⟩ : ∃ y_ : List (S28), y_ = (x4_1 ++ [(⟨84, 0, 0, (rd_T40 l0 x17_1).f1⟩ : S28)]) := ⟨_, rfl⟩
                      replace H : (doorwardref21_Assemble.l0 k1 l0 y135 l0 (l0.length : Int) (wrap64 (x17_1 + 1))) = some (r1, r2) := by first | (rw [hy135]; with_reducible exact H) | (have H2_ := (Option.bind_some _ _).symm.trans H; rw [hy135]; with_reducible exact H2_) | (have H2_ := (Option.bind_some _ _).symm.trans H; with_reducible exact H2_) | with_reducible exact H | (rw [hy135]; exact H) | exact H
                      have Ny135 := Aside0.mk hy135
                      clear hy135
                      have H' := Aside0.mk H
                      clear H
                      have p130 : 0 ≤ (x17_1 : Int) := of_decide_eq_true (by first | (with_reducible assumption) | assumption)
                      have q130 : x17_1 < (l0.length : Int) := of_decide_eq_true (by first | (with_reducible assumption) | assumption)
                      obtain ⟨ad130, e130, hx130_0, hx130_1, hx130_2, hx130_3⟩ := at_T40 HR0.out x17_1 p130 q130
                      cases e130
                      replace hx130_0 := (HB.out.cell (World.block_lt_of_cell? w _ hx130_0)).trans hx130_0
                      replace hx130_1 := (HB.out.cell (World.block_lt_of_cell? w _ hx130_1)).trans hx130_1
                      replace hx130_2 := (HB.out.cell (World.block_lt_of_cell? w _ hx130_2)).trans hx130_2
                      replace hx130_3 := (HB.out.cell (World.block_lt_of_cell? w _ hx130_3)).trans hx130_3
                      replace p130 := eq_true p130
                      replace q130 := eq_true q130
                      go_wp2_with (first | ((with_reducible refine gate_dst (N := 6) rfl ?_); refine box_event ?hg (N := 6) ?hd (cs := #[.int .i64 0, .int .u32 0, .int .i64 0, .int .i64 0]) (t := 40) ?hr ?_; (case hd => rfl); (case hg => rfl); (case hr => first | (go_simp; done) | (go_simp; rfl)); intro gb131 hg w23 hbox hb; have n0_ := Aside0.mk (Kd.R_below (by (with_reducible repeat (first | apply Kd.R_alloc | apply Kd.R_drewN | apply Kd.R_drew)); exact HO_4.out) hb); have n1_ := Aside0.mk (below_step (by repeat (first | (with_reducible first | exact HB.out | apply below_alloc | apply pw_below_drewN | apply below_drew1) | exact HB.out)) hb); have n2_ := Aside0.mk (hbox); have n3_ := Aside0.mk ((by rw [hg]; exact (below_size (by repeat (first | (with_reducible first | exact HB.out | apply below_alloc | apply pw_below_drewN | apply below_drew1) | exact HB.out))) : w.heap.size ≤ gb131)); have n4_ := Aside0.mk ((by rw [hg]; exact (below_size (by repeat (first | (with_reducible first | exact HB.out | apply below_alloc | apply pw_below_drewN | apply below_drew1) | exact HB.out))) : w.heap.size ≤ gb131)); clear HO_4; clear HB; have HO_4 := n0_; have HB := n1_; have BK131 := n2_; have GW131 := n3_; have GE131 := n4_; clear n0_ n1_ n2_ n3_ n4_; clear hb hbox hg; have hcz24_0 : w23.cell? ⟨gb131, 0, none⟩ = some (.int .i64 0) := (blk_cell BK131.out 0).trans rfl; have hcz24_1 : w23.cell? ⟨gb131, 1, none⟩ = some (.int .u32 0) := (blk_cell BK131.out 1).trans rfl; have hcz24_2 : w23.cell? ⟨gb131, 2, none⟩ = some (.int .i64 0) := (blk_cell BK131.out 2).trans rfl; have hcz24_3 : w23.cell? ⟨gb131, 3, none⟩ = some (.int .i64 0) := (blk_cell BK131.out 3).trans rfl; have hfz24_0 := blk_frozen BK131.out 0; have hfz24_1 := blk_frozen BK131.out 1; have hfz24_2 := blk_frozen BK131.out 2; have hfz24_3 := blk_frozen BK131.out 3; obtain ⟨Ao25, co25, eo25⟩ := Kd.R_slice HO_4.out; subst eo25) | ((with_reducible refine gate_builtin (b := .append) (xs := #[.tmp 36, .tmp 40]) rfl ?_); at_builtin; refine Kd.R_append k28 (w0 := w) w.heap.size rfl (.tmp 36) (.tmp 40) 34 28 (.agg #[(.int .i64 0), (.int .i64 0), (.int .i64 0), (.int .u32 0)]) 32 rfl Try.underlying34 info28 rfl (by decide) (by omega) (.slice Ao25 x4_1.length co25) x4_1 (⟨84, 0, 0, (rd_T40 l0 x17_1).f1⟩ : S28) [.int .i64 84, .int .i64 0, .int .i64 0, .int .u32 ((rd_T40 l0 x17_1).f1)] (fun _ => True) (fun _ => False) rfl (by first | (go_simp; done) | (go_simp; rfl)) ?aP (fun _ hk => hk.elim) ?aF ?aO ?aB ?aS ?aL ?_; (case aP => exact k28_mkM _ _ _ (⟨84, 0, 0, (rd_T40 l0 x17_1).f1⟩ : S28)); (case aB => exact (by repeat (first | (with_reducible first | exact HB.out | apply below_alloc | apply pw_below_drewN | apply below_drew1 | refine below_set ?_ GE131.out) | exact HB.out))); (case aF => exact (fun _ _ => trivial)); (case aO => exact (by (with_reducible repeat (first | apply Kd.R_alloc | apply Kd.R_drewN | apply Kd.R_drew)); exact Kd.R_mono (Kd.R_far (p := ⟨gb131, 3, none⟩) (Kd.R_far (p := ⟨gb131, 2, none⟩) (Kd.R_far (p := ⟨gb131, 1, none⟩) (Kd.R_far (p := ⟨gb131, 0, none⟩) (Kd.R_types HO_4.out BK131.out (by decide)) (fun _ hk => hk.2) (.int .i64 ((rd_T40 l0 x17_1).f0))) (fun _ hk => hk.2) (.int .u32 ((rd_T40 l0 x17_1).f1))) (fun _ hk => hk.2) (.int .i64 ((rd_T40 l0 x17_1).f2))) (fun _ hk => hk.2) (.int .i64 ((rd_T40 l0 x17_1).f3))) (fun _ hk => trivial))); (case aS => exact (below_size (by repeat (first | (with_reducible first | exact HB.out | apply below_alloc | apply pw_below_drewN | apply below_drew1 | refine below_set ?_ GE131.out) | exact HB.out)))); (case aL => have := LMc22.out; omega); intro v136 w26 ho hb hg hat; rw [← Ny135.out] at ho; have n0_ := Aside0.mk (blk_grown (g := gb131) (o := .cells #[.int .i64 ((rd_T40 l0 x17_1).f0), .int .u32 ((rd_T40 l0 x17_1).f1), .int .i64 ((rd_T40 l0 x17_1).f2), .int .i64 ((rd_T40 l0 x17_1).f3)] 40 (0, 0)) (by (with_reducible repeat (first | refine blk_drewN ?_ _ | refine blk_drew ?_ | refine blk_alloc ?_ _)); refine blk_put (cs := #[.int .i64 ((rd_T40 l0 x17_1).f0), .int .u32 ((rd_T40 l0 x17_1).f1), .int .i64 ((rd_T40 l0 x17_1).f2), .int .i64 0]) ?_ 3 _ rfl; (with_reducible repeat (first | refine blk_drewN ?_ _ | refine blk_drew ?_ | refine blk_alloc ?_ _)); refine blk_put (cs := #[.int .i64 ((rd_T40 l0 x17_1).f0), .int .u32 ((rd_T40 l0 x17_1).f1), .int .i64 0, .int .i64 0]) ?_ 2 _ rfl; (with_reducible repeat (first | refine blk_drewN ?_ _ | refine blk_drew ?_ | refine blk_alloc ?_ _)); refine blk_put (cs := #[.int .i64 ((rd_T40 l0 x17_1).f0), .int .u32 0, .int .i64 0, .int .i64 0]) ?_ 1 _ rfl; (with_reducible repeat (first | refine blk_drewN ?_ _ | refine blk_drew ?_ | refine blk_alloc ?_ _)); refine blk_put (cs := #[.int .i64 0, .int .u32 0, .int .i64 0, .int .i64 0]) ?_ 0 _ rfl; (with_reducible repeat (first | refine blk_drewN ?_ _ | refine blk_drew ?_ | refine blk_alloc ?_ _)); exact BK131.out) hg (Kd.R_ne HO_4.out BK131.out (by decide))); have n1_ := Aside0.mk (hb); have n2_ := Aside0.mk (ho); clear BK131; clear HB; clear HO_4; have BK131 := n0_; have HB := n1_; have HO137 := n2_; clear n0_ n1_ n2_; clear ho hb hg hat))
                      go_roundg k1
                      case measure => have := HK1.out; omega
                      case rel => exact ⟨(y135), (wrap64 (x17_1 + 1)), (by first | rfl | (simp; done) | (simp [*]; done)), H', ⟨by have := HK1.out; omega⟩, ⟨by (with_reducible repeat (first | apply Kd.R_alloc | apply Kd.R_drewN | apply Kd.R_drew)); exact HO137.out⟩, ⟨by repeat (first | (with_reducible first | exact HB.out | apply below_alloc | apply pw_below_drewN | apply below_drew1 | refine below_set ?_ GE131.out) | exact HB.out)⟩⟩
                    · rw [if_neg c22] at H
                      exact absurd H (by simp)
                  · rw [if_neg c21] at H
                    have c21b0 : (((rd_T40 l0 x17_1).f0) == 2) = false := beq_eq_false_iff_ne.mpr c21
                    have c21b1 : (((rd_T40 l0 x17_1).f0) != 2) = true := bne_iff_ne.mpr c21
                    by_cases c27 : ((rd_T40 l0 x17_1).f0) = 3
                    · rw [if_pos c27] at H
                      have c27b0 : (((rd_T40 l0 x17_1).f0) == 3) = true := beq_iff_eq.mpr c27
                      have c27b1 : (((rd_T40 l0 x17_1).f0) != 3) = false := bne_eq_false_iff_eq.mpr c27
                      clear c27
                      replace H := Option.bind_eq_some_iff.mp H
                      obtain ⟨⟨t138, t139, t140, t141⟩, A280, H⟩ := H
                      replace H : ((doorwardref21_ja.f k1 l0 x17_1 (wrap64 ((x4_1.length : Int) + 2)) ((rd_T40 l0 x17_1).f3)).bind fun bt142 => ((some (([(⟨21, 0, 1, (rd_T40 l0 x17_1).f1⟩ : S28), (⟨t138, t139, t140, t141⟩ : S28), (⟨bt142.1, bt142.2.1, bt142.2.2.1, bt142.2.2.2⟩ : S28)] : List (S28)) : List (S28))).bind fun y146 => (if x4_1.length + y146.length < 4398046511104 then (doorwardref21_Assemble.l0 k1 l0 (x4_1 ++ y146) l0 (l0.length : Int) (wrap64 (x17_1 + 1))) else (none)))) = some (r1, r2) := H
                      have A28 := Aside0.mk A280
                      clear A280
                      replace H := Option.bind_eq_some_iff.mp H
                      obtain ⟨⟨t142, t143, t144, t145⟩, A290, H⟩ := H
                      replace H : ((some (([(⟨21, 0, 1, (rd_T40 l0 x17_1).f1⟩ : S28), (⟨t138, t139, t140, t141⟩ : S28), (⟨t142, t143, t144, t145⟩ : S28)] : List (S28)) : List (S28))).bind fun y146 => (if x4_1.length + y146.length < 4398046511104 then (doorwardref21_Assemble.l0 k1 l0 (x4_1 ++ y146) l0 (l0.length : Int) (wrap64 (x17_1 + 1))) else (none))) = some (r1, r2) := H
                      have A29 := Aside0.mk A290
                      clear A290
                      obtain ⟨y146, hy146⟩ : ∃ y_ : List (S28), y_ = (([(⟨21, 0, 1, (rd_T40 l0 x17_1).f1⟩ : S28), (⟨t138, t139, t140, t141⟩ : S28), (⟨t142, t143, t144, t145⟩ : S28)] : List (S28))) := ⟨_, rfl⟩
                      replace H : (if x4_1.length + y146.length < 4398046511104 then (doorwardref21_Assemble.l0 k1 l0 (x4_1 ++ y146) l0 (l0.length : Int) (wrap64 (x17_1 + 1))) else (none)) = some (r1, r2) := by first | (rw [hy146]; with_reducible exact H) | (have H2_ := (Option.bind_some _ _).symm.trans H; rw [hy146]; with_reducible exact H2_) | (have H2_ := (Option.bind_some _ _).symm.trans H; with_reducible exact H2_) | with_reducible exact H | (rw [hy146]; exact H) | exact H
                      have Ny146 := Aside0.mk hy146
                      clear hy146
                      by_cases c30 : x4_1.length + y146.length < 4398046511104
                      · rw [if_pos c30] at H
                        have LMc30 := Aside0.mk c30
                        clear c30
                        obtain ⟨y149, hy149⟩ : ∃ y_ : List (S28), y_ = (x4_1 ++ y146) := ⟨_, rfl⟩
                        replace H : (doorwardref21_Assemble.l0 k1 l0 y149 l0 (l0.length : Int) (wrap64 (x17_1 + 1))) = some (r1, r2) := by first | (rw [hy149]; with_reducible exact H) | (have H2_ := (Option.bind_some _ _).symm.trans H; rw [hy149]; with_reducible exact H2_) | (have H2_ := (Option.bind_some _ _).symm.trans H; with_reducible exact H2_) | with_reducible exact H | (rw [hy149]; exact H) | exact H
                        have Ny149 := Aside0.mk hy149
                        clear hy149
                        have H' := Aside0.mk H
                        clear H
                        have p130 : 0 ≤ (x17_1 : Int) := of_decide_eq_true (by first | (with_reducible assumption) | assumption)
                        have q130 : x17_1 < (l0.length : Int) := of_decide_eq_true (by first | (with_reducible assumption) | assumption)
                        obtain ⟨ad130, e130, hx130_0, hx130_1, hx130_2, hx130_3⟩ := at_T40 HR0.out x17_1 p130 q130
                        cases e130
                        replace hx130_0 := (HB.out.cell (World.block_lt_of_cell? w _ hx130_0)).trans hx130_0
                        replace hx130_1 := (HB.out.cell (World.block_lt_of_cell? w _ hx130_1)).trans hx130_1
                        replace hx130_2 := (HB.out.cell (World.block_lt_of_cell? w _ hx130_2)).trans hx130_2
                        replace hx130_3 := (HB.out.cell (World.block_lt_of_cell? w _ hx130_3)).trans hx130_3
                        replace p130 := eq_true p130
                        replace q130 := eq_true q130
                        try go_wp2_with (first | ((with_reducible refine gate_dst (N := 6) rfl ?_); refine box_event ?hg (N := 6) ?hd (cs := #[.int .i64 0, .int .u32 0, .int .i64 0, .int .i64 0]) (t := 40) ?hr ?_; (case hd => rfl); (case hg => rfl); (case hr => first | (go_simp; done) | (go_simp; rfl)); intro gb131 hg w31 hbox hb; have n0_ := Aside0.mk (Kd.R_below (by (with_reducible repeat (first | apply Kd.R_alloc | apply Kd.R_drewN | apply Kd.R_drew)); exact HO_4.out) hb); have n1_ := Aside0.mk (below_step (by repeat (first | (with_reducible first | exact HB.out | apply below_alloc | apply pw_below_drewN | apply below_drew1) | exact HB.out)) hb); have n2_ := Aside0.mk (hbox); have n3_ := Aside0.mk ((by rw [hg]; exact (below_size (by repeat (first | (with_reducible first | exact HB.out | apply below_alloc | apply pw_below_drewN | apply below_drew1) | exact HB.out))) : w.heap.size ≤ gb131)); have n4_ := Aside0.mk ((by rw [hg]; exact (below_size (by repeat (first | (with_reducible first | exact HB.out | apply below_alloc | apply pw_below_drewN | apply below_drew1) | exact HB.out))) : w.heap.size ≤ gb131)); clear HO_4; clear HB; have HO_4 := n0_; have HB := n1_; have BK131 := n2_; have GW131 := n3_; have GE131 := n4_; clear n0_ n1_ n2_ n3_ n4_; clear hb hbox hg; have hcz32_0 : w31.cell? ⟨gb131, 0, none⟩ = some (.int .i64 0) := (blk_cell BK131.out 0).trans rfl; have hcz32_1 : w31.cell? ⟨gb131, 1, none⟩ = some (.int .u32 0) := (blk_cell BK131.out 1).trans rfl; have hcz32_2 : w31.cell? ⟨gb131, 2, none⟩ = some (.int .i64 0) := (blk_cell BK131.out 2).trans rfl; have hcz32_3 : w31.cell? ⟨gb131, 3, none⟩ = some (.int .i64 0) := (blk_cell BK131.out 3).trans rfl; have hfz32_0 := blk_frozen BK131.out 0; have hfz32_1 := blk_frozen BK131.out 1; have hfz32_2 := blk_frozen BK131.out 2; have hfz32_3 := blk_frozen BK131.out 3; obtain ⟨Ao33, co33, eo33⟩ := Kd.R_slice HO_4.out; subst eo33))
                        have n0_ : Aside0 (Kd.R k28 28 ((((w31.setCell ⟨gb131, 0, none⟩ (.int .i64 ((rd_T40 l0 x17_1).f0))).setCell ⟨gb131, 1, none⟩ (.int .u32 ((rd_T40 l0 x17_1).f1))).setCell ⟨gb131, 2, none⟩ (.int .i64 ((rd_T40 l0 x17_1).f2))).setCell ⟨gb131, 3, none⟩ (.int .i64 ((rd_T40 l0 x17_1).f3))) w.heap.size (fun _ => True) (.slice Ao33 x4_1.length co33) x4_1) := ⟨by (with_reducible repeat (first | apply Kd.R_alloc | apply Kd.R_drewN | apply Kd.R_drew)); exact Kd.R_mono (Kd.R_far (p := ⟨gb131, 3, none⟩) (Kd.R_far (p := ⟨gb131, 2, none⟩) (Kd.R_far (p := ⟨gb131, 1, none⟩) (Kd.R_far (p := ⟨gb131, 0, none⟩) (Kd.R_types HO_4.out BK131.out (by decide)) (fun _ hk => hk.2) (.int .i64 ((rd_T40 l0 x17_1).f0))) (fun _ hk => hk.2) (.int .u32 ((rd_T40 l0 x17_1).f1))) (fun _ hk => hk.2) (.int .i64 ((rd_T40 l0 x17_1).f2))) (fun _ hk => hk.2) (.int .i64 ((rd_T40 l0 x17_1).f3))) (fun _ hk => trivial)⟩
                        have n1_ : Aside0 (((((w31.setCell ⟨gb131, 0, none⟩ (.int .i64 ((rd_T40 l0 x17_1).f0))).setCell ⟨gb131, 1, none⟩ (.int .u32 ((rd_T40 l0 x17_1).f1))).setCell ⟨gb131, 2, none⟩ (.int .i64 ((rd_T40 l0 x17_1).f2))).setCell ⟨gb131, 3, none⟩ (.int .i64 ((rd_T40 l0 x17_1).f3))).heap[gb131]? = some (.cells #[.int .i64 ((rd_T40 l0 x17_1).f0), .int .u32 ((rd_T40 l0 x17_1).f1), .int .i64 ((rd_T40 l0 x17_1).f2), .int .i64 ((rd_T40 l0 x17_1).f3)] 40 (0, 0))) := ⟨by (with_reducible repeat (first | refine blk_drewN ?_ _ | refine blk_drew ?_ | refine blk_alloc ?_ _)); refine blk_put (cs := #[.int .i64 ((rd_T40 l0 x17_1).f0), .int .u32 ((rd_T40 l0 x17_1).f1), .int .i64 ((rd_T40 l0 x17_1).f2), .int .i64 0]) ?_ 3 _ rfl; (with_reducible repeat (first | refine blk_drewN ?_ _ | refine blk_drew ?_ | refine blk_alloc ?_ _)); refine blk_put (cs := #[.int .i64 ((rd_T40 l0 x17_1).f0), .int .u32 ((rd_T40 l0 x17_1).f1), .int .i64 0, .int .i64 0]) ?_ 2 _ rfl; (with_reducible repeat (first | refine blk_drewN ?_ _ | refine blk_drew ?_ | refine blk_alloc ?_ _)); refine blk_put (cs := #[.int .i64 ((rd_T40 l0 x17_1).f0), .int .u32 0, .int .i64 0, .int .i64 0]) ?_ 1 _ rfl; (with_reducible repeat (first | refine blk_drewN ?_ _ | refine blk_drew ?_ | refine blk_alloc ?_ _)); refine blk_put (cs := #[.int .i64 0, .int .u32 0, .int .i64 0, .int .i64 0]) ?_ 0 _ rfl; (with_reducible repeat (first | refine blk_drewN ?_ _ | refine blk_drew ?_ | refine blk_alloc ?_ _)); exact BK131.out⟩
                        have n2_ : Aside0 (Below w.heap.size w ((((w31.setCell ⟨gb131, 0, none⟩ (.int .i64 ((rd_T40 l0 x17_1).f0))).setCell ⟨gb131, 1, none⟩ (.int .u32 ((rd_T40 l0 x17_1).f1))).setCell ⟨gb131, 2, none⟩ (.int .i64 ((rd_T40 l0 x17_1).f2))).setCell ⟨gb131, 3, none⟩ (.int .i64 ((rd_T40 l0 x17_1).f3)))) := ⟨by repeat (first | (with_reducible first | exact HB.out | apply below_alloc | apply pw_below_drewN | apply below_drew1 | refine below_set ?_ GE131.out) | exact HB.out)⟩
                        (try clear HO_4)
                        (try clear BK131)
                        (try clear HB)
                        generalize ((((w31.setCell ⟨gb131, 0, none⟩ (.int .i64 ((rd_T40 l0 x17_1).f0))).setCell ⟨gb131, 1, none⟩ (.int .u32 ((rd_T40 l0 x17_1).f1))).setCell ⟨gb131, 2, none⟩ (.int .i64 ((rd_T40 l0 x17_1).f2))).setCell ⟨gb131, 3, none⟩ (.int .i64 ((rd_T40 l0 x17_1).f3))) = w34 at n0_ n1_ n2_ ⊢
                        have HO_4 := n0_
                        have BK131 := n1_
                        have HB := n2_
                        clear n0_ n1_ n2_
                        have n0_ := Aside0.mk (Kd.R_drew HO_4.out)
                        have n1_ := Aside0.mk (blk_drew BK131.out)
                        have n2_ := Aside0.mk (below_drew1 HB.out)
                        clear HO_4
                        clear BK131
                        clear HB
                        have HO_4 := n0_
                        have BK131 := n1_
                        have HB := n2_
                        clear n0_ n1_ n2_
                        refine start_ (n := 21) (S := fun w' => w'.cell? ⟨gb131, 0, none⟩ = some (.int .i64 ((rd_T40 l0 x17_1).f0)) ∧ w'.cell? ⟨gb131, 1, none⟩ = some (.int .u32 ((rd_T40 l0 x17_1).f1)) ∧ w'.cell? ⟨gb131, 2, none⟩ = some (.int .i64 ((rd_T40 l0 x17_1).f2)) ∧ w'.cell? ⟨gb131, 3, none⟩ = some (.int .i64 ((rd_T40 l0 x17_1).f3))) (ds := []) #[false, false, false, false, false, false, false, false, false, false, false, false, false, false, false, false, false, false, false, false, false] (by kernel_rfl) rfl rfl ⟨(blk_cell BK131.out 0).trans rfl, (blk_cell BK131.out 1).trans rfl, (blk_cell BK131.out 2).trans rfl, (blk_cell BK131.out 3).trans rfl⟩ (fun hHeld => ?_); refine with_tabW doorwardref21_Assemble.tab16 doorwardref21_Assemble.bits16 (fun HT_ HW_ => ?_)
                        generalize w34.drew = w35 at HO_4 BK131 HB hHeld ⊢
                        refine pure_ (i := 0) (N := some 44) (v := ?_) (a' := ?_) #[true, false, false, false, false, false, false, false, false, false, false, false, false, false, false, false, false, false, false, false, false] rfl rfl (any_of HT_.out (by kernel_rfl)) (fun _ _ _ h => h) (Or.inl ⟨by rfl, ?_⟩) ?_ ?_
                        rotate_left
                        · intro w'
                          go_simp
                          with_reducible rfl
                        rotate_left
                        · simp only [Act.put, List.setIfInBounds_toArray, List.set_cons_zero, List.set_cons_succ, i64_w, i32_w]
                          rfl
                        refine pure_ (i := 1) (N := some 45) (v := ?_) (a' := ?_) #[true, true, false, false, false, false, false, false, false, false, false, false, false, false, false, false, false, false, false, false, false] rfl rfl (any_of HT_.out (by kernel_rfl)) (fun _ _ _ h => h) (Or.inl ⟨by rfl, ?_⟩) ?_ ?_
                        rotate_left
                        · intro w'
                          go_simp
                          with_reducible rfl
                        rotate_left
                        · simp only [Act.put, List.setIfInBounds_toArray, List.set_cons_zero, List.set_cons_succ, i64_w, i32_w]
                          rfl
                        refine pure_ (i := 4) (N := some 48) (v := ?_) (a' := ?_) #[true, true, false, false, true, false, false, false, false, false, false, false, false, false, false, false, false, false, false, false, false] rfl rfl (any_of HT_.out (by kernel_rfl)) (fun _ _ _ h => h) (Or.inl ⟨by rfl, ?_⟩) ?_ ?_
                        rotate_left
                        · intro w'
                          go_simp
                          with_reducible rfl
                        rotate_left
                        · simp only [Act.put, List.setIfInBounds_toArray, List.set_cons_zero, List.set_cons_succ, i64_w, i32_w]
                          rfl
                        refine pure_ (i := 5) (N := some 49) (v := ?_) (a' := ?_) #[true, true, false, false, true, true, false, false, false, false, false, false, false, false, false, false, false, false, false, false, false] rfl rfl (any_of HT_.out (by kernel_rfl)) (fun _ _ _ h => h) (Or.inl ⟨by rfl, ?_⟩) ?_ ?_
                        rotate_left
                        · intro w'
                          go_simp
                          with_reducible rfl
                        rotate_left
                        · simp only [Act.put, List.setIfInBounds_toArray, List.set_cons_zero, List.set_cons_succ, i64_w, i32_w]
                          rfl
                        refine pure_ (i := 6) (N := some 50) (v := ?_) (a' := ?_) #[true, true, false, false, true, true, true, false, false, false, false, false, false, false, false, false, false, false, false, false, false] rfl rfl (any_of HT_.out (by kernel_rfl)) (fun _ _ _ h => h) (Or.inl ⟨by rfl, ?_⟩) ?_ ?_
                        rotate_left
                        · intro w'
                          go_simp
                          with_reducible rfl
                        rotate_left
                        · simp only [Act.put, List.setIfInBounds_toArray, List.set_cons_zero, List.set_cons_succ, i64_w, i32_w]
                          rfl
                        refine pure_ (i := 7) (N := some 51) (v := ?_) (a' := ?_) #[true, true, false, false, true, true, true, true, false, false, false, false, false, false, false, false, false, false, false, false, false] rfl rfl (any_of HT_.out (by kernel_rfl)) (fun _ _ _ h => h) (Or.inl ⟨by rfl, ?_⟩) ?_ ?_
                        rotate_left
                        · intro w'
                          go_simp
                          with_reducible rfl
                        rotate_left
                        · simp only [Act.put, List.setIfInBounds_toArray, List.set_cons_zero, List.set_cons_succ, i64_w, i32_w]
                          rfl
                        refine pure_ (i := 8) (N := some 52) (v := ?_) (a' := ?_) #[true, true, false, false, true, true, true, true, true, false, false, false, false, false, false, false, false, false, false, false, false] rfl rfl (any_of HT_.out (by kernel_rfl)) (fun _ _ _ h => h) (Or.inl ⟨by rfl, ?_⟩) ?_ ?_
                        rotate_left
                        · intro w'
                          go_simp
                          with_reducible rfl
                        rotate_left
                        · simp only [Act.put, List.setIfInBounds_toArray, List.set_cons_zero, List.set_cons_succ, i64_w, i32_w]
                          rfl
                        refine pure_ (i := 11) (N := some 55) (v := ?_) (a' := ?_) #[true, true, false, false, true, true, true, true, true, false, false, true, false, false, false, false, false, false, false, false, false] rfl rfl (any_of HT_.out (by kernel_rfl)) (fun _ _ _ h => h) (Or.inl ⟨by rfl, ?_⟩) ?_ ?_
                        rotate_left
                        · intro w'
                          go_simp
                          with_reducible rfl
                        rotate_left
                        · simp only [Act.put, List.setIfInBounds_toArray, List.set_cons_zero, List.set_cons_succ, i64_w, i32_w]
                          rfl
                        refine pure_ (i := 12) (N := some 56) (v := ?_) (a' := ?_) #[true, true, false, false, true, true, true, true, true, false, false, true, true, false, false, false, false, false, false, false, false] rfl rfl (any_of HT_.out (by kernel_rfl)) (fun _ _ _ h => h) (Or.inl ⟨by rfl, ?_⟩) ?_ ?_
                        rotate_left
                        · intro w'
                          go_simp
                          with_reducible rfl
                        rotate_left
                        · simp only [Act.put, List.setIfInBounds_toArray, List.set_cons_zero, List.set_cons_succ, i64_w, i32_w]
                          rfl
                        refine pure_ (i := 13) (N := some 57) (v := ?_) (a' := ?_) #[true, true, false, false, true, true, true, true, true, false, false, true, true, true, false, false, false, false, false, false, false] rfl rfl (any_of HT_.out (by kernel_rfl)) (fun _ _ _ h => h) (Or.inl ⟨by rfl, ?_⟩) ?_ ?_
                        rotate_left
                        · intro w'
                          go_simp
                          with_reducible rfl
                        rotate_left
                        · simp only [Act.put, List.setIfInBounds_toArray, List.set_cons_zero, List.set_cons_succ, i64_w, i32_w]
                          rfl
                        refine pure_ (i := 14) (N := some 58) (v := ?_) (a' := ?_) #[true, true, false, false, true, true, true, true, true, false, false, true, true, true, true, false, false, false, false, false, false] rfl rfl (any_of HT_.out (by kernel_rfl)) (fun _ _ _ h => h) (Or.inl ⟨by rfl, ?_⟩) ?_ ?_
                        rotate_left
                        · intro w'
                          go_simp
                          with_reducible rfl
                        rotate_left
                        · simp only [Act.put, List.setIfInBounds_toArray, List.set_cons_zero, List.set_cons_succ, i64_w, i32_w]
                          rfl
                        refine pure_ (i := 15) (N := some 59) (v := ?_) (a' := ?_) #[true, true, false, false, true, true, true, true, true, false, false, true, true, true, true, true, false, false, false, false, false] rfl rfl (any_of HT_.out (by kernel_rfl)) (fun _ _ _ h => h) (Or.inl ⟨by rfl, ?_⟩) ?_ ?_
                        rotate_left
                        · intro w'
                          go_simp
                          with_reducible rfl
                        rotate_left
                        · simp only [Act.put, List.setIfInBounds_toArray, List.set_cons_zero, List.set_cons_succ, i64_w, i32_w]
                          rfl
                        refine take_ (i := 2) (N := some 46) (v := ?_) (a' := ?_) #[true, true, true, false, true, true, true, true, true, false, false, true, true, true, true, true, false, false, false, false, false] rfl rfl (take_ofW HT_.out HW_.out (by kernel_rfl)) (fun _ _ _ h => h) (Or.inl ⟨by rfl, ?_⟩) hHeld ?_ ?_
                        rotate_left
                        · rintro w' ⟨s0, s1, s2, s3⟩
                          go_simp
                          with_reducible rfl
                        rotate_left
                        · simp only [Act.put, List.setIfInBounds_toArray, List.set_cons_zero, List.set_cons_succ, i64_w, i32_w]
                          rfl
                        refine pure_ (i := 3) (N := some 47) (v := ?_) (a' := ?_) #[true, true, true, true, true, true, true, true, true, false, false, true, true, true, true, true, false, false, false, false, false] rfl rfl (any_of HT_.out (by kernel_rfl)) (fun _ _ _ h => h) (Or.inl ⟨by rfl, ?_⟩) ?_ ?_
                        rotate_left
                        · intro w'
                          go_simp
                          with_reducible rfl
                        rotate_left
                        · simp only [Act.put, List.setIfInBounds_toArray, List.set_cons_zero, List.set_cons_succ, i64_w, i32_w]
                          rfl
                        refine take_ (i := 9) (N := some 53) (v := ?_) (a' := ?_) #[true, true, true, true, true, true, true, true, true, true, false, true, true, true, true, true, false, false, false, false, false] rfl rfl (take_ofW HT_.out HW_.out (by kernel_rfl)) (fun _ _ _ h => h) (Or.inl ⟨by rfl, ?_⟩) hHeld ?_ ?_
                        rotate_left
                        · rintro w' ⟨s0, s1, s2, s3⟩
                          go_simp
                          with_reducible rfl
                        rotate_left
                        · simp only [Act.put, List.setIfInBounds_toArray, List.set_cons_zero, List.set_cons_succ, i64_w, i32_w]
                          rfl
                        refine take_ (i := 16) (N := some 60) (v := ?_) (a' := ?_) #[true, true, true, true, true, true, true, true, true, true, false, true, true, true, true, true, true, false, false, false, false] rfl rfl (take_ofW HT_.out HW_.out (by kernel_rfl)) (fun _ _ _ h => h) (Or.inl ⟨by rfl, ?_⟩) hHeld ?_ ?_
                        rotate_left
                        · rintro w' ⟨s0, s1, s2, s3⟩
                          go_simp
                          with_reducible rfl
                        rotate_left
                        · simp only [Act.put, List.setIfInBounds_toArray, List.set_cons_zero, List.set_cons_succ, i64_w, i32_w]
                          rfl
                        refine one_ (i := 10) (N := some 54) #[true, true, true, true, true, true, true, true, true, true, true, true, true, true, true, true, true, false, false, false, false] rfl rfl (one_of HT_.out (by kernel_rfl)) (by decide) (fun K hK => ?_)
                        refine goes_ Try.func98 (by kernel_rfl) rfl #[.slice (some ad130) l0.length c0, .int .i64 x17_1, .int .i64 (wrap64 ((x4_1.length : Int) + 1)), .int .i64 ((rd_T40 l0 x17_1).f2)] (by rfl) rfl rfl (by (try simp only [List.map_toArray, List.map_cons, List.map_nil]); first | done | rfl | (simp only [List.length_drop, List.length_take]; rfl)) ?_
                        with_reducible refine (doorwardref21_ja.calls k1 _ _ l0 x17_1 (wrap64 ((x4_1.length : Int) + 1)) ((rd_T40 l0 x17_1).f2) t138 t139 t140 t141 _ ?side1 ?side2 A28.out).mono ?_
                        (case side1 => repeat (first | exact (Kd.C_below HR0.out HB.out) | (with_reducible refine Kd.C_alloc ?_ _) | (with_reducible refine Kd.C_drewN ?_ _) | (with_reducible refine Kd.C_drew ?_)))
                        (case side2 => exact HC0.out)
                        rintro e w36 ⟨rfl, hb⟩
                        refine ⟨_, rfl, ?_⟩
                        have n0_ := Aside0.mk (Kd.R_below (by (with_reducible repeat (first | apply Kd.R_alloc | apply Kd.R_drewN | apply Kd.R_drew)); exact HO_4.out) hb)
                        have n1_ := Aside0.mk (blk_below (g := gb131) (o := .cells #[.int .i64 ((rd_T40 l0 x17_1).f0), .int .u32 ((rd_T40 l0 x17_1).f1), .int .i64 ((rd_T40 l0 x17_1).f2), .int .i64 ((rd_T40 l0 x17_1).f3)] 40 (0, 0)) (by (with_reducible repeat (first | refine blk_drewN ?_ _ | refine blk_drew ?_ | refine blk_alloc ?_ _)); exact BK131.out) hb)
                        have n2_ := Aside0.mk (below_step (by repeat (first | (with_reducible first | exact HB.out | apply below_alloc | apply pw_below_drewN | apply below_drew1 | refine below_set ?_ GE131.out) | exact HB.out)) hb)
                        clear HO_4
                        clear BK131
                        clear HB
                        have HO_4 := n0_
                        have BK131 := n1_
                        have HB := n2_
                        clear n0_ n1_ n2_
                        (try clear hb)
                        (try clear hb2)
                        (try clear hk)
                        (try clear hi)
                        refine hK.out _ _ ⟨(blk_cell BK131.out 0).trans rfl, (blk_cell BK131.out 1).trans rfl, (blk_cell BK131.out 2).trans rfl, (blk_cell BK131.out 3).trans rfl⟩ (fun hHeld => ?_)
                        clear hK K
                        refine norm_ (a' := ?_) ?_ ?_
                        rotate_left
                        · show Act.put _ (some 54) _ = _
                          simp only [Act.put, List.setIfInBounds_toArray, List.set_cons_zero, List.set_cons_succ, i64_w, i32_w]
                          rfl
                        refine one_ (i := 17) (N := some 61) #[true, true, true, true, true, true, true, true, true, true, true, true, true, true, true, true, true, true, false, false, false] rfl rfl (one_of HT_.out (by kernel_rfl)) (by decide) (fun K hK => ?_)
                        refine goes_ Try.func98 (by kernel_rfl) rfl #[.slice (some ad130) l0.length c0, .int .i64 x17_1, .int .i64 (wrap64 ((x4_1.length : Int) + 2)), .int .i64 ((rd_T40 l0 x17_1).f3)] (by rfl) rfl rfl (by (try simp only [List.map_toArray, List.map_cons, List.map_nil]); first | done | rfl | (simp only [List.length_drop, List.length_take]; rfl)) ?_
                        with_reducible refine (doorwardref21_ja.calls k1 _ _ l0 x17_1 (wrap64 ((x4_1.length : Int) + 2)) ((rd_T40 l0 x17_1).f3) t142 t143 t144 t145 _ ?side1 ?side2 A29.out).mono ?_
                        (case side1 => repeat (first | exact (Kd.C_below HR0.out HB.out) | (with_reducible refine Kd.C_alloc ?_ _) | (with_reducible refine Kd.C_drewN ?_ _) | (with_reducible refine Kd.C_drew ?_)))
                        (case side2 => exact HC0.out)
                        rintro e w37 ⟨rfl, hb⟩
                        refine ⟨_, rfl, ?_⟩
                        have n0_ := Aside0.mk (Kd.R_below (by (with_reducible repeat (first | apply Kd.R_alloc | apply Kd.R_drewN | apply Kd.R_drew)); exact HO_4.out) hb)
                        have n1_ := Aside0.mk (blk_below (g := gb131) (o := .cells #[.int .i64 ((rd_T40 l0 x17_1).f0), .int .u32 ((rd_T40 l0 x17_1).f1), .int .i64 ((rd_T40 l0 x17_1).f2), .int .i64 ((rd_T40 l0 x17_1).f3)] 40 (0, 0)) (by (with_reducible repeat (first | refine blk_drewN ?_ _ | refine blk_drew ?_ | refine blk_alloc ?_ _)); exact BK131.out) hb)
                        have n2_ := Aside0.mk (below_step (by repeat (first | (with_reducible first | exact HB.out | apply below_alloc | apply pw_below_drewN | apply below_drew1 | refine below_set ?_ GE131.out) | exact HB.out)) hb)
                        clear HO_4
                        clear BK131
                        clear HB
                        have HO_4 := n0_
                        have BK131 := n1_
                        have HB := n2_
                        clear n0_ n1_ n2_
                        (try clear hb)
                        (try clear hb2)
                        (try clear hk)
                        (try clear hi)
                        refine hK.out _ _ ⟨(blk_cell BK131.out 0).trans rfl, (blk_cell BK131.out 1).trans rfl, (blk_cell BK131.out 2).trans rfl, (blk_cell BK131.out 3).trans rfl⟩ (fun hHeld => ?_)
                        clear hK K
                        refine norm_ (a' := ?_) ?_ ?_
                        rotate_left
                        · show Act.put _ (some 61) _ = _
                          simp only [Act.put, List.setIfInBounds_toArray, List.set_cons_zero, List.set_cons_succ, i64_w, i32_w]
                          rfl
                        refine one_ (i := 18) (N := some 62) #[true, true, true, true, true, true, true, true, true, true, true, true, true, true, true, true, true, true, true, false, false] rfl rfl (one_of HT_.out (by kernel_rfl)) (by decide) (fun K hK => ?_)
                        refine Kd.R_lit_step k28 _ 28 ?hg (N := 62) ?hd (xs := ([(⟨21, 0, 1, (rd_T40 l0 x17_1).f1⟩ : S28), (⟨t138, t139, t140, t141⟩ : S28), (⟨t142, t143, t144, t145⟩ : S28)] : List (S28))) (inner := [.int .i64 21, .int .i64 0, .int .i64 1, .int .u32 ((rd_T40 l0 x17_1).f1), .int .i64 t138, .int .i64 t139, .int .i64 t140, .int .u32 t141, .int .i64 t142, .int .i64 t143, .int .i64 t144, .int .u32 t145]) (ok := fun _ => True) (okp := fun _ => True) ?hr ?hp (fun _ hk => hk) trivial (Below.refl _ _) (Nat.le_refl _) (by simp) ?_; (case hd => rfl); (case hg => rfl); (case hr => first | (go_simp; done) | (go_simp; rfl)); (case hp => exact (Reps.c4 (show Kd.M k28 _ _ _ (⟨21, 0, 1, (rd_T40 l0 x17_1).f1⟩ : S28) [.int .i64 21, .int .i64 0, .int .i64 1, .int .u32 ((rd_T40 l0 x17_1).f1)] from (k28_mkM _ _ _ (⟨21, 0, 1, (rd_T40 l0 x17_1).f1⟩ : S28) )) (Reps.c4 (show Kd.M k28 _ _ _ (⟨t138, t139, t140, t141⟩ : S28) [.int .i64 t138, .int .i64 t139, .int .i64 t140, .int .u32 t141] from (k28_mkM _ _ _ (⟨t138, t139, t140, t141⟩ : S28) )) (Reps.c4 (show Kd.M k28 _ _ _ (⟨t142, t143, t144, t145⟩ : S28) [.int .i64 t142, .int .i64 t143, .int .i64 t144, .int .u32 t145] from (k28_mkM _ _ _ (⟨t142, t143, t144, t145⟩ : S28) )) (Reps.none _ _)))))
                        intro v147 w38 ho39 hb hg_ hnew_
                        clear hg_ hnew_
                        (first | rw [← Ny146.out] at ho39 | (simp only [Int.reduceToNat] at ho39; rw [← Ny146.out] at ho39))
                        have n0_ := Aside0.mk (Kd.R_elder' (by (with_reducible repeat (first | apply Kd.R_alloc | apply Kd.R_drewN | apply Kd.R_drew)); exact HO_4.out) (Kd.R_base ho39) hb)
                        have n1_ := Aside0.mk (Kd.R_lower (Kd.R_new' ho39 (Kd.R_lt (by (with_reducible repeat (first | apply Kd.R_alloc | apply Kd.R_drewN | apply Kd.R_drew)); exact HO_4.out))) (below_size (by repeat (first | (with_reducible first | exact HB.out | apply below_alloc | apply pw_below_drewN | apply below_drew1 | refine below_set ?_ GE131.out) | exact HB.out))))
                        have n2_ := Aside0.mk (blk_below (g := gb131) (o := .cells #[.int .i64 ((rd_T40 l0 x17_1).f0), .int .u32 ((rd_T40 l0 x17_1).f1), .int .i64 ((rd_T40 l0 x17_1).f2), .int .i64 ((rd_T40 l0 x17_1).f3)] 40 (0, 0)) (by (with_reducible repeat (first | refine blk_drewN ?_ _ | refine blk_drew ?_ | refine blk_alloc ?_ _)); exact BK131.out) hb)
                        have n3_ := Aside0.mk (below_step (by repeat (first | (with_reducible first | exact HB.out | apply below_alloc | apply pw_below_drewN | apply below_drew1 | refine below_set ?_ GE131.out) | exact HB.out)) hb)
                        clear HO_4
                        clear BK131
                        clear HB
                        have HO_4 := n0_
                        have HO148 := n1_
                        have BK131 := n2_
                        have HB := n3_
                        clear n0_ n1_ n2_ n3_
                        clear hb ho39
                        obtain ⟨Ao41, co41, eo41⟩ := Kd.R_slice HO148.out
                        (first | subst eo41 | (injection eo41 with f1_ f2_ f3_; have f4_ := f1_.symm; have f5_ := f3_.symm; clear f1_ f2_ f3_; subst f4_; subst f5_))
                        refine hK.out _ _ ⟨(blk_cell BK131.out 0).trans rfl, (blk_cell BK131.out 1).trans rfl, (blk_cell BK131.out 2).trans rfl, (blk_cell BK131.out 3).trans rfl⟩ (fun hHeld => ?_)
                        clear hK K
                        refine norm_ (a' := ?_) ?_ ?_
                        rotate_left
                        · show Act.put _ (some 62) _ = _
                          simp only [Act.put, List.setIfInBounds_toArray, List.set_cons_zero, List.set_cons_succ, i64_w, i32_w]
                          rfl
                        refine one_ (i := 19) (N := some 63) #[true, true, true, true, true, true, true, true, true, true, true, true, true, true, true, true, true, true, true, true, false] rfl rfl (one_of HT_.out (by kernel_rfl)) (by decide) (fun K hK => ?_)
                        refine Kd.R_append_rows_step k28 (w0 := w) w.heap.size (by rfl) (.tmp 44) (.tmp 62) 34 28 (.agg #[(.int .i64 0), (.int .i64 0), (.int .i64 0), (.int .u32 0)]) 32 rfl Try.underlying34 info28 rfl (by decide) (by omega) (.slice Ao33 x4_1.length co33) x4_1 y146 _ _ _ (fun k_ => some k_ ≠ (.slice Ao41 y146.length co41 : Value).ownBlock) (fun _ => False) rfl rfl ?aO ?aR (fun _ _ h => h) (fun _ h => h.elim) ?aF ?aB ?aS ?aL ?_
                        (case aR => repeat (first | exact (Kd.R_reads' HO148.out).2.2 | (with_reducible refine Kd.C_alloc ?_ _) | (with_reducible refine Kd.C_drewN ?_ _) | (with_reducible refine Kd.C_drew ?_)))
                        (case aB => exact (by repeat (first | (with_reducible first | exact HB.out | apply below_alloc | apply pw_below_drewN | apply below_drew1 | refine below_set ?_ GE131.out) | exact HB.out)))
                        (case aF => exact (fun k_ hk => Kd.fresh' (Kd.R_lt (by (with_reducible repeat (first | apply Kd.R_alloc | apply Kd.R_drewN | apply Kd.R_drew)); exact HO148.out)) k_ hk))
                        (case aO => exact (by (with_reducible repeat (first | apply Kd.R_alloc | apply Kd.R_drewN | apply Kd.R_drew)); exact Kd.R_mono HO_4.out (fun _ hk => hk.2)))
                        (case aS => exact (below_size (by repeat (first | (with_reducible first | exact HB.out | apply below_alloc | apply pw_below_drewN | apply below_drew1 | refine below_set ?_ GE131.out) | exact HB.out))))
                        (case aL => have := LMc30.out; omega)
                        intro v150 w40 ho hb hg hat
                        rw [← Ny149.out] at ho
                        have n0_ := Aside0.mk (blk_grown (g := gb131) (o := .cells #[.int .i64 ((rd_T40 l0 x17_1).f0), .int .u32 ((rd_T40 l0 x17_1).f1), .int .i64 ((rd_T40 l0 x17_1).f2), .int .i64 ((rd_T40 l0 x17_1).f3)] 40 (0, 0)) (by (with_reducible repeat (first | refine blk_drewN ?_ _ | refine blk_drew ?_ | refine blk_alloc ?_ _)); exact BK131.out) hg (Kd.R_ne HO_4.out BK131.out (by decide)))
                        have n1_ := Aside0.mk (Kd.R_after (ok := (fun _ => True)) (by (with_reducible repeat (first | apply Kd.R_alloc | apply Kd.R_drewN | apply Kd.R_drew)); exact HO148.out) hg hat)
                        have n2_ := Aside0.mk (hb)
                        have n3_ := Aside0.mk (ho)
                        clear BK131
                        clear HO148
                        clear HB
                        clear HO_4
                        have BK131 := n0_
                        have HO148 := n1_
                        have HB := n2_
                        have HO151 := n3_
                        clear n0_ n1_ n2_ n3_
                        clear ho hb hg hat
                        refine hK.out _ _ ⟨(blk_cell BK131.out 0).trans rfl, (blk_cell BK131.out 1).trans rfl, (blk_cell BK131.out 2).trans rfl, (blk_cell BK131.out 3).trans rfl⟩ (fun hHeld => ?_)
                        clear hK K
                        refine norm_ (a' := ?_) ?_ ?_
                        rotate_left
                        · show Act.put _ (some 63) _ = _
                          simp only [Act.put, List.setIfInBounds_toArray, List.set_cons_zero, List.set_cons_succ, i64_w, i32_w]
                          rfl
                        refine pure_ (i := 20) (N := some 4) (v := ?_) (a' := ?_) #[true, true, true, true, true, true, true, true, true, true, true, true, true, true, true, true, true, true, true, true, true] rfl rfl (any_of HT_.out (by kernel_rfl)) (fun _ _ _ h => h) (Or.inl ⟨by rfl, ?_⟩) ?_ ?_
                        rotate_left
                        · intro w'
                          go_simp
                          with_reducible rfl
                        rotate_left
                        · simp only [Act.put, List.setIfInBounds_toArray, List.set_cons_zero, List.set_cons_succ, i64_w, i32_w]
                          rfl
                        refine done_ (done_of HT_.out (by kernel_rfl)) ?_
                        try go_wp2
                        go_roundg k1
                        case measure => have := HK1.out; omega
                        case rel => exact ⟨(y149), (wrap64 (x17_1 + 1)), (by first | rfl | (simp; done) | (simp [*]; done)), H', ⟨by have := HK1.out; omega⟩, ⟨by (with_reducible repeat (first | apply Kd.R_alloc | apply Kd.R_drewN | apply Kd.R_drew)); exact Kd.R_mono HO151.out (fun _ hk => trivial)⟩, ⟨by repeat (first | (with_reducible first | exact HB.out | apply below_alloc | apply pw_below_drewN | apply below_drew1 | refine below_set ?_ GE131.out) | exact HB.out)⟩⟩
                      · rw [if_neg c30] at H
                        exact absurd H (by simp)
                    · rw [if_neg c27] at H
                      have c27b0 : (((rd_T40 l0 x17_1).f0) == 3) = false := beq_eq_false_iff_ne.mpr c27
                      have c27b1 : (((rd_T40 l0 x17_1).f0) != 3) = true := bne_iff_ne.mpr c27
                      by_cases c42 : ((rd_T40 l0 x17_1).f0) = 4
                      · rw [if_pos c42] at H
                        have c42b0 : (((rd_T40 l0 x17_1).f0) == 4) = true := beq_iff_eq.mpr c42
                        have c42b1 : (((rd_T40 l0 x17_1).f0) != 4) = false := bne_eq_false_iff_eq.mpr c42
                        clear c42
                        replace H := Option.bind_eq_some_iff.mp H
                        obtain ⟨⟨t152, t153, t154, t155⟩, A430, H⟩ := H
                        replace H : ((doorwardref21_ja.f k1 l0 x17_1 (wrap64 ((x4_1.length : Int) + 2)) ((rd_T40 l0 x17_1).f3)).bind fun bt156 => ((some (([(⟨37, 0, 1, (rd_T40 l0 x17_1).f1⟩ : S28), (⟨t152, t153, t154, t155⟩ : S28), (⟨bt156.1, bt156.2.1, bt156.2.2.1, bt156.2.2.2⟩ : S28)] : List (S28)) : List (S28))).bind fun y160 => (if x4_1.length + y160.length < 4398046511104 then (doorwardref21_Assemble.l0 k1 l0 (x4_1 ++ y160) l0 (l0.length : Int) (wrap64 (x17_1 + 1))) else (none)))) = some (r1, r2) := H
                        have A43 := Aside0.mk A430
                        clear A430
                        replace H := Option.bind_eq_some_iff.mp H
                        obtain ⟨⟨t156, t157, t158, t159⟩, A440, H⟩ := H
                        replace H : ((some (([(⟨37, 0, 1, (rd_T40 l0 x17_1).f1⟩ : S28), (⟨t152, t153, t154, t155⟩ : S28), (⟨t156, t157, t158, t159⟩ : S28)] : List (S28)) : List (S28))).bind fun y160 => (if x4_1.length + y160.length < 4398046511104 then (doorwardref21_Assemble.l0 k1 l0 (x4_1 ++ y160) l0 (l0.length : Int) (wrap64 (x17_1 + 1))) else (none))) = some (r1, r2) := H
                        have A44 := Aside0.mk A440
                        clear A440
                        obtain ⟨y160, hy160⟩ : ∃ y_ : List (S28), y_ = (([(⟨37, 0, 1, (rd_T40 l0 x17_1).f1⟩ : S28), (⟨t152, t153, t154, t155⟩ : S28), (⟨t156, t157, t158, t159⟩ : S28)] : List (S28))) := ⟨_, rfl⟩
                        replace H : (if x4_1.length + y160.length < 4398046511104 then (doorwardref21_Assemble.l0 k1 l0 (x4_1 ++ y160) l0 (l0.length : Int) (wrap64 (x17_1 + 1))) else (none)) = some (r1, r2) := by first | (rw [hy160]; with_reducible exact H) | (have H2_ := (Option.bind_some _ _).symm.trans H; rw [hy160]; with_reducible exact H2_) | (have H2_ := (Option.bind_some _ _).symm.trans H; with_reducible exact H2_) | with_reducible exact H | (rw [hy160]; exact H) | exact H
                        have Ny160 := Aside0.mk hy160
                        clear hy160
                        by_cases c45 : x4_1.length + y160.length < 4398046511104
                        · rw [if_pos c45] at H
                          have LMc45 := Aside0.mk c45
                          clear c45
                          obtain ⟨y163, hy163⟩ : ∃ y_ : List (S28), y_ = (x4_1 ++ y160) := ⟨_, rfl⟩
                          replace H : (doorwardref21_Assemble.l0 k1 l0 y163 l0 (l0.length : Int) (wrap64 (x17_1 + 1))) = some (r1, r2) := by first | (rw [hy163]; with_reducible exact H) | (have H2_ := (Option.bind_some _ _).symm.trans H; rw [hy163]; with_reducible exact H2_) | (have H2_ := (Option.bind_some _ _).symm.trans H; with_reducible exact H2_) | with_reducible exact H | (rw [hy163]; exact H) | exact H
                          have Ny163 := Aside0.mk hy163
                          clear hy163
                          have H' := Aside0.mk H
                          clear H
                          have p130 : 0 ≤ (x17_1 : Int) := of_decide_eq_true (by first | (with_reducible assumption) | assumption)
                          have q130 : x17_1 < (l0.length : Int) := of_decide_eq_true (by first | (with_reducible assumption) | assumption)
                          obtain ⟨ad130, e130, hx130_0, hx130_1, hx130_2, hx130_3⟩ := at_T40 HR0.out x17_1 p130 q130
                          cases e130
                          replace hx130_0 := (HB.out.cell (World.block_lt_of_cell? w _ hx130_0)).trans hx130_0
                          replace hx130_1 := (HB.out.cell (World.block_lt_of_cell? w _ hx130_1)).trans hx130_1
                          replace hx130_2 := (HB.out.cell (World.block_lt_of_cell? w _ hx130_2)).trans hx130_2
                          replace hx130_3 := (HB.out.cell (World.block_lt_of_cell? w _ hx130_3)).trans hx130_3
                          replace p130 := eq_true p130
                          replace q130 := eq_true q130
                          try go_wp2_with (first | ((with_reducible refine gate_dst (N := 6) rfl ?_); refine box_event ?hg (N := 6) ?hd (cs := #[.int .i64 0, .int .u32 0, .int .i64 0, .int .i64 0]) (t := 40) ?hr ?_; (case hd => rfl); (case hg => rfl); (case hr => first | (go_simp; done) | (go_simp; rfl)); intro gb131 hg w46 hbox hb; have n0_ := Aside0.mk (Kd.R_below (by (with_reducible repeat (first | apply Kd.R_alloc | apply Kd.R_drewN | apply Kd.R_drew)); exact HO_4.out) hb); have n1_ := Aside0.mk (below_step (by repeat (first | (with_reducible first | exact HB.out | apply below_alloc | apply pw_below_drewN | apply below_drew1) | exact HB.out)) hb); have n2_ := Aside0.mk (hbox); have n3_ := Aside0.mk ((by rw [hg]; exact (below_size (by repeat (first | (with_reducible first | exact HB.out | apply below_alloc | apply pw_below_drewN | apply below_drew1) | exact HB.out))) : w.heap.size ≤ gb131)); have n4_ := Aside0.mk ((by rw [hg]; exact (below_size (by repeat (first | (with_reducible first | exact HB.out | apply below_alloc | apply pw_below_drewN | apply below_drew1) | exact HB.out))) : w.heap.size ≤ gb131)); clear HO_4; clear HB; have HO_4 := n0_; have HB := n1_; have BK131 := n2_; have GW131 := n3_; have GE131 := n4_; clear n0_ n1_ n2_ n3_ n4_; clear hb hbox hg; have hcz47_0 : w46.cell? ⟨gb131, 0, none⟩ = some (.int .i64 0) := (blk_cell BK131.out 0).trans rfl; have hcz47_1 : w46.cell? ⟨gb131, 1, none⟩ = some (.int .u32 0) := (blk_cell BK131.out 1).trans rfl; have hcz47_2 : w46.cell? ⟨gb131, 2, none⟩ = some (.int .i64 0) := (blk_cell BK131.out 2).trans rfl; have hcz47_3 : w46.cell? ⟨gb131, 3, none⟩ = some (.int .i64 0) := (blk_cell BK131.out 3).trans rfl; have hfz47_0 := blk_frozen BK131.out 0; have hfz47_1 := blk_frozen BK131.out 1; have hfz47_2 := blk_frozen BK131.out 2; have hfz47_3 := blk_frozen BK131.out 3; obtain ⟨Ao48, co48, eo48⟩ := Kd.R_slice HO_4.out; subst eo48))
                          have n0_ : Aside0 (Kd.R k28 28 ((((w46.setCell ⟨gb131, 0, none⟩ (.int .i64 ((rd_T40 l0 x17_1).f0))).setCell ⟨gb131, 1, none⟩ (.int .u32 ((rd_T40 l0 x17_1).f1))).setCell ⟨gb131, 2, none⟩ (.int .i64 ((rd_T40 l0 x17_1).f2))).setCell ⟨gb131, 3, none⟩ (.int .i64 ((rd_T40 l0 x17_1).f3))) w.heap.size (fun _ => True) (.slice Ao48 x4_1.length co48) x4_1) := ⟨by (with_reducible repeat (first | apply Kd.R_alloc | apply Kd.R_drewN | apply Kd.R_drew)); exact Kd.R_mono (Kd.R_far (p := ⟨gb131, 3, none⟩) (Kd.R_far (p := ⟨gb131, 2, none⟩) (Kd.R_far (p := ⟨gb131, 1, none⟩) (Kd.R_far (p := ⟨gb131, 0, none⟩) (Kd.R_types HO_4.out BK131.out (by decide)) (fun _ hk => hk.2) (.int .i64 ((rd_T40 l0 x17_1).f0))) (fun _ hk => hk.2) (.int .u32 ((rd_T40 l0 x17_1).f1))) (fun _ hk => hk.2) (.int .i64 ((rd_T40 l0 x17_1).f2))) (fun _ hk => hk.2) (.int .i64 ((rd_T40 l0 x17_1).f3))) (fun _ hk => trivial)⟩
                          have n1_ : Aside0 (((((w46.setCell ⟨gb131, 0, none⟩ (.int .i64 ((rd_T40 l0 x17_1).f0))).setCell ⟨gb131, 1, none⟩ (.int .u32 ((rd_T40 l0 x17_1).f1))).setCell ⟨gb131, 2, none⟩ (.int .i64 ((rd_T40 l0 x17_1).f2))).setCell ⟨gb131, 3, none⟩ (.int .i64 ((rd_T40 l0 x17_1).f3))).heap[gb131]? = some (.cells #[.int .i64 ((rd_T40 l0 x17_1).f0), .int .u32 ((rd_T40 l0 x17_1).f1), .int .i64 ((rd_T40 l0 x17_1).f2), .int .i64 ((rd_T40 l0 x17_1).f3)] 40 (0, 0))) := ⟨by (with_reducible repeat (first | refine blk_drewN ?_ _ | refine blk_drew ?_ | refine blk_alloc ?_ _)); refine blk_put (cs := #[.int .i64 ((rd_T40 l0 x17_1).f0), .int .u32 ((rd_T40 l0 x17_1).f1), .int .i64 ((rd_T40 l0 x17_1).f2), .int .i64 0]) ?_ 3 _ rfl; (with_reducible repeat (first | refine blk_drewN ?_ _ | refine blk_drew ?_ | refine blk_alloc ?_ _)); refine blk_put (cs := #[.int .i64 ((rd_T40 l0 x17_1).f0), .int .u32 ((rd_T40 l0 x17_1).f1), .int .i64 0, .int .i64 0]) ?_ 2 _ rfl; (with_reducible repeat (first | refine blk_drewN ?_ _ | refine blk_drew ?_ | refine blk_alloc ?_ _)); refine blk_put (cs := #[.int .i64 ((rd_T40 l0 x17_1).f0), .int .u32 0, .int .i64 0, .int .i64 0]) ?_ 1 _ rfl; (with_reducible repeat (first | refine blk_drewN ?_ _ | refine blk_drew ?_ | refine blk_alloc ?_ _)); refine blk_put (cs := #[.int .i64 0, .int .u32 0, .int .i64 0, .int .i64 0]) ?_ 0 _ rfl; (with_reducible repeat (first | refine blk_drewN ?_ _ | refine blk_drew ?_ | refine blk_alloc ?_ _)); exact BK131.out⟩
                          have n2_ : Aside0 (Below w.heap.size w ((((w46.setCell ⟨gb131, 0, none⟩ (.int .i64 ((rd_T40 l0 x17_1).f0))).setCell ⟨gb131, 1, none⟩ (.int .u32 ((rd_T40 l0 x17_1).f1))).setCell ⟨gb131, 2, none⟩ (.int .i64 ((rd_T40 l0 x17_1).f2))).setCell ⟨gb131, 3, none⟩ (.int .i64 ((rd_T40 l0 x17_1).f3)))) := ⟨by repeat (first | (with_reducible first | exact HB.out | apply below_alloc | apply pw_below_drewN | apply below_drew1 | refine below_set ?_ GE131.out) | exact HB.out)⟩
                          (try clear HO_4)
                          (try clear BK131)
                          (try clear HB)
                          generalize ((((w46.setCell ⟨gb131, 0, none⟩ (.int .i64 ((rd_T40 l0 x17_1).f0))).setCell ⟨gb131, 1, none⟩ (.int .u32 ((rd_T40 l0 x17_1).f1))).setCell ⟨gb131, 2, none⟩ (.int .i64 ((rd_T40 l0 x17_1).f2))).setCell ⟨gb131, 3, none⟩ (.int .i64 ((rd_T40 l0 x17_1).f3))) = w49 at n0_ n1_ n2_ ⊢
                          have HO_4 := n0_
                          have BK131 := n1_
                          have HB := n2_
                          clear n0_ n1_ n2_
                          have n0_ := Aside0.mk (Kd.R_drew HO_4.out)
                          have n1_ := Aside0.mk (blk_drew BK131.out)
                          have n2_ := Aside0.mk (below_drew1 HB.out)
                          clear HO_4
                          clear BK131
                          clear HB
                          have HO_4 := n0_
                          have BK131 := n1_
                          have HB := n2_
                          clear n0_ n1_ n2_
                          refine start_ (n := 21) (S := fun w' => w'.cell? ⟨gb131, 0, none⟩ = some (.int .i64 ((rd_T40 l0 x17_1).f0)) ∧ w'.cell? ⟨gb131, 1, none⟩ = some (.int .u32 ((rd_T40 l0 x17_1).f1)) ∧ w'.cell? ⟨gb131, 2, none⟩ = some (.int .i64 ((rd_T40 l0 x17_1).f2)) ∧ w'.cell? ⟨gb131, 3, none⟩ = some (.int .i64 ((rd_T40 l0 x17_1).f3))) (ds := []) #[false, false, false, false, false, false, false, false, false, false, false, false, false, false, false, false, false, false, false, false, false] (by kernel_rfl) rfl rfl ⟨(blk_cell BK131.out 0).trans rfl, (blk_cell BK131.out 1).trans rfl, (blk_cell BK131.out 2).trans rfl, (blk_cell BK131.out 3).trans rfl⟩ (fun hHeld => ?_); refine with_tabW doorwardref21_Assemble.tab18 doorwardref21_Assemble.bits18 (fun HT_ HW_ => ?_)
                          generalize w49.drew = w50 at HO_4 BK131 HB hHeld ⊢
                          refine pure_ (i := 0) (N := some 66) (v := ?_) (a' := ?_) #[true, false, false, false, false, false, false, false, false, false, false, false, false, false, false, false, false, false, false, false, false] rfl rfl (any_of HT_.out (by kernel_rfl)) (fun _ _ _ h => h) (Or.inl ⟨by rfl, ?_⟩) ?_ ?_
                          rotate_left
                          · intro w'
                            go_simp
                            with_reducible rfl
                          rotate_left
                          · simp only [Act.put, List.setIfInBounds_toArray, List.set_cons_zero, List.set_cons_succ, i64_w, i32_w]
                            rfl
                          refine pure_ (i := 1) (N := some 67) (v := ?_) (a' := ?_) #[true, true, false, false, false, false, false, false, false, false, false, false, false, false, false, false, false, false, false, false, false] rfl rfl (any_of HT_.out (by kernel_rfl)) (fun _ _ _ h => h) (Or.inl ⟨by rfl, ?_⟩) ?_ ?_
                          rotate_left
                          · intro w'
                            go_simp
                            with_reducible rfl
                          rotate_left
                          · simp only [Act.put, List.setIfInBounds_toArray, List.set_cons_zero, List.set_cons_succ, i64_w, i32_w]
                            rfl
                          refine pure_ (i := 4) (N := some 70) (v := ?_) (a' := ?_) #[true, true, false, false, true, false, false, false, false, false, false, false, false, false, false, false, false, false, false, false, false] rfl rfl (any_of HT_.out (by kernel_rfl)) (fun _ _ _ h => h) (Or.inl ⟨by rfl, ?_⟩) ?_ ?_
                          rotate_left
                          · intro w'
                            go_simp
                            with_reducible rfl
                          rotate_left
                          · simp only [Act.put, List.setIfInBounds_toArray, List.set_cons_zero, List.set_cons_succ, i64_w, i32_w]
                            rfl
                          refine pure_ (i := 5) (N := some 71) (v := ?_) (a' := ?_) #[true, true, false, false, true, true, false, false, false, false, false, false, false, false, false, false, false, false, false, false, false] rfl rfl (any_of HT_.out (by kernel_rfl)) (fun _ _ _ h => h) (Or.inl ⟨by rfl, ?_⟩) ?_ ?_
                          rotate_left
                          · intro w'
                            go_simp
                            with_reducible rfl
                          rotate_left
                          · simp only [Act.put, List.setIfInBounds_toArray, List.set_cons_zero, List.set_cons_succ, i64_w, i32_w]
                            rfl
                          refine pure_ (i := 6) (N := some 72) (v := ?_) (a' := ?_) #[true, true, false, false, true, true, true, false, false, false, false, false, false, false, false, false, false, false, false, false, false] rfl rfl (any_of HT_.out (by kernel_rfl)) (fun _ _ _ h => h) (Or.inl ⟨by rfl, ?_⟩) ?_ ?_
                          rotate_left
                          · intro w'
                            go_simp
                            with_reducible rfl
                          rotate_left
                          · simp only [Act.put, List.setIfInBounds_toArray, List.set_cons_zero, List.set_cons_succ, i64_w, i32_w]
                            rfl
                          refine pure_ (i := 7) (N := some 73) (v := ?_) (a' := ?_) #[true, true, false, false, true, true, true, true, false, false, false, false, false, false, false, false, false, false, false, false, false] rfl rfl (any_of HT_.out (by kernel_rfl)) (fun _ _ _ h => h) (Or.inl ⟨by rfl, ?_⟩) ?_ ?_
                          rotate_left
                          · intro w'
                            go_simp
                            with_reducible rfl
                          rotate_left
                          · simp only [Act.put, List.setIfInBounds_toArray, List.set_cons_zero, List.set_cons_succ, i64_w, i32_w]
                            rfl
                          refine pure_ (i := 8) (N := some 74) (v := ?_) (a' := ?_) #[true, true, false, false, true, true, true, true, true, false, false, false, false, false, false, false, false, false, false, false, false] rfl rfl (any_of HT_.out (by kernel_rfl)) (fun _ _ _ h => h) (Or.inl ⟨by rfl, ?_⟩) ?_ ?_
                          rotate_left
                          · intro w'
                            go_simp
                            with_reducible rfl
                          rotate_left
                          · simp only [Act.put, List.setIfInBounds_toArray, List.set_cons_zero, List.set_cons_succ, i64_w, i32_w]
                            rfl
                          refine pure_ (i := 11) (N := some 77) (v := ?_) (a' := ?_) #[true, true, false, false, true, true, true, true, true, false, false, true, false, false, false, false, false, false, false, false, false] rfl rfl (any_of HT_.out (by kernel_rfl)) (fun _ _ _ h => h) (Or.inl ⟨by rfl, ?_⟩) ?_ ?_
                          rotate_left
                          · intro w'
                            go_simp
                            with_reducible rfl
                          rotate_left
                          · simp only [Act.put, List.setIfInBounds_toArray, List.set_cons_zero, List.set_cons_succ, i64_w, i32_w]
                            rfl
                          refine pure_ (i := 12) (N := some 78) (v := ?_) (a' := ?_) #[true, true, false, false, true, true, true, true, true, false, false, true, true, false, false, false, false, false, false, false, false] rfl rfl (any_of HT_.out (by kernel_rfl)) (fun _ _ _ h => h) (Or.inl ⟨by rfl, ?_⟩) ?_ ?_
                          rotate_left
                          · intro w'
                            go_simp
                            with_reducible rfl
                          rotate_left
                          · simp only [Act.put, List.setIfInBounds_toArray, List.set_cons_zero, List.set_cons_succ, i64_w, i32_w]
                            rfl
                          refine pure_ (i := 13) (N := some 79) (v := ?_) (a' := ?_) #[true, true, false, false, true, true, true, true, true, false, false, true, true, true, false, false, false, false, false, false, false] rfl rfl (any_of HT_.out (by kernel_rfl)) (fun _ _ _ h => h) (Or.inl ⟨by rfl, ?_⟩) ?_ ?_
                          rotate_left
                          · intro w'
                            go_simp
                            with_reducible rfl
                          rotate_left
                          · simp only [Act.put, List.setIfInBounds_toArray, List.set_cons_zero, List.set_cons_succ, i64_w, i32_w]
                            rfl
                          refine pure_ (i := 14) (N := some 80) (v := ?_) (a' := ?_) #[true, true, false, false, true, true, true, true, true, false, false, true, true, true, true, false, false, false, false, false, false] rfl rfl (any_of HT_.out (by kernel_rfl)) (fun _ _ _ h => h) (Or.inl ⟨by rfl, ?_⟩) ?_ ?_
                          rotate_left
                          · intro w'
                            go_simp
                            with_reducible rfl
                          rotate_left
                          · simp only [Act.put, List.setIfInBounds_toArray, List.set_cons_zero, List.set_cons_succ, i64_w, i32_w]
                            rfl
                          refine pure_ (i := 15) (N := some 81) (v := ?_) (a' := ?_) #[true, true, false, false, true, true, true, true, true, false, false, true, true, true, true, true, false, false, false, false, false] rfl rfl (any_of HT_.out (by kernel_rfl)) (fun _ _ _ h => h) (Or.inl ⟨by rfl, ?_⟩) ?_ ?_
                          rotate_left
                          · intro w'
                            go_simp
                            with_reducible rfl
                          rotate_left
                          · simp only [Act.put, List.setIfInBounds_toArray, List.set_cons_zero, List.set_cons_succ, i64_w, i32_w]
                            rfl
                          refine take_ (i := 2) (N := some 68) (v := ?_) (a' := ?_) #[true, true, true, false, true, true, true, true, true, false, false, true, true, true, true, true, false, false, false, false, false] rfl rfl (take_ofW HT_.out HW_.out (by kernel_rfl)) (fun _ _ _ h => h) (Or.inl ⟨by rfl, ?_⟩) hHeld ?_ ?_
                          rotate_left
                          · rintro w' ⟨s0, s1, s2, s3⟩
                            go_simp
                            with_reducible rfl
                          rotate_left
                          · simp only [Act.put, List.setIfInBounds_toArray, List.set_cons_zero, List.set_cons_succ, i64_w, i32_w]
                            rfl
                          refine pure_ (i := 3) (N := some 69) (v := ?_) (a' := ?_) #[true, true, true, true, true, true, true, true, true, false, false, true, true, true, true, true, false, false, false, false, false] rfl rfl (any_of HT_.out (by kernel_rfl)) (fun _ _ _ h => h) (Or.inl ⟨by rfl, ?_⟩) ?_ ?_
                          rotate_left
                          · intro w'
                            go_simp
                            with_reducible rfl
                          rotate_left
                          · simp only [Act.put, List.setIfInBounds_toArray, List.set_cons_zero, List.set_cons_succ, i64_w, i32_w]
                            rfl
                          refine take_ (i := 9) (N := some 75) (v := ?_) (a' := ?_) #[true, true, true, true, true, true, true, true, true, true, false, true, true, true, true, true, false, false, false, false, false] rfl rfl (take_ofW HT_.out HW_.out (by kernel_rfl)) (fun _ _ _ h => h) (Or.inl ⟨by rfl, ?_⟩) hHeld ?_ ?_
                          rotate_left
                          · rintro w' ⟨s0, s1, s2, s3⟩
                            go_simp
                            with_reducible rfl
                          rotate_left
                          · simp only [Act.put, List.setIfInBounds_toArray, List.set_cons_zero, List.set_cons_succ, i64_w, i32_w]
                            rfl
                          refine take_ (i := 16) (N := some 82) (v := ?_) (a' := ?_) #[true, true, true, true, true, true, true, true, true, true, false, true, true, true, true, true, true, false, false, false, false] rfl rfl (take_ofW HT_.out HW_.out (by kernel_rfl)) (fun _ _ _ h => h) (Or.inl ⟨by rfl, ?_⟩) hHeld ?_ ?_
                          rotate_left
                          · rintro w' ⟨s0, s1, s2, s3⟩
                            go_simp
                            with_reducible rfl
                          rotate_left
                          · simp only [Act.put, List.setIfInBounds_toArray, List.set_cons_zero, List.set_cons_succ, i64_w, i32_w]
                            rfl
                          refine one_ (i := 10) (N := some 76) #[true, true, true, true, true, true, true, true, true, true, true, true, true, true, true, true, true, false, false, false, false] rfl rfl (one_of HT_.out (by kernel_rfl)) (by decide) (fun K hK => ?_)
                          refine goes_ Try.func98 (by kernel_rfl) rfl #[.slice (some ad130) l0.length c0, .int .i64 x17_1, .int .i64 (wrap64 ((x4_1.length : Int) + 1)), .int .i64 ((rd_T40 l0 x17_1).f2)] (by rfl) rfl rfl (by (try simp only [List.map_toArray, List.map_cons, List.map_nil]); first | done | rfl | (simp only [List.length_drop, List.length_take]; rfl)) ?_
                          with_reducible refine (doorwardref21_ja.calls k1 _ _ l0 x17_1 (wrap64 ((x4_1.length : Int) + 1)) ((rd_T40 l0 x17_1).f2) t152 t153 t154 t155 _ ?side1 ?side2 A43.out).mono ?_
                          (case side1 => repeat (first | exact (Kd.C_below HR0.out HB.out) | (with_reducible refine Kd.C_alloc ?_ _) | (with_reducible refine Kd.C_drewN ?_ _) | (with_reducible refine Kd.C_drew ?_)))
                          (case side2 => exact HC0.out)
                          rintro e w51 ⟨rfl, hb⟩
                          refine ⟨_, rfl, ?_⟩
                          have n0_ := Aside0.mk (Kd.R_below (by (with_reducible repeat (first | apply Kd.R_alloc | apply Kd.R_drewN | apply Kd.R_drew)); exact HO_4.out) hb)
                          have n1_ := Aside0.mk (blk_below (g := gb131) (o := .cells #[.int .i64 ((rd_T40 l0 x17_1).f0), .int .u32 ((rd_T40 l0 x17_1).f1), .int .i64 ((rd_T40 l0 x17_1).f2), .int .i64 ((rd_T40 l0 x17_1).f3)] 40 (0, 0)) (by (with_reducible repeat (first | refine blk_drewN ?_ _ | refine blk_drew ?_ | refine blk_alloc ?_ _)); exact BK131.out) hb)
                          have n2_ := Aside0.mk (below_step (by repeat (first | (with_reducible first | exact HB.out | apply below_alloc | apply pw_below_drewN | apply below_drew1 | refine below_set ?_ GE131.out) | exact HB.out)) hb)
                          clear HO_4
                          clear BK131
                          clear HB
                          have HO_4 := n0_
                          have BK131 := n1_
                          have HB := n2_
                          clear n0_ n1_ n2_
                          (try clear hb)
                          (try clear hb2)
                          (try clear hk)
                          (try clear hi)
                          refine hK.out _ _ ⟨(blk_cell BK131.out 0).trans rfl, (blk_cell BK131.out 1).trans rfl, (blk_cell BK131.out 2).trans rfl, (blk_cell BK131.out 3).trans rfl⟩ (fun hHeld => ?_)
                          clear hK K
                          refine norm_ (a' := ?_) ?_ ?_
                          rotate_left
                          · show Act.put _ (some 76) _ = _
                            simp only [Act.put, List.setIfInBounds_toArray, List.set_cons_zero, List.set_cons_succ, i64_w, i32_w]
                            rfl
                          refine one_ (i := 17) (N := some 83) #[true, true, true, true, true, true, true, true, true, true, true, true, true, true, true, true, true, true, false, false, false] rfl rfl (one_of HT_.out (by kernel_rfl)) (by decide) (fun K hK => ?_)
                          refine goes_ Try.func98 (by kernel_rfl) rfl #[.slice (some ad130) l0.length c0, .int .i64 x17_1, .int .i64 (wrap64 ((x4_1.length : Int) + 2)), .int .i64 ((rd_T40 l0 x17_1).f3)] (by rfl) rfl rfl (by (try simp only [List.map_toArray, List.map_cons, List.map_nil]); first | done | rfl | (simp only [List.length_drop, List.length_take]; rfl)) ?_
                          with_reducible refine (doorwardref21_ja.calls k1 _ _ l0 x17_1 (wrap64 ((x4_1.length : Int) + 2)) ((rd_T40 l0 x17_1).f3) t156 t157 t158 t159 _ ?side1 ?side2 A44.out).mono ?_
                          (case side1 => repeat (first | exact (Kd.C_below HR0.out HB.out) | (with_reducible refine Kd.C_alloc ?_ _) | (with_reducible refine Kd.C_drewN ?_ _) | (with_reducible refine Kd.C_drew ?_)))
                          (case side2 => exact HC0.out)
                          rintro e w52 ⟨rfl, hb⟩
                          refine ⟨_, rfl, ?_⟩
                          have n0_ := Aside0.mk (Kd.R_below (by (with_reducible repeat (first | apply Kd.R_alloc | apply Kd.R_drewN | apply Kd.R_drew)); exact HO_4.out) hb)
                          have n1_ := Aside0.mk (blk_below (g := gb131) (o := .cells #[.int .i64 ((rd_T40 l0 x17_1).f0), .int .u32 ((rd_T40 l0 x17_1).f1), .int .i64 ((rd_T40 l0 x17_1).f2), .int .i64 ((rd_T40 l0 x17_1).f3)] 40 (0, 0)) (by (with_reducible repeat (first | refine blk_drewN ?_ _ | refine blk_drew ?_ | refine blk_alloc ?_ _)); exact BK131.out) hb)
                          have n2_ := Aside0.mk (below_step (by repeat (first | (with_reducible first | exact HB.out | apply below_alloc | apply pw_below_drewN | apply below_drew1 | refine below_set ?_ GE131.out) | exact HB.out)) hb)
                          clear HO_4
                          clear BK131
                          clear HB
                          have HO_4 := n0_
                          have BK131 := n1_
                          have HB := n2_
                          clear n0_ n1_ n2_
                          (try clear hb)
                          (try clear hb2)
                          (try clear hk)
                          (try clear hi)
                          refine hK.out _ _ ⟨(blk_cell BK131.out 0).trans rfl, (blk_cell BK131.out 1).trans rfl, (blk_cell BK131.out 2).trans rfl, (blk_cell BK131.out 3).trans rfl⟩ (fun hHeld => ?_)
                          clear hK K
                          refine norm_ (a' := ?_) ?_ ?_
                          rotate_left
                          · show Act.put _ (some 83) _ = _
                            simp only [Act.put, List.setIfInBounds_toArray, List.set_cons_zero, List.set_cons_succ, i64_w, i32_w]
                            rfl
                          refine one_ (i := 18) (N := some 84) #[true, true, true, true, true, true, true, true, true, true, true, true, true, true, true, true, true, true, true, false, false] rfl rfl (one_of HT_.out (by kernel_rfl)) (by decide) (fun K hK => ?_)
                          refine Kd.R_lit_step k28 _ 28 ?hg (N := 84) ?hd (xs := ([(⟨37, 0, 1, (rd_T40 l0 x17_1).f1⟩ : S28), (⟨t152, t153, t154, t155⟩ : S28), (⟨t156, t157, t158, t159⟩ : S28)] : List (S28))) (inner := [.int .i64 37, .int .i64 0, .int .i64 1, .int .u32 ((rd_T40 l0 x17_1).f1), .int .i64 t152, .int .i64 t153, .int .i64 t154, .int .u32 t155, .int .i64 t156, .int .i64 t157, .int .i64 t158, .int .u32 t159]) (ok := fun _ => True) (okp := fun _ => True) ?hr ?hp (fun _ hk => hk) trivial (Below.refl _ _) (Nat.le_refl _) (by simp) ?_; (case hd => rfl); (case hg => rfl); (case hr => first | (go_simp; done) | (go_simp; rfl)); (case hp => exact (Reps.c4 (show Kd.M k28 _ _ _ (⟨37, 0, 1, (rd_T40 l0 x17_1).f1⟩ : S28) [.int .i64 37, .int .i64 0, .int .i64 1, .int .u32 ((rd_T40 l0 x17_1).f1)] from (k28_mkM _ _ _ (⟨37, 0, 1, (rd_T40 l0 x17_1).f1⟩ : S28) )) (Reps.c4 (show Kd.M k28 _ _ _ (⟨t152, t153, t154, t155⟩ : S28) [.int .i64 t152, .int .i64 t153, .int .i64 t154, .int .u32 t155] from (k28_mkM _ _ _ (⟨t152, t153, t154, t155⟩ : S28) )) (Reps.c4 (show Kd.M k28 _ _ _ (⟨t156, t157, t158, t159⟩ : S28) [.int .i64 t156, .int .i64 t157, .int .i64 t158, .int .u32 t159] from (k28_mkM _ _ _ (⟨t156, t157, t158, t159⟩ : S28) )) (Reps.none _ _)))))
                          intro v161 w53 ho54 hb hg_ hnew_
                          clear hg_ hnew_
                          (first | rw [← Ny160.out] at ho54 | (simp only [Int.reduceToNat] at ho54; rw [← Ny160.out] at ho54))
                          have n0_ := Aside0.mk (Kd.R_elder' (by (with_reducible repeat (first | apply Kd.R_alloc | apply Kd.R_drewN | apply Kd.R_drew)); exact HO_4.out) (Kd.R_base ho54) hb)
                          have n1_ := Aside0.mk (Kd.R_lower (Kd.R_new' ho54 (Kd.R_lt (by (with_reducible repeat (first | apply Kd.R_alloc | apply Kd.R_drewN | apply Kd.R_drew)); exact HO_4.out))) (below_size (by repeat (first | (with_reducible first | exact HB.out | apply below_alloc | apply pw_below_drewN | apply below_drew1 | refine below_set ?_ GE131.out) | exact HB.out))))
                          have n2_ := Aside0.mk (blk_below (g := gb131) (o := .cells #[.int .i64 ((rd_T40 l0 x17_1).f0), .int .u32 ((rd_T40 l0 x17_1).f1), .int .i64 ((rd_T40 l0 x17_1).f2), .int .i64 ((rd_T40 l0 x17_1).f3)] 40 (0, 0)) (by (with_reducible repeat (first | refine blk_drewN ?_ _ | refine blk_drew ?_ | refine blk_alloc ?_ _)); exact BK131.out) hb)
                          have n3_ := Aside0.mk (below_step (by repeat (first | (with_reducible first | exact HB.out | apply below_alloc | apply pw_below_drewN | apply below_drew1 | refine below_set ?_ GE131.out) | exact HB.out)) hb)
                          clear HO_4
                          clear BK131
                          clear HB
                          have HO_4 := n0_
                          have HO162 := n1_
                          have BK131 := n2_
                          have HB := n3_
                          clear n0_ n1_ n2_ n3_
                          clear hb ho54
                          obtain ⟨Ao56, co56, eo56⟩ := Kd.R_slice HO162.out
                          (first | subst eo56 | (injection eo56 with f1_ f2_ f3_; have f4_ := f1_.symm; have f5_ := f3_.symm; clear f1_ f2_ f3_; subst f4_; subst f5_))
                          refine hK.out _ _ ⟨(blk_cell BK131.out 0).trans rfl, (blk_cell BK131.out 1).trans rfl, (blk_cell BK131.out 2).trans rfl, (blk_cell BK131.out 3).trans rfl⟩ (fun hHeld => ?_)
                          clear hK K
                          refine norm_ (a' := ?_) ?_ ?_
                          rotate_left
                          · show Act.put _ (some 84) _ = _
                            simp only [Act.put, List.setIfInBounds_toArray, List.set_cons_zero, List.set_cons_succ, i64_w, i32_w]
                            rfl
                          refine one_ (i := 19) (N := some 85) #[true, true, true, true, true, true, true, true, true, true, true, true, true, true, true, true, true, true, true, true, false] rfl rfl (one_of HT_.out (by kernel_rfl)) (by decide) (fun K hK => ?_)
                          refine Kd.R_append_rows_step k28 (w0 := w) w.heap.size (by rfl) (.tmp 66) (.tmp 84) 34 28 (.agg #[(.int .i64 0), (.int .i64 0), (.int .i64 0), (.int .u32 0)]) 32 rfl Try.underlying34 info28 rfl (by decide) (by omega) (.slice Ao48 x4_1.length co48) x4_1 y160 _ _ _ (fun k_ => some k_ ≠ (.slice Ao56 y160.length co56 : Value).ownBlock) (fun _ => False) rfl rfl ?aO ?aR (fun _ _ h => h) (fun _ h => h.elim) ?aF ?aB ?aS ?aL ?_
                          (case aR => repeat (first | exact (Kd.R_reads' HO162.out).2.2 | (with_reducible refine Kd.C_alloc ?_ _) | (with_reducible refine Kd.C_drewN ?_ _) | (with_reducible refine Kd.C_drew ?_)))
                          (case aB => exact (by repeat (first | (with_reducible first | exact HB.out | apply below_alloc | apply pw_below_drewN | apply below_drew1 | refine below_set ?_ GE131.out) | exact HB.out)))
                          (case aF => exact (fun k_ hk => Kd.fresh' (Kd.R_lt (by (with_reducible repeat (first | apply Kd.R_alloc | apply Kd.R_drewN | apply Kd.R_drew)); exact HO162.out)) k_ hk))
                          (case aO => exact (by (with_reducible repeat (first | apply Kd.R_alloc | apply Kd.R_drewN | apply Kd.R_drew)); exact Kd.R_mono HO_4.out (fun _ hk => hk.2)))
                          (case aS => exact (below_size (by repeat (first | (with_reducible first | exact HB.out | apply below_alloc | apply pw_below_drewN | apply below_drew1 | refine below_set ?_ GE131.out) | exact HB.out))))
                          (case aL => have := LMc45.out; omega)
                          intro v164 w55 ho hb hg hat
                          rw [← Ny163.out] at ho
                          have n0_ := Aside0.mk (blk_grown (g := gb131) (o := .cells #[.int .i64 ((rd_T40 l0 x17_1).f0), .int .u32 ((rd_T40 l0 x17_1).f1), .int .i64 ((rd_T40 l0 x17_1).f2), .int .i64 ((rd_T40 l0 x17_1).f3)] 40 (0, 0)) (by (with_reducible repeat (first | refine blk_drewN ?_ _ | refine blk_drew ?_ | refine blk_alloc ?_ _)); exact BK131.out) hg (Kd.R_ne HO_4.out BK131.out (by decide)))
                          have n1_ := Aside0.mk (Kd.R_after (ok := (fun _ => True)) (by (with_reducible repeat (first | apply Kd.R_alloc | apply Kd.R_drewN | apply Kd.R_drew)); exact HO162.out) hg hat)
                          have n2_ := Aside0.mk (hb)
                          have n3_ := Aside0.mk (ho)
                          clear BK131
                          clear HO162
                          clear HB
                          clear HO_4
                          have BK131 := n0_
                          have HO162 := n1_
                          have HB := n2_
                          have HO165 := n3_
                          clear n0_ n1_ n2_ n3_
                          clear ho hb hg hat
                          refine hK.out _ _ ⟨(blk_cell BK131.out 0).trans rfl, (blk_cell BK131.out 1).trans rfl, (blk_cell BK131.out 2).trans rfl, (blk_cell BK131.out 3).trans rfl⟩ (fun hHeld => ?_)
                          clear hK K
                          refine norm_ (a' := ?_) ?_ ?_
                          rotate_left
                          · show Act.put _ (some 85) _ = _
                            simp only [Act.put, List.setIfInBounds_toArray, List.set_cons_zero, List.set_cons_succ, i64_w, i32_w]
                            rfl
                          refine pure_ (i := 20) (N := some 4) (v := ?_) (a' := ?_) #[true, true, true, true, true, true, true, true, true, true, true, true, true, true, true, true, true, true, true, true, true] rfl rfl (any_of HT_.out (by kernel_rfl)) (fun _ _ _ h => h) (Or.inl ⟨by rfl, ?_⟩) ?_ ?_
                          rotate_left
                          · intro w'
                            go_simp
                            with_reducible rfl
                          rotate_left
                          · simp only [Act.put, List.setIfInBounds_toArray, List.set_cons_zero, List.set_cons_succ, i64_w, i32_w]
                            rfl
                          refine done_ (done_of HT_.out (by kernel_rfl)) ?_
                          try go_wp2
                          go_roundg k1
                          case measure => have := HK1.out; omega
                          case rel => exact ⟨(y163), (wrap64 (x17_1 + 1)), (by first | rfl | (simp; done) | (simp [*]; done)), H', ⟨by have := HK1.out; omega⟩, ⟨by (with_reducible repeat (first | apply Kd.R_alloc | apply Kd.R_drewN | apply Kd.R_drew)); exact Kd.R_mono HO165.out (fun _ hk => trivial)⟩, ⟨by repeat (first | (with_reducible first | exact HB.out | apply below_alloc | apply pw_below_drewN | apply below_drew1 | refine below_set ?_ GE131.out) | exact HB.out)⟩⟩
                        · rw [if_neg c45] at H
                          exact absurd H (by simp)
                      · rw [if_neg c42] at H
                        have c42b0 : (((rd_T40 l0 x17_1).f0) == 4) = false := beq_eq_false_iff_ne.mpr c42
                        have c42b1 : (((rd_T40 l0 x17_1).f0) != 4) = true := bne_iff_ne.mpr c42
                        by_cases c57 : ((rd_T40 l0 x17_1).f0) = 5
                        · rw [if_pos c57] at H
                          have c57b0 : (((rd_T40 l0 x17_1).f0) == 5) = true := beq_iff_eq.mpr c57
                          have c57b1 : (((rd_T40 l0 x17_1).f0) != 5) = false := bne_eq_false_iff_eq.mpr c57
                          clear c57
                          replace H := Option.bind_eq_some_iff.mp H
                          obtain ⟨⟨t166, t167, t168, t169⟩, A580, H⟩ := H
                          replace H : ((doorwardref21_ja.f k1 l0 x17_1 (wrap64 ((x4_1.length : Int) + 2)) ((rd_T40 l0 x17_1).f3)).bind fun bt170 => ((some (([(⟨53, 0, 1, (rd_T40 l0 x17_1).f1⟩ : S28), (⟨t166, t167, t168, t169⟩ : S28), (⟨bt170.1, bt170.2.1, bt170.2.2.1, bt170.2.2.2⟩ : S28)] : List (S28)) : List (S28))).bind fun y174 => (if x4_1.length + y174.length < 4398046511104 then (doorwardref21_Assemble.l0 k1 l0 (x4_1 ++ y174) l0 (l0.length : Int) (wrap64 (x17_1 + 1))) else (none)))) = some (r1, r2) := H
                          have A58 := Aside0.mk A580
                          clear A580
                          replace H := Option.bind_eq_some_iff.mp H
                          obtain ⟨⟨t170, t171, t172, t173⟩, A590, H⟩ := H
                          replace H : ((some (([(⟨53, 0, 1, (rd_T40 l0 x17_1).f1⟩ : S28), (⟨t166, t167, t168, t169⟩ : S28), (⟨t170, t171, t172, t173⟩ : S28)] : List (S28)) : List (S28))).bind fun y174 => (if x4_1.length + y174.length < 4398046511104 then (doorwardref21_Assemble.l0 k1 l0 (x4_1 ++ y174) l0 (l0.length : Int) (wrap64 (x17_1 + 1))) else (none))) = some (r1, r2) := H
                          have A59 := Aside0.mk A590
                          clear A590
                          obtain ⟨y174, hy174⟩ : ∃ y_ : List (S28), y_ = (([(⟨53, 0, 1, (rd_T40 l0 x17_1).f1⟩ : S28), (⟨t166, t167, t168, t169⟩ : S28), (⟨t170, t171, t172, t173⟩ : S28)] : List (S28))) := ⟨_, rfl⟩
                          replace H : (if x4_1.length + y174.length < 4398046511104 then (doorwardref21_Assemble.l0 k1 l0 (x4_1 ++ y174) l0 (l0.length : Int) (wrap64 (x17_1 + 1))) else (none)) = some (r1, r2) := by first | (rw [hy174]; with_reducible exact H) | (have H2_ := (Option.bind_some _ _).symm.trans H; rw [hy174]; with_reducible exact H2_) | (have H2_ := (Option.bind_some _ _).symm.trans H; with_reducible exact H2_) | with_reducible exact H | (rw [hy174]; exact H) | exact H
                          have Ny174 := Aside0.mk hy174
                          clear hy174
                          by_cases c60 : x4_1.length + y174.length < 4398046511104
                          · rw [if_pos c60] at H
                            have LMc60 := Aside0.mk c60
                            clear c60
                            obtain ⟨y177, hy177⟩ : ∃ y_ : List (S28), y_ = (x4_1 ++ y174) := ⟨_, rfl⟩
                            replace H : (doorwardref21_Assemble.l0 k1 l0 y177 l0 (l0.length : Int) (wrap64 (x17_1 + 1))) = some (r1, r2) := by first | (rw [hy177]; with_reducible exact H) | (have H2_ := (Option.bind_some _ _).symm.trans H; rw [hy177]; with_reducible exact H2_) | (have H2_ := (Option.bind_some _ _).symm.trans H; with_reducible exact H2_) | with_reducible exact H | (rw [hy177]; exact H) | exact H
                            have Ny177 := Aside0.mk hy177
                            clear hy177
                            have H' := Aside0.mk H
                            clear H
                            have p130 : 0 ≤ (x17_1 : Int) := of_decide_eq_true (by first | (with_reducible assumption) | assumption)
                            have q130 : x17_1 < (l0.length : Int) := of_decide_eq_true (by first | (with_reducible assumption) | assumption)
                            obtain ⟨ad130, e130, hx130_0, hx130_1, hx130_2, hx130_3⟩ := at_T40 HR0.out x17_1 p130 q130
                            cases e130
                            replace hx130_0 := (HB.out.cell (World.block_lt_of_cell? w _ hx130_0)).trans hx130_0
                            replace hx130_1 := (HB.out.cell (World.block_lt_of_cell? w _ hx130_1)).trans hx130_1
                            replace hx130_2 := (HB.out.cell (World.block_lt_of_cell? w _ hx130_2)).trans hx130_2
                            replace hx130_3 := (HB.out.cell (World.block_lt_of_cell? w _ hx130_3)).trans hx130_3
                            replace p130 := eq_true p130
                            replace q130 := eq_true q130
                            try go_wp2_with (first | ((with_reducible refine gate_dst (N := 6) rfl ?_); refine box_event ?hg (N := 6) ?hd (cs := #[.int .i64 0, .int .u32 0, .int .i64 0, .int .i64 0]) (t := 40) ?hr ?_; (case hd => rfl); (case hg => rfl); (case hr => first | (go_simp; done) | (go_simp; rfl)); intro gb131 hg w61 hbox hb; have n0_ := Aside0.mk (Kd.R_below (by (with_reducible repeat (first | apply Kd.R_alloc | apply Kd.R_drewN | apply Kd.R_drew)); exact HO_4.out) hb); have n1_ := Aside0.mk (below_step (by repeat (first | (with_reducible first | exact HB.out | apply below_alloc | apply pw_below_drewN | apply below_drew1) | exact HB.out)) hb); have n2_ := Aside0.mk (hbox); have n3_ := Aside0.mk ((by rw [hg]; exact (below_size (by repeat (first | (with_reducible first | exact HB.out | apply below_alloc | apply pw_below_drewN | apply below_drew1) | exact HB.out))) : w.heap.size ≤ gb131)); have n4_ := Aside0.mk ((by rw [hg]; exact (below_size (by repeat (first | (with_reducible first | exact HB.out | apply below_alloc | apply pw_below_drewN | apply below_drew1) | exact HB.out))) : w.heap.size ≤ gb131)); clear HO_4; clear HB; have HO_4 := n0_; have HB := n1_; have BK131 := n2_; have GW131 := n3_; have GE131 := n4_; clear n0_ n1_ n2_ n3_ n4_; clear hb hbox hg; have hcz62_0 : w61.cell? ⟨gb131, 0, none⟩ = some (.int .i64 0) := (blk_cell BK131.out 0).trans rfl; have hcz62_1 : w61.cell? ⟨gb131, 1, none⟩ = some (.int .u32 0) := (blk_cell BK131.out 1).trans rfl; have hcz62_2 : w61.cell? ⟨gb131, 2, none⟩ = some (.int .i64 0) := (blk_cell BK131.out 2).trans rfl; have hcz62_3 : w61.cell? ⟨gb131, 3, none⟩ = some (.int .i64 0) := (blk_cell BK131.out 3).trans rfl; have hfz62_0 := blk_frozen BK131.out 0; have hfz62_1 := blk_frozen BK131.out 1; have hfz62_2 := blk_frozen BK131.out 2; have hfz62_3 := blk_frozen BK131.out 3; obtain ⟨Ao63, co63, eo63⟩ := Kd.R_slice HO_4.out; subst eo63))
                            have n0_ : Aside0 (Kd.R k28 28 ((((w61.setCell ⟨gb131, 0, none⟩ (.int .i64 ((rd_T40 l0 x17_1).f0))).setCell ⟨gb131, 1, none⟩ (.int .u32 ((rd_T40 l0 x17_1).f1))).setCell ⟨gb131, 2, none⟩ (.int .i64 ((rd_T40 l0 x17_1).f2))).setCell ⟨gb131, 3, none⟩ (.int .i64 ((rd_T40 l0 x17_1).f3))) w.heap.size (fun _ => True) (.slice Ao63 x4_1.length co63) x4_1) := ⟨by (with_reducible repeat (first | apply Kd.R_alloc | apply Kd.R_drewN | apply Kd.R_drew)); exact Kd.R_mono (Kd.R_far (p := ⟨gb131, 3, none⟩) (Kd.R_far (p := ⟨gb131, 2, none⟩) (Kd.R_far (p := ⟨gb131, 1, none⟩) (Kd.R_far (p := ⟨gb131, 0, none⟩) (Kd.R_types HO_4.out BK131.out (by decide)) (fun _ hk => hk.2) (.int .i64 ((rd_T40 l0 x17_1).f0))) (fun _ hk => hk.2) (.int .u32 ((rd_T40 l0 x17_1).f1))) (fun _ hk => hk.2) (.int .i64 ((rd_T40 l0 x17_1).f2))) (fun _ hk => hk.2) (.int .i64 ((rd_T40 l0 x17_1).f3))) (fun _ hk => trivial)⟩
                            have n1_ : Aside0 (((((w61.setCell ⟨gb131, 0, none⟩ (.int .i64 ((rd_T40 l0 x17_1).f0))).setCell ⟨gb131, 1, none⟩ (.int .u32 ((rd_T40 l0 x17_1).f1))).setCell ⟨gb131, 2, none⟩ (.int .i64 ((rd_T40 l0 x17_1).f2))).setCell ⟨gb131, 3, none⟩ (.int .i64 ((rd_T40 l0 x17_1).f3))).heap[gb131]? = some (.cells #[.int .i64 ((rd_T40 l0 x17_1).f0), .int .u32 ((rd_T40 l0 x17_1).f1), .int .i64 ((rd_T40 l0 x17_1).f2), .int .i64 ((rd_T40 l0 x17_1).f3)] 40 (0, 0))) := ⟨by (with_reducible repeat (first | refine blk_drewN ?_ _ | refine blk_drew ?_ | refine blk_alloc ?_ _)); refine blk_put (cs := #[.int .i64 ((rd_T40 l0 x17_1).f0), .int .u32 ((rd_T40 l0 x17_1).f1), .int .i64 ((rd_T40 l0 x17_1).f2), .int .i64 0]) ?_ 3 _ rfl; (with_reducible repeat (first | refine blk_drewN ?_ _ | refine blk_drew ?_ | refine blk_alloc ?_ _)); refine blk_put (cs := #[.int .i64 ((rd_T40 l0 x17_1).f0), .int .u32 ((rd_T40 l0 x17_1).f1), .int .i64 0, .int .i64 0]) ?_ 2 _ rfl; (with_reducible repeat (first | refine blk_drewN ?_ _ | refine blk_drew ?_ | refine blk_alloc ?_ _)); refine blk_put (cs := #[.int .i64 ((rd_T40 l0 x17_1).f0), .int .u32 0, .int .i64 0, .int .i64 0]) ?_ 1 _ rfl; (with_reducible repeat (first | refine blk_drewN ?_ _ | refine blk_drew ?_ | refine blk_alloc ?_ _)); refine blk_put (cs := #[.int .i64 0, .int .u32 0, .int .i64 0, .int .i64 0]) ?_ 0 _ rfl; (with_reducible repeat (first | refine blk_drewN ?_ _ | refine blk_drew ?_ | refine blk_alloc ?_ _)); exact BK131.out⟩
                            have n2_ : Aside0 (Below w.heap.size w ((((w61.setCell ⟨gb131, 0, none⟩ (.int .i64 ((rd_T40 l0 x17_1).f0))).setCell ⟨gb131, 1, none⟩ (.int .u32 ((rd_T40 l0 x17_1).f1))).setCell ⟨gb131, 2, none⟩ (.int .i64 ((rd_T40 l0 x17_1).f2))).setCell ⟨gb131, 3, none⟩ (.int .i64 ((rd_T40 l0 x17_1).f3)))) := ⟨by repeat (first | (with_reducible first | exact HB.out | apply below_alloc | apply pw_below_drewN | apply below_drew1 | refine below_set ?_ GE131.out) | exact HB.out)⟩
                            (try clear HO_4)
                            (try clear BK131)
                            (try clear HB)
                            generalize ((((w61.setCell ⟨gb131, 0, none⟩ (.int .i64 ((rd_T40 l0 x17_1).f0))).setCell ⟨gb131, 1, none⟩ (.int .u32 ((rd_T40 l0 x17_1).f1))).setCell ⟨gb131, 2, none⟩ (.int .i64 ((rd_T40 l0 x17_1).f2))).setCell ⟨gb131, 3, none⟩ (.int .i64 ((rd_T40 l0 x17_1).f3))) = w64 at n0_ n1_ n2_ ⊢
                            have HO_4 := n0_
                            have BK131 := n1_
                            have HB := n2_
                            clear n0_ n1_ n2_
                            have n0_ := Aside0.mk (Kd.R_drew HO_4.out)
                            have n1_ := Aside0.mk (blk_drew BK131.out)
                            have n2_ := Aside0.mk (below_drew1 HB.out)
                            clear HO_4
                            clear BK131
                            clear HB
                            have HO_4 := n0_
                            have BK131 := n1_
                            have HB := n2_
                            clear n0_ n1_ n2_
                            refine start_ (n := 21) (S := fun w' => w'.cell? ⟨gb131, 0, none⟩ = some (.int .i64 ((rd_T40 l0 x17_1).f0)) ∧ w'.cell? ⟨gb131, 1, none⟩ = some (.int .u32 ((rd_T40 l0 x17_1).f1)) ∧ w'.cell? ⟨gb131, 2, none⟩ = some (.int .i64 ((rd_T40 l0 x17_1).f2)) ∧ w'.cell? ⟨gb131, 3, none⟩ = some (.int .i64 ((rd_T40 l0 x17_1).f3))) (ds := []) #[false, false, false, false, false, false, false, false, false, false, false, false, false, false, false, false, false, false, false, false, false] (by kernel_rfl) rfl rfl ⟨(blk_cell BK131.out 0).trans rfl, (blk_cell BK131.out 1).trans rfl, (blk_cell BK131.out 2).trans rfl, (blk_cell BK131.out 3).trans rfl⟩ (fun hHeld => ?_); refine with_tabW doorwardref21_Assemble.tab20 doorwardref21_Assemble.bits20 (fun HT_ HW_ => ?_)
                            generalize w64.drew = w65 at HO_4 BK131 HB hHeld ⊢
                            refine pure_ (i := 0) (N := some 88) (v := ?_) (a' := ?_) #[true, false, false, false, false, false, false, false, false, false, false, false, false, false, false, false, false, false, false, false, false] rfl rfl (any_of HT_.out (by kernel_rfl)) (fun _ _ _ h => h) (Or.inl ⟨by rfl, ?_⟩) ?_ ?_
                            rotate_left
                            · intro w'
                              go_simp
                              with_reducible rfl
                            rotate_left
                            · simp only [Act.put, List.setIfInBounds_toArray, List.set_cons_zero, List.set_cons_succ, i64_w, i32_w]
                              rfl
                            refine pure_ (i := 1) (N := some 89) (v := ?_) (a' := ?_) #[true, true, false, false, false, false, false, false, false, false, false, false, false, false, false, false, false, false, false, false, false] rfl rfl (any_of HT_.out (by kernel_rfl)) (fun _ _ _ h => h) (Or.inl ⟨by rfl, ?_⟩) ?_ ?_
                            rotate_left
                            · intro w'
                              go_simp
                              with_reducible rfl
                            rotate_left
                            · simp only [Act.put, List.setIfInBounds_toArray, List.set_cons_zero, List.set_cons_succ, i64_w, i32_w]
                              rfl
                            refine pure_ (i := 4) (N := some 92) (v := ?_) (a' := ?_) #[true, true, false, false, true, false, false, false, false, false, false, false, false, false, false, false, false, false, false, false, false] rfl rfl (any_of HT_.out (by kernel_rfl)) (fun _ _ _ h => h) (Or.inl ⟨by rfl, ?_⟩) ?_ ?_
                            rotate_left
                            · intro w'
                              go_simp
                              with_reducible rfl
                            rotate_left
                            · simp only [Act.put, List.setIfInBounds_toArray, List.set_cons_zero, List.set_cons_succ, i64_w, i32_w]
                              rfl
                            refine pure_ (i := 5) (N := some 93) (v := ?_) (a' := ?_) #[true, true, false, false, true, true, false, false, false, false, false, false, false, false, false, false, false, false, false, false, false] rfl rfl (any_of HT_.out (by kernel_rfl)) (fun _ _ _ h => h) (Or.inl ⟨by rfl, ?_⟩) ?_ ?_
                            rotate_left
                            · intro w'
                              go_simp
                              with_reducible rfl
                            rotate_left
                            · simp only [Act.put, List.setIfInBounds_toArray, List.set_cons_zero, List.set_cons_succ, i64_w, i32_w]
                              rfl
                            refine pure_ (i := 6) (N := some 94) (v := ?_) (a' := ?_) #[true, true, false, false, true, true, true, false, false, false, false, false, false, false, false, false, false, false, false, false, false] rfl rfl (any_of HT_.out (by kernel_rfl)) (fun _ _ _ h => h) (Or.inl ⟨by rfl, ?_⟩) ?_ ?_
                            rotate_left
                            · intro w'
                              go_simp
                              with_reducible rfl
                            rotate_left
                            · simp only [Act.put, List.setIfInBounds_toArray, List.set_cons_zero, List.set_cons_succ, i64_w, i32_w]
                              rfl
                            refine pure_ (i := 7) (N := some 95) (v := ?_) (a' := ?_) #[true, true, false, false, true, true, true, true, false, false, false, false, false, false, false, false, false, false, false, false, false] rfl rfl (any_of HT_.out (by kernel_rfl)) (fun _ _ _ h => h) (Or.inl ⟨by rfl, ?_⟩) ?_ ?_
                            rotate_left
                            · intro w'
                              go_simp
                              with_reducible rfl
                            rotate_left
                            · simp only [Act.put, List.setIfInBounds_toArray, List.set_cons_zero, List.set_cons_succ, i64_w, i32_w]
                              rfl
                            refine pure_ (i := 8) (N := some 96) (v := ?_) (a' := ?_) #[true, true, false, false, true, true, true, true, true, false, false, false, false, false, false, false, false, false, false, false, false] rfl rfl (any_of HT_.out (by kernel_rfl)) (fun _ _ _ h => h) (Or.inl ⟨by rfl, ?_⟩) ?_ ?_
                            rotate_left
                            · intro w'
                              go_simp
                              with_reducible rfl
                            rotate_left
                            · simp only [Act.put, List.setIfInBounds_toArray, List.set_cons_zero, List.set_cons_succ, i64_w, i32_w]
                              rfl
                            refine pure_ (i := 11) (N := some 99) (v := ?_) (a' := ?_) #[true, true, false, false, true, true, true, true, true, false, false, true, false, false, false, false, false, false, false, false, false] rfl rfl (any_of HT_.out (by kernel_rfl)) (fun _ _ _ h => h) (Or.inl ⟨by rfl, ?_⟩) ?_ ?_
                            rotate_left
                            · intro w'
                              go_simp
                              with_reducible rfl
                            rotate_left
                            · simp only [Act.put, List.setIfInBounds_toArray, List.set_cons_zero, List.set_cons_succ, i64_w, i32_w]
                              rfl
                            refine pure_ (i := 12) (N := some 100) (v := ?_) (a' := ?_) #[true, true, false, false, true, true, true, true, true, false, false, true, true, false, false, false, false, false, false, false, false] rfl rfl (any_of HT_.out (by kernel_rfl)) (fun _ _ _ h => h) (Or.inl ⟨by rfl, ?_⟩) ?_ ?_
                            rotate_left
                            · intro w'
                              go_simp
                              with_reducible rfl
                            rotate_left
                            · simp only [Act.put, List.setIfInBounds_toArray, List.set_cons_zero, List.set_cons_succ, i64_w, i32_w]
                              rfl
                            refine pure_ (i := 13) (N := some 101) (v := ?_) (a' := ?_) #[true, true, false, false, true, true, true, true, true, false, false, true, true, true, false, false, false, false, false, false, false] rfl rfl (any_of HT_.out (by kernel_rfl)) (fun _ _ _ h => h) (Or.inl ⟨by rfl, ?_⟩) ?_ ?_
                            rotate_left
                            · intro w'
                              go_simp
                              with_reducible rfl
                            rotate_left
                            · simp only [Act.put, List.setIfInBounds_toArray, List.set_cons_zero, List.set_cons_succ, i64_w, i32_w]
                              rfl
                            refine pure_ (i := 14) (N := some 102) (v := ?_) (a' := ?_) #[true, true, false, false, true, true, true, true, true, false, false, true, true, true, true, false, false, false, false, false, false] rfl rfl (any_of HT_.out (by kernel_rfl)) (fun _ _ _ h => h) (Or.inl ⟨by rfl, ?_⟩) ?_ ?_
                            rotate_left
                            · intro w'
                              go_simp
                              with_reducible rfl
                            rotate_left
                            · simp only [Act.put, List.setIfInBounds_toArray, List.set_cons_zero, List.set_cons_succ, i64_w, i32_w]
                              rfl
                            refine pure_ (i := 15) (N := some 103) (v := ?_) (a' := ?_) #[true, true, false, false, true, true, true, true, true, false, false, true, true, true, true, true, false, false, false, false, false] rfl rfl (any_of HT_.out (by kernel_rfl)) (fun _ _ _ h => h) (Or.inl ⟨by rfl, ?_⟩) ?_ ?_
                            rotate_left
                            · intro w'
                              go_simp
                              with_reducible rfl
                            rotate_left
                            · simp only [Act.put, List.setIfInBounds_toArray, List.set_cons_zero, List.set_cons_succ, i64_w, i32_w]
                              rfl
                            refine take_ (i := 2) (N := some 90) (v := ?_) (a' := ?_) #[true, true, true, false, true, true, true, true, true, false, false, true, true, true, true, true, false, false, false, false, false] rfl rfl (take_ofW HT_.out HW_.out (by kernel_rfl)) (fun _ _ _ h => h) (Or.inl ⟨by rfl, ?_⟩) hHeld ?_ ?_
                            rotate_left
                            · rintro w' ⟨s0, s1, s2, s3⟩
                              go_simp
                              with_reducible rfl
                            rotate_left
                            · simp only [Act.put, List.setIfInBounds_toArray, List.set_cons_zero, List.set_cons_succ, i64_w, i32_w]
                              rfl
                            refine pure_ (i := 3) (N := some 91) (v := ?_) (a' := ?_) #[true, true, true, true, true, true, true, true, true, false, false, true, true, true, true, true, false, false, false, false, false] rfl rfl (any_of HT_.out (by kernel_rfl)) (fun _ _ _ h => h) (Or.inl ⟨by rfl, ?_⟩) ?_ ?_
                            rotate_left
                            · intro w'
                              go_simp
                              with_reducible rfl
                            rotate_left
                            · simp only [Act.put, List.setIfInBounds_toArray, List.set_cons_zero, List.set_cons_succ, i64_w, i32_w]
                              rfl
                            refine take_ (i := 9) (N := some 97) (v := ?_) (a' := ?_) #[true, true, true, true, true, true, true, true, true, true, false, true, true, true, true, true, false, false, false, false, false] rfl rfl (take_ofW HT_.out HW_.out (by kernel_rfl)) (fun _ _ _ h => h) (Or.inl ⟨by rfl, ?_⟩) hHeld ?_ ?_
                            rotate_left
                            · rintro w' ⟨s0, s1, s2, s3⟩
                              go_simp
                              with_reducible rfl
                            rotate_left
                            · simp only [Act.put, List.setIfInBounds_toArray, List.set_cons_zero, List.set_cons_succ, i64_w, i32_w]
                              rfl
                            refine take_ (i := 16) (N := some 104) (v := ?_) (a' := ?_) #[true, true, true, true, true, true, true, true, true, true, false, true, true, true, true, true, true, false, false, false, false] rfl rfl (take_ofW HT_.out HW_.out (by kernel_rfl)) (fun _ _ _ h => h) (Or.inl ⟨by rfl, ?_⟩) hHeld ?_ ?_
                            rotate_left
                            · rintro w' ⟨s0, s1, s2, s3⟩
                              go_simp
                              with_reducible rfl
                            rotate_left
                            · simp only [Act.put, List.setIfInBounds_toArray, List.set_cons_zero, List.set_cons_succ, i64_w, i32_w]
                              rfl
                            refine one_ (i := 10) (N := some 98) #[true, true, true, true, true, true, true, true, true, true, true, true, true, true, true, true, true, false, false, false, false] rfl rfl (one_of HT_.out (by kernel_rfl)) (by decide) (fun K hK => ?_)
                            refine goes_ Try.func98 (by kernel_rfl) rfl #[.slice (some ad130) l0.length c0, .int .i64 x17_1, .int .i64 (wrap64 ((x4_1.length : Int) + 1)), .int .i64 ((rd_T40 l0 x17_1).f2)] (by rfl) rfl rfl (by (try simp only [List.map_toArray, List.map_cons, List.map_nil]); first | done | rfl | (simp only [List.length_drop, List.length_take]; rfl)) ?_
                            with_reducible refine (doorwardref21_ja.calls k1 _ _ l0 x17_1 (wrap64 ((x4_1.length : Int) + 1)) ((rd_T40 l0 x17_1).f2) t166 t167 t168 t169 _ ?side1 ?side2 A58.out).mono ?_
                            (case side1 => repeat (first | exact (Kd.C_below HR0.out HB.out) | (with_reducible refine Kd.C_alloc ?_ _) | (with_reducible refine Kd.C_drewN ?_ _) | (with_reducible refine Kd.C_drew ?_)))
                            (case side2 => exact HC0.out)
                            rintro e w66 ⟨rfl, hb⟩
                            refine ⟨_, rfl, ?_⟩
                            have n0_ := Aside0.mk (Kd.R_below (by (with_reducible repeat (first | apply Kd.R_alloc | apply Kd.R_drewN | apply Kd.R_drew)); exact HO_4.out) hb)
                            have n1_ := Aside0.mk (blk_below (g := gb131) (o := .cells #[.int .i64 ((rd_T40 l0 x17_1).f0), .int .u32 ((rd_T40 l0 x17_1).f1), .int .i64 ((rd_T40 l0 x17_1).f2), .int .i64 ((rd_T40 l0 x17_1).f3)] 40 (0, 0)) (by (with_reducible repeat (first | refine blk_drewN ?_ _ | refine blk_drew ?_ | refine blk_alloc ?_ _)); exact BK131.out) hb)
                            have n2_ := Aside0.mk (below_step (by repeat (first | (with_reducible first | exact HB.out | apply below_alloc | apply pw_below_drewN | apply below_drew1 | refine below_set ?_ GE131.out) | exact HB.out)) hb)
                            clear HO_4
                            clear BK131
                            clear HB
                            have HO_4 := n0_
                            have BK131 := n1_
                            have HB := n2_
                            clear n0_ n1_ n2_
                            (try clear hb)
                            (try clear hb2)
                            (try clear hk)
                            (try clear hi)
                            refine hK.out _ _ ⟨(blk_cell BK131.out 0).trans rfl, (blk_cell BK131.out 1).trans rfl, (blk_cell BK131.out 2).trans rfl, (blk_cell BK131.out 3).trans rfl⟩ (fun hHeld => ?_)
                            clear hK K
                            refine norm_ (a' := ?_) ?_ ?_
                            rotate_left
                            · show Act.put _ (some 98) _ = _
                              simp only [Act.put, List.setIfInBounds_toArray, List.set_cons_zero, List.set_cons_succ, i64_w, i32_w]
                              rfl
                            refine one_ (i := 17) (N := some 105) #[true, true, true, true, true, true, true, true, true, true, true, true, true, true, true, true, true, true, false, false, false] rfl rfl (one_of HT_.out (by kernel_rfl)) (by decide) (fun K hK => ?_)
                            refine goes_ Try.func98 (by kernel_rfl) rfl #[.slice (some ad130) l0.length c0, .int .i64 x17_1, .int .i64 (wrap64 ((x4_1.length : Int) + 2)), .int .i64 ((rd_T40 l0 x17_1).f3)] (by rfl) rfl rfl (by (try simp only [List.map_toArray, List.map_cons, List.map_nil]); first | done | rfl | (simp only [List.length_drop, List.length_take]; rfl)) ?_
                            with_reducible refine (doorwardref21_ja.calls k1 _ _ l0 x17_1 (wrap64 ((x4_1.length : Int) + 2)) ((rd_T40 l0 x17_1).f3) t170 t171 t172 t173 _ ?side1 ?side2 A59.out).mono ?_
                            (case side1 => repeat (first | exact (Kd.C_below HR0.out HB.out) | (with_reducible refine Kd.C_alloc ?_ _) | (with_reducible refine Kd.C_drewN ?_ _) | (with_reducible refine Kd.C_drew ?_)))
                            (case side2 => exact HC0.out)
                            rintro e w67 ⟨rfl, hb⟩
                            refine ⟨_, rfl, ?_⟩
                            have n0_ := Aside0.mk (Kd.R_below (by (with_reducible repeat (first | apply Kd.R_alloc | apply Kd.R_drewN | apply Kd.R_drew)); exact HO_4.out) hb)
                            have n1_ := Aside0.mk (blk_below (g := gb131) (o := .cells #[.int .i64 ((rd_T40 l0 x17_1).f0), .int .u32 ((rd_T40 l0 x17_1).f1), .int .i64 ((rd_T40 l0 x17_1).f2), .int .i64 ((rd_T40 l0 x17_1).f3)] 40 (0, 0)) (by (with_reducible repeat (first | refine blk_drewN ?_ _ | refine blk_drew ?_ | refine blk_alloc ?_ _)); exact BK131.out) hb)
                            have n2_ := Aside0.mk (below_step (by repeat (first | (with_reducible first | exact HB.out | apply below_alloc | apply pw_below_drewN | apply below_drew1 | refine below_set ?_ GE131.out) | exact HB.out)) hb)
                            clear HO_4
                            clear BK131
                            clear HB
                            have HO_4 := n0_
                            have BK131 := n1_
                            have HB := n2_
                            clear n0_ n1_ n2_
                            (try clear hb)
                            (try clear hb2)
                            (try clear hk)
                            (try clear hi)
                            refine hK.out _ _ ⟨(blk_cell BK131.out 0).trans rfl, (blk_cell BK131.out 1).trans rfl, (blk_cell BK131.out 2).trans rfl, (blk_cell BK131.out 3).trans rfl⟩ (fun hHeld => ?_)
                            clear hK K
                            refine norm_ (a' := ?_) ?_ ?_
                            rotate_left
                            · show Act.put _ (some 105) _ = _
                              simp only [Act.put, List.setIfInBounds_toArray, List.set_cons_zero, List.set_cons_succ, i64_w, i32_w]
                              rfl
                            refine one_ (i := 18) (N := some 106) #[true, true, true, true, true, true, true, true, true, true, true, true, true, true, true, true, true, true, true, false, false] rfl rfl (one_of HT_.out (by kernel_rfl)) (by decide) (fun K hK => ?_)
                            refine Kd.R_lit_step k28 _ 28 ?hg (N := 106) ?hd (xs := ([(⟨53, 0, 1, (rd_T40 l0 x17_1).f1⟩ : S28), (⟨t166, t167, t168, t169⟩ : S28), (⟨t170, t171, t172, t173⟩ : S28)] : List (S28))) (inner := [.int .i64 53, .int .i64 0, .int .i64 1, .int .u32 ((rd_T40 l0 x17_1).f1), .int .i64 t166, .int .i64 t167, .int .i64 t168, .int .u32 t169, .int .i64 t170, .int .i64 t171, .int .i64 t172, .int .u32 t173]) (ok := fun _ => True) (okp := fun _ => True) ?hr ?hp (fun _ hk => hk) trivial (Below.refl _ _) (Nat.le_refl _) (by simp) ?_; (case hd => rfl); (case hg => rfl); (case hr => first | (go_simp; done) | (go_simp; rfl)); (case hp => exact (Reps.c4 (show Kd.M k28 _ _ _ (⟨53, 0, 1, (rd_T40 l0 x17_1).f1⟩ : S28) [.int .i64 53, .int .i64 0, .int .i64 1, .int .u32 ((rd_T40 l0 x17_1).f1)] from (k28_mkM _ _ _ (⟨53, 0, 1, (rd_T40 l0 x17_1).f1⟩ : S28) )) (Reps.c4 (show Kd.M k28 _ _ _ (⟨t166, t167, t168, t169⟩ : S28) [.int .i64 t166, .int .i64 t167, .int .i64 t168, .int .u32 t169] from (k28_mkM _ _ _ (⟨t166, t167, t168, t169⟩ : S28) )) (Reps.c4 (show Kd.M k28 _ _ _ (⟨t170, t171, t172, t173⟩ : S28) [.int .i64 t170, .int .i64 t171, .int .i64 t172, .int .u32 t173] from (k28_mkM _ _ _ (⟨t170, t171, t172, t173⟩ : S28) )) (Reps.none _ _)))))
                            intro v175 w68 ho69 hb hg_ hnew_
                            clear hg_ hnew_
                            (first | rw [← Ny174.out] at ho69 | (simp only [Int.reduceToNat] at ho69; rw [← Ny174.out] at ho69))
                            have n0_ := Aside0.mk (Kd.R_elder' (by (with_reducible repeat (first | apply Kd.R_alloc | apply Kd.R_drewN | apply Kd.R_drew)); exact HO_4.out) (Kd.R_base ho69) hb)
                            have n1_ := Aside0.mk (Kd.R_lower (Kd.R_new' ho69 (Kd.R_lt (by (with_reducible repeat (first | apply Kd.R_alloc | apply Kd.R_drewN | apply Kd.R_drew)); exact HO_4.out))) (below_size (by repeat (first | (with_reducible first | exact HB.out | apply below_alloc | apply pw_below_drewN | apply below_drew1 | refine below_set ?_ GE131.out) | exact HB.out))))
                            have n2_ := Aside0.mk (blk_below (g := gb131) (o := .cells #[.int .i64 ((rd_T40 l0 x17_1).f0), .int .u32 ((rd_T40 l0 x17_1).f1), .int .i64 ((rd_T40 l0 x17_1).f2), .int .i64 ((rd_T40 l0 x17_1).f3)] 40 (0, 0)) (by (with_reducible repeat (first | refine blk_drewN ?_ _ | refine blk_drew ?_ | refine blk_alloc ?_ _)); exact BK131.out) hb)
                            have n3_ := Aside0.mk (below_step (by repeat (first | (with_reducible first | exact HB.out | apply below_alloc | apply pw_below_drewN | apply below_drew1 | refine below_set ?_ GE131.out) | exact HB.out)) hb)
                            clear HO_4
                            clear BK131
                            clear HB
                            have HO_4 := n0_
                            have HO176 := n1_
                            have BK131 := n2_
                            have HB := n3_
                            clear n0_ n1_ n2_ n3_
                            clear hb ho69
                            obtain ⟨Ao71, co71, eo71⟩ := Kd.R_slice HO176.out
                            (first | subst eo71 | (injection eo71 with f1_ f2_ f3_; have f4_ := f1_.symm; have f5_ := f3_.symm; clear f1_ f2_ f3_; subst f4_; subst f5_))
                            refine hK.out _ _ ⟨(blk_cell BK131.out 0).trans rfl, (blk_cell BK131.out 1).trans rfl, (blk_cell BK131.out 2).trans rfl, (blk_cell BK131.out 3).trans rfl⟩ (fun hHeld => ?_)
                            clear hK K
                            refine norm_ (a' := ?_) ?_ ?_
                            rotate_left
                            · show Act.put _ (some 106) _ = _
                              simp only [Act.put, List.setIfInBounds_toArray, List.set_cons_zero, List.set_cons_succ, i64_w, i32_w]
                              rfl
                            refine one_ (i := 19) (N := some 107) #[true, true, true, true, true, true, true, true, true, true, true, true, true, true, true, true, true, true, true, true, false] rfl rfl (one_of HT_.out (by kernel_rfl)) (by decide) (fun K hK => ?_)
                            refine Kd.R_append_rows_step k28 (w0 := w) w.heap.size (by rfl) (.tmp 88) (.tmp 106) 34 28 (.agg #[(.int .i64 0), (.int .i64 0), (.int .i64 0), (.int .u32 0)]) 32 rfl Try.underlying34 info28 rfl (by decide) (by omega) (.slice Ao63 x4_1.length co63) x4_1 y174 _ _ _ (fun k_ => some k_ ≠ (.slice Ao71 y174.length co71 : Value).ownBlock) (fun _ => False) rfl rfl ?aO ?aR (fun _ _ h => h) (fun _ h => h.elim) ?aF ?aB ?aS ?aL ?_
                            (case aR => repeat (first | exact (Kd.R_reads' HO176.out).2.2 | (with_reducible refine Kd.C_alloc ?_ _) | (with_reducible refine Kd.C_drewN ?_ _) | (with_reducible refine Kd.C_drew ?_)))
                            (case aB => exact (by repeat (first | (with_reducible first | exact HB.out | apply below_alloc | apply pw_below_drewN | apply below_drew1 | refine below_set ?_ GE131.out) | exact HB.out)))
                            (case aF => exact (fun k_ hk => Kd.fresh' (Kd.R_lt (by (with_reducible repeat (first | apply Kd.R_alloc | apply Kd.R_drewN | apply Kd.R_drew)); exact HO176.out)) k_ hk))
                            (case aO => exact (by (with_reducible repeat (first | apply Kd.R_alloc | apply Kd.R_drewN | apply Kd.R_drew)); exact Kd.R_mono HO_4.out (fun _ hk => hk.2)))
                            (case aS => exact (below_size (by repeat (first | (with_reducible first | exact HB.out | apply below_alloc | apply pw_below_drewN | apply below_drew1 | refine below_set ?_ GE131.out) | exact HB.out))))
                            (case aL => have := LMc60.out; omega)
                            intro v178 w70 ho hb hg hat
                            rw [← Ny177.out] at ho
                            have n0_ := Aside0.mk (blk_grown (g := gb131) (o := .cells #[.int .i64 ((rd_T40 l0 x17_1).f0), .int .u32 ((rd_T40 l0 x17_1).f1), .int .i64 ((rd_T40 l0 x17_1).f2), .int .i64 ((rd_T40 l0 x17_1).f3)] 40 (0, 0)) (by (with_reducible repeat (first | refine blk_drewN ?_ _ | refine blk_drew ?_ | refine blk_alloc ?_ _)); exact BK131.out) hg (Kd.R_ne HO_4.out BK131.out (by decide)))
                            have n1_ := Aside0.mk (Kd.R_after (ok := (fun _ => True)) (by (with_reducible repeat (first | apply Kd.R_alloc | apply Kd.R_drewN | apply Kd.R_drew)); exact HO176.out) hg hat)
                            have n2_ := Aside0.mk (hb)
                            have n3_ := Aside0.mk (ho)
                            clear BK131
                            clear HO176
                            clear HB
                            clear HO_4
                            have BK131 := n0_
                            have HO176 := n1_
                            have HB := n2_
                            have HO179 := n3_
                            clear n0_ n1_ n2_ n3_
                            clear ho hb hg hat
                            refine hK.out _ _ ⟨(blk_cell BK131.out 0).trans rfl, (blk_cell BK131.out 1).trans rfl, (blk_cell BK131.out 2).trans rfl, (blk_cell BK131.out 3).trans rfl⟩ (fun hHeld => ?_)
                            clear hK K
                            refine norm_ (a' := ?_) ?_ ?_
                            rotate_left
                            · show Act.put _ (some 107) _ = _
                              simp only [Act.put, List.setIfInBounds_toArray, List.set_cons_zero, List.set_cons_succ, i64_w, i32_w]
                              rfl
                            refine pure_ (i := 20) (N := some 4) (v := ?_) (a' := ?_) #[true, true, true, true, true, true, true, true, true, true, true, true, true, true, true, true, true, true, true, true, true] rfl rfl (any_of HT_.out (by kernel_rfl)) (fun _ _ _ h => h) (Or.inl ⟨by rfl, ?_⟩) ?_ ?_
                            rotate_left
                            · intro w'
                              go_simp
                              with_reducible rfl
                            rotate_left
                            · simp only [Act.put, List.setIfInBounds_toArray, List.set_cons_zero, List.set_cons_succ, i64_w, i32_w]
                              rfl
                            refine done_ (done_of HT_.out (by kernel_rfl)) ?_
                            try go_wp2
                            go_roundg k1
                            case measure => have := HK1.out; omega
                            case rel => exact ⟨(y177), (wrap64 (x17_1 + 1)), (by first | rfl | (simp; done) | (simp [*]; done)), H', ⟨by have := HK1.out; omega⟩, ⟨by (with_reducible repeat (first | apply Kd.R_alloc | apply Kd.R_drewN | apply Kd.R_drew)); exact Kd.R_mono HO179.out (fun _ hk => trivial)⟩, ⟨by repeat (first | (with_reducible first | exact HB.out | apply below_alloc | apply pw_below_drewN | apply below_drew1 | refine below_set ?_ GE131.out) | exact HB.out)⟩⟩
                          · rw [if_neg c60] at H
                            exact absurd H (by simp)
                        · rw [if_neg c57] at H
                          have c57b0 : (((rd_T40 l0 x17_1).f0) == 5) = false := beq_eq_false_iff_ne.mpr c57
                          have c57b1 : (((rd_T40 l0 x17_1).f0) != 5) = true := bne_iff_ne.mpr c57
                          by_cases c72 : ((rd_T40 l0 x17_1).f0) = 7
                          · rw [if_pos c72] at H
                            have c72b0 : (((rd_T40 l0 x17_1).f0) == 7) = true := beq_iff_eq.mpr c72
                            have c72b1 : (((rd_T40 l0 x17_1).f0) != 7) = false := bne_eq_false_iff_eq.mpr c72
                            clear c72
                            replace H := Option.bind_eq_some_iff.mp H
                            obtain ⟨⟨t180, t181, t182, t183⟩, A730, H⟩ := H
                            replace H : (if x4_1.length < 4398046511104 then (doorwardref21_Assemble.l0 k1 l0 (x4_1 ++ [(⟨t180, t181, t182, t183⟩ : S28)]) l0 (l0.length : Int) (wrap64 (x17_1 + 1))) else (none)) = some (r1, r2) := H
                            have A73 := Aside0.mk A730
                            clear A730
                            by_cases c74 : x4_1.length < 4398046511104
                            · rw [if_pos c74] at H
                              have LMc74 := Aside0.mk c74
                              clear c74
                              obtain ⟨y184, hy184⟩ : ∃ y_ : List (S28), y_ = (x4_1 ++ [(⟨t180, t181, t182, t183⟩ : S28)]) := ⟨_, rfl⟩
                              replace H : (doorwardref21_Assemble.l0 k1 l0 y184 l0 (l0.length : Int) (wrap64 (x17_1 + 1))) = some (r1, r2) := by first | (rw [hy184]; with_reducible exact H) | (have H2_ := (Option.bind_some _ _).symm.trans H; rw [hy184]; with_reducible exact H2_) | (have H2_ := (Option.bind_some _ _).symm.trans H; with_reducible exact H2_) | with_reducible exact H | (rw [hy184]; exact H) | exact H
                              have Ny184 := Aside0.mk hy184
                              clear hy184
                              have H' := Aside0.mk H
                              clear H
                              have p130 : 0 ≤ (x17_1 : Int) := of_decide_eq_true (by first | (with_reducible assumption) | assumption)
                              have q130 : x17_1 < (l0.length : Int) := of_decide_eq_true (by first | (with_reducible assumption) | assumption)
                              obtain ⟨ad130, e130, hx130_0, hx130_1, hx130_2, hx130_3⟩ := at_T40 HR0.out x17_1 p130 q130
                              cases e130
                              replace hx130_0 := (HB.out.cell (World.block_lt_of_cell? w _ hx130_0)).trans hx130_0
                              replace hx130_1 := (HB.out.cell (World.block_lt_of_cell? w _ hx130_1)).trans hx130_1
                              replace hx130_2 := (HB.out.cell (World.block_lt_of_cell? w _ hx130_2)).trans hx130_2
                              replace hx130_3 := (HB.out.cell (World.block_lt_of_cell? w _ hx130_3)).trans hx130_3
                              replace p130 := eq_true p130
                              replace q130 := eq_true q130
                              go_wp2_with (first | ((with_reducible refine gate_dst (N := 6) rfl ?_); refine box_event ?hg (N := 6) ?hd (cs := #[.int .i64 0, .int .u32 0, .int .i64 0, .int .i64 0]) (t := 40) ?hr ?_; (case hd => rfl); (case hg => rfl); (case hr => first | (go_simp; done) | (go_simp; rfl)); intro gb131 hg w75 hbox hb; have n0_ := Aside0.mk (Kd.R_below (by (with_reducible repeat (first | apply Kd.R_alloc | apply Kd.R_drewN | apply Kd.R_drew)); exact HO_4.out) hb); have n1_ := Aside0.mk (below_step (by repeat (first | (with_reducible first | exact HB.out | apply below_alloc | apply pw_below_drewN | apply below_drew1) | exact HB.out)) hb); have n2_ := Aside0.mk (hbox); have n3_ := Aside0.mk ((by rw [hg]; exact (below_size (by repeat (first | (with_reducible first | exact HB.out | apply below_alloc | apply pw_below_drewN | apply below_drew1) | exact HB.out))) : w.heap.size ≤ gb131)); have n4_ := Aside0.mk ((by rw [hg]; exact (below_size (by repeat (first | (with_reducible first | exact HB.out | apply below_alloc | apply pw_below_drewN | apply below_drew1) | exact HB.out))) : w.heap.size ≤ gb131)); clear HO_4; clear HB; have HO_4 := n0_; have HB := n1_; have BK131 := n2_; have GW131 := n3_; have GE131 := n4_; clear n0_ n1_ n2_ n3_ n4_; clear hb hbox hg; have hcz76_0 : w75.cell? ⟨gb131, 0, none⟩ = some (.int .i64 0) := (blk_cell BK131.out 0).trans rfl; have hcz76_1 : w75.cell? ⟨gb131, 1, none⟩ = some (.int .u32 0) := (blk_cell BK131.out 1).trans rfl; have hcz76_2 : w75.cell? ⟨gb131, 2, none⟩ = some (.int .i64 0) := (blk_cell BK131.out 2).trans rfl; have hcz76_3 : w75.cell? ⟨gb131, 3, none⟩ = some (.int .i64 0) := (blk_cell BK131.out 3).trans rfl; have hfz76_0 := blk_frozen BK131.out 0; have hfz76_1 := blk_frozen BK131.out 1; have hfz76_2 := blk_frozen BK131.out 2; have hfz76_3 := blk_frozen BK131.out 3; obtain ⟨Ao77, co77, eo77⟩ := Kd.R_slice HO_4.out; subst eo77) | ((with_reducible refine gate_callee (f := 98) rfl ?_); refine goesL_ (some 116) rfl rfl Try.func98 (by kernel_rfl) rfl #[.slice (some ad130) l0.length c0, .int .i64 x17_1, .int .i64 (x4_1.length : Int), .int .i64 ((rd_T40 l0 x17_1).f2)] rfl (by (try simp only [List.map_toArray, List.map_cons, List.map_nil]); first | done | rfl | (simp only [List.length_drop, List.length_take]; rfl)) ?_; (with_reducible refine (doorwardref21_ja.calls k1 _ _ l0 x17_1 (x4_1.length : Int) ((rd_T40 l0 x17_1).f2) t180 t181 t182 t183 _ ?side1 ?side2 A73.out).mono ?_); (case side1 => exact Kd.C_below HR0.out (by repeat (first | (with_reducible first | exact HB.out | apply below_alloc | apply pw_below_drewN | apply below_drew1 | refine below_set ?_ GE131.out) | exact HB.out))); (case side2 => exact HC0.out); rintro e w78 ⟨rfl, hb⟩; refine ⟨_, rfl, ?_⟩; have n0_ := Aside0.mk (Kd.R_below (by (with_reducible repeat (first | apply Kd.R_alloc | apply Kd.R_drewN | apply Kd.R_drew)); exact (Kd.R_mono (Kd.R_far (p := ⟨gb131, 3, none⟩) (Kd.R_far (p := ⟨gb131, 2, none⟩) (Kd.R_far (p := ⟨gb131, 1, none⟩) (Kd.R_far (p := ⟨gb131, 0, none⟩) (Kd.R_types HO_4.out BK131.out (by decide)) (fun _ hk => hk.2) (.int .i64 ((rd_T40 l0 x17_1).f0))) (fun _ hk => hk.2) (.int .u32 ((rd_T40 l0 x17_1).f1))) (fun _ hk => hk.2) (.int .i64 ((rd_T40 l0 x17_1).f2))) (fun _ hk => hk.2) (.int .i64 ((rd_T40 l0 x17_1).f3))) (fun _ h_ => h_.1))) hb); have n1_ := Aside0.mk (blk_below (g := gb131) (o := .cells #[.int .i64 ((rd_T40 l0 x17_1).f0), .int .u32 ((rd_T40 l0 x17_1).f1), .int .i64 ((rd_T40 l0 x17_1).f2), .int .i64 ((rd_T40 l0 x17_1).f3)] 40 (0, 0)) (by (with_reducible repeat (first | refine blk_drewN ?_ _ | refine blk_drew ?_ | refine blk_alloc ?_ _)); refine blk_put (cs := #[.int .i64 ((rd_T40 l0 x17_1).f0), .int .u32 ((rd_T40 l0 x17_1).f1), .int .i64 ((rd_T40 l0 x17_1).f2), .int .i64 0]) ?_ 3 _ rfl; (with_reducible repeat (first | refine blk_drewN ?_ _ | refine blk_drew ?_ | refine blk_alloc ?_ _)); refine blk_put (cs := #[.int .i64 ((rd_T40 l0 x17_1).f0), .int .u32 ((rd_T40 l0 x17_1).f1), .int .i64 0, .int .i64 0]) ?_ 2 _ rfl; (with_reducible repeat (first | refine blk_drewN ?_ _ | refine blk_drew ?_ | refine blk_alloc ?_ _)); refine blk_put (cs := #[.int .i64 ((rd_T40 l0 x17_1).f0), .int .u32 0, .int .i64 0, .int .i64 0]) ?_ 1 _ rfl; (with_reducible repeat (first | refine blk_drewN ?_ _ | refine blk_drew ?_ | refine blk_alloc ?_ _)); refine blk_put (cs := #[.int .i64 0, .int .u32 0, .int .i64 0, .int .i64 0]) ?_ 0 _ rfl; (with_reducible repeat (first | refine blk_drewN ?_ _ | refine blk_drew ?_ | refine blk_alloc ?_ _)); exact BK131.out) hb); have n2_ := Aside0.mk (below_step (by repeat (first | (with_reducible first | exact HB.out | apply below_alloc | apply pw_below_drewN | apply below_drew1 | refine below_set ?_ GE131.out) | exact HB.out)) hb); clear HO_4; clear BK131; clear HB; have HO_4 := n0_; have BK131 := n1_; have HB := n2_; clear n0_ n1_ n2_; (try clear hb); (try clear hb2); (try clear hk); (try clear hi)) | ((with_reducible refine gate_builtin (b := .append) (xs := #[.tmp 110, .tmp 117]) rfl ?_); at_builtin; refine Kd.R_append k28 (w0 := w) w.heap.size rfl (.tmp 110) (.tmp 117) 34 28 (.agg #[(.int .i64 0), (.int .i64 0), (.int .i64 0), (.int .u32 0)]) 32 rfl Try.underlying34 info28 rfl (by decide) (by omega) (.slice Ao77 x4_1.length co77) x4_1 (⟨t180, t181, t182, t183⟩ : S28) [.int .i64 t180, .int .i64 t181, .int .i64 t182, .int .u32 t183] (fun _ => True) (fun _ => False) rfl rfl ?aP (fun _ hk => hk.elim) ?aF ?aO ?aB ?aS ?aL ?_; (case aP => exact k28_mkM _ _ _ (⟨t180, t181, t182, t183⟩ : S28)); (case aB => exact (by repeat (first | (with_reducible first | exact HB.out | apply below_alloc | apply pw_below_drewN | apply below_drew1 | refine below_set ?_ GE131.out) | exact HB.out))); (case aF => exact (fun _ _ => trivial)); (case aO => exact (by (with_reducible repeat (first | apply Kd.R_alloc | apply Kd.R_drewN | apply Kd.R_drew)); exact HO_4.out)); (case aS => exact (below_size (by repeat (first | (with_reducible first | exact HB.out | apply below_alloc | apply pw_below_drewN | apply below_drew1 | refine below_set ?_ GE131.out) | exact HB.out)))); (case aL => have := LMc74.out; omega); intro v185 w79 ho hb hg hat; rw [← Ny184.out] at ho; have n0_ := Aside0.mk (blk_grown (g := gb131) (o := .cells #[.int .i64 ((rd_T40 l0 x17_1).f0), .int .u32 ((rd_T40 l0 x17_1).f1), .int .i64 ((rd_T40 l0 x17_1).f2), .int .i64 ((rd_T40 l0 x17_1).f3)] 40 (0, 0)) (by (with_reducible repeat (first | refine blk_drewN ?_ _ | refine blk_drew ?_ | refine blk_alloc ?_ _)); exact BK131.out) hg (Kd.R_ne HO_4.out BK131.out (by decide))); have n1_ := Aside0.mk (hb); have n2_ := Aside0.mk (ho); clear BK131; clear HB; clear HO_4; have BK131 := n0_; have HB := n1_; have HO186 := n2_; clear n0_ n1_ n2_; clear ho hb hg hat))
                              go_roundg k1
                              case measure => have := HK1.out; omega
                              case rel => exact ⟨(y184), (wrap64 (x17_1 + 1)), (by first | rfl | (simp; done) | (simp [*]; done)), H', ⟨by have := HK1.out; omega⟩, ⟨by (with_reducible repeat (first | apply Kd.R_alloc | apply Kd.R_drewN | apply Kd.R_drew)); exact HO186.out⟩, ⟨by repeat (first | (with_reducible first | exact HB.out | apply below_alloc | apply pw_below_drewN | apply below_drew1 | refine below_set ?_ GE131.out) | exact HB.out)⟩⟩
                            · rw [if_neg c74] at H
                              exact absurd H (by simp)
                          · rw [if_neg c72] at H
                            have c72b0 : (((rd_T40 l0 x17_1).f0) == 7) = false := beq_eq_false_iff_ne.mpr c72
                            have c72b1 : (((rd_T40 l0 x17_1).f0) != 7) = true := bne_iff_ne.mpr c72
                            by_cases c80 : ((rd_T40 l0 x17_1).f0) = 8
                            · rw [if_pos c80] at H
                              have c80b0 : (((rd_T40 l0 x17_1).f0) == 8) = true := beq_iff_eq.mpr c80
                              have c80b1 : (((rd_T40 l0 x17_1).f0) != 8) = false := bne_eq_false_iff_eq.mpr c80
                              clear c80
                              by_cases c81 : x4_1.length < 4398046511104
                              · rw [if_pos c81] at H
                                have LMc81 := Aside0.mk c81
                                clear c81
                                obtain ⟨y187, hy187⟩ : ∃ y_ : List (S28), y_ = (x4_1 ++ [(⟨6, 0, 0, (rd_T40 l0 x17_1).f1⟩ : S28)]) := ⟨_, rfl⟩
                                replace H : (doorwardref21_Assemble.l0 k1 l0 y187 l0 (l0.length : Int) (wrap64 (x17_1 + 1))) = some (r1, r2) := by first | (rw [hy187]; with_reducible exact H) | (have H2_ := (Option.bind_some _ _).symm.trans H; rw [hy187]; with_reducible exact H2_) | (have H2_ := (Option.bind_some _ _).symm.trans H; with_reducible exact H2_) | with_reducible exact H | (rw [hy187]; exact H) | exact H
                                have Ny187 := Aside0.mk hy187
                                clear hy187
                                have H' := Aside0.mk H
                                clear H
                                have p130 : 0 ≤ (x17_1 : Int) := of_decide_eq_true (by first | (with_reducible assumption) | assumption)
                                have q130 : x17_1 < (l0.length : Int) := of_decide_eq_true (by first | (with_reducible assumption) | assumption)
                                obtain ⟨ad130, e130, hx130_0, hx130_1, hx130_2, hx130_3⟩ := at_T40 HR0.out x17_1 p130 q130
                                cases e130
                                replace hx130_0 := (HB.out.cell (World.block_lt_of_cell? w _ hx130_0)).trans hx130_0
                                replace hx130_1 := (HB.out.cell (World.block_lt_of_cell? w _ hx130_1)).trans hx130_1
                                replace hx130_2 := (HB.out.cell (World.block_lt_of_cell? w _ hx130_2)).trans hx130_2
                                replace hx130_3 := (HB.out.cell (World.block_lt_of_cell? w _ hx130_3)).trans hx130_3
                                replace p130 := eq_true p130
                                replace q130 := eq_true q130
                                go_wp2_with (first | ((with_reducible refine gate_dst (N := 6) rfl ?_); refine box_event ?hg (N := 6) ?hd (cs := #[.int .i64 0, .int .u32 0, .int .i64 0, .int .i64 0]) (t := 40) ?hr ?_; (case hd => rfl); (case hg => rfl); (case hr => first | (go_simp; done) | (go_simp; rfl)); intro gb131 hg w82 hbox hb; have n0_ := Aside0.mk (Kd.R_below (by (with_reducible repeat (first | apply Kd.R_alloc | apply Kd.R_drewN | apply Kd.R_drew)); exact HO_4.out) hb); have n1_ := Aside0.mk (below_step (by repeat (first | (with_reducible first | exact HB.out | apply below_alloc | apply pw_below_drewN | apply below_drew1) | exact HB.out)) hb); have n2_ := Aside0.mk (hbox); have n3_ := Aside0.mk ((by rw [hg]; exact (below_size (by repeat (first | (with_reducible first | exact HB.out | apply below_alloc | apply pw_below_drewN | apply below_drew1) | exact HB.out))) : w.heap.size ≤ gb131)); have n4_ := Aside0.mk ((by rw [hg]; exact (below_size (by repeat (first | (with_reducible first | exact HB.out | apply below_alloc | apply pw_below_drewN | apply below_drew1) | exact HB.out))) : w.heap.size ≤ gb131)); clear HO_4; clear HB; have HO_4 := n0_; have HB := n1_; have BK131 := n2_; have GW131 := n3_; have GE131 := n4_; clear n0_ n1_ n2_ n3_ n4_; clear hb hbox hg; have hcz83_0 : w82.cell? ⟨gb131, 0, none⟩ = some (.int .i64 0) := (blk_cell BK131.out 0).trans rfl; have hcz83_1 : w82.cell? ⟨gb131, 1, none⟩ = some (.int .u32 0) := (blk_cell BK131.out 1).trans rfl; have hcz83_2 : w82.cell? ⟨gb131, 2, none⟩ = some (.int .i64 0) := (blk_cell BK131.out 2).trans rfl; have hcz83_3 : w82.cell? ⟨gb131, 3, none⟩ = some (.int .i64 0) := (blk_cell BK131.out 3).trans rfl; have hfz83_0 := blk_frozen BK131.out 0; have hfz83_1 := blk_frozen BK131.out 1; have hfz83_2 := blk_frozen BK131.out 2; have hfz83_3 := blk_frozen BK131.out 3; obtain ⟨Ao84, co84, eo84⟩ := Kd.R_slice HO_4.out; subst eo84) | ((with_reducible refine gate_builtin (b := .append) (xs := #[.tmp 121, .tmp 125]) rfl ?_); at_builtin; refine Kd.R_append k28 (w0 := w) w.heap.size rfl (.tmp 121) (.tmp 125) 34 28 (.agg #[(.int .i64 0), (.int .i64 0), (.int .i64 0), (.int .u32 0)]) 32 rfl Try.underlying34 info28 rfl (by decide) (by omega) (.slice Ao84 x4_1.length co84) x4_1 (⟨6, 0, 0, (rd_T40 l0 x17_1).f1⟩ : S28) [.int .i64 6, .int .i64 0, .int .i64 0, .int .u32 ((rd_T40 l0 x17_1).f1)] (fun _ => True) (fun _ => False) rfl (by first | (go_simp; done) | (go_simp; rfl)) ?aP (fun _ hk => hk.elim) ?aF ?aO ?aB ?aS ?aL ?_; (case aP => exact k28_mkM _ _ _ (⟨6, 0, 0, (rd_T40 l0 x17_1).f1⟩ : S28)); (case aB => exact (by repeat (first | (with_reducible first | exact HB.out | apply below_alloc | apply pw_below_drewN | apply below_drew1 | refine below_set ?_ GE131.out) | exact HB.out))); (case aF => exact (fun _ _ => trivial)); (case aO => exact (by (with_reducible repeat (first | apply Kd.R_alloc | apply Kd.R_drewN | apply Kd.R_drew)); exact Kd.R_mono (Kd.R_far (p := ⟨gb131, 3, none⟩) (Kd.R_far (p := ⟨gb131, 2, none⟩) (Kd.R_far (p := ⟨gb131, 1, none⟩) (Kd.R_far (p := ⟨gb131, 0, none⟩) (Kd.R_types HO_4.out BK131.out (by decide)) (fun _ hk => hk.2) (.int .i64 ((rd_T40 l0 x17_1).f0))) (fun _ hk => hk.2) (.int .u32 ((rd_T40 l0 x17_1).f1))) (fun _ hk => hk.2) (.int .i64 ((rd_T40 l0 x17_1).f2))) (fun _ hk => hk.2) (.int .i64 ((rd_T40 l0 x17_1).f3))) (fun _ hk => trivial))); (case aS => exact (below_size (by repeat (first | (with_reducible first | exact HB.out | apply below_alloc | apply pw_below_drewN | apply below_drew1 | refine below_set ?_ GE131.out) | exact HB.out)))); (case aL => have := LMc81.out; omega); intro v188 w85 ho hb hg hat; rw [← Ny187.out] at ho; have n0_ := Aside0.mk (blk_grown (g := gb131) (o := .cells #[.int .i64 ((rd_T40 l0 x17_1).f0), .int .u32 ((rd_T40 l0 x17_1).f1), .int .i64 ((rd_T40 l0 x17_1).f2), .int .i64 ((rd_T40 l0 x17_1).f3)] 40 (0, 0)) (by (with_reducible repeat (first | refine blk_drewN ?_ _ | refine blk_drew ?_ | refine blk_alloc ?_ _)); refine blk_put (cs := #[.int .i64 ((rd_T40 l0 x17_1).f0), .int .u32 ((rd_T40 l0 x17_1).f1), .int .i64 ((rd_T40 l0 x17_1).f2), .int .i64 0]) ?_ 3 _ rfl; (with_reducible repeat (first | refine blk_drewN ?_ _ | refine blk_drew ?_ | refine blk_alloc ?_ _)); refine blk_put (cs := #[.int .i64 ((rd_T40 l0 x17_1).f0), .int .u32 ((rd_T40 l0 x17_1).f1), .int .i64 0, .int .i64 0]) ?_ 2 _ rfl; (with_reducible repeat (first | refine blk_drewN ?_ _ | refine blk_drew ?_ | refine blk_alloc ?_ _)); refine blk_put (cs := #[.int .i64 ((rd_T40 l0 x17_1).f0), .int .u32 0, .int .i64 0, .int .i64 0]) ?_ 1 _ rfl; (with_reducible repeat (first | refine blk_drewN ?_ _ | refine blk_drew ?_ | refine blk_alloc ?_ _)); refine blk_put (cs := #[.int .i64 0, .int .u32 0, .int .i64 0, .int .i64 0]) ?_ 0 _ rfl; (with_reducible repeat (first | refine blk_drewN ?_ _ | refine blk_drew ?_ | refine blk_alloc ?_ _)); exact BK131.out) hg (Kd.R_ne HO_4.out BK131.out (by decide))); have n1_ := Aside0.mk (hb); have n2_ := Aside0.mk (ho); clear BK131; clear HB; clear HO_4; have BK131 := n0_; have HB := n1_; have HO189 := n2_; clear n0_ n1_ n2_; clear ho hb hg hat))
                                go_roundg k1
                                case measure => have := HK1.out; omega
                                case rel => exact ⟨(y187), (wrap64 (x17_1 + 1)), (by first | rfl | (simp; done) | (simp [*]; done)), H', ⟨by have := HK1.out; omega⟩, ⟨by (with_reducible repeat (first | apply Kd.R_alloc | apply Kd.R_drewN | apply Kd.R_drew)); exact HO189.out⟩, ⟨by repeat (first | (with_reducible first | exact HB.out | apply below_alloc | apply pw_below_drewN | apply below_drew1 | refine below_set ?_ GE131.out) | exact HB.out)⟩⟩
                              · rw [if_neg c81] at H
                                exact absurd H (by simp)
                            · rw [if_neg c80] at H
                              have c80b0 : (((rd_T40 l0 x17_1).f0) == 8) = false := beq_eq_false_iff_ne.mpr c80
                              have c80b1 : (((rd_T40 l0 x17_1).f0) != 8) = true := bne_iff_ne.mpr c80
                              have H' := Aside0.mk H
                              clear H
                              have p130 : 0 ≤ (x17_1 : Int) := of_decide_eq_true (by first | (with_reducible assumption) | assumption)
                              have q130 : x17_1 < (l0.length : Int) := of_decide_eq_true (by first | (with_reducible assumption) | assumption)
                              obtain ⟨ad130, e130, hx130_0, hx130_1, hx130_2, hx130_3⟩ := at_T40 HR0.out x17_1 p130 q130
                              cases e130
                              replace hx130_0 := (HB.out.cell (World.block_lt_of_cell? w _ hx130_0)).trans hx130_0
                              replace hx130_1 := (HB.out.cell (World.block_lt_of_cell? w _ hx130_1)).trans hx130_1
                              replace hx130_2 := (HB.out.cell (World.block_lt_of_cell? w _ hx130_2)).trans hx130_2
                              replace hx130_3 := (HB.out.cell (World.block_lt_of_cell? w _ hx130_3)).trans hx130_3
                              replace p130 := eq_true p130
                              replace q130 := eq_true q130
                              go_wp2_with (first | ((with_reducible refine gate_dst (N := 6) rfl ?_); refine box_event ?hg (N := 6) ?hd (cs := #[.int .i64 0, .int .u32 0, .int .i64 0, .int .i64 0]) (t := 40) ?hr ?_; (case hd => rfl); (case hg => rfl); (case hr => first | (go_simp; done) | (go_simp; rfl)); intro gb131 hg w86 hbox hb; have n0_ := Aside0.mk (Kd.R_below (by (with_reducible repeat (first | apply Kd.R_alloc | apply Kd.R_drewN | apply Kd.R_drew)); exact HO_4.out) hb); have n1_ := Aside0.mk (below_step (by repeat (first | (with_reducible first | exact HB.out | apply below_alloc | apply pw_below_drewN | apply below_drew1) | exact HB.out)) hb); have n2_ := Aside0.mk (hbox); have n3_ := Aside0.mk ((by rw [hg]; exact (below_size (by repeat (first | (with_reducible first | exact HB.out | apply below_alloc | apply pw_below_drewN | apply below_drew1) | exact HB.out))) : w.heap.size ≤ gb131)); have n4_ := Aside0.mk ((by rw [hg]; exact (below_size (by repeat (first | (with_reducible first | exact HB.out | apply below_alloc | apply pw_below_drewN | apply below_drew1) | exact HB.out))) : w.heap.size ≤ gb131)); clear HO_4; clear HB; have HO_4 := n0_; have HB := n1_; have BK131 := n2_; have GW131 := n3_; have GE131 := n4_; clear n0_ n1_ n2_ n3_ n4_; clear hb hbox hg; have hcz87_0 : w86.cell? ⟨gb131, 0, none⟩ = some (.int .i64 0) := (blk_cell BK131.out 0).trans rfl; have hcz87_1 : w86.cell? ⟨gb131, 1, none⟩ = some (.int .u32 0) := (blk_cell BK131.out 1).trans rfl; have hcz87_2 : w86.cell? ⟨gb131, 2, none⟩ = some (.int .i64 0) := (blk_cell BK131.out 2).trans rfl; have hcz87_3 : w86.cell? ⟨gb131, 3, none⟩ = some (.int .i64 0) := (blk_cell BK131.out 3).trans rfl; have hfz87_0 := blk_frozen BK131.out 0; have hfz87_1 := blk_frozen BK131.out 1; have hfz87_2 := blk_frozen BK131.out 2; have hfz87_3 := blk_frozen BK131.out 3; obtain ⟨Ao88, co88, eo88⟩ := Kd.R_slice HO_4.out; subst eo88))
                              go_roundg k1
                              case measure => have := HK1.out; omega
                              case rel => exact ⟨(x4_1), (wrap64 (x17_1 + 1)), (by first | rfl | (simp; done) | (simp [*]; done)), H', ⟨by have := HK1.out; omega⟩, ⟨by (with_reducible repeat (first | apply Kd.R_alloc | apply Kd.R_drewN | apply Kd.R_drew)); exact Kd.R_mono (Kd.R_far (p := ⟨gb131, 3, none⟩) (Kd.R_far (p := ⟨gb131, 2, none⟩) (Kd.R_far (p := ⟨gb131, 1, none⟩) (Kd.R_far (p := ⟨gb131, 0, none⟩) (Kd.R_types HO_4.out BK131.out (by decide)) (fun _ hk => hk.2) (.int .i64 ((rd_T40 l0 x17_1).f0))) (fun _ hk => hk.2) (.int .u32 ((rd_T40 l0 x17_1).f1))) (fun _ hk => hk.2) (.int .i64 ((rd_T40 l0 x17_1).f2))) (fun _ hk => hk.2) (.int .i64 ((rd_T40 l0 x17_1).f3))) (fun _ hk => trivial)⟩, ⟨by repeat (first | (with_reducible first | exact HB.out | apply below_alloc | apply pw_below_drewN | apply below_drew1 | refine below_set ?_ GE131.out) | exact HB.out)⟩⟩
              · rw [if_neg c14] at H
                exact absurd H (by simp)
            · rw [if_neg c13] at H
              exact absurd H (by simp)
          · rw [if_neg c12] at H
            have c12b0 : decide (x17_1 < (l0.length : Int)) = false := decide_eq_false c12
            clear c12
            simp only [Option.some.injEq, Prod.mk.injEq] at H
            obtain ⟨rfl, rfl⟩ := H
            go_wp2
            go_ret2
            exact ⟨_, by first | rfl | (simp [errW_none, errW_some] <;> rfl) | (simp [*, errW_none, errW_some] <;> rfl), by (with_reducible repeat (first | apply Kd.R_alloc | apply Kd.R_drewN | apply Kd.R_drew)); exact HO_4.out, by repeat (first | (with_reducible first | exact HB.out | apply below_alloc | apply pw_below_drewN | apply below_drew1) | exact HB.out)⟩
  · replace c3 := Bool.eq_false_iff.mpr c3
    subst c3
    have H1 : (some (([] : List (S28)), 1)) = some (r1, r2) := by rw [if_neg (show ¬ (false = true) by decide)] at H; exact H
    clear H
    have H := H1
    clear H1
    simp only [Option.some.injEq, Prod.mk.injEq] at H
    obtain ⟨rfl, rfl⟩ := H
    go_enter Try.func52, Try.ntmps52
    go_wp2_with (first | ((with_reducible refine gate_callee (f := 97) rfl ?_); refine goesL_ (some 9) rfl rfl Try.func97 (by kernel_rfl) rfl #[.slice A0 l0.length c0] rfl (by (try simp only [List.map_toArray, List.map_cons, List.map_nil]); first | done | rfl | (simp only [List.length_drop, List.length_take]; rfl)) ?_; (with_reducible refine (doorwardref21_fits.calls k _ _ l0 false _ ?side1 ?side2 A2.out).mono ?_); (case side1 => repeat (first | exact HR0.out | (with_reducible refine Kd.C_alloc ?_ _) | (with_reducible refine Kd.C_drewN ?_ _) | (with_reducible refine Kd.C_drew ?_))); (case side2 => exact HC0.out); rintro e w89 ⟨rfl, hb⟩; refine ⟨_, rfl, ?_⟩; have n0_ := Aside0.mk (below_step (by repeat (first | (with_reducible first | exact HB.out | apply below_alloc | apply pw_below_drewN | apply below_drew1) | exact HB.out)) hb); clear HB; have HB := n0_; clear n0_; (try clear hb); (try clear hb2); (try clear hk); (try clear hi)))
    go_ret2
    exact ⟨_, by first | rfl | (simp [errW_none, errW_some] <;> rfl) | (simp [*, errW_none, errW_some] <;> rfl), by first | exact Kd.R_nil _ _ _ _ _ | exact Kd.N_nil _ _ _ _ _ | exact Kd.V_nil _ _ _ _ _ | exact Kd.Q_nil _ _ _ _ _ | exact Kd.S_nil _ _ _ _ _, by repeat (first | (with_reducible first | exact HB.out | apply below_alloc | apply pw_below_drewN | apply below_drew1) | exact HB.out)⟩
end Go.Proofs.Ytefkhcijgiagdaa.E1
end
section
namespace Go.Proofs.Ytefkhcijgiagdaa.E1
open Go.RowKit Go.Proofs.YtefkhcijgiagdaaW.PrintWords Go.Proofs.YtefkhcijgiagdaaW.PrintLast Go.Proofs.YtefkhcijgiagdaaW.PrintMore
attribute [local go_sem] max2_int min2_int max_two min_two max_three min_three max_four min_four IntKind.wrap_u32 IntKind.wrap_u8   -- for this text's walks alone
set_option linter.unusedVariables false
open Go.Proofs.Ytefkhcijgiagdaa.Le Go.Proofs.Ytefkhcijgiagdaa.I1
set_option linter.unusedSimpArgs false
def doorwardlaw21_few.f (l0 : List (S40)) : Option ((List (S40))) := if (l0.length : Int) > 200 then (if (l0.length : Int) < 4096 then (if 200 ≤ (l0.length : Int) then (some (l0.take 200)) else (none)) else (if 0 ≤ (mn (l0.length : Int) 4100) then (if (mn (l0.length : Int) 4100) ≤ (l0.length : Int) then (some (l0.take ((mn (l0.length : Int) 4100) : Int).toNat)) else (none)) else (none))) else (if 0 ≤ (mn (l0.length : Int) 4100) then (if (mn (l0.length : Int) 4100) ≤ (l0.length : Int) then (some (l0.take ((mn (l0.length : Int) 4100) : Int).toNat)) else (none)) else (none))
set_option maxHeartbeats 8000000 in
set_option maxRecDepth 100000 in
theorem doorwardlaw21_few.calls (P0_ : Nat → Prop) (A0 : Option Addr) (c0 : Nat) (l0 : List (S40)) (r : List (S40)) (w : World) (hs0 : Kd.V k40 40 w w.heap.size (fun k_ => P0_ k_) (.slice A0 l0.length c0) l0) (h : doorwardlaw21_few.f l0 = some r) :
    Calls Try.prog 49 #[.slice A0 l0.length c0] w fun e w' => ∃ v0_ : Value, e = .returned (v0_) ∧ Kd.V k40 40 w' w.heap.size (fun k_ => (P0_ k_ ∨ w.heap.size ≤ k_)) v0_ r ∧ Below w.heap.size w w' := by
  have HO0 := Aside0.mk (show Kd.V k40 40 w w.heap.size (fun k_ => (P0_ k_ ∨ w.heap.size ≤ k_)) (.slice A0 l0.length c0) l0 from Kd.V_mono hs0 (fun k_ hk => .inl hk))
  have HB := Aside0.mk (Below.refl w.heap.size w)
  have H : (if (l0.length : Int) > 200 then (if (l0.length : Int) < 4096 then (if 200 ≤ (l0.length : Int) then (some (l0.take 200)) else (none)) else (if 0 ≤ (mn (l0.length : Int) 4100) then (if (mn (l0.length : Int) 4100) ≤ (l0.length : Int) then (some (l0.take ((mn (l0.length : Int) 4100) : Int).toNat)) else (none)) else (none))) else (if 0 ≤ (mn (l0.length : Int) 4100) then (if (mn (l0.length : Int) 4100) ≤ (l0.length : Int) then (some (l0.take ((mn (l0.length : Int) 4100) : Int).toNat)) else (none)) else (none))) = some r := h
  clear h
  by_cases c2 : (l0.length : Int) > 200
  · rw [if_pos c2] at H
    have c2b0 : decide (200 < (l0.length : Int)) = true := decide_eq_true c2
    have c2b1 : decide (200 < l0.length) = true := decide_eq_true (by omega)
    clear c2
    by_cases c3 : (l0.length : Int) < 4096
    · rw [if_pos c3] at H
      have c3b0 : decide ((l0.length : Int) < 4096) = true := decide_eq_true c3
      have c3b1 : decide (l0.length < 4096) = true := decide_eq_true (by omega)
      clear c3
      by_cases c4 : 200 ≤ (l0.length : Int)
      · rw [if_pos c4] at H
        have c4b0 := eq_true c4
        have c4b1 : decide (200 ≤ (l0.length : Int)) = true := decide_eq_true c4
        clear c4
        obtain ⟨y190, hy190⟩ : ∃ y_ : List (S40), y_ = (l0.take 200) := ⟨_, rfl⟩
        replace H : (some y190) = some r := by first | (rw [hy190]; with_reducible exact H) | (have H2_ := (Option.bind_some _ _).symm.trans H; rw [hy190]; with_reducible exact H2_) | (have H2_ := (Option.bind_some _ _).symm.trans H; with_reducible exact H2_) | with_reducible exact H | (rw [hy190]; exact H) | exact H
        have Ny190 := Aside0.mk hy190
        clear hy190
        obtain rfl := Option.some.inj H
        have q5 : (200 : Int) ≤ ((l0.length : Int) : Int) := of_decide_eq_true (by first | (with_reducible assumption) | assumption)
        obtain ⟨i05, hi05, _, hsz5, _⟩ := info_parts info40
        have hroom5 : l0.length ≤ c0 := (Kd.V_reads' HO0.out).2.1
        have hC5 : Kd.F k40 _ _ A0 l0.length l0 := (Kd.V_at (base := w.heap.size) HO0.out).2.2
        have hcut5 := cut_to (P := Try.prog) 33 40 .i64 Try.underlying33 hi05 A0 l0.length c0 200 (by omega) q5 hroom5
        have hr5 := Kd.F_take (m := 200) hC5 (by omega)
        have hy5 : y190.length = (200 : Int).toNat := (by rw [Ny190.out, List.length_take]; omega)
        rw [← Ny190.out] at hr5
        rw [← hy5] at hcut5
        have HO194 := Aside0.mk (show Kd.V k40 40 _ w.heap.size _ (.slice A0 y190.length c0) y190 from Kd.V_mk (by omega) hr5)
        have HC194 := Aside0.mk (show y190.length ≤ c0 from by omega)
        clear hr5 hC5 hroom5 hi05 hsz5
        have KY5 := Aside0.mk hy5
        clear hy5
        replace q5 := eq_true q5
        go_enter Try.func49, Try.ntmps49
        go_wp2
        go_ret
        exact ⟨_, by first | rfl | (simp [errW_none, errW_some] <;> rfl) | (simp [*, errW_none, errW_some] <;> rfl), by (with_reducible repeat (first | apply Kd.V_alloc | apply Kd.V_drewN | apply Kd.V_drew)); exact HO194.out, by repeat (first | (with_reducible first | exact HB.out | apply below_alloc | apply pw_below_drewN | apply below_drew1) | exact HB.out)⟩
      · rw [if_neg c4] at H
        exact absurd H (by simp)
    · rw [if_neg c3] at H
      have c3b0 : decide ((l0.length : Int) < 4096) = false := decide_eq_false c3
      have c3b1 : decide (l0.length < 4096) = false := decide_eq_false (by omega)
      clear c3
      obtain ⟨ji6, hji6⟩ : ∃ j_ : Int, (mn (l0.length : Int) 4100) = j_ := ⟨_, rfl⟩
      replace H : (if 0 ≤ (ji6) then (if (ji6) ≤ (l0.length : Int) then (some (l0.take ((ji6) : Int).toNat)) else (none)) else (none)) = some r := by first | (rw [hji6] at H; exact H) | (simp only [hji6] at H ⊢; exact H)
      (try (have hji6h : ji6 ≤ 4100 := by (rw [← hji6]; unfold mn; (repeat' split) <;> omega)))
      (try (have hji6g : ji6 ≤ 64 := by omega))
      (try (have hji6l : 0 ≤ ji6 := by (rw [← hji6]; unfold mn; (repeat' split) <;> omega)))
      (try (have hji6m : 0 ≤ ji6 := by omega))
      have hji6_ : (if 4100 < (l0.length : Int) then 4100 else (l0.length : Int)) = ji6 := hji6
      by_cases c7 : 0 ≤ (ji6)
      · rw [if_pos c7] at H
        have c7b0 := eq_true c7
        have c7b1 : decide (0 ≤ (ji6)) = true := decide_eq_true c7
        clear c7
        by_cases c8 : (ji6) ≤ (l0.length : Int)
        · rw [if_pos c8] at H
          have c8b0 := eq_true c8
          have c8b1 : decide ((ji6) ≤ (l0.length : Int)) = true := decide_eq_true c8
          clear c8
          obtain ⟨y195, hy195⟩ : ∃ y_ : List (S40), y_ = (l0.take ((ji6) : Int).toNat) := ⟨_, rfl⟩
          replace H : (some y195) = some r := by first | (rw [hy195]; with_reducible exact H) | (have H2_ := (Option.bind_some _ _).symm.trans H; rw [hy195]; with_reducible exact H2_) | (have H2_ := (Option.bind_some _ _).symm.trans H; with_reducible exact H2_) | with_reducible exact H | (rw [hy195]; exact H) | exact H
          have Ny195 := Aside0.mk hy195
          clear hy195
          obtain rfl := Option.some.inj H
          have q9 : ((ji6) : Int) ≤ ((l0.length : Int) : Int) := of_decide_eq_true (by first | (with_reducible assumption) | assumption)
          obtain ⟨i09, hi09, _, hsz9, _⟩ := info_parts info40
          have hroom9 : l0.length ≤ c0 := (Kd.V_reads' HO0.out).2.1
          have hC9 : Kd.F k40 _ _ A0 l0.length l0 := (Kd.V_at (base := w.heap.size) HO0.out).2.2
          have hcut9 := cut_to (P := Try.prog) 33 40 .i64 Try.underlying33 hi09 A0 l0.length c0 (ji6) (of_decide_eq_true (by first | (with_reducible assumption) | assumption)) q9 hroom9
          have hr9 := Kd.F_take (m := ((ji6) : Int).toNat) hC9 (by omega)
          have hy9 : y195.length = ((ji6) : Int).toNat := (by rw [Ny195.out, List.length_take]; omega)
          rw [← Ny195.out] at hr9
          rw [← hy9] at hcut9
          have HO199 := Aside0.mk (show Kd.V k40 40 _ w.heap.size _ (.slice A0 y195.length c0) y195 from Kd.V_mk (by omega) hr9)
          have HC199 := Aside0.mk (show y195.length ≤ c0 from by omega)
          clear hr9 hC9 hroom9 hi09 hsz9
          have KY9 := Aside0.mk hy9
          clear hy9
          replace q9 := eq_true q9
          go_enter Try.func49, Try.ntmps49
          go_wp2
          go_ret
          exact ⟨_, by first | rfl | (simp [errW_none, errW_some] <;> rfl) | (simp only [← hji6]; first | rfl | (simp [errW_none, errW_some] <;> rfl)) | (simp [*, errW_none, errW_some] <;> rfl), by (with_reducible repeat (first | apply Kd.V_alloc | apply Kd.V_drewN | apply Kd.V_drew)); exact HO199.out, by repeat (first | (with_reducible first | exact HB.out | apply below_alloc | apply pw_below_drewN | apply below_drew1) | exact HB.out)⟩
        · rw [if_neg c8] at H
          exact absurd H (by simp)
      · rw [if_neg c7] at H
        exact absurd H (by simp)
  · rw [if_neg c2] at H
    have c2b0 : decide (200 < (l0.length : Int)) = false := decide_eq_false c2
    have c2b1 : decide (200 < l0.length) = false := decide_eq_false (by omega)
    clear c2
    obtain ⟨ji10, hji10⟩ : ∃ j_ : Int, (mn (l0.length : Int) 4100) = j_ := ⟨_, rfl⟩
    replace H : (if 0 ≤ (ji10) then (if (ji10) ≤ (l0.length : Int) then (some (l0.take ((ji10) : Int).toNat)) else (none)) else (none)) = some r := by first | (rw [hji10] at H; exact H) | (simp only [hji10] at H ⊢; exact H)
    (try (have hji10h : ji10 ≤ 4100 := by (rw [← hji10]; unfold mn; (repeat' split) <;> omega)))
    (try (have hji10g : ji10 ≤ 64 := by omega))
    (try (have hji10l : 0 ≤ ji10 := by (rw [← hji10]; unfold mn; (repeat' split) <;> omega)))
    (try (have hji10m : 0 ≤ ji10 := by omega))
    have hji10_ : (if 4100 < (l0.length : Int) then 4100 else (l0.length : Int)) = ji10 := hji10
    by_cases c11 : 0 ≤ (ji10)
    · rw [if_pos c11] at H
      have c11b0 := eq_true c11
      have c11b1 : decide (0 ≤ (ji10)) = true := decide_eq_true c11
      clear c11
      by_cases c12 : (ji10) ≤ (l0.length : Int)
      · rw [if_pos c12] at H
        have c12b0 := eq_true c12
        have c12b1 : decide ((ji10) ≤ (l0.length : Int)) = true := decide_eq_true c12
        clear c12
        obtain ⟨y200, hy200⟩ : ∃ y_ : List (S40), y_ = (l0.take ((ji10) : Int).toNat) := ⟨_, rfl⟩
        replace H : (some y200) = some r := by first | (rw [hy200]; with_reducible exact H) | (have H2_ := (Option.bind_some _ _).symm.trans H; rw [hy200]; with_reducible exact H2_) | (have H2_ := (Option.bind_some _ _).symm.trans H; with_reducible exact H2_) | with_reducible exact H | (rw [hy200]; exact H) | exact H
        have Ny200 := Aside0.mk hy200
        clear hy200
        obtain rfl := Option.some.inj H
        have q13 : ((ji10) : Int) ≤ ((l0.length : Int) : Int) := of_decide_eq_true (by first | (with_reducible assumption) | assumption)
        obtain ⟨i013, hi013, _, hsz13, _⟩ := info_parts info40
        have hroom13 : l0.length ≤ c0 := (Kd.V_reads' HO0.out).2.1
        have hC13 : Kd.F k40 _ _ A0 l0.length l0 := (Kd.V_at (base := w.heap.size) HO0.out).2.2
        have hcut13 := cut_to (P := Try.prog) 33 40 .i64 Try.underlying33 hi013 A0 l0.length c0 (ji10) (of_decide_eq_true (by first | (with_reducible assumption) | assumption)) q13 hroom13
        have hr13 := Kd.F_take (m := ((ji10) : Int).toNat) hC13 (by omega)
        have hy13 : y200.length = ((ji10) : Int).toNat := (by rw [Ny200.out, List.length_take]; omega)
        rw [← Ny200.out] at hr13
        rw [← hy13] at hcut13
        have HO204 := Aside0.mk (show Kd.V k40 40 _ w.heap.size _ (.slice A0 y200.length c0) y200 from Kd.V_mk (by omega) hr13)
        have HC204 := Aside0.mk (show y200.length ≤ c0 from by omega)
        clear hr13 hC13 hroom13 hi013 hsz13
        have KY13 := Aside0.mk hy13
        clear hy13
        replace q13 := eq_true q13
        go_enter Try.func49, Try.ntmps49
        go_wp2
        go_ret
        exact ⟨_, by first | rfl | (simp [errW_none, errW_some] <;> rfl) | (simp only [← hji10]; first | rfl | (simp [errW_none, errW_some] <;> rfl)) | (simp [*, errW_none, errW_some] <;> rfl), by (with_reducible repeat (first | apply Kd.V_alloc | apply Kd.V_drewN | apply Kd.V_drew)); exact HO204.out, by repeat (first | (with_reducible first | exact HB.out | apply below_alloc | apply pw_below_drewN | apply below_drew1) | exact HB.out)⟩
      · rw [if_neg c12] at H
        exact absurd H (by simp)
    · rw [if_neg c11] at H
      exact absurd H (by simp)
end Go.Proofs.Ytefkhcijgiagdaa.E1
end
section
namespace Go.Proofs.Ytefkhcijgiagdaa.HAsm
open Go.RowKit Go.Proofs.YtefkhcijgiagdaaW.PrintWords Go.Proofs.YtefkhcijgiagdaaW.PrintLast Go.Proofs.YtefkhcijgiagdaaW.PrintMore Go.Proofs.Ytefkhcijgiagdaa.I1
set_option linter.unusedVariables false
set_option linter.unusedSimpArgs false
set_option maxRecDepth 100000
theorem law3 : Maps.Keyed Try.prog 3 := Maps.int_keyed Try.underlying3
theorem zero3 (w : World) : (zeroValue 3).run Try.prog w = .ok (.int .i64 0) w := by kernel_rfl
def MapIs (w : World) (b n : Nat) (L : Int → Option Int) : Prop :=
  ∃ D : DataW Unit, w.ownsMap Try.prog 3 (plainElem Try.prog 3) b n D ∧ Maps.IsMap D ∧ ∀ (k : Int) (z : DataW Unit), D.atKey (.int .i64 k) z = match L k with | some v => .lit (.int .i64 v) | none => z
theorem MapIs.lt {w : World} {b n : Nat} {L : Int → Option Int} (h : MapIs w b n L) : b < w.heap.size := by obtain ⟨D, h, _⟩ := h; exact h.lt
theorem MapIs.kept {w w' : World} {b n : Nat} {L : Int → Option Int} (h : MapIs w b n L) (he : w'.heap[b]? = w.heap[b]?) : MapIs w' b n L := by
  obtain ⟨D, ⟨es, clock, hb, F, hs, hD⟩, h2⟩ := h
  exact ⟨D, ⟨es, clock, he.trans hb, F, hs, hD⟩, h2⟩
theorem MapIs.made (w : World) : MapIs (w.alloc (.map #[] 0)) w.heap.size 0 (fun _ => none) := ⟨.map [], World.ownsMap_made _ _ _ _, Maps.isMap_empty, fun _ _ => rfl⟩
theorem MapIs.look {w : World} {b n : Nat} {L : Int → Option Int} (h : MapIs w b n L) (k : Int) (hk : (Lit.int .i64 k).wf = true) :
    (Instr.lookup 105 (.map (some b)) (.int .i64 k) true).run Try.prog w = .ok (.tuple #[.int .i64 ((L k).getD 0), .bool (L k).isSome]) w := by
  obtain ⟨D, ho, hm, hat⟩ := h
  obtain ⟨v, ps, hrun, hv⟩ := ho.look_ok (t := 105) (e := 3) law3 Try.underlying105 (zero3 w) (plainElem_int Try.underlying3 (by decide)) (Maps.keyOf_int_mk Try.underlying3 hk)
  rw [hrun]
  have e1 : Maps.has D (.int .i64 k) = (L k).isSome := by
    cases hL : L k with
    | none => exact Maps.has_false_of_atKey (fun z => by rw [hat, hL])
    | some x => exact Maps.has_true_of_atKey (y := .lit (.int .i64 x)) (fun z => by rw [hat, hL])
  have e2 : v = .int .i64 ((L k).getD 0) := by
    obtain ⟨c, rfl, hc, _⟩ := plainElem_int_inv Try.underlying3 hv
    rw [hat] at hc
    cases hL : L k with
    | none => rw [hL] at hc; cases hc; rfl
    | some x => rw [hL] at hc; cases hc; rfl
  rw [e1, e2]
theorem MapIs.store {w : World} {b n : Nat} {L : Int → Option Int} (h : MapIs w b n L) (hn : n < 1000000) (k v : Int) (hk : (Lit.int .i64 k).wf = true) (hv : (Lit.int .i64 v).wf = true) :
    ∃ w', (Instr.mapUpdate 105 (.map (some b)) (.int .i64 k) (.int .i64 v)).run Try.prog w = .ok () w' ∧ MapIs w' b (n + 1) (fun x => if x = k then some v else L x) ∧ w.grownBy w' (some b) := by
  obtain ⟨D, ho, hm, hat⟩ := h
  obtain ⟨w', hrun, ho', hg⟩ := ho.update (t := 105) (e := 3) law3 Try.underlying105 (by unfold maxLen; omega) (Maps.keyOf_int_mk Try.underlying3 hk) (plainElem_int Try.underlying3 hv)
  refine ⟨w', hrun, ⟨_, ho', hm.put _ _, fun x z => ?_⟩, hg⟩
  by_cases hx : x = k
  · subst hx
    show _ = match (if x = x then some v else L x) with | some v => _ | none => _
    rw [if_pos rfl, Maps.atKey_put_same hm (show WideAt.IsKeyLit (.int .i64 x) from trivial)]
  · show _ = match (if x = k then some v else L x) with | some v => _ | none => _
    rw [if_neg hx, Maps.atKey_put_other (fun e => hx (by cases e; rfl)), hat]
structure Fr (B : Nat) (w w' : World) : Prop where
  bel : Below B w w'
  keep : ∀ (g t : Nat) (cs : Array Value), t ≠ 28 → t ≠ 107 → w.heap[g]? = some (Obj.cells cs t (0, 0)) → w'.heap[g]? = some (Obj.cells cs t (0, 0))
theorem Fr.refl (B : Nat) (w : World) : Fr B w w := ⟨Below.refl B w, fun _ _ _ _ _ h => h⟩
theorem Fr.trans {B : Nat} {a b c : World} (h : Fr B a b) (k : Fr B b c) : Fr B a c := ⟨h.bel.trans k.bel, fun g t cs h1 h2 h3 => k.keep g t cs h1 h2 (h.keep g t cs h1 h2 h3)⟩
theorem Fr.alloc {B : Nat} {a w : World} (h : Fr B a w) (hB : B ≤ w.heap.size) (o : Obj) : Fr B a (w.alloc o) :=
  ⟨h.bel.alloc hB o, fun g t cs h1 h2 h3 => (Below.heap_alloc w o g (Array.getElem?_eq_some_iff.1 (h.keep g t cs h1 h2 h3)).1).trans (h.keep g t cs h1 h2 h3)⟩
theorem Fr.drew {B : Nat} {a w : World} (h : Fr B a w) : Fr B a w.drew := ⟨h.bel.drew, h.keep⟩
theorem Fr.of_below {B : Nat} {a w w' : World} (h : Fr B a w) (hB : B ≤ w.heap.size) (k : Below w.heap.size w w') : Fr B a w' :=
  ⟨below_then h.bel hB k, fun g t cs h1 h2 h3 => (k.block g (Array.getElem?_eq_some_iff.1 (h.keep g t cs h1 h2 h3)).1).trans (h.keep g t cs h1 h2 h3)⟩
theorem Fr.setCell {B : Nat} {a w : World} (h : Fr B a w) {g : Nat} (hB : B ≤ g) {cs : Array Value} (hg : w.heap[g]? = some (Obj.cells cs 107 (0, 0))) (j : Nat) (u : Value) : Fr B a (w.setCell ⟨g, j, none⟩ u) :=
  ⟨h.bel.setCell hB u, fun k t cs' h1 h2 h3 => by
    have h4 := h.keep k t cs' h1 h2 h3
    refine (Below.heap_setCell w ⟨g, j, none⟩ u k ?_).trans h4
    rintro rfl
    rw [hg] at h4; injection h4 with h4; injection h4 with _ h4; exact h2 h4.symm⟩
theorem Fr.grown {B : Nat} {a w w' : World} {row : Option Nat} (h : Fr B a w) (hg : w.grownBy w' row) (hB : B ≤ w.heap.size) (hr : ∀ k, row = some k → B ≤ k ∧ ∀ t cs, t ≠ 28 → w.heap[k]? ≠ some (Obj.cells cs t (0, 0))) : Fr B a w' :=
  ⟨h.bel.grown hg hB (fun k hk => (hr k hk).1), fun k t cs h1 h2 h3 => by
    have h4 := h.keep k t cs h1 h2 h3
    refine (hg.block k (Array.getElem?_eq_some_iff.1 h4).1 ?_).trans h4
    intro hk
    exact (hr k hk.symm).2 t cs h1 h4⟩
structure St (w : World) (B Wb Mb : Nat) (A : Option Addr) (cap : Nat) (xs : List S28) (L : Int → Option Int) (n : Nat) (bad : Bool) : Prop where
  hW : w.heap[Wb]? = some (.cells #[.slice A xs.length cap, .map (some Mb), .bool bad] 107 (0, 0))
  hR : Kd.R k28 28 w B (fun _ => True) (.slice A xs.length cap) xs
  hM : MapIs w Mb n L
  bW : B ≤ Wb
  bM : B ≤ Mb
theorem St.lt {w : World} {B Wb Mb : Nat} {A : Option Addr} {cap : Nat} {xs : List S28} {L : Int → Option Int} {n : Nat} {bad : Bool} (h : St w B Wb Mb A cap xs L n bad) : Wb < w.heap.size :=
  (Array.getElem?_eq_some_iff.1 h.hW).1
/-- A world in which all blocks stand as they did. -/
theorem St.below {w w' : World} {B Wb Mb : Nat} {A : Option Addr} {cap : Nat} {xs : List S28} {L : Int → Option Int} {n : Nat} {bad : Bool} (h : St w B Wb Mb A cap xs L n bad) (hb : Below w.heap.size w w') : St w' B Wb Mb A cap xs L n bad :=
  ⟨(hb.block _ h.lt).trans h.hW, Kd.R_below h.hR hb, h.hM.kept (hb.block _ h.hM.lt), h.bW, h.bM⟩
theorem St.ne {w : World} {B Wb Mb : Nat} {A : Option Addr} {cap : Nat} {xs : List S28} {L : Int → Option Int} {n : Nat} {bad : Bool} (h : St w B Wb Mb A cap xs L n bad) : Mb ≠ Wb := by
  rintro rfl
  obtain ⟨D, ⟨es, clock, hb, _⟩, _⟩ := h.hM
  rw [h.hW] at hb; cases hb
theorem hInfo28 : (Try.prog.info? 28).map (fun i => (i.zero, i.size, i.bytes)) = some (some (.agg #[(.int .i64 0), (.int .i64 0), (.int .i64 0), (.int .u32 0)]), 4, 32) := by kernel_rfl
/-- append, one cell's struct, as a step of a region that draws: behind the draw. -/
theorem append_step {P : Program} {ops : Array Oper} {o : Oper} {a : Act} {Q : Exit → Act → World → Prop} {Kc : Act → World → Prop} {α : Type} (d : Kd α) {W : World} (base : Nat) (hgd : o.guard = none) (s x : Operand) (t e : TypeId) (z : Value) (bytes : Nat)
    (ho : o.op = .call { callee := .builtin .append, args := #[s, x], argTypes := #[t, t] })
    (ht : P.underlying t = some (.slice e)) (hinfo : (P.info? e).map (fun i => (i.zero, i.size, i.bytes)) = some (some z, d.sz, bytes)) (hz : z.cells.size = d.sz) (hs0 : 0 < d.sz) (hb0 : 0 < bytes)
    (v : Value) (xs : List α) (p : α) (cs : List Value) (hs : a.eval s = v) (hx : a.eval x = .slice (some ⟨W.heap.size, 0, none⟩) 1 1) (hp : d.M W base (fun _ => False) p cs)
    (HO : d.R e W base (fun _ => True) v xs) (hbase : base ≤ W.heap.size) (hl : (xs.length + 1) * bytes ≤ 140737488355328)
    (h : ∀ v1 w1, d.R e w1 base (fun _ => True) v1 (xs ++ [p]) → Below base W w1 → W.grownBy w1 v.ownBlock → Kc (a.put o.dst v1) w1) :
    if Region.wanted o (yielded ops a.tmps) = true then Oper.wp P o a (W.alloc (.cells cs.toArray e)).drew Kc Q else Kc (a.put o.dst undef) (W.alloc (.cells cs.toArray e)).drew := by
  have hw : Region.wanted o (yielded ops a.tmps) = true := by simp [Region.wanted, hgd]
  exact Kd.R_append_step d (w0 := W) (W := W.drew) base hw s x t e z bytes ho ht hinfo hz hs0 hb0 v xs p cs (fun _ => True) (fun _ => False) hs hx (d.M_move (fun k hk => hk.elim) hp) (fun _ hk => hk.elim) (fun _ _ => trivial) (Kd.R_move HO (fun _ _ => rfl)) (Below.refl _ _).drew hbase hl (fun v1 w1 h1 h2 h3 _ => h v1 w1 h1 h2 ⟨h3.os, h3.tape, h3.output, h3.size, h3.block⟩)
theorem St.put {w0 w w1 : World} {B Wb Mb : Nat} {A A1 : Option Addr} {cap c1 : Nat} {xs : List S28} {L : Int → Option Int} {n : Nat} {bad : Bool} {x : S28} (hb0 : Fr B w0 w) (h : St w B Wb Mb A cap xs L n bad)
    (hR1 : Kd.R k28 28 w1 B (fun _ => True) (.slice A1 (xs ++ [x]).length c1) (xs ++ [x])) (hB1 : Below B w w1) (hg1 : w.grownBy w1 (Value.slice A xs.length cap).ownBlock) :
    Fr B w0 (w1.setCell ⟨Wb, 0, none⟩ (.slice A1 (xs.length + 1) c1)) ∧ St (w1.setCell ⟨Wb, 0, none⟩ (.slice A1 (xs.length + 1) c1)) B Wb Mb A1 c1 (xs ++ [x]) L n bad := by
  have e : (xs ++ [x]).length = xs.length + 1 := by simp
  have hWb := (hg1.block Wb h.lt (Kd.R_ne h.hR h.hW (by decide))).trans h.hW
  have hMb : w1.heap[Mb]? = w.heap[Mb]? := by
    refine hg1.block Mb h.hM.lt ?_
    intro hk
    obtain ⟨D, ⟨es, clock, hb, _⟩, _⟩ := h.hM
    obtain ⟨inner, ho⟩ := Kd.R_own h.hR
    obtain ⟨cells, hc⟩ := own_typed ho Mb hk.symm
    rw [hc] at hb; cases hb
  have hrow : ∀ k, (Value.slice A xs.length cap).ownBlock = some k → B ≤ k ∧ ∀ t cs, t ≠ 28 → w.heap[k]? ≠ some (.cells cs t (0, 0)) := by
    intro k hk
    obtain ⟨inner, ho⟩ := Kd.R_own h.hR
    obtain ⟨cells, hc⟩ := own_typed ho k hk
    refine ⟨own_base ho k hk, fun t cs ht hc2 => ?_⟩
    rw [hc] at hc2; injection hc2 with hc2; injection hc2 with _ hc2; exact ht hc2.symm
  have hBw : B ≤ w.heap.size := Nat.le_of_lt (Nat.lt_of_le_of_lt h.bW h.lt)
  refine ⟨(hb0.grown hg1 hBw hrow).setCell h.bW hWb 0 _, ?_, ?_, ?_, h.bW, h.bM⟩
  · have := blk_set hWb 0 (.slice A1 (xs.length + 1) c1)
    rw [e]; exact this
  · exact Kd.R_set hR1 hWb (by decide) 0 _
  · refine MapIs.kept (h.hM.kept hMb) ?_
    exact Below.heap_setCell _ _ _ _ h.ne
set_option maxHeartbeats 2000000 in
theorem put_c {w : World} {B Wb Mb : Nat} {A : Option Addr} {cap : Nat} {xs : List S28} {L : Int → Option Int} {n : Nat} {bad : Bool} (h : St w B Wb Mb A cap xs L n bad) (x : S28) (hl : xs.length ≤ 1000000) :
    Calls Try.prog 124 #[.pointer (some ⟨Wb, 0, none⟩), .agg #[.int .i64 x.f0, .int .i64 x.f1, .int .i64 x.f2, .int .u32 x.f3]] w fun e w' => e = .returned (.tuple #[]) ∧ Fr B w w' ∧ ∃ A' cap', St w' B Wb Mb A' cap' (xs ++ [x]) L n bad := by
  have hu107 := Try.underlying107
  have hu28 := Try.underlying28
  have hlt := h.lt
  have c0 : w.cell? ⟨Wb, 0, none⟩ = some (.slice A xs.length cap) := blk_cell h.hW 0
  have hh := Aside0.mk h
  have hx0 := Aside0.mk (h.below (below_alloc (Below.refl _ _) (.cells #[.int .i64 x.f0, .int .i64 x.f1, .int .i64 x.f2, .int .u32 x.f3] 28)))
  have hl' := Aside0.mk hl
  have hBw := Aside0.mk (show B ≤ w.heap.size from Nat.le_of_lt (Nat.lt_of_le_of_lt h.bW hlt))
  clear h hl
  go_enter Try.func124, Try.ntmps124
  go_wp2
  go_region_law (refine append_step k28 (W := (w.alloc (.cells #[.int .i64 x.f0, .int .i64 x.f1, .int .i64 x.f2, .int .u32 x.f3] 28))) B rfl (.tmp 8) (.tmp 10) 34 28 _ 32 rfl Try.underlying34 hInfo28 rfl (by decide) (by decide) (.slice A xs.length cap) xs x [.int .i64 x.f0, .int .i64 x.f1, .int .i64 x.f2, .int .u32 x.f3] (by simp [Act.eval, Act.put]) (by simp [Act.eval, Act.put]) (k28_mkM _ _ _ x) hx0.out.hR (Nat.le_of_lt (Nat.lt_of_le_of_lt hx0.out.bW hx0.out.lt)) (by have := hl'.out; omega) ?_; intro v1 w1 hR1 hB1 hg1; obtain ⟨A1, c1, rfl⟩ := Kd.R_slice hR1; have HF := Aside0.mk (St.put (Fr.alloc (Fr.refl B w) hBw.out _) hx0.out hR1 hB1 hg1); have hWb := (hg1.block Wb hx0.out.lt (Kd.R_ne hx0.out.hR hx0.out.hW (by decide))).trans hx0.out.hW; have f1 := blk_frozen hWb 0; have c1_ : w1.cell? ⟨Wb, 0, none⟩ = some (.slice A xs.length cap) := blk_cell hWb 0; clear hWb hR1 hB1 hg1)
  all_goals (go_wp2; go_end0; exact ⟨rfl, HF.out.1, _, _, HF.out.2⟩)
theorem St.setBad {w : World} {B Wb Mb : Nat} {A : Option Addr} {cap : Nat} {xs : List S28} {L : Int → Option Int} {n : Nat} {bad : Bool} (h : St w B Wb Mb A cap xs L n bad) (b : Bool) : Fr B w (w.setCell ⟨Wb, 2, none⟩ (.bool b)) ∧ St (w.setCell ⟨Wb, 2, none⟩ (.bool b)) B Wb Mb A cap xs L n b :=
  ⟨(Fr.refl B w).setCell h.bW h.hW 2 _, blk_set h.hW 2 (.bool b), Kd.R_set h.hR h.hW (by decide) 2 _, h.hM.kept (Below.heap_setCell _ _ _ _ h.ne), h.bW, h.bM⟩
theorem St.alloc {w : World} {B Wb Mb : Nat} {A : Option Addr} {cap : Nat} {xs : List S28} {L : Int → Option Int} {n : Nat} {bad : Bool} (h : St w B Wb Mb A cap xs L n bad) (o : Obj) : St (w.alloc o) B Wb Mb A cap xs L n bad := h.below (below_alloc (Below.refl _ _) _)
theorem St.base {w : World} {B Wb Mb : Nat} {A : Option Addr} {cap : Nat} {xs : List S28} {L : Int → Option Int} {n : Nat} {bad : Bool} (h : St w B Wb Mb A cap xs L n bad) : B ≤ w.heap.size := Nat.le_of_lt (Nat.lt_of_le_of_lt h.bW h.lt)
theorem new_blk (w : World) (a : Addr) (v : Value) (o : Obj) : ((w.setCell a v).alloc o).heap[w.heap.size]? = some o := by
  have e : (w.setCell a v).heap.size = w.heap.size := by simp [World.setCell]
  have := heap_alloc_new (w.setCell a v) o
  rw [e] at this; exact this
/-- A jump: its instruction, and whether its label is unknown. -/
def goI (xs : List S28) (L : Int → Option Int) (label : Int) : S28 := ⟨5, 0, 0, (wrap64 ((xs.length : Int) - (L label).getD 0)) % 4294967296⟩
set_option maxHeartbeats 2000000 in
theorem goes_c {w : World} {B Wb Mb : Nat} {A : Option Addr} {cap : Nat} {xs : List S28} {L : Int → Option Int} {n : Nat} {bad : Bool} (h : St w B Wb Mb A cap xs L n bad) (label : Int) (hk : (Lit.int .i64 label).wf = true) (hl : xs.length ≤ 1000000) :
    Calls Try.prog 125 #[.pointer (some ⟨Wb, 0, none⟩), .int .i64 label] w fun e w' => e = .returned (.agg #[.int .i64 5, .int .i64 0, .int .i64 0, .int .u32 ((wrap64 ((xs.length : Int) - (L label).getD 0)) % 4294967296)]) ∧ Fr B w w' ∧ St w' B Wb Mb A cap xs L n (bad || !(L label).isSome) := by
  have hu107 := Try.underlying107
  have hu28 := Try.underlying28
  have hlt := h.lt
  have c0 : w.cell? ⟨Wb, 0, none⟩ = some (.slice A xs.length cap) := blk_cell h.hW 0
  have c1 : w.cell? ⟨Wb, 1, none⟩ = some (.map (some Mb)) := blk_cell h.hW 1
  have c2 : w.cell? ⟨Wb, 2, none⟩ = some (.bool bad) := blk_cell h.hW 2
  have f2 := blk_frozen h.hW 2
  have hlook := fun o => (h.below (below_alloc (Below.refl w.heap.size w) o)).hM.look label hk
  have HF := Aside0.mk (fun (b : Bool) (o : Obj) => (⟨((h.setBad b).1.alloc (h.setBad b).2.base o), (h.setBad b).2.alloc o⟩ : Fr B w ((w.setCell ⟨Wb, 2, none⟩ (.bool b)).alloc o) ∧ St ((w.setCell ⟨Wb, 2, none⟩ (.bool b)).alloc o) B Wb Mb A cap xs L n b))
  clear h
  generalize hat : (L label).getD 0 = at_ at hlook ⊢
  generalize his : (L label).isSome = is at hlook ⊢
  clear hat his
  cases bad
  · go_enter Try.func125, Try.ntmps125
    go_wp2
    refine bodyPost_ret (v := .agg #[.int .i64 5, .int .i64 0, .int .i64 0, .int .u32 ((wrap64 ((xs.length : Int) - at_)) % 4294967296)]) (results_cell_row (p := 4) (by kernel_rfl) _ _ w.heap.size 28 #[.int .i64 5, .int .i64 0, .int .i64 0, .int .u32 ((wrap64 ((xs.length : Int) - at_)) % 4294967296)] (0, 0) _ rfl (new_blk _ _ _ _) Try.underlying28 rfl (by kernel_rfl)) rfl ⟨rfl, (HF.out (!is) _).1, (HF.out (!is) _).2⟩
  · go_enter Try.func125, Try.ntmps125
    go_wp2
    refine bodyPost_ret (v := .agg #[.int .i64 5, .int .i64 0, .int .i64 0, .int .u32 ((wrap64 ((xs.length : Int) - at_)) % 4294967296)]) (results_cell_row (p := 4) (by kernel_rfl) _ _ w.heap.size 28 #[.int .i64 5, .int .i64 0, .int .i64 0, .int .u32 ((wrap64 ((xs.length : Int) - at_)) % 4294967296)] (0, 0) _ rfl (new_blk _ _ _ _) Try.underlying28 rfl (by kernel_rfl)) rfl ⟨rfl, (HF.out true _).1, (HF.out true _).2⟩
end Go.Proofs.Ytefkhcijgiagdaa.HAsm
end
section
namespace Go.Proofs.Ytefkhcijgiagdaa.HAsm
open Go.RowKit Go.Proofs.YtefkhcijgiagdaaW.PrintWords Go.Proofs.YtefkhcijgiagdaaW.PrintLast Go.Proofs.YtefkhcijgiagdaaW.PrintMore Go.Proofs.Ytefkhcijgiagdaa.I1 Go.Proofs.Ytefkhcijgiagdaa.E1
set_option linter.unusedVariables false
set_option linter.unusedSimpArgs false
set_option maxRecDepth 100000
def codeB (k : Int) : Int := if k = 3 then 21 else if k = 4 then 37 else 53
theorem code_c (k : Int) (w : World) : Calls Try.prog 126 #[.int .i64 k] w fun e w' => e = .returned (.int .i64 (codeB k)) ∧ Below w.heap.size w w' := by
  unfold codeB
  split
  · subst_vars
    go_enter Try.func126, Try.ntmps126
    go_wp2
    go_ret
    exact ⟨rfl, Below.refl _ _⟩
  · split
    · subst_vars
      go_enter Try.func126, Try.ntmps126
      go_wp2
      go_ret
      exact ⟨rfl, Below.refl _ _⟩
    · go_enter Try.func126, Try.ntmps126
      go_wp2
      go_ret
      exact ⟨rfl, Below.refl _ _⟩
/-- The writer, as it is told of. -/
structure WS where
  xs : List S28
  L : Int → Option Int
  n : Nat
  bad : Bool
def WS.put (s : WS) (x : S28) : WS := ⟨s.xs ++ [x], s.L, s.n, s.bad⟩
def WS.go (s : WS) (label : Int) : WS := ⟨s.xs ++ [goI s.xs s.L label], s.L, s.n, s.bad || !(s.L label).isSome⟩
def stepS (s : WS) (o : S40) : WS :=
  if o.f0 = 1 then s.put ⟨32, 0, 0, o.f1⟩
  else if o.f0 = 2 then s.put ⟨84, 0, 0, o.f1⟩
  else if o.f0 = 3 ∨ o.f0 = 4 ∨ o.f0 = 5 then ((s.go o.f3).go o.f2).put ⟨codeB o.f0, 0, 1, o.f1⟩
  else if o.f0 = 6 then ⟨s.xs, fun x => if x = o.f2 then some (s.xs.length : Int) else s.L x, s.n + 1, s.bad⟩
  else if o.f0 = 7 then s.go o.f2
  else if o.f0 = 8 then s.put ⟨6, 0, 0, o.f1⟩
  else ⟨s.xs, s.L, s.n, true⟩
def StW (w : World) (B Wb Mb : Nat) (s : WS) : Prop := ∃ A cap, St w B Wb Mb A cap s.xs s.L s.n s.bad
def StepPost (w : World) (B Wb Mb : Nat) (s : WS) (e : Ending) (w' : World) : Prop := e = .returned (.tuple #[]) ∧ Fr B w w' ∧ StW w' B Wb Mb s
theorem put_w {w : World} {B Wb Mb : Nat} {s : WS} (h : StW w B Wb Mb s) (a b c d : Int) (hl : s.xs.length ≤ 1000000) :
    Calls Try.prog 124 #[.pointer (some ⟨Wb, 0, none⟩), .agg #[.int .i64 a, .int .i64 b, .int .i64 c, .int .u32 d]] w (StepPost w B Wb Mb (s.put ⟨a, b, c, d⟩)) := by
  obtain ⟨A, cap, h⟩ := h
  refine (put_c h ⟨a, b, c, d⟩ hl).mono ?_
  rintro e w' ⟨rfl, hb, A', c', h'⟩
  exact ⟨rfl, hb, A', c', h'⟩
theorem goes_w {w : World} {B Wb Mb : Nat} {s : WS} (h : StW w B Wb Mb s) (label : Int) (hk : (Lit.int .i64 label).wf = true) (hl : s.xs.length ≤ 1000000) :
    Calls Try.prog 125 #[.pointer (some ⟨Wb, 0, none⟩), .int .i64 label] w fun e w' => e = .returned (.agg #[.int .i64 5, .int .i64 0, .int .i64 0, .int .u32 (goI s.xs s.L label).f3]) ∧ Fr B w w' ∧ StW w' B Wb Mb ⟨s.xs, s.L, s.n, s.bad || !(s.L label).isSome⟩ := by
  obtain ⟨A, cap, h⟩ := h
  refine (goes_c h label hk hl).mono ?_
  rintro e w' ⟨rfl, hb, h'⟩
  exact ⟨rfl, hb, A, cap, h'⟩
theorem StW.box {w : World} {B Wb Mb : Nat} {s : WS} (h : StW w B Wb Mb s) (o : Obj) : Fr B w (w.alloc o) ∧ StW (w.alloc o) B Wb Mb s := by
  obtain ⟨A, cap, h⟩ := h
  exact ⟨(Fr.refl B w).alloc h.base o, A, cap, h.alloc o⟩
theorem StW.drew {w : World} {B Wb Mb : Nat} {s : WS} (h : StW w B Wb Mb s) : StW w.drew B Wb Mb s := by
  obtain ⟨A, cap, h⟩ := h
  exact ⟨A, cap, h.below ⟨rfl, rfl, rfl, Nat.le_refl _, fun _ _ => rfl⟩⟩
theorem StW.below {w w' : World} {B Wb Mb : Nat} {s : WS} (h : StW w B Wb Mb s) (hb : Below w.heap.size w w') : StW w' B Wb Mb s := by
  obtain ⟨A, cap, h⟩ := h
  exact ⟨A, cap, h.below hb⟩
theorem StW.base {w : World} {B Wb Mb : Nat} {s : WS} (h : StW w B Wb Mb s) : B ≤ w.heap.size := by
  obtain ⟨A, cap, h⟩ := h
  exact h.base
def StepC (o : S40) (s : WS) (B Wb Mb : Nat) (w : World) : Prop :=
  Calls Try.prog 90 #[.pointer (some ⟨Wb, 0, none⟩), .agg #[.int .i64 o.f0, .int .u32 o.f1, .int .i64 o.f2, .int .i64 o.f3]] w (StepPost w B Wb Mb (stepS s o))
set_option maxHeartbeats 2000000 in
theorem step1 {w : World} {B Wb Mb : Nat} {s : WS} (h : StW w B Wb Mb s) (o : S40) (hl : s.xs.length ≤ 999990) (ho : o.f0 = 1 ∨ o.f0 = 2 ∨ o.f0 = 8) : StepC o s B Wb Mb w := by
  obtain ⟨a, b, c, d⟩ := o
  have hu40 := Try.underlying40
  have hu28 := Try.underlying28
  have hbox := h.box (.cells #[.int .i64 a, .int .u32 b, .int .i64 c, .int .i64 d] 40)
  clear h
  rcases ho with rfl | rfl | rfl
  · go_enter Try.func90, Try.ntmps90
    go_wp2_with (go_at_call 124; refine (put_w hbox.2 _ _ _ _ (by omega)).mono ?_; rintro e w1 ⟨rfl, hb1, hs1⟩)
    go_end0
    exact ⟨rfl, hbox.1.trans hb1, hs1⟩
  · go_enter Try.func90, Try.ntmps90
    go_wp2_with (go_at_call 124; refine (put_w hbox.2 _ _ _ _ (by omega)).mono ?_; rintro e w1 ⟨rfl, hb1, hs1⟩)
    go_end0
    exact ⟨rfl, hbox.1.trans hb1, hs1⟩
  · go_enter Try.func90, Try.ntmps90
    go_wp2_with (go_at_call 124; refine (put_w hbox.2 _ _ _ _ (by omega)).mono ?_; rintro e w1 ⟨rfl, hb1, hs1⟩)
    go_end0
    exact ⟨rfl, hbox.1.trans hb1, hs1⟩
set_option maxHeartbeats 2000000 in
theorem step7 {w : World} {B Wb Mb : Nat} {s : WS} (h : StW w B Wb Mb s) (o : S40) (hl : s.xs.length ≤ 999990) (ho : o.f0 = 7) (hT : (Lit.int .i64 o.f2).wf = true) : StepC o s B Wb Mb w := by
  obtain ⟨a, b, c, d⟩ := o
  have hu40 := Try.underlying40
  have hu28 := Try.underlying28
  have hbox := h.box (.cells #[.int .i64 a, .int .u32 b, .int .i64 c, .int .i64 d] 40)
  clear h
  subst ho
  go_enter Try.func90, Try.ntmps90
  go_wp2_with (first | (go_at_call 125; refine (goes_w hbox.2 c hT (by omega)).mono ?_; rintro e w1 ⟨rfl, hb1, hs1⟩) | (go_at_call 124; refine (put_w hs1 _ _ _ _ (by simp only; omega)).mono ?_; rintro e w2 ⟨rfl, hb2, hs2⟩))
  go_end0
  exact ⟨rfl, (hbox.1.trans hb1).trans hb2, hs2⟩
set_option maxHeartbeats 2000000 in
theorem stepElse {w : World} {B Wb Mb : Nat} {s : WS} (h : StW w B Wb Mb s) (o : S40) (hl : s.xs.length ≤ 999990) (ho : o.f0 ≤ 0 ∨ 9 ≤ o.f0) : StepC o s B Wb Mb w := by
  obtain ⟨a, b, c, d⟩ := o
  have hu40 := Try.underlying40
  have hu28 := Try.underlying28
  have hu107 := Try.underlying107
  obtain ⟨A, cap, h⟩ := h
  have hlt := h.lt
  have c2 : w.cell? ⟨Wb, 2, none⟩ = some (.bool s.bad) := blk_cell h.hW 2
  have f2 := blk_frozen h.hW 2
  have HF := Aside0.mk (h.setBad true)
  have e : stepS s ⟨a, b, c, d⟩ = ⟨s.xs, s.L, s.n, true⟩ := by
    simp only at ho
    unfold stepS
    simp only
    rw [if_neg (by omega), if_neg (by omega), if_neg (by omega), if_neg (by omega), if_neg (by omega), if_neg (by omega)]
  unfold StepC
  rw [e]
  clear e h
  simp only at ho ⊢
  have n1 : ¬ a = 1 := by omega
  have n2 : ¬ a = 2 := by omega
  have n3 : ¬ a = 3 := by omega
  have n4 : ¬ a = 4 := by omega
  have n5 : ¬ a = 5 := by omega
  have n6 : ¬ a = 6 := by omega
  have n7 : ¬ a = 7 := by omega
  have n8 : ¬ a = 8 := by omega
  go_enter Try.func90, Try.ntmps90
  go_wp2
  go_end0
  exact ⟨rfl, HF.out.1.alloc HF.out.2.base _, _, _, HF.out.2.alloc _⟩
set_option maxHeartbeats 1000000 in
theorem step345 {w : World} {B Wb Mb : Nat} {s : WS} (h : StW w B Wb Mb s) (o : S40) (hl : s.xs.length ≤ 999990) (ho : o.f0 = 3 ∨ o.f0 = 4 ∨ o.f0 = 5) (hT : (Lit.int .i64 o.f2).wf = true) (hF : (Lit.int .i64 o.f3).wf = true) : StepC o s B Wb Mb w := by
  obtain ⟨a, b, c, d⟩ := o
  have hu40 := Try.underlying40
  have hu28 := Try.underlying28
  have hbox := h.box (.cells #[.int .i64 a, .int .u32 b, .int .i64 c, .int .i64 d] 40)
  have hblk := heap_alloc_new w (.cells #[.int .i64 a, .int .u32 b, .int .i64 c, .int .i64 d] 40)
  clear h
  have hcode := code_c a
  rcases ho with rfl | rfl | rfl <;>
  · have tok1 : True := trivial
    have tok2 : True := trivial
    have tok3 : True := trivial
    have tok4 : True := trivial
    go_enter Try.func90, Try.ntmps90
    go_wp2_with (first | (go_at_call 125; have _t := tok1; refine (goes_w hbox.2 d hF (by omega)).mono ?_; rintro e w1 ⟨rfl, hb1, hs1⟩; clear tok1 _t) | (go_at_call 124; have _t := tok2; refine (put_w hs1 _ _ _ _ (by simp only; omega)).mono ?_; rintro e w2 ⟨rfl, hb2, hs2⟩; have hblk2 := hb2.keep _ _ _ (by decide) (by decide) (hb1.keep _ _ _ (by decide) (by decide) hblk); have k22 := blk_cell hblk2 2; clear tok2 _t) | (go_at_call 125; have _t := tok3; refine (goes_w hs2 c hT (by simp only [WS.put, List.length_append, List.length_cons, List.length_nil]; omega)).mono ?_; rintro e w3 ⟨rfl, hb3, hs3⟩; clear tok3 _t) | (go_at_call 124; have _t := tok4; refine (put_w hs3 _ _ _ _ (by simp only [WS.put, List.length_append, List.length_cons, List.length_nil]; omega)).mono ?_; rintro e w4 ⟨rfl, hb4, hs4⟩; have hblk4 := hb4.keep _ _ _ (by decide) (by decide) (hb3.keep _ _ _ (by decide) (by decide) hblk2); have k40 := blk_cell hblk4 0; have k41 := blk_cell hblk4 1; clear tok4 _t))
    have tok5 : True := trivial
    have tok6 : True := trivial
    go_region_with (first | (go_at_call 126; have _t := tok5; refine (code_c _ _).mono ?_; rintro e w5 ⟨rfl, hb5⟩; have hblk5 := ((Fr.refl B w4).drew.of_below hs4.drew.base hb5).keep _ _ _ (by decide) (by decide) hblk4; have k51 := blk_cell hblk5 1; clear tok5 _t) | (go_at_call 124; have _t := tok6; refine (put_w (hs4.drew.below hb5) _ _ _ _ (by simp only [WS.put, List.length_append, List.length_cons, List.length_nil]; omega)).mono ?_; rintro e w6 ⟨rfl, hb6, hs6⟩; clear tok6 _t))
    all_goals
      go_end0
      exact ⟨rfl, ((((((hbox.1.trans hb1).trans hb2).trans hb3).trans hb4).drew).of_below hs4.drew.base hb5).trans hb6, hs6⟩
end Go.Proofs.Ytefkhcijgiagdaa.HAsm
end
section
namespace Go.Proofs.Ytefkhcijgiagdaa.HAsm
open Go.RowKit Go.Proofs.YtefkhcijgiagdaaW.PrintWords Go.Proofs.YtefkhcijgiagdaaW.PrintLast Go.Proofs.YtefkhcijgiagdaaW.PrintMore Go.Proofs.Ytefkhcijgiagdaa.I1 Go.Proofs.Ytefkhcijgiagdaa.E1
set_option linter.unusedVariables false
set_option linter.unusedSimpArgs false
set_option maxRecDepth 100000
theorem St.grownMap {w w1 : World} {B Wb Mb : Nat} {A : Option Addr} {cap : Nat} {xs : List S28} {L L1 : Int → Option Int} {n n1 : Nat} {bad : Bool} (h : St w B Wb Mb A cap xs L n bad)
    (hm : MapIs w1 Mb n1 L1) (hg : w.grownBy w1 (some Mb)) : Fr B w w1 ∧ St w1 B Wb Mb A cap xs L1 n1 bad := by
  have hmap : ∀ (t : Nat) (cs : Array Value), w.heap[Mb]? ≠ some (Obj.cells cs t (0, 0)) := by
    intro t cs hc
    obtain ⟨D, ⟨es, clock, hb, _⟩, _⟩ := h.hM
    rw [hc] at hb; cases hb
  refine ⟨(Fr.refl B w).grown hg h.base (fun k hk => ?_), ?_, ?_, hm, h.bW, h.bM⟩
  · cases hk; exact ⟨h.bM, fun t cs _ => hmap t cs⟩
  · exact (hg.block Wb h.lt (fun e => h.ne (by injection e with e; exact e.symm))).trans h.hW
  · refine Kd.R_mono (Kd.R_grown (Kd.R_bound h.hR) hg (fun k hk => ?_)) (fun k hk => trivial)
    obtain ⟨_, _, _, q, hq, cells, hc⟩ := hk
    intro e; injection e with e; subst e
    exact hmap q cells hc
set_option maxHeartbeats 1000000 in
theorem step6 {w : World} {B Wb Mb : Nat} {s : WS} (h : StW w B Wb Mb s) (o : S40) (hl : s.xs.length ≤ 999990) (hn : s.n < 1000000) (ho : o.f0 = 6) (hT : (Lit.int .i64 o.f2).wf = true) : StepC o s B Wb Mb w := by
  obtain ⟨a, b, c, d⟩ := o
  have hu40 := Try.underlying40
  have hu28 := Try.underlying28
  have hu107 := Try.underlying107
  obtain ⟨A, cap, h⟩ := h
  have hlt := h.lt
  have c0 : w.cell? ⟨Wb, 0, none⟩ = some (.slice A s.xs.length cap) := blk_cell h.hW 0
  have c1 : w.cell? ⟨Wb, 1, none⟩ = some (.map (some Mb)) := blk_cell h.hW 1
  subst ho
  have h1 := (h.alloc (.cells #[.int .i64 6, .int .u32 b, .int .i64 c, .int .i64 d] 40)).below (Below.refl _ _).drew
  obtain ⟨w1, hrun, hm1, hg1⟩ := h1.hM.store hn c (s.xs.length : Int) hT (WalkArith.wf_i64 (n := (s.xs.length : Int)) (by omega))
  have hF := St.grownMap h1 hm1 hg1
  have hbx := ((Fr.refl B w).alloc h.base (.cells #[.int .i64 6, .int .u32 b, .int .i64 c, .int .i64 d] 40)).drew.trans hF.1
  have hFF := Aside0.mk (show Fr B w w1 ∧ StW w1 B Wb Mb ⟨s.xs, fun x => if x = c then some (s.xs.length : Int) else s.L x, s.n + 1, s.bad⟩ from ⟨hbx, A, cap, hF.2⟩)
  clear hF hbx hm1 hg1 h1 h
  go_enter Try.func90, Try.ntmps90
  go_wp2
  go_region
  go_wp2
  go_end0
  exact ⟨rfl, hFF.out.1, hFF.out.2⟩
theorem step_c {w : World} {B Wb Mb : Nat} {s : WS} (h : StW w B Wb Mb s) (o : S40) (hl : s.xs.length ≤ 999990) (hn : s.n < 1000000) (hT : (Lit.int .i64 o.f2).wf = true) (hF : (Lit.int .i64 o.f3).wf = true) : StepC o s B Wb Mb w := by
  by_cases h1 : o.f0 = 1 ∨ o.f0 = 2 ∨ o.f0 = 8
  · exact step1 h o hl h1
  · by_cases h2 : o.f0 = 3 ∨ o.f0 = 4 ∨ o.f0 = 5
    · exact step345 h o hl h2 hT hF
    · by_cases h6 : o.f0 = 6
      · exact step6 h o hl hn h6 hT
      · by_cases h7 : o.f0 = 7
        · exact step7 h o hl h7 hT
        · exact stepElse h o hl (by omega)
end Go.Proofs.Ytefkhcijgiagdaa.HAsm
end
section
namespace Go.Proofs.Ytefkhcijgiagdaa.HAsm
open Go.RowKit Go.Proofs.YtefkhcijgiagdaaW.PrintWords Go.Proofs.YtefkhcijgiagdaaW.PrintLast Go.Proofs.YtefkhcijgiagdaaW.PrintMore Go.Proofs.Ytefkhcijgiagdaa.I1 Go.Proofs.Ytefkhcijgiagdaa.E1
set_option linter.unusedVariables false
set_option linter.unusedSimpArgs false
set_option maxRecDepth 100000
set_option maxHeartbeats 1000000 in
theorem back_c {w : World} {A0 : Option Addr} {c0 lb nb : Nat} {l : List S40} (hC : Kd.C k40 w A0 l.length l) (hlb : w.heap[lb]? = some (.cells #[.slice A0 l.length c0] 33 (0, 0))) (hnb : w.heap[nb]? = some (.cells #[.int .i64 (l.length : Int)] 3 (0, 0)))
    (j : Nat) (hj : j < l.length) (hl : l.length ≤ 1000000) :
    Calls Try.prog 89 #[.int .i64 (j : Int), .pointer (some ⟨lb, 0, none⟩), .pointer (some ⟨nb, 0, none⟩)] w fun e w' =>
      e = .returned (.agg #[.int .i64 (rd_T40 l ((l.length - 1 - j : Nat) : Int)).f0, .int .u32 (rd_T40 l ((l.length - 1 - j : Nat) : Int)).f1, .int .i64 (rd_T40 l ((l.length - 1 - j : Nat) : Int)).f2, .int .i64 (rd_T40 l ((l.length - 1 - j : Nat) : Int)).f3]) ∧ Below w.heap.size w w' := by
  have hu40 := Try.underlying40
  obtain ⟨ad, e102, hx0, hx1, hx2, hx3⟩ := at_T40 hC ((l.length - 1 - j : Nat) : Int) (by omega) (by omega)
  cases e102
  have hl1 : lb < w.heap.size := (Array.getElem?_eq_some_iff.1 hlb).1
  have hl2 : nb < w.heap.size := (Array.getElem?_eq_some_iff.1 hnb).1
  have hl3 := World.block_lt_of_cell? w _ hx0
  have k1 : w.cell? ⟨lb, 0, none⟩ = some (.slice (some ad) l.length c0) := blk_cell hlb 0
  have k2 : w.cell? ⟨nb, 0, none⟩ = some (.int .i64 (l.length : Int)) := blk_cell hnb 0
  have e1 : wrap64 ((l.length : Int) - 1) = (l.length : Int) - 1 := by unfold wrap64; omega
  have e2 : wrap64 ((l.length : Int) - 1 - (j : Int)) = ((l.length - 1 - j : Nat) : Int) := by unfold wrap64; omega
  have b1 : (0 : Int) ≤ ((l.length - 1 - j : Nat) : Int) := by omega
  have b2 : ((l.length - 1 - j : Nat) : Int) < (l.length : Int) := by omega
  generalize rd_T40 l ((l.length - 1 - j : Nat) : Int) = x at *
  simp only [Int.toNat_natCast] at hx0 hx1 hx2 hx3 hl3
  clear hC hlb hnb
  go_enter Try.func89, Try.ntmps89
  go_wp2
  refine bodyPost_ret (v := .agg #[.int .i64 x.f0, .int .u32 x.f1, .int .i64 x.f2, .int .i64 x.f3]) (results_cell_row (p := 4) (by kernel_rfl) _ _ w.heap.size 40 #[.int .i64 x.f0, .int .u32 x.f1, .int .i64 x.f2, .int .i64 x.f3] (0, 0) _ rfl (heap_alloc_new _ _) Try.underlying40 rfl (by kernel_rfl)) rfl ⟨rfl, below_alloc (Below.refl _ _) _⟩
def runS (l : List S40) : Nat → WS
  | 0 => ⟨[], fun _ => none, 0, false⟩
  | j + 1 => stepS (runS l j) (rd_T40 l ((l.length - 1 - j : Nat) : Int))
def asm (l : List S40) : List S28 × Int :=
  if (runS l l.length).bad = true then ([], 1) else if 4096 < (runS l l.length).xs.length then ([], 64) else ((runS l l.length).xs.reverse, 0)
theorem step_len (s : WS) (o : S40) : (stepS s o).xs.length ≤ s.xs.length + 3 ∧ (stepS s o).n ≤ s.n + 1 := by
  unfold stepS
  repeat' split
  all_goals simp [WS.put, WS.go]
theorem runS_len (l : List S40) : ∀ j, (runS l j).xs.length ≤ 3 * j ∧ (runS l j).n ≤ j := by
  intro j
  induction j with
  | zero => exact ⟨Nat.le_refl _, Nat.le_refl _⟩
  | succ j ih =>
    have := step_len (runS l j) (rd_T40 l ((l.length - 1 - j : Nat) : Int))
    exact ⟨by show (stepS _ _).xs.length ≤ _; omega, by show (stepS _ _).n ≤ _; omega⟩
theorem St.made (w : World) (o1 : Obj) : StW (((w.alloc o1).alloc (.map #[] 0)).alloc (.cells #[.slice none 0 0, .map (some (w.heap.size + 1)), .bool false] 107)) w.heap.size (w.heap.size + 1 + 1) (w.heap.size + 1) ⟨[], fun _ => none, 0, false⟩ := by
  have e1 : (w.alloc o1).heap.size = w.heap.size + 1 := by simp
  have e2 : ((w.alloc o1).alloc (.map #[] 0)).heap.size = w.heap.size + 1 + 1 := by simp
  refine ⟨none, 0, ?_, Kd.R_nil _ _ _ _ _, ?_, by omega, by omega⟩
  · have := heap_alloc_new ((w.alloc o1).alloc (.map #[] 0)) (.cells #[.slice none 0 0, .map (some (w.heap.size + 1)), .bool false] 107)
    rw [e2] at this; exact this
  · have h := MapIs.made (w.alloc o1)
    rw [e1] at h
    exact h.kept (Below.heap_alloc _ _ _ (by rw [e2]; omega))
/-- The world in which the first loop begins. -/
theorem start_facts (w : World) (A0 : Option Addr) (n c0 : Nat) (m : Int) : ∀ wi, wi = ((((w.alloc (.cells #[.slice A0 n c0] 33)).alloc (.map #[] 0)).alloc (.cells #[.slice none 0 0, .map (some (w.heap.size + 1)), .bool false] 107)).alloc (.cells #[.int .i64 m] 3)) →
    StW wi w.heap.size (w.heap.size + 1 + 1) (w.heap.size + 1) ⟨[], fun _ => none, 0, false⟩ ∧ wi.heap[w.heap.size]? = some (.cells #[.slice A0 n c0] 33 (0, 0)) ∧ wi.heap[w.heap.size + 1 + 1 + 1]? = some (.cells #[.int .i64 m] 3 (0, 0)) ∧ Below w.heap.size w wi := by
  rintro wi rfl
  have s1 : (w.alloc (.cells #[.slice A0 n c0] 33)).heap.size = w.heap.size + 1 := by simp
  have s2 : ((w.alloc (.cells #[.slice A0 n c0] 33)).alloc (.map #[] 0)).heap.size = w.heap.size + 1 + 1 := by simp
  have s3 : (((w.alloc (.cells #[.slice A0 n c0] 33)).alloc (.map #[] 0)).alloc (.cells #[.slice none 0 0, .map (some (w.heap.size + 1)), .bool false] 107)).heap.size = w.heap.size + 1 + 1 + 1 := by simp
  refine ⟨((St.made w (.cells #[.slice A0 n c0] 33)).box _).2, ?_, ?_, below_alloc (below_alloc (below_alloc (below_alloc (Below.refl _ _) _) _) _) _⟩
  · rw [Below.heap_alloc _ _ _ (by rw [s3]; omega), Below.heap_alloc _ _ _ (by rw [s2]; omega), Below.heap_alloc _ _ _ (by rw [s1]; omega)]
    exact heap_alloc_new w _
  · have := heap_alloc_new (((w.alloc (.cells #[.slice A0 n c0] 33)).alloc (.map #[] 0)).alloc (.cells #[.slice none 0 0, .map (some (w.heap.size + 1)), .bool false] 107)) (.cells #[.int .i64 m] 3)
    rw [s3] at this; exact this
set_option maxHeartbeats 1000000 in
theorem asm_any (A0 : Option Addr) (c0 : Nat) (l : List S40) (r1 : List S28) (r2 : Int) (w : World) (hr : asm l = (r1, r2)) (hC : Kd.C k40 w A0 l.length l) (hc0 : l.length ≤ c0) (hl : l.length ≤ 100000) (hwf : ∀ i : Nat, i < l.length → (Lit.int .i64 (rd_T40 l i).f2).wf = true ∧ (Lit.int .i64 (rd_T40 l i).f3).wf = true) :
    Calls Try.prog 34 #[.slice A0 l.length c0] w fun e w' => ∃ v, e = .returned (.tuple #[v, .int .i64 r2]) ∧ Kd.R k28 28 w' w.heap.size (fun _ => True) v r1 ∧ Below w.heap.size w w' := by
  have hmm := @run_makeMap Try.prog
  have hu107 := Try.underlying107
  have HC := Aside0.mk hC
  have HW := Aside0.mk hwf
  have HR := Aside0.mk hr
  clear hC hwf hr
  go_enter Try.func34, Try.ntmps34
  go_wp2
  have hsf := start_facts w A0 l.length c0 (l.length : Int) _ rfl
  generalize ((((w.alloc (.cells #[.slice A0 l.length c0] 33)).alloc (.map #[] 0)).alloc (.cells #[.slice none 0 0, .map (some (w.heap.size + 1)), .bool false] 107)).alloc (.cells #[.int .i64 (l.length : Int)] 3)) = wi at hsf ⊢
  obtain ⟨hs0, hlb, hnb, hbi⟩ := hsf
  have HLB := Aside0.mk hlb
  have HNB := Aside0.mk hnb
  clear hlb hnb hmm
  go_loopw [17] (fun i wr => ∃ j : Nat, j ≤ l.length ∧ i = .int .i64 j ∧ StW wr w.heap.size (w.heap.size + 1 + 1) (w.heap.size + 1) (runS l j) ∧ Aside0 (Fr w.heap.size wi wr)) (fun i _ => l.length - (intOf i).toNat)
  case atStart => exact ⟨0, by omega, rfl, hs0, ⟨Fr.refl _ _⟩⟩
  case round =>
    clear hs0
    obtain ⟨j, hj, rfl, hs, hfr⟩ := hrel
    by_cases hlt : j < l.length
    · have hdj : decide ((j : Int) < (l.length : Int)) = true := decide_eq_true (by omega)
      have hb := hbi.trans hfr.out.bel
      have hback := back_c (j := j) (c0 := c0) (Kd.C_below HC.out hb) (hfr.out.keep _ _ _ (by decide) (by decide) HLB.out) (hfr.out.keep _ _ _ (by decide) (by decide) HNB.out) hlt (by omega)
      have hwj := HW.out (l.length - 1 - j) (by omega)
      have hlen := runS_len l j
      have hst := fun W (h : StW W w.heap.size (w.heap.size + 1 + 1) (w.heap.size + 1) (runS l j)) => step_c h (rd_T40 l ((l.length - 1 - j : Nat) : Int)) (by omega) (by omega) hwj.1 hwj.2
      have hrun : stepS (runS l j) (rd_T40 l ((l.length - 1 - j : Nat) : Int)) = runS l (j + 1) := rfl
      have hrun := Aside0.mk hrun
      clear hb hwj hlen
      generalize rd_T40 l ((l.length - 1 - j : Nat) : Int) = o at *
      go_wp2_with (first | (go_at_call 89; refine hback.mono ?_; rintro e w1 ⟨rfl, hb1⟩) | (go_at_call 90; refine (show Calls _ _ _ _ _ from hst _ (hs.below hb1)).mono ?_; rintro e w2 ⟨rfl, hb2, hs2⟩))
      go_roundw
      case rel => exact ⟨j + 1, by omega, by go_num, hrun.out ▸ hs2, ⟨(hfr.out.of_below hs.base hb1).trans hb2⟩⟩
      case measure => simp [intOf]; omega
    · obtain rfl : j = l.length := by omega
      have hdj : decide (((l.length : Nat) : Int) < (l.length : Int)) = false := decide_eq_false (by omega)
      have hb := Aside0.mk (hbi.trans hfr.out.bel)
      clear HC HW HLB HNB hfr hbi
      have hr := HR.out
      clear HR
      unfold asm at hr
      generalize runS l l.length = s at *
      obtain ⟨A, cap, hst⟩ := hs
      have k0 : wr.cell? ⟨w.heap.size + 1 + 1, 0, none⟩ = some (.slice A s.xs.length cap) := blk_cell hst.hW 0
      have k2 : wr.cell? ⟨w.heap.size + 1 + 1, 2, none⟩ = some (.bool s.bad) := blk_cell hst.hW 2
      by_cases hbad : s.bad = true
      · rw [if_pos hbad] at hr
        rw [hbad] at k2
        obtain ⟨rfl, rfl⟩ := Prod.mk.inj hr
        clear hst hr
        go_wp2
        go_ret2
        exact ⟨_, rfl, Kd.R_nil _ _ _ _ _, hb.out⟩
      · have hbad : s.bad = false := by simpa using hbad
        rw [if_neg (by rw [hbad]; decide)] at hr
        rw [hbad] at k2
        by_cases hbig : 4096 < s.xs.length
        · rw [if_pos hbig] at hr
          obtain ⟨rfl, rfl⟩ := Prod.mk.inj hr
          have hd : decide ((4096 : Int) < (s.xs.length : Int)) = true := decide_eq_true (by omega)
          clear hst hr
          go_wp2
          go_ret2
          exact ⟨_, rfl, Kd.R_nil _ _ _ _ _, hb.out⟩
        · rw [if_neg hbig] at hr
          obtain ⟨rfl, rfl⟩ := Prod.mk.inj hr
          have hd : decide ((4096 : Int) < (s.xs.length : Int)) = false := decide_eq_false (by omega)
          have HST := Aside0.mk hst
          clear hst hr
          go_wp2
          have hbig' : s.xs.length ≤ 4096 := by omega
          clear hbad hbig hd k2
          generalize hwL : wr = wL at *
          clear hwL
          go_loopw [8, 9] (fun v i w2 => ∃ m : Nat, m ≤ s.xs.length ∧ i = .int .i64 ((s.xs.length : Int) - 1 - (m : Int)) ∧ Kd.R k28 28 w2 wL.heap.size (fun _ => True) v (s.xs.reverse.take m) ∧ Below wL.heap.size wL w2) (fun _ i _ => (intOf i + 1).toNat)
          case atStart => exact ⟨0, by omega, by simp, Kd.R_nil _ _ _ _ _, Below.refl _ _⟩
          case round =>
            obtain ⟨m, hm, rfl, hR, hb2⟩ := hrel
            by_cases hlt : m < s.xs.length
            · have hst := HST.out
              have hdi : decide ((m : Int) ≤ (s.xs.length : Int) - 1) = true := decide_eq_true (by omega)
              have kk0 : wr.cell? ⟨w.heap.size + 1 + 1, 0, none⟩ = some (.slice A s.xs.length cap) := (hb2.cell (p := ⟨w.heap.size + 1 + 1, 0, none⟩) hst.lt).trans k0
              have hCx : Kd.C k28 wr A s.xs.length s.xs := by
                obtain ⟨A', c', e, _, h⟩ := Kd.R_reads (Kd.R_below hst.hR hb2)
                injection e with e1 e2 e3; subst e1; exact h
              obtain ⟨ad, e102, hx0, hx1, hx2, hx3⟩ := at_T28 hCx ((s.xs.length : Int) - 1 - (m : Int)) (by omega) (by omega)
              cases e102
              have hsnoc : s.xs.reverse.take m ++ [rd_T28 s.xs ((s.xs.length : Int) - 1 - (m : Int))] = s.xs.reverse.take (m + 1) := by
                rw [List.take_succ_eq_append_getElem (by simpa using hlt)]
                congr 2
                unfold rd_T28
                have e : ((s.xs.length : Int) - 1 - (m : Int)).toNat = s.xs.length - 1 - m := by omega
                rw [e, List.getElem_reverse]
                simp [List.getD, show s.xs.length - 1 - m < s.xs.length by omega]
              have HS := Aside0.mk hsnoc
              have hlenR : (s.xs.reverse.take m).length ≤ 4096 := by simp; omega
              have b1 : (0 : Int) ≤ (s.xs.length : Int) - 1 - (m : Int) := by omega
              have b2 : (s.xs.length : Int) - 1 - (m : Int) < (s.xs.length : Int) := by omega
              clear hsnoc hst hCx
              have etn : ((s.xs.length : Int) - 1 - (m : Int)).toNat = s.xs.length - 1 - m := by omega
              rw [etn] at hx0 hx1 hx2 hx3
              generalize rd_T28 s.xs ((s.xs.length : Int) - 1 - (m : Int)) = x at *
              go_wp2_with (at_builtin; refine Kd.R_append k28 wL.heap.size rfl (.tmp 48) (.tmp 56) 34 28 _ 32 rfl Try.underlying34 hInfo28 rfl (by decide) (by decide) _ (s.xs.reverse.take m) x [.int .i64 x.f0, .int .i64 x.f1, .int .i64 x.f2, .int .u32 x.f3] (fun _ => True) (fun _ => False) rfl rfl (k28_mkM _ _ _ x) (fun _ hk => hk.elim) (fun _ _ => trivial) hR hb2 hb2.size (by omega) ?_; intro v1 w1 hR1 hb1 hg1 hat1)
              refine ⟨⟨m + 1, by omega, ?_, by rw [← HS.out]; exact hR1, hb1⟩, ?_⟩
              · rw [show (s.xs.length : Int) - 1 - (m : Int) - 1 = (s.xs.length : Int) - 1 - ((m + 1 : Nat) : Int) by omega]
              · simp [intOf]; omega
            · obtain rfl : m = s.xs.length := by omega
              have hdi : decide (((s.xs.length : Nat) : Int) ≤ (s.xs.length : Int) - 1) = false := decide_eq_false (by omega)
              have hst := HST.out
              have HF := Aside0.mk (show Kd.R k28 28 wr w.heap.size (fun _ => True) _ s.xs.reverse ∧ Below w.heap.size w wr from by
                rw [List.take_of_length_le (by simp)] at hR
                exact ⟨Kd.R_lower hR hb.out.size, below_step hb.out hb2⟩)
              clear hR hst
              go_wp2
              go_ret2
              exact ⟨_, rfl, HF.out.1, HF.out.2⟩
def inI (x : Int) : Bool := decide (-9223372036854775808 ≤ x ∧ x ≤ 9223372036854775807)
def emit_Assemble.f (l0 : List (S40)) : Option ((List (S28)) × Int) :=
  if l0.length ≤ 100000 ∧ (l0.all fun o => inI o.f2 && inI o.f3) = true then some (asm l0) else none
theorem emit_Assemble.calls (A0 : Option Addr) (c0 : Nat) (l0 : List (S40)) (r1 : List (S28)) (r2 : Int) (w : World) (hr0 : Kd.C k40 w A0 l0.length l0) (hc0 : l0.length ≤ c0) (h : emit_Assemble.f l0 = some (r1, r2)) :
    Calls Try.prog 34 #[.slice A0 l0.length c0] w fun e w' => ∃ v0_ : Value, e = .returned (.tuple #[v0_, .int .i64 r2]) ∧ Kd.R k28 28 w' w.heap.size (fun _ => True) v0_ r1 ∧ Below w.heap.size w w' := by
  unfold emit_Assemble.f at h
  split at h
  · rename_i hc
    refine asm_any A0 c0 l0 r1 r2 w (Option.some.inj h) hr0 hc0 hc.1 (fun i hi => ?_)
    have h1 := List.all_eq_true.1 hc.2 (rd_T40 l0 i) (by unfold rd_T40; simp [List.getD, hi])
    simp only [inI, Bool.and_eq_true, decide_eq_true_eq] at h1
    exact ⟨WalkArith.wf_i64 h1.1, WalkArith.wf_i64 h1.2⟩
  · cases h
end Go.Proofs.Ytefkhcijgiagdaa.HAsm
end
section
namespace Go.Proofs.Ytefkhcijgiagdaa.E2
open Go.RowKit Go.Proofs.YtefkhcijgiagdaaW.PrintWords Go.Proofs.YtefkhcijgiagdaaW.PrintLast Go.Proofs.YtefkhcijgiagdaaW.PrintMore
attribute [local go_sem] max2_int min2_int max_two min_two max_three min_three max_four min_four IntKind.wrap_u32 IntKind.wrap_u8   -- for this text's walks alone
set_option linter.unusedVariables false
open Go.Proofs.Ytefkhcijgiagdaa.Le Go.Proofs.Ytefkhcijgiagdaa.I1 Go.Proofs.Ytefkhcijgiagdaa.E1
set_option linter.unusedSimpArgs false
theorem eqA28 (d : Nat) (w : World) (x0 y0 : Int) (x1 y1 : Int) (x2 y2 : Int) (x3 y3 : Int) :
    (Op.equalIn (d + 2) 28 (.agg #[.int .i64 x0, .int .i64 x1, .int .i64 x2, .int .u32 x3]) (.agg #[.int .i64 y0, .int .i64 y1, .int .i64 y2, .int .u32 y3])).run Try.prog w = .ok (x0 == y0 && (x1 == y1 && (x2 == y2 && (x3 == y3)))) w := by
  refine eqA_of Try.underlying28 (by kernel_rfl) ?_
  refine eqf_cons (by rfl) (by go_simp; rfl) (by go_simp; rfl) (by go_simp) ?_
  refine eqf_cons (by rfl) (by go_simp; rfl) (by go_simp; rfl) (by go_simp) ?_
  refine eqf_cons (by rfl) (by go_simp; rfl) (by go_simp; rfl) (by go_simp) ?_
  exact eqf_last (by rfl) (by go_simp; rfl) (by go_simp; rfl) (by go_simp)
end Go.Proofs.Ytefkhcijgiagdaa.E2
end
section
namespace Go.Proofs.Ytefkhcijgiagdaa.E2
open Go.RowKit Go.Proofs.YtefkhcijgiagdaaW.PrintWords Go.Proofs.YtefkhcijgiagdaaW.PrintLast Go.Proofs.YtefkhcijgiagdaaW.PrintMore
attribute [local go_sem] max2_int min2_int max_two min_two max_three min_three max_four min_four IntKind.wrap_u32 IntKind.wrap_u8   -- for this text's walks alone
set_option linter.unusedVariables false
open Go.Proofs.Ytefkhcijgiagdaa.Le Go.Proofs.Ytefkhcijgiagdaa.I1 Go.Proofs.Ytefkhcijgiagdaa.E1 Go.Proofs.Ytefkhcijgiagdaa.HAsm
set_option linter.unusedSimpArgs false
attribute [local go_sem high] eqA28
def doorwardlaw21_alive.f  : Option (Bool) := (emit_Assemble.f (([(⟨8, 7, 0, 0⟩ : S40)] : List (S40)))).bind fun bt104 => (if bt104.2 = 0 then (if (bt104.1.length : Int) = 1 then (if 0 < (bt104.1.length : Int) then (some (((rd_T28 bt104.1 0).f0) == 6 && (((rd_T28 bt104.1 0).f1) == 0 && (((rd_T28 bt104.1 0).f2) == 0 && (((rd_T28 bt104.1 0).f3) == 7))))) else (none)) else (some false)) else (some false))
set_option maxHeartbeats 8000000 in
set_option maxRecDepth 100000 in
theorem doorwardlaw21_alive.calls  (r : Bool) (w : World) (h : doorwardlaw21_alive.f  = some r) :
    Calls Try.prog 35 #[] w fun e w' => e = .returned (.bool r) ∧ Below w.heap.size w w' := by
  have hu40 := Try.underlying40
  have hu28 := Try.underlying28
  have HB := Aside0.mk (Below.refl w.heap.size w)
  have H : ((emit_Assemble.f (([(⟨8, 7, 0, 0⟩ : S40)] : List (S40)))).bind fun bt104 => (if bt104.2 = 0 then (if (bt104.1.length : Int) = 1 then (if 0 < (bt104.1.length : Int) then (some (((rd_T28 bt104.1 0).f0) == 6 && (((rd_T28 bt104.1 0).f1) == 0 && (((rd_T28 bt104.1 0).f2) == 0 && (((rd_T28 bt104.1 0).f3) == 7))))) else (none)) else (some false)) else (some false))) = some r := h
  clear h
  obtain ⟨y101, hy101⟩ : ∃ y_ : List (S40), y_ = (([(⟨8, 7, 0, 0⟩ : S40)] : List (S40))) := ⟨_, rfl⟩
  replace H : ((emit_Assemble.f y101).bind fun bt104 => (if bt104.2 = 0 then (if (bt104.1.length : Int) = 1 then (if 0 < (bt104.1.length : Int) then (some (((rd_T28 bt104.1 0).f0) == 6 && (((rd_T28 bt104.1 0).f1) == 0 && (((rd_T28 bt104.1 0).f2) == 0 && (((rd_T28 bt104.1 0).f3) == 7))))) else (none)) else (some false)) else (some false))) = some r := by first | (rw [hy101]; with_reducible exact H) | (have H2_ := (Option.bind_some _ _).symm.trans H; rw [hy101]; with_reducible exact H2_) | (have H2_ := (Option.bind_some _ _).symm.trans H; with_reducible exact H2_) | with_reducible exact H | (rw [hy101]; exact H) | exact H
  have Ny101 := Aside0.mk hy101
  clear hy101
  replace H := Option.bind_eq_some_iff.mp H
  obtain ⟨⟨t104, t105⟩, A10, H⟩ := H
  replace H : (if t105 = 0 then (if (t104.length : Int) = 1 then (if 0 < (t104.length : Int) then (some (((rd_T28 t104 0).f0) == 6 && (((rd_T28 t104 0).f1) == 0 && (((rd_T28 t104 0).f2) == 0 && (((rd_T28 t104 0).f3) == 7))))) else (none)) else (some false)) else (some false)) = some r := H
  have A1 := Aside0.mk A10
  clear A10
  by_cases c2 : t105 = 0
  · rw [if_pos c2] at H
    have c2b0 : (t105 == 0) = true := beq_iff_eq.mpr c2
    have c2b1 : (t105 != 0) = false := bne_eq_false_iff_eq.mpr c2
    clear c2
    by_cases c3 : (t104.length : Int) = 1
    · rw [if_pos c3] at H
      have c3b0 : ((t104.length : Int) == 1) = true := beq_iff_eq.mpr c3
      have c3b1 : ((t104.length : Int) != 1) = false := bne_eq_false_iff_eq.mpr c3
      clear c3
      by_cases c4 : 0 < (t104.length : Int)
      · rw [if_pos c4] at H
        have c4b0 : decide (0 < (t104.length : Int)) = true := decide_eq_true c4
        have c4b1 : decide (0 < t104.length) = true := decide_eq_true (by omega)
        clear c4
        obtain rfl := Option.some.inj H
        go_enter Try.func35, Try.ntmps35
        go_wp2_with (first | ((with_reducible refine gate_dst (N := 5) rfl ?_); (try (refine gate_guard (by rfl) ?_; dsimp only)); refine Kd.R_lit k40 _ 40 ?hg (N := 5) ?hd (xs := ([(⟨8, 7, 0, 0⟩ : S40)] : List (S40))) (inner := [.int .i64 8, .int .u32 7, .int .i64 0, .int .i64 0]) (ok := fun _ => True) (okp := fun _ => True) ?hr ?hp (fun _ hk => hk) trivial (Below.refl _ _) (Nat.le_refl _) (by simp) ?_; (case hd => rfl); (case hg => rfl); (case hr => first | (go_simp; done) | (go_simp; rfl)); (case hp => exact (Reps.c4 (show Kd.M k40 _ _ _ (⟨8, 7, 0, 0⟩ : S40) [.int .i64 8, .int .u32 7, .int .i64 0, .int .i64 0] from (k40_mkM _ _ _ (⟨8, 7, 0, 0⟩ : S40) )) (Reps.none _ _))); intro v102 w5 ho6 hb hg_ hnew_; clear hg_ hnew_; (first | rw [← Ny101.out] at ho6 | (simp only [Int.reduceToNat] at ho6; rw [← Ny101.out] at ho6)); have n0_ := Aside0.mk (Kd.R_lower ho6 (below_size (by repeat (first | (with_reducible first | exact HB.out | apply below_alloc | apply pw_below_drewN | apply below_drew1) | exact HB.out)))); have n1_ := Aside0.mk (below_step (by repeat (first | (with_reducible first | exact HB.out | apply below_alloc | apply pw_below_drewN | apply below_drew1) | exact HB.out)) hb); clear HB; have HO103 := n0_; have HB := n1_; clear n0_ n1_; clear hb ho6; obtain ⟨Ao7, co7, eo7⟩ := Kd.R_slice HO103.out; subst eo7) | ((with_reducible refine gate_callee (f := 34) rfl ?_); refine goesL_ (some 6) rfl rfl Try.func34 (by kernel_rfl) rfl #[.slice Ao7 y101.length co7] rfl (by (try simp only [List.map_toArray, List.map_cons, List.map_nil]); first | done | rfl | (simp only [List.length_drop, List.length_take]; rfl)) ?_; (with_reducible refine (emit_Assemble.calls _ _ y101 t104 t105 _ ?side1 ?side2 A1.out).mono ?_); (case side1 => repeat (first | exact (Kd.R_reads' HO103.out).2.2 | (with_reducible refine Kd.C_alloc ?_ _) | (with_reducible refine Kd.C_drewN ?_ _) | (with_reducible refine Kd.C_drew ?_))); (case side2 => exact (Kd.R_reads' HO103.out).2.1); rintro e w8 ⟨v106, rfl, ho0, hb⟩; refine ⟨_, rfl, ?_⟩; have n0_ := Aside0.mk (Kd.R_below (by (with_reducible repeat (first | apply Kd.R_alloc | apply Kd.R_drewN | apply Kd.R_drew)); exact HO103.out) hb); have n1_ := Aside0.mk (Kd.R_lower ho0 (below_size (by repeat (first | (with_reducible first | exact HB.out | apply below_alloc | apply pw_below_drewN | apply below_drew1) | exact HB.out)))); have n2_ := Aside0.mk (below_step (by repeat (first | (with_reducible first | exact HB.out | apply below_alloc | apply pw_below_drewN | apply below_drew1) | exact HB.out)) hb); clear HO103; clear HB; have HO103 := n0_; have HO107 := n1_; have HB := n2_; clear n0_ n1_ n2_; (try clear hb); (try clear hb2); (try clear hk); (try clear hi); (try clear ho0); obtain ⟨Ao9, co9, eo9⟩ := Kd.R_slice HO107.out; subst eo9; have p108 : 0 ≤ (0 : Int) := (by omega); have q108 : 0 < (t104.length : Int) := of_decide_eq_true (by first | (with_reducible assumption) | assumption); obtain ⟨ad108, e108, hx108_0, hx108_1, hx108_2, hx108_3⟩ := at_T28 (Kd.R_reads' HO107.out).2.2 0 p108 q108; cases e108; have qi108 : (0 < t104.length) = True := eq_true (by omega); (try rw [show ((0 : Int)).toNat = 0 from rfl] at hx108_0); (try rw [show 0 * 4 = 0 from rfl] at hx108_0); (try rw [Addr.add_zero'] at hx108_0); (try rw [show ((0 : Int)).toNat = 0 from rfl] at hx108_1); (try rw [show 0 * 4 = 0 from rfl] at hx108_1); (try rw [Addr.add_zero'] at hx108_1); (try rw [show ((0 : Int)).toNat = 0 from rfl] at hx108_2); (try rw [show 0 * 4 = 0 from rfl] at hx108_2); (try rw [Addr.add_zero'] at hx108_2); (try rw [show ((0 : Int)).toNat = 0 from rfl] at hx108_3); (try rw [show 0 * 4 = 0 from rfl] at hx108_3); (try rw [Addr.add_zero'] at hx108_3); replace p108 := eq_true p108; replace q108 := eq_true q108))
        go_ret
        exact ⟨by first | rfl | (simp [errW_none, errW_some] <;> rfl) | (simp [*, errW_none, errW_some] <;> rfl), by repeat (first | (with_reducible first | exact HB.out | apply below_alloc | apply pw_below_drewN | apply below_drew1) | exact HB.out)⟩
      · rw [if_neg c4] at H
        exact absurd H (by simp)
    · rw [if_neg c3] at H
      have c3b0 : ((t104.length : Int) == 1) = false := beq_eq_false_iff_ne.mpr c3
      have c3b1 : ((t104.length : Int) != 1) = true := bne_iff_ne.mpr c3
      obtain rfl := Option.some.inj H
      go_enter Try.func35, Try.ntmps35
      go_wp2_with (first | ((with_reducible refine gate_dst (N := 5) rfl ?_); (try (refine gate_guard (by rfl) ?_; dsimp only)); refine Kd.R_lit k40 _ 40 ?hg (N := 5) ?hd (xs := ([(⟨8, 7, 0, 0⟩ : S40)] : List (S40))) (inner := [.int .i64 8, .int .u32 7, .int .i64 0, .int .i64 0]) (ok := fun _ => True) (okp := fun _ => True) ?hr ?hp (fun _ hk => hk) trivial (Below.refl _ _) (Nat.le_refl _) (by simp) ?_; (case hd => rfl); (case hg => rfl); (case hr => first | (go_simp; done) | (go_simp; rfl)); (case hp => exact (Reps.c4 (show Kd.M k40 _ _ _ (⟨8, 7, 0, 0⟩ : S40) [.int .i64 8, .int .u32 7, .int .i64 0, .int .i64 0] from (k40_mkM _ _ _ (⟨8, 7, 0, 0⟩ : S40) )) (Reps.none _ _))); intro v102 w10 ho11 hb hg_ hnew_; clear hg_ hnew_; (first | rw [← Ny101.out] at ho11 | (simp only [Int.reduceToNat] at ho11; rw [← Ny101.out] at ho11)); have n0_ := Aside0.mk (Kd.R_lower ho11 (below_size (by repeat (first | (with_reducible first | exact HB.out | apply below_alloc | apply pw_below_drewN | apply below_drew1) | exact HB.out)))); have n1_ := Aside0.mk (below_step (by repeat (first | (with_reducible first | exact HB.out | apply below_alloc | apply pw_below_drewN | apply below_drew1) | exact HB.out)) hb); clear HB; have HO103 := n0_; have HB := n1_; clear n0_ n1_; clear hb ho11; obtain ⟨Ao12, co12, eo12⟩ := Kd.R_slice HO103.out; subst eo12) | ((with_reducible refine gate_callee (f := 34) rfl ?_); refine goesL_ (some 6) rfl rfl Try.func34 (by kernel_rfl) rfl #[.slice Ao12 y101.length co12] rfl (by (try simp only [List.map_toArray, List.map_cons, List.map_nil]); first | done | rfl | (simp only [List.length_drop, List.length_take]; rfl)) ?_; (with_reducible refine (emit_Assemble.calls _ _ y101 t104 t105 _ ?side1 ?side2 A1.out).mono ?_); (case side1 => repeat (first | exact (Kd.R_reads' HO103.out).2.2 | (with_reducible refine Kd.C_alloc ?_ _) | (with_reducible refine Kd.C_drewN ?_ _) | (with_reducible refine Kd.C_drew ?_))); (case side2 => exact (Kd.R_reads' HO103.out).2.1); rintro e w13 ⟨v106, rfl, ho0, hb⟩; refine ⟨_, rfl, ?_⟩; have n0_ := Aside0.mk (Kd.R_below (by (with_reducible repeat (first | apply Kd.R_alloc | apply Kd.R_drewN | apply Kd.R_drew)); exact HO103.out) hb); have n1_ := Aside0.mk (Kd.R_lower ho0 (below_size (by repeat (first | (with_reducible first | exact HB.out | apply below_alloc | apply pw_below_drewN | apply below_drew1) | exact HB.out)))); have n2_ := Aside0.mk (below_step (by repeat (first | (with_reducible first | exact HB.out | apply below_alloc | apply pw_below_drewN | apply below_drew1) | exact HB.out)) hb); clear HO103; clear HB; have HO103 := n0_; have HO107 := n1_; have HB := n2_; clear n0_ n1_ n2_; (try clear hb); (try clear hb2); (try clear hk); (try clear hi); (try clear ho0); obtain ⟨Ao14, co14, eo14⟩ := Kd.R_slice HO107.out; subst eo14))
      go_ret
      exact ⟨by first | rfl | (simp [errW_none, errW_some] <;> rfl) | (simp [*, errW_none, errW_some] <;> rfl), by repeat (first | (with_reducible first | exact HB.out | apply below_alloc | apply pw_below_drewN | apply below_drew1) | exact HB.out)⟩
  · rw [if_neg c2] at H
    have c2b0 : (t105 == 0) = false := beq_eq_false_iff_ne.mpr c2
    have c2b1 : (t105 != 0) = true := bne_iff_ne.mpr c2
    obtain rfl := Option.some.inj H
    go_enter Try.func35, Try.ntmps35
    go_wp2_with (first | ((with_reducible refine gate_dst (N := 5) rfl ?_); (try (refine gate_guard (by rfl) ?_; dsimp only)); refine Kd.R_lit k40 _ 40 ?hg (N := 5) ?hd (xs := ([(⟨8, 7, 0, 0⟩ : S40)] : List (S40))) (inner := [.int .i64 8, .int .u32 7, .int .i64 0, .int .i64 0]) (ok := fun _ => True) (okp := fun _ => True) ?hr ?hp (fun _ hk => hk) trivial (Below.refl _ _) (Nat.le_refl _) (by simp) ?_; (case hd => rfl); (case hg => rfl); (case hr => first | (go_simp; done) | (go_simp; rfl)); (case hp => exact (Reps.c4 (show Kd.M k40 _ _ _ (⟨8, 7, 0, 0⟩ : S40) [.int .i64 8, .int .u32 7, .int .i64 0, .int .i64 0] from (k40_mkM _ _ _ (⟨8, 7, 0, 0⟩ : S40) )) (Reps.none _ _))); intro v102 w15 ho16 hb hg_ hnew_; clear hg_ hnew_; (first | rw [← Ny101.out] at ho16 | (simp only [Int.reduceToNat] at ho16; rw [← Ny101.out] at ho16)); have n0_ := Aside0.mk (Kd.R_lower ho16 (below_size (by repeat (first | (with_reducible first | exact HB.out | apply below_alloc | apply pw_below_drewN | apply below_drew1) | exact HB.out)))); have n1_ := Aside0.mk (below_step (by repeat (first | (with_reducible first | exact HB.out | apply below_alloc | apply pw_below_drewN | apply below_drew1) | exact HB.out)) hb); clear HB; have HO103 := n0_; have HB := n1_; clear n0_ n1_; clear hb ho16; obtain ⟨Ao17, co17, eo17⟩ := Kd.R_slice HO103.out; subst eo17) | ((with_reducible refine gate_callee (f := 34) rfl ?_); refine goesL_ (some 6) rfl rfl Try.func34 (by kernel_rfl) rfl #[.slice Ao17 y101.length co17] rfl (by (try simp only [List.map_toArray, List.map_cons, List.map_nil]); first | done | rfl | (simp only [List.length_drop, List.length_take]; rfl)) ?_; (with_reducible refine (emit_Assemble.calls _ _ y101 t104 t105 _ ?side1 ?side2 A1.out).mono ?_); (case side1 => repeat (first | exact (Kd.R_reads' HO103.out).2.2 | (with_reducible refine Kd.C_alloc ?_ _) | (with_reducible refine Kd.C_drewN ?_ _) | (with_reducible refine Kd.C_drew ?_))); (case side2 => exact (Kd.R_reads' HO103.out).2.1); rintro e w18 ⟨v106, rfl, ho0, hb⟩; refine ⟨_, rfl, ?_⟩; have n0_ := Aside0.mk (Kd.R_below (by (with_reducible repeat (first | apply Kd.R_alloc | apply Kd.R_drewN | apply Kd.R_drew)); exact HO103.out) hb); have n1_ := Aside0.mk (Kd.R_lower ho0 (below_size (by repeat (first | (with_reducible first | exact HB.out | apply below_alloc | apply pw_below_drewN | apply below_drew1) | exact HB.out)))); have n2_ := Aside0.mk (below_step (by repeat (first | (with_reducible first | exact HB.out | apply below_alloc | apply pw_below_drewN | apply below_drew1) | exact HB.out)) hb); clear HO103; clear HB; have HO103 := n0_; have HO107 := n1_; have HB := n2_; clear n0_ n1_ n2_; (try clear hb); (try clear hb2); (try clear hk); (try clear hi); (try clear ho0)))
    go_ret
    exact ⟨by first | rfl | (simp [errW_none, errW_some] <;> rfl) | (simp [*, errW_none, errW_some] <;> rfl), by repeat (first | (with_reducible first | exact HB.out | apply below_alloc | apply pw_below_drewN | apply below_drew1) | exact HB.out)⟩
end Go.Proofs.Ytefkhcijgiagdaa.E2
end
