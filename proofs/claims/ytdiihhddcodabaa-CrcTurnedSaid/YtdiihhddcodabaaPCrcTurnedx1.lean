-- Written by a program of this session (wip/tools/unit.py) with the kit's print.
import Derived.Test.YtdiihhddcodabaaPCrcTurnedx0
namespace Go.Proofs.Ytdiihhddcodabaa.PCrcTurned
open Go.RowKit Go.Proofs.YtdiihhddcodabaaW.PrintWords Go.Proofs.YtdiihhddcodabaaW.PrintLast Go.Proofs.YtdiihhddcodabaaW.PrintMore
attribute [local go_sem] max2_int min2_int max_two min_two max_three min_three max_four min_four   -- for this text's walks alone
set_option linter.unusedVariables false
open Go.Proofs.Ytdiihhddcodabaa.HCrc Go.Proofs.Ytdiihhddcodabaa.B Go.Proofs.Ytdiihhddcodabaa.HTurned
set_option linter.unusedSimpArgs false

/-! ### doorwardlaw02_CrcTurned: function 5 -/
def doorwardlaw02_CrcTurned.j0 : Nat → Int → Int → ByteArray → Bool → Option (Bool)
  | 0, _, _, _, _ => none
  | k + 1, x1, x2, x7, x37 => if x37 = true then (some false) else (if (wrap64 (8 * (x7.size : Int))) = 0 then (none) else ((doorwardref02_Turned.f x7 (Int.tmod (wrap64 ((Int.tmod x1 (wrap64 (8 * (x7.size : Int)))) + (wrap64 (8 * (x7.size : Int))))) (wrap64 (8 * (x7.size : Int)))) x2).bind fun t105 => ((crc_Open.f k t105).bind fun bt106 => ((doorwardlaw02_alive.f).bind fun t108 => (if t108 = true then (if ((bt106.2 == 0) == (t105.toList == x7.toList)) = true then (if bt106.2 = 0 then (some true) else (some (bt106.2 == 4))) else (some false)) else (some false))))))
def doorwardlaw02_CrcTurned.f (k : Nat) (a0 : ByteArray) (a1 : Int) (a2 : Int) : Option (Bool) := (doorwardlaw02_short.f a0).bind fun t101 => ((crc_Seal.f k t101).bind fun t102 => ((crc_Open.f k t102).bind fun bt103 => (if bt103.2 = 0 then (if bt103.1.toList = t101.toList then (doorwardlaw02_CrcTurned.j0 k a1 a2 t102 ((t102.size : Int) != (wrap64 ((t101.size : Int) + 4)))) else (doorwardlaw02_CrcTurned.j0 k a1 a2 t102 true)) else (doorwardlaw02_CrcTurned.j0 k a1 a2 t102 true))))
theorem doorwardlaw02_CrcTurned.mono_l : ∀ k, (∀ y0 y1 y2 y3, LeO (doorwardlaw02_CrcTurned.j0 k y0 y1 y2 y3) (doorwardlaw02_CrcTurned.j0 (k + 1) y0 y1 y2 y3))
  | 0 => fun _ _ _ _ r h => by simp [doorwardlaw02_CrcTurned.j0] at h
  | k + 1 => by
    have ih0 := doorwardlaw02_CrcTurned.mono_l k
    · intro y0 y1 y2 y3
      unfold doorwardlaw02_CrcTurned.j0
      repeat' first
      | (with_reducible exact ih0 _ _ _ _)
      | (with_reducible exact crc_Open.mono _ _)
      | (with_reducible exact crc_Seal.mono _ _)
      | (with_reducible exact LeO.refl _)
      | (with_reducible exact LeO.none _)
      | (with_reducible refine LeO.ite ?_ ?_)
      | (with_reducible refine LeO.bind ?_ (fun _ => ?_))
      | exact ih0 _ _ _ _
      | exact crc_Open.mono _ _
      | exact crc_Seal.mono _ _
      | exact LeO.none _
      | refine LeO.ite ?_ ?_
      | refine LeO.bind ?_ (fun _ => ?_)
theorem doorwardlaw02_CrcTurned.mono : ∀ a0 a1 a2 k, LeO (doorwardlaw02_CrcTurned.f k a0 a1 a2) (doorwardlaw02_CrcTurned.f (k + 1) a0 a1 a2) := by
  intro a0 a1 a2 k
  have ih0 := doorwardlaw02_CrcTurned.mono_l k
  unfold doorwardlaw02_CrcTurned.f
  repeat' first
      | (with_reducible exact ih0 _ _ _ _)
      | (with_reducible exact crc_Open.mono _ _)
      | (with_reducible exact crc_Seal.mono _ _)
      | (with_reducible exact LeO.refl _)
      | (with_reducible exact LeO.none _)
      | (with_reducible refine LeO.ite ?_ ?_)
      | (with_reducible refine LeO.bind ?_ (fun _ => ?_))
      | exact ih0 _ _ _ _
      | exact crc_Open.mono _ _
      | exact crc_Seal.mono _ _
      | exact LeO.none _
      | refine LeO.ite ?_ ?_
      | refine LeO.bind ?_ (fun _ => ?_)
set_option maxHeartbeats 8000000 in
set_option maxRecDepth 100000 in
theorem doorwardlaw02_CrcTurned.calls (k : Nat) (a0 : ByteArray) (a1 : Int) (a2 : Int) (r : Bool) (w : World) (h : doorwardlaw02_CrcTurned.f k a0 a1 a2 = some r) :
    Calls Try.prog 5 #[.string a0, .int .i64 a1, .int .u32 a2] w fun e w' => e = .returned (.bool r) ∧ Below w.heap.size w w' := by
  have HB := Aside0.mk (Below.refl w.heap.size w)
  have H : ((doorwardlaw02_short.f a0).bind fun t101 => ((crc_Seal.f k t101).bind fun t102 => ((crc_Open.f k t102).bind fun bt103 => (if bt103.2 = 0 then (if bt103.1.toList = t101.toList then (doorwardlaw02_CrcTurned.j0 k a1 a2 t102 ((t102.size : Int) != (wrap64 ((t101.size : Int) + 4)))) else (doorwardlaw02_CrcTurned.j0 k a1 a2 t102 true)) else (doorwardlaw02_CrcTurned.j0 k a1 a2 t102 true))))) = some r := h
  clear h
  replace H := Option.bind_eq_some_iff.mp H
  obtain ⟨t101, A40, H⟩ := H
  replace H : ((crc_Seal.f k t101).bind fun t102 => ((crc_Open.f k t102).bind fun bt103 => (if bt103.2 = 0 then (if bt103.1.toList = t101.toList then (doorwardlaw02_CrcTurned.j0 k a1 a2 t102 ((t102.size : Int) != (wrap64 ((t101.size : Int) + 4)))) else (doorwardlaw02_CrcTurned.j0 k a1 a2 t102 true)) else (doorwardlaw02_CrcTurned.j0 k a1 a2 t102 true)))) = some r := H
  have A4 := Aside0.mk A40
  clear A40
  replace H := Option.bind_eq_some_iff.mp H
  obtain ⟨t102, A50, H⟩ := H
  replace H : ((crc_Open.f k t102).bind fun bt103 => (if bt103.2 = 0 then (if bt103.1.toList = t101.toList then (doorwardlaw02_CrcTurned.j0 k a1 a2 t102 ((t102.size : Int) != (wrap64 ((t101.size : Int) + 4)))) else (doorwardlaw02_CrcTurned.j0 k a1 a2 t102 true)) else (doorwardlaw02_CrcTurned.j0 k a1 a2 t102 true))) = some r := H
  have A5 := Aside0.mk A50
  clear A50
  replace H := Option.bind_eq_some_iff.mp H
  obtain ⟨⟨t103, t104⟩, A60, H⟩ := H
  replace H : (if t104 = 0 then (if t103.toList = t101.toList then (doorwardlaw02_CrcTurned.j0 k a1 a2 t102 ((t102.size : Int) != (wrap64 ((t101.size : Int) + 4)))) else (doorwardlaw02_CrcTurned.j0 k a1 a2 t102 true)) else (doorwardlaw02_CrcTurned.j0 k a1 a2 t102 true)) = some r := H
  have A6 := Aside0.mk A60
  clear A60
  have HC7 := Aside0.mk H
  clear H
  go_enter Try.func5, Try.ntmps5
  go_upto_region 4 with (first | ((with_reducible refine gate_callee (f := 9) rfl ?_); refine goesL_ (some 15) rfl rfl Try.func9 (by kernel_rfl) rfl #[.string a0] rfl (by (try simp only [List.map_toArray, List.map_cons, List.map_nil]); first | done | rfl | (simp only [List.length_drop, List.length_take]; rfl)) ?_; (with_reducible refine (doorwardlaw02_short.calls a0 t101 _ A4.out).mono ?_); rintro e w8 ⟨rfl, hb⟩; refine ⟨_, rfl, ?_⟩; have n0_ := Aside0.mk (below_step (by repeat (first | (with_reducible first | exact HB.out | apply below_alloc | apply pw_below_drewN | apply below_drew1) | exact HB.out)) hb); clear HB; have HB := n0_; clear n0_; (try clear hb); (try clear hb2); (try clear hk); (try clear hi)) | ((with_reducible refine gate_callee (f := 13) rfl ?_); refine goesL_ (some 17) rfl rfl Try.func13 (by kernel_rfl) rfl #[.string t101] rfl (by (try simp only [List.map_toArray, List.map_cons, List.map_nil]); first | done | rfl | (simp only [List.length_drop, List.length_take]; rfl)) ?_; (with_reducible refine (crc_Seal.calls k t101 t102 _ A5.out).mono ?_); rintro e w9 ⟨rfl, hb⟩; refine ⟨_, rfl, ?_⟩; have n0_ := Aside0.mk (below_step (by repeat (first | (with_reducible first | exact HB.out | apply below_alloc | apply pw_below_drewN | apply below_drew1) | exact HB.out)) hb); clear HB; have HB := n0_; clear n0_; (try clear hb); (try clear hb2); (try clear hk); (try clear hi)) | ((with_reducible refine gate_callee (f := 10) rfl ?_); refine goesL_ (some 20) rfl rfl Try.func10 (by kernel_rfl) rfl #[.string t102] rfl (by (try simp only [List.map_toArray, List.map_cons, List.map_nil]); first | done | rfl | (simp only [List.length_drop, List.length_take]; rfl)) ?_; (with_reducible refine (crc_Open.calls k t102 t103 t104 _ A6.out).mono ?_); rintro e w10 ⟨rfl, hb⟩; refine ⟨_, rfl, ?_⟩; have n0_ := Aside0.mk (below_step (by repeat (first | (with_reducible first | exact HB.out | apply below_alloc | apply pw_below_drewN | apply below_drew1) | exact HB.out)) hb); clear HB; have HB := n0_; clear n0_; (try clear hb); (try clear hb2); (try clear hk); (try clear hi)))
  (try simp only [Act.put, List.setIfInBounds_toArray, List.set_cons_zero, List.set_cons_succ])
  go_cut [37] (fun v37 wc => ∃ (kq : Nat) (x37_6 : Bool), v37 = .bool x37_6 ∧ Aside0 (doorwardlaw02_CrcTurned.j0 kq a1 a2 t102 x37_6 = some r) ∧ Aside0 (kq ≤ k) ∧ Aside0 (Below w.heap.size w wc))
  case first =>
    have H := HC7.out
    clear HC7
    by_cases c11 : t104 = 0
    · rw [if_pos c11] at H
      have c11b0 : (t104 == 0) = true := beq_iff_eq.mpr c11
      have c11b1 : (t104 != 0) = false := bne_eq_false_iff_eq.mpr c11
      clear c11
      (first | rw [c11b0] | (simp only [i64_w, i32_w]; rw [c11b0]) | skip)
      by_cases c12 : t103.toList = t101.toList
      · rw [if_pos c12] at H
        have c12b0 : (t103.toList == t101.toList) = true := beq_iff_eq.mpr c12
        have c12b1 : (t103.toList != t101.toList) = false := bne_eq_false_iff_eq.mpr c12
        clear c12
        have H' := Aside0.mk H
        clear H
        go_wp2
        go_meet
        case rel => exact ⟨_, (((t102.size : Int) != (wrap64 ((t101.size : Int) + 4)))), (by first | rfl | (simp; done) | (simp [*]; done)), H', ⟨by first | omega | exact Nat.le_refl _⟩, ⟨by repeat (first | (with_reducible first | exact HB.out | apply below_alloc | apply pw_below_drewN | apply below_drew1) | exact HB.out)⟩⟩
      · rw [if_neg c12] at H
        have c12b0 : (t103.toList == t101.toList) = false := beq_eq_false_iff_ne.mpr c12
        have c12b1 : (t103.toList != t101.toList) = true := bne_iff_ne.mpr c12
        have H' := Aside0.mk H
        clear H
        go_wp2
        go_meet
        case rel => exact ⟨_, (true), (by first | rfl | (simp; done) | (simp [*]; done)), H', ⟨by first | omega | exact Nat.le_refl _⟩, ⟨by repeat (first | (with_reducible first | exact HB.out | apply below_alloc | apply pw_below_drewN | apply below_drew1) | exact HB.out)⟩⟩
    · rw [if_neg c11] at H
      have c11b0 : (t104 == 0) = false := beq_eq_false_iff_ne.mpr c11
      have c11b1 : (t104 != 0) = true := bne_iff_ne.mpr c11
      (first | rw [c11b0] | (simp only [i64_w, i32_w]; rw [c11b0]) | skip)
      have H' := Aside0.mk H
      clear H
      go_wp2
      go_meet
      case rel => exact ⟨_, (true), (by first | rfl | (simp; done) | (simp [*]; done)), H', ⟨by first | omega | exact Nat.le_refl _⟩, ⟨by repeat (first | (with_reducible first | exact HB.out | apply below_alloc | apply pw_below_drewN | apply below_drew1) | exact HB.out)⟩⟩
  case rest =>
    clear HC7
    try clear c1
    try clear p2
    try clear c5
    try clear p6
    try clear c9
    try clear c10
    try clear c11
    try clear c11b0
    try clear c11b1
    try clear c12
    try clear c12b0
    try clear c12b1
    obtain ⟨kq, x37_6, rfl, HA, HJ6, HB⟩ := hcut
    cases kq with
    | zero => exact absurd HA.out (by simp [doorwardlaw02_CrcTurned.j0])
    | succ kj6 =>
      have H := HA.out
      clear HA
      simp only [doorwardlaw02_CrcTurned.j0] at H
      by_cases c13 : x37_6 = true
      · subst c13
        have H1 : (some false) = some r := by rw [if_pos rfl] at H; exact H
        clear H
        have H := H1
        clear H1
        obtain rfl := Option.some.inj H
        go_wp2
        go_ret
        exact ⟨by first | rfl | (simp [errW_none, errW_some] <;> rfl) | (simp [*, errW_none, errW_some] <;> rfl), by repeat (first | (with_reducible first | exact HB.out | apply below_alloc | apply pw_below_drewN | apply below_drew1) | exact HB.out)⟩
      · replace c13 := Bool.eq_false_iff.mpr c13
        subst c13
        have H1 : (if (wrap64 (8 * (t102.size : Int))) = 0 then (none) else ((doorwardref02_Turned.f t102 (Int.tmod (wrap64 ((Int.tmod a1 (wrap64 (8 * (t102.size : Int)))) + (wrap64 (8 * (t102.size : Int))))) (wrap64 (8 * (t102.size : Int)))) a2).bind fun t105 => ((crc_Open.f kj6 t105).bind fun bt106 => ((doorwardlaw02_alive.f).bind fun t108 => (if t108 = true then (if ((bt106.2 == 0) == (t105.toList == t102.toList)) = true then (if bt106.2 = 0 then (some true) else (some (bt106.2 == 4))) else (some false)) else (some false)))))) = some r := by rw [if_neg (show ¬ (false = true) by decide)] at H; exact H
        clear H
        have H := H1
        clear H1
        by_cases c14 : (wrap64 (8 * (t102.size : Int))) = 0
        · rw [if_pos c14] at H
          exact absurd H (by simp)
        · rw [if_neg c14] at H
          have c14b0 : ((wrap64 (8 * (t102.size : Int))) == 0) = false := beq_eq_false_iff_ne.mpr c14
          have c14b1 : ((wrap64 (8 * (t102.size : Int))) != 0) = true := bne_iff_ne.mpr c14
          replace H := Option.bind_eq_some_iff.mp H
          obtain ⟨t105, A150, H⟩ := H
          replace H : ((crc_Open.f kj6 t105).bind fun bt106 => ((doorwardlaw02_alive.f).bind fun t108 => (if t108 = true then (if ((bt106.2 == 0) == (t105.toList == t102.toList)) = true then (if bt106.2 = 0 then (some true) else (some (bt106.2 == 4))) else (some false)) else (some false)))) = some r := H
          have A15 := Aside0.mk A150
          clear A150
          replace H := Option.bind_eq_some_iff.mp H
          obtain ⟨⟨t106, t107⟩, A160, H⟩ := H
          replace H : ((doorwardlaw02_alive.f).bind fun t108 => (if t108 = true then (if ((t107 == 0) == (t105.toList == t102.toList)) = true then (if t107 = 0 then (some true) else (some (t107 == 4))) else (some false)) else (some false))) = some r := H
          have A16 := Aside0.mk A160
          clear A160
          replace H := Option.bind_eq_some_iff.mp H
          obtain ⟨t108, A170, H⟩ := H
          replace H : (if t108 = true then (if ((t107 == 0) == (t105.toList == t102.toList)) = true then (if t107 = 0 then (some true) else (some (t107 == 4))) else (some false)) else (some false)) = some r := H
          have A17 := Aside0.mk A170
          clear A170
          by_cases c18 : t108 = true
          · subst c18
            have H1 : (if ((t107 == 0) == (t105.toList == t102.toList)) = true then (if t107 = 0 then (some true) else (some (t107 == 4))) else (some false)) = some r := by rw [if_pos rfl] at H; exact H
            clear H
            have H := H1
            clear H1
            by_cases c19 : ((t107 == 0) == (t105.toList == t102.toList)) = true
            · rw [if_pos c19] at H
              have c19b0 : ((t107 == 0) == (t105.toList == t102.toList)) = true := c19
              (try (have c19b1 : decide ((t107 == 0) = (t105.toList == t102.toList)) = true := by simpa using c19))
              (try (have c19b2 : ((t107 == 0) == (t105.toList == t102.toList)) = true := by simpa using c19))
              clear c19
              by_cases c20 : t107 = 0
              · rw [if_pos c20] at H
                have c20b0 : (t107 == 0) = true := beq_iff_eq.mpr c20
                have c20b1 : (t107 != 0) = false := bne_eq_false_iff_eq.mpr c20
                have c20c : (t105.toList == t102.toList) = true := by rw [c20b0] at c19b0; simpa using c19b0
                have c20d : t105.toList = t102.toList := by simpa using c20c
                clear c20
                obtain rfl := Option.some.inj H
                go_wp2_with (first | ((with_reducible refine gate_callee (f := 15) rfl ?_); refine goesL_ (some 51) rfl rfl Try.func15 (by kernel_rfl) rfl #[.string t102, .int .i64 (Int.tmod (wrap64 ((Int.tmod a1 (wrap64 (8 * (t102.size : Int)))) + (wrap64 (8 * (t102.size : Int))))) (wrap64 (8 * (t102.size : Int)))), .int .u32 a2] rfl (by (try simp only [List.map_toArray, List.map_cons, List.map_nil]); first | done | rfl | (simp only [List.length_drop, List.length_take]; rfl)) ?_; (with_reducible refine (doorwardref02_Turned.calls t102 (Int.tmod (wrap64 ((Int.tmod a1 (wrap64 (8 * (t102.size : Int)))) + (wrap64 (8 * (t102.size : Int))))) (wrap64 (8 * (t102.size : Int)))) a2 t105 _ A15.out).mono ?_); rintro e w21 ⟨rfl, hb⟩; refine ⟨_, rfl, ?_⟩; have n0_ := Aside0.mk (below_step (by repeat (first | (with_reducible first | exact HB.out | apply below_alloc | apply pw_below_drewN | apply below_drew1) | exact HB.out)) hb); clear HB; have HB := n0_; clear n0_; (try clear hb); (try clear hb2); (try clear hk); (try clear hi)) | ((with_reducible refine gate_callee (f := 10) rfl ?_); refine goesL_ (some 54) rfl rfl Try.func10 (by kernel_rfl) rfl #[.string t105] rfl (by (try simp only [List.map_toArray, List.map_cons, List.map_nil]); first | done | rfl | (simp only [List.length_drop, List.length_take]; rfl)) ?_; (with_reducible refine (crc_Open.calls kj6 t105 t106 t107 _ A16.out).mono ?_); rintro e w22 ⟨rfl, hb⟩; refine ⟨_, rfl, ?_⟩; have n0_ := Aside0.mk (below_step (by repeat (first | (with_reducible first | exact HB.out | apply below_alloc | apply pw_below_drewN | apply below_drew1) | exact HB.out)) hb); clear HB; have HB := n0_; clear n0_; (try clear hb); (try clear hb2); (try clear hk); (try clear hi)) | ((with_reducible refine gate_callee (f := 7) rfl ?_); refine goesL_ (some 57) rfl rfl Try.func7 (by kernel_rfl) rfl #[] rfl (by (try simp only [List.map_toArray, List.map_cons, List.map_nil]); first | done | rfl | (simp only [List.length_drop, List.length_take]; rfl)) ?_; (with_reducible refine (doorwardlaw02_alive.calls  true _ A17.out).mono ?_); rintro e w23 ⟨rfl, hb⟩; refine ⟨_, rfl, ?_⟩; have n0_ := Aside0.mk (below_step (by repeat (first | (with_reducible first | exact HB.out | apply below_alloc | apply pw_below_drewN | apply below_drew1) | exact HB.out)) hb); clear HB; have HB := n0_; clear n0_; (try clear hb); (try clear hb2); (try clear hk); (try clear hi)))
                go_ret
                exact ⟨by first | rfl | (simp [errW_none, errW_some] <;> rfl) | (simp [*, errW_none, errW_some] <;> rfl), by repeat (first | (with_reducible first | exact HB.out | apply below_alloc | apply pw_below_drewN | apply below_drew1) | exact HB.out)⟩
              · rw [if_neg c20] at H
                have c20b0 : (t107 == 0) = false := beq_eq_false_iff_ne.mpr c20
                have c20b1 : (t107 != 0) = true := bne_iff_ne.mpr c20
                have c20c : (t105.toList == t102.toList) = false := by rw [c20b0] at c19b0; simpa using c19b0
                have c20d : ¬ t105.toList = t102.toList := by simpa using c20c
                obtain rfl := Option.some.inj H
                go_wp2_with (first | ((with_reducible refine gate_callee (f := 15) rfl ?_); refine goesL_ (some 51) rfl rfl Try.func15 (by kernel_rfl) rfl #[.string t102, .int .i64 (Int.tmod (wrap64 ((Int.tmod a1 (wrap64 (8 * (t102.size : Int)))) + (wrap64 (8 * (t102.size : Int))))) (wrap64 (8 * (t102.size : Int)))), .int .u32 a2] rfl (by (try simp only [List.map_toArray, List.map_cons, List.map_nil]); first | done | rfl | (simp only [List.length_drop, List.length_take]; rfl)) ?_; (with_reducible refine (doorwardref02_Turned.calls t102 (Int.tmod (wrap64 ((Int.tmod a1 (wrap64 (8 * (t102.size : Int)))) + (wrap64 (8 * (t102.size : Int))))) (wrap64 (8 * (t102.size : Int)))) a2 t105 _ A15.out).mono ?_); rintro e w24 ⟨rfl, hb⟩; refine ⟨_, rfl, ?_⟩; have n0_ := Aside0.mk (below_step (by repeat (first | (with_reducible first | exact HB.out | apply below_alloc | apply pw_below_drewN | apply below_drew1) | exact HB.out)) hb); clear HB; have HB := n0_; clear n0_; (try clear hb); (try clear hb2); (try clear hk); (try clear hi)) | ((with_reducible refine gate_callee (f := 10) rfl ?_); refine goesL_ (some 54) rfl rfl Try.func10 (by kernel_rfl) rfl #[.string t105] rfl (by (try simp only [List.map_toArray, List.map_cons, List.map_nil]); first | done | rfl | (simp only [List.length_drop, List.length_take]; rfl)) ?_; (with_reducible refine (crc_Open.calls kj6 t105 t106 t107 _ A16.out).mono ?_); rintro e w25 ⟨rfl, hb⟩; refine ⟨_, rfl, ?_⟩; have n0_ := Aside0.mk (below_step (by repeat (first | (with_reducible first | exact HB.out | apply below_alloc | apply pw_below_drewN | apply below_drew1) | exact HB.out)) hb); clear HB; have HB := n0_; clear n0_; (try clear hb); (try clear hb2); (try clear hk); (try clear hi)) | ((with_reducible refine gate_callee (f := 7) rfl ?_); refine goesL_ (some 57) rfl rfl Try.func7 (by kernel_rfl) rfl #[] rfl (by (try simp only [List.map_toArray, List.map_cons, List.map_nil]); first | done | rfl | (simp only [List.length_drop, List.length_take]; rfl)) ?_; (with_reducible refine (doorwardlaw02_alive.calls  true _ A17.out).mono ?_); rintro e w26 ⟨rfl, hb⟩; refine ⟨_, rfl, ?_⟩; have n0_ := Aside0.mk (below_step (by repeat (first | (with_reducible first | exact HB.out | apply below_alloc | apply pw_below_drewN | apply below_drew1) | exact HB.out)) hb); clear HB; have HB := n0_; clear n0_; (try clear hb); (try clear hb2); (try clear hk); (try clear hi)))
                go_ret
                exact ⟨by first | rfl | (simp [errW_none, errW_some] <;> rfl) | (simp [*, errW_none, errW_some] <;> rfl), by repeat (first | (with_reducible first | exact HB.out | apply below_alloc | apply pw_below_drewN | apply below_drew1) | exact HB.out)⟩
            · rw [if_neg c19] at H
              have c19b0 : ((t107 == 0) == (t105.toList == t102.toList)) = false := by simpa using c19
              (try (have c19b1 : decide ((t107 == 0) = (t105.toList == t102.toList)) = false := by simpa using c19))
              (try (have c19b2 : ((t107 == 0) == (t105.toList == t102.toList)) = false := by simpa using c19))
              (try (have c19b3 : ¬ ((t107 == 0) = (t105.toList == t102.toList)) := by simpa using c19))
              clear c19
              obtain rfl := Option.some.inj H
              have key : ∀ X Y : Bool, (X == Y) = false → (X = true ∧ Y = false) ∨ (X = false ∧ Y = true) := by decide
              clear c19b1 c19b2 c19b3
              rcases key _ _ c19b0 with ⟨hX, hY⟩ | ⟨hX, hY⟩
              · have hY2 : ¬ t105.toList = t102.toList := by simpa using hY
                go_wp2_with (first | ((with_reducible refine gate_callee (f := 15) rfl ?_); refine goesL_ (some 51) rfl rfl Try.func15 (by kernel_rfl) rfl #[.string t102, .int .i64 (Int.tmod (wrap64 ((Int.tmod a1 (wrap64 (8 * (t102.size : Int)))) + (wrap64 (8 * (t102.size : Int))))) (wrap64 (8 * (t102.size : Int)))), .int .u32 a2] rfl (by (try simp only [List.map_toArray, List.map_cons, List.map_nil]); first | done | rfl | (simp only [List.length_drop, List.length_take]; rfl)) ?_; (with_reducible refine (doorwardref02_Turned.calls t102 (Int.tmod (wrap64 ((Int.tmod a1 (wrap64 (8 * (t102.size : Int)))) + (wrap64 (8 * (t102.size : Int))))) (wrap64 (8 * (t102.size : Int)))) a2 t105 _ A15.out).mono ?_); rintro e w27 ⟨rfl, hb⟩; refine ⟨_, rfl, ?_⟩; have n0_ := Aside0.mk (below_step (by repeat (first | (with_reducible first | exact HB.out | apply below_alloc | apply pw_below_drewN | apply below_drew1) | exact HB.out)) hb); clear HB; have HB := n0_; clear n0_; (try clear hb); (try clear hb2); (try clear hk); (try clear hi)) | ((with_reducible refine gate_callee (f := 10) rfl ?_); refine goesL_ (some 54) rfl rfl Try.func10 (by kernel_rfl) rfl #[.string t105] rfl (by (try simp only [List.map_toArray, List.map_cons, List.map_nil]); first | done | rfl | (simp only [List.length_drop, List.length_take]; rfl)) ?_; (with_reducible refine (crc_Open.calls kj6 t105 t106 t107 _ A16.out).mono ?_); rintro e w28 ⟨rfl, hb⟩; refine ⟨_, rfl, ?_⟩; have n0_ := Aside0.mk (below_step (by repeat (first | (with_reducible first | exact HB.out | apply below_alloc | apply pw_below_drewN | apply below_drew1) | exact HB.out)) hb); clear HB; have HB := n0_; clear n0_; (try clear hb); (try clear hb2); (try clear hk); (try clear hi)) | ((with_reducible refine gate_callee (f := 7) rfl ?_); refine goesL_ (some 57) rfl rfl Try.func7 (by kernel_rfl) rfl #[] rfl (by (try simp only [List.map_toArray, List.map_cons, List.map_nil]); first | done | rfl | (simp only [List.length_drop, List.length_take]; rfl)) ?_; (with_reducible refine (doorwardlaw02_alive.calls  true _ A17.out).mono ?_); rintro e w29 ⟨rfl, hb⟩; refine ⟨_, rfl, ?_⟩; have n0_ := Aside0.mk (below_step (by repeat (first | (with_reducible first | exact HB.out | apply below_alloc | apply pw_below_drewN | apply below_drew1) | exact HB.out)) hb); clear HB; have HB := n0_; clear n0_; (try clear hb); (try clear hb2); (try clear hk); (try clear hi)))
                go_ret
                exact ⟨by first | rfl | (simp [errW_none, errW_some] <;> rfl) | (simp [*, errW_none, errW_some] <;> rfl), by repeat (first | (with_reducible first | exact HB.out | apply below_alloc | apply pw_below_drewN | apply below_drew1) | exact HB.out)⟩
              · have hY2 : t105.toList = t102.toList := by simpa using hY
                go_wp2_with (first | ((with_reducible refine gate_callee (f := 15) rfl ?_); refine goesL_ (some 51) rfl rfl Try.func15 (by kernel_rfl) rfl #[.string t102, .int .i64 (Int.tmod (wrap64 ((Int.tmod a1 (wrap64 (8 * (t102.size : Int)))) + (wrap64 (8 * (t102.size : Int))))) (wrap64 (8 * (t102.size : Int)))), .int .u32 a2] rfl (by (try simp only [List.map_toArray, List.map_cons, List.map_nil]); first | done | rfl | (simp only [List.length_drop, List.length_take]; rfl)) ?_; (with_reducible refine (doorwardref02_Turned.calls t102 (Int.tmod (wrap64 ((Int.tmod a1 (wrap64 (8 * (t102.size : Int)))) + (wrap64 (8 * (t102.size : Int))))) (wrap64 (8 * (t102.size : Int)))) a2 t105 _ A15.out).mono ?_); rintro e w27 ⟨rfl, hb⟩; refine ⟨_, rfl, ?_⟩; have n0_ := Aside0.mk (below_step (by repeat (first | (with_reducible first | exact HB.out | apply below_alloc | apply pw_below_drewN | apply below_drew1) | exact HB.out)) hb); clear HB; have HB := n0_; clear n0_; (try clear hb); (try clear hb2); (try clear hk); (try clear hi)) | ((with_reducible refine gate_callee (f := 10) rfl ?_); refine goesL_ (some 54) rfl rfl Try.func10 (by kernel_rfl) rfl #[.string t105] rfl (by (try simp only [List.map_toArray, List.map_cons, List.map_nil]); first | done | rfl | (simp only [List.length_drop, List.length_take]; rfl)) ?_; (with_reducible refine (crc_Open.calls kj6 t105 t106 t107 _ A16.out).mono ?_); rintro e w28 ⟨rfl, hb⟩; refine ⟨_, rfl, ?_⟩; have n0_ := Aside0.mk (below_step (by repeat (first | (with_reducible first | exact HB.out | apply below_alloc | apply pw_below_drewN | apply below_drew1) | exact HB.out)) hb); clear HB; have HB := n0_; clear n0_; (try clear hb); (try clear hb2); (try clear hk); (try clear hi)) | ((with_reducible refine gate_callee (f := 7) rfl ?_); refine goesL_ (some 57) rfl rfl Try.func7 (by kernel_rfl) rfl #[] rfl (by (try simp only [List.map_toArray, List.map_cons, List.map_nil]); first | done | rfl | (simp only [List.length_drop, List.length_take]; rfl)) ?_; (with_reducible refine (doorwardlaw02_alive.calls  true _ A17.out).mono ?_); rintro e w29 ⟨rfl, hb⟩; refine ⟨_, rfl, ?_⟩; have n0_ := Aside0.mk (below_step (by repeat (first | (with_reducible first | exact HB.out | apply below_alloc | apply pw_below_drewN | apply below_drew1) | exact HB.out)) hb); clear HB; have HB := n0_; clear n0_; (try clear hb); (try clear hb2); (try clear hk); (try clear hi)))
                go_ret
                exact ⟨by first | rfl | (simp [errW_none, errW_some] <;> rfl) | (simp [*, errW_none, errW_some] <;> rfl), by repeat (first | (with_reducible first | exact HB.out | apply below_alloc | apply pw_below_drewN | apply below_drew1) | exact HB.out)⟩
          · replace c18 := Bool.eq_false_iff.mpr c18
            subst c18
            have H1 : (some false) = some r := by rw [if_neg (show ¬ (false = true) by decide)] at H; exact H
            clear H
            have H := H1
            clear H1
            obtain rfl := Option.some.inj H
            go_wp2_with (first | ((with_reducible refine gate_callee (f := 15) rfl ?_); refine goesL_ (some 51) rfl rfl Try.func15 (by kernel_rfl) rfl #[.string t102, .int .i64 (Int.tmod (wrap64 ((Int.tmod a1 (wrap64 (8 * (t102.size : Int)))) + (wrap64 (8 * (t102.size : Int))))) (wrap64 (8 * (t102.size : Int)))), .int .u32 a2] rfl (by (try simp only [List.map_toArray, List.map_cons, List.map_nil]); first | done | rfl | (simp only [List.length_drop, List.length_take]; rfl)) ?_; (with_reducible refine (doorwardref02_Turned.calls t102 (Int.tmod (wrap64 ((Int.tmod a1 (wrap64 (8 * (t102.size : Int)))) + (wrap64 (8 * (t102.size : Int))))) (wrap64 (8 * (t102.size : Int)))) a2 t105 _ A15.out).mono ?_); rintro e w30 ⟨rfl, hb⟩; refine ⟨_, rfl, ?_⟩; have n0_ := Aside0.mk (below_step (by repeat (first | (with_reducible first | exact HB.out | apply below_alloc | apply pw_below_drewN | apply below_drew1) | exact HB.out)) hb); clear HB; have HB := n0_; clear n0_; (try clear hb); (try clear hb2); (try clear hk); (try clear hi)) | ((with_reducible refine gate_callee (f := 10) rfl ?_); refine goesL_ (some 54) rfl rfl Try.func10 (by kernel_rfl) rfl #[.string t105] rfl (by (try simp only [List.map_toArray, List.map_cons, List.map_nil]); first | done | rfl | (simp only [List.length_drop, List.length_take]; rfl)) ?_; (with_reducible refine (crc_Open.calls kj6 t105 t106 t107 _ A16.out).mono ?_); rintro e w31 ⟨rfl, hb⟩; refine ⟨_, rfl, ?_⟩; have n0_ := Aside0.mk (below_step (by repeat (first | (with_reducible first | exact HB.out | apply below_alloc | apply pw_below_drewN | apply below_drew1) | exact HB.out)) hb); clear HB; have HB := n0_; clear n0_; (try clear hb); (try clear hb2); (try clear hk); (try clear hi)) | ((with_reducible refine gate_callee (f := 7) rfl ?_); refine goesL_ (some 57) rfl rfl Try.func7 (by kernel_rfl) rfl #[] rfl (by (try simp only [List.map_toArray, List.map_cons, List.map_nil]); first | done | rfl | (simp only [List.length_drop, List.length_take]; rfl)) ?_; (with_reducible refine (doorwardlaw02_alive.calls  false _ A17.out).mono ?_); rintro e w32 ⟨rfl, hb⟩; refine ⟨_, rfl, ?_⟩; have n0_ := Aside0.mk (below_step (by repeat (first | (with_reducible first | exact HB.out | apply below_alloc | apply pw_below_drewN | apply below_drew1) | exact HB.out)) hb); clear HB; have HB := n0_; clear n0_; (try clear hb); (try clear hb2); (try clear hk); (try clear hi)))
            go_ret
            exact ⟨by first | rfl | (simp [errW_none, errW_some] <;> rfl) | (simp [*, errW_none, errW_some] <;> rfl), by repeat (first | (with_reducible first | exact HB.out | apply below_alloc | apply pw_below_drewN | apply below_drew1) | exact HB.out)⟩

/-- THE ONE PURE STATEMENT of doorwardlaw02_CrcTurned: yours. -/
def doorwardlaw02_CrcTurned.Pure : Prop := ∀ (a0 : ByteArray) (a1 : Int) (a2 : Int), a0.size ≤ 140737488351232 → (Lit.int .i64 a1).wf = true → (Lit.int .u32 a2).wf = true → ∃ k, doorwardlaw02_CrcTurned.f k a0 a1 a2 = some true
theorem doorwardlaw02_CrcTurned.walk (P : doorwardlaw02_CrcTurned.Pure) (a0 : ByteArray) (a1 : Int) (a2 : Int) (w : World) (w0 : a0.size ≤ 140737488351232) (w1 : (Lit.int .i64 a1).wf = true) (w2 : (Lit.int .u32 a2).wf = true) :
    Calls Try.prog 5 #[.string a0, .int .i64 a1, .int .u32 a2] w fun e w' => e = .returned (.bool true) ∧ Below w.heap.size w w' := by
  obtain ⟨k, h⟩ := P a0 a1 a2 w0 w1 w2
  refine (doorwardlaw02_CrcTurned.calls k a0 a1 a2 true w h).mono ?_
  rintro e w' ⟨rfl, hd⟩
  exact ⟨rfl, hd⟩

end Go.Proofs.Ytdiihhddcodabaa.PCrcTurned
