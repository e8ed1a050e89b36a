/- EmitMakes: how many instructions any steps become, and which, or why none, is as the reference says. -/
import Derived.Test.YtefkhcijgiagdaaZEmitMakes1
section
namespace Go.Proofs.Ytefkhcijgiagdaa.PEmitMakes
open Go.RowKit Go.Proofs.YtefkhcijgiagdaaW.PrintWords Go.Proofs.YtefkhcijgiagdaaW.PrintLast Go.Proofs.YtefkhcijgiagdaaW.PrintMore
attribute [local go_sem] max2_int min2_int max_two min_two max_three min_three max_four min_four IntKind.wrap_u32 IntKind.wrap_u8   -- for this text's walks alone
set_option linter.unusedVariables false
open Go.Proofs.Ytefkhcijgiagdaa.Le Go.Proofs.Ytefkhcijgiagdaa.HKnown Go.Proofs.Ytefkhcijgiagdaa.I1 Go.Proofs.Ytefkhcijgiagdaa.E1 Go.Proofs.Ytefkhcijgiagdaa.HAsm Go.Proofs.Ytefkhcijgiagdaa.E2
set_option linter.unusedSimpArgs false
mutual
def doorwardlaw21_EmitMakes.j0 : Nat → List (S40) → List (S28) → Int → Bool → Option (Bool)
  | 0, _, _, _, _ => none
  | k + 1, x0, x3, x4, x24 => if x24 = true then (some false) else (if (x0.length : Int) > 200 then (doorwardlaw21_EmitMakes.l0 k x0 x3 x4 x0 (x0.length : Int) 0) else ((doorwardref21_Assemble.f k x0).bind fun bt119 => ((doorwardref10_Like.f k x3 bt119.1).bind fun t123 => (if t123 = true then (if x4 = bt119.2 then (if x4 = 0 then ((emit_Size.f k x0).bind fun t124 => (some ((x3.length : Int) == t124))) else (some true)) else (some false)) else (some false)))))
def doorwardlaw21_EmitMakes.l0 : Nat → List (S40) → List (S28) → Int → List (S40) → Int → Int → Option (Bool)
  | 0, _, _, _, _, _, _ => none
  | k + 1, x0, x3, x4, x28, x29, x30 => if x30 < x29 then (if 0 ≤ x30 then (if x30 < (x28.length : Int) then (if ((rd_T40 x28 x30).f0) = 1 then (doorwardlaw21_EmitMakes.l0 k x0 x3 x4 x28 x29 (wrap64 (x30 + 1))) else (some true)) else (none)) else (none)) else ((doorwardref21_Assemble.f k x0).bind fun bt113 => ((doorwardref10_Like.f k x3 bt113.1).bind fun t117 => (if t117 = true then (if x4 = bt113.2 then (if x4 = 0 then ((emit_Size.f k x0).bind fun t118 => (some ((x3.length : Int) == t118))) else (some true)) else (some false)) else (some false))))
end
def doorwardlaw21_EmitMakes.f (k : Nat) (l0 : List (S40)) : Option (Bool) := (doorwardlaw21_few.f l0).bind fun t101 => ((emit_Assemble.f t101).bind fun bt104 => ((emit_Size.f k t101).bind fun t108 => ((doorwardref21_Size.f k t101).bind fun t109 => (if t108 = t109 then ((doorwardlaw21_alive.f).bind fun t110 => (doorwardlaw21_EmitMakes.j0 k t101 bt104.1 bt104.2 (!t110))) else (doorwardlaw21_EmitMakes.j0 k t101 bt104.1 bt104.2 true)))))
set_option maxHeartbeats 8000000 in
set_option maxRecDepth 100000 in
theorem doorwardlaw21_EmitMakes.calls (k : Nat) (A0 : Option Addr) (c0 : Nat) (l0 : List (S40)) (r : Bool) (w : World) (hr0 : Kd.C k40 w A0 l0.length l0) (hc0 : l0.length ≤ c0) (h : doorwardlaw21_EmitMakes.f k l0 = some r) :
    Calls Try.prog 11 #[.slice A0 l0.length c0] w fun e w' => e = .returned (.bool r) ∧ Below w.heap.size w w' := by
  have hu40 := Try.underlying40
  have HR0 := Aside0.mk hr0
  have HC0 := Aside0.mk hc0
  clear hr0 hc0
  have HB := Aside0.mk (Below.refl w.heap.size w)
  have H : ((doorwardlaw21_few.f l0).bind fun t101 => ((emit_Assemble.f t101).bind fun bt104 => ((emit_Size.f k t101).bind fun t108 => ((doorwardref21_Size.f k t101).bind fun t109 => (if t108 = t109 then ((doorwardlaw21_alive.f).bind fun t110 => (doorwardlaw21_EmitMakes.j0 k t101 bt104.1 bt104.2 (!t110))) else (doorwardlaw21_EmitMakes.j0 k t101 bt104.1 bt104.2 true)))))) = some r := h
  clear h
  replace H := Option.bind_eq_some_iff.mp H
  obtain ⟨t101, A20, H⟩ := H
  replace H : ((emit_Assemble.f t101).bind fun bt104 => ((emit_Size.f k t101).bind fun t108 => ((doorwardref21_Size.f k t101).bind fun t109 => (if t108 = t109 then ((doorwardlaw21_alive.f).bind fun t110 => (doorwardlaw21_EmitMakes.j0 k t101 bt104.1 bt104.2 (!t110))) else (doorwardlaw21_EmitMakes.j0 k t101 bt104.1 bt104.2 true))))) = some r := H
  have A2 := Aside0.mk A20
  clear A20
  replace H := Option.bind_eq_some_iff.mp H
  obtain ⟨⟨t104, t105⟩, A30, H⟩ := H
  replace H : ((emit_Size.f k t101).bind fun t108 => ((doorwardref21_Size.f k t101).bind fun t109 => (if t108 = t109 then ((doorwardlaw21_alive.f).bind fun t110 => (doorwardlaw21_EmitMakes.j0 k t101 t104 t105 (!t110))) else (doorwardlaw21_EmitMakes.j0 k t101 t104 t105 true)))) = some r := H
  have A3 := Aside0.mk A30
  clear A30
  have HC4 := Aside0.mk H
  clear H
  go_enter Try.func11, Try.ntmps11
  go_upto_region 3 with (first | ((with_reducible refine gate_callee (f := 49) rfl ?_); refine goesL_ (some 10) rfl rfl Try.func49 (by kernel_rfl) rfl #[.slice A0 l0.length c0] rfl (by (try simp only [List.map_toArray, List.map_cons, List.map_nil]); first | done | rfl | (simp only [List.length_drop, List.length_take]; rfl)) ?_; (with_reducible refine (doorwardlaw21_few.calls (fun k_ => k_ < w.heap.size) _ _ l0 t101 _ ?side1 A2.out).mono ?_); (case side1 => exact Kd.V_mk HC0.out (Kd.F_below (Kd.C_F k40_heap HR0.out) (by repeat (first | (with_reducible first | exact HB.out | apply below_alloc | apply pw_below_drewN | apply below_drew1) | exact HB.out)))); rintro e w5 ⟨v102, rfl, ho0, hb⟩; refine ⟨_, rfl, ?_⟩; have n0_ := Aside0.mk (Kd.V_lower (Kd.V_mono (ok' := fun k_ => True) ho0 (fun k_ hk_ => trivial)) (below_size (by repeat (first | (with_reducible first | exact HB.out | apply below_alloc | apply pw_below_drewN | apply below_drew1) | exact HB.out)))); have n1_ := Aside0.mk (below_step (by repeat (first | (with_reducible first | exact HB.out | apply below_alloc | apply pw_below_drewN | apply below_drew1) | exact HB.out)) hb); clear HB; have HO103 := n0_; have HB := n1_; clear n0_ n1_; (try clear hb); (try clear hb2); (try clear hk); (try clear hi); (try clear ho0); obtain ⟨Ao6, co6, eo6⟩ := Kd.V_slice HO103.out; subst eo6) | ((with_reducible refine gate_callee (f := 34) rfl ?_); refine goesL_ (some 13) rfl rfl Try.func34 (by kernel_rfl) rfl #[.slice Ao6 t101.length co6] rfl (by (try simp only [List.map_toArray, List.map_cons, List.map_nil]); first | done | rfl | (simp only [List.length_drop, List.length_take]; rfl)) ?_; (with_reducible refine (emit_Assemble.calls _ _ t101 t104 t105 _ ?side1 ?side2 A3.out).mono ?_); (case side1 => repeat (first | exact (Kd.V_reads' HO103.out).2.2 | (with_reducible refine Kd.C_alloc ?_ _) | (with_reducible refine Kd.C_drewN ?_ _) | (with_reducible refine Kd.C_drew ?_))); (case side2 => exact (Kd.V_reads' HO103.out).2.1); rintro e w7 ⟨v106, rfl, ho0, hb⟩; refine ⟨_, rfl, ?_⟩; have n0_ := Aside0.mk (Kd.V_elder' (by (with_reducible repeat (first | apply Kd.V_alloc | apply Kd.V_drewN | apply Kd.V_drew)); exact HO103.out) (Kd.R_base ho0) hb); have n1_ := Aside0.mk (Kd.R_lower ho0 (below_size (by repeat (first | (with_reducible first | exact HB.out | apply below_alloc | apply pw_below_drewN | apply below_drew1) | exact HB.out)))); have n2_ := Aside0.mk (below_step (by repeat (first | (with_reducible first | exact HB.out | apply below_alloc | apply pw_below_drewN | apply below_drew1) | exact HB.out)) hb); clear HO103; clear HB; have HO103 := n0_; have HO107 := n1_; have HB := n2_; clear n0_ n1_ n2_; (try clear hb); (try clear hb2); (try clear hk); (try clear hi); (try clear ho0)))
  (try simp only [Act.put, List.setIfInBounds_toArray, List.set_cons_zero, List.set_cons_succ])
  go_cut [24] (fun v24 wc => ∃ (kq : Nat) (x24_3 : Bool), v24 = .bool x24_3 ∧ Aside0 (doorwardlaw21_EmitMakes.j0 kq t101 t104 t105 x24_3 = some r) ∧ Aside0 (kq ≤ k) ∧ Aside0 (Kd.V k40 40 wc w.heap.size (fun k_ => some k_ ≠ (v106 : Value).ownBlock) (.slice Ao6 t101.length co6) t101) ∧ Aside0 (Kd.R k28 28 wc w.heap.size (fun _ => True) v106 t104) ∧ Aside0 (Below w.heap.size w wc))
  case first =>
    have H := HC4.out
    clear HC4
    replace H := Option.bind_eq_some_iff.mp H
    obtain ⟨t108, A80, H⟩ := H
    replace H : ((doorwardref21_Size.f k t101).bind fun t109 => (if t108 = t109 then ((doorwardlaw21_alive.f).bind fun t110 => (doorwardlaw21_EmitMakes.j0 k t101 t104 t105 (!t110))) else (doorwardlaw21_EmitMakes.j0 k t101 t104 t105 true))) = some r := H
    have A8 := Aside0.mk A80
    clear A80
    replace H := Option.bind_eq_some_iff.mp H
    obtain ⟨t109, A90, H⟩ := H
    replace H : (if t108 = t109 then ((doorwardlaw21_alive.f).bind fun t110 => (doorwardlaw21_EmitMakes.j0 k t101 t104 t105 (!t110))) else (doorwardlaw21_EmitMakes.j0 k t101 t104 t105 true)) = some r := H
    have A9 := Aside0.mk A90
    clear A90
    by_cases c10 : t108 = t109
    · rw [if_pos c10] at H
      have c10b0 : (t108 == t109) = true := beq_iff_eq.mpr c10
      have c10b1 : (t108 != t109) = false := bne_eq_false_iff_eq.mpr c10
      clear c10
      (first | rw [c10b0] | (simp only [i64_w, i32_w]; rw [c10b0]) | skip)
      replace H := Option.bind_eq_some_iff.mp H
      obtain ⟨t110, A110, H⟩ := H
      replace H : (doorwardlaw21_EmitMakes.j0 k t101 t104 t105 (!t110)) = some r := H
      have A11 := Aside0.mk A110
      clear A110
      have H' := Aside0.mk H
      clear H
      go_wp2_with (first | ((with_reducible refine gate_callee (f := 50) rfl ?_); refine goesL_ (some 17) rfl rfl Try.func50 (by kernel_rfl) rfl #[.slice Ao6 t101.length co6] rfl (by (try simp only [List.map_toArray, List.map_cons, List.map_nil]); first | done | rfl | (simp only [List.length_drop, List.length_take]; rfl)) ?_; (with_reducible refine (emit_Size.calls k _ _ t101 t108 _ ?side1 ?side2 A8.out).mono ?_); (case side1 => repeat (first | exact (Kd.V_reads' HO103.out).2.2 | (with_reducible refine Kd.C_alloc ?_ _) | (with_reducible refine Kd.C_drewN ?_ _) | (with_reducible refine Kd.C_drew ?_))); (case side2 => exact (Kd.V_reads' HO103.out).2.1); rintro e w12 ⟨rfl, hb⟩; refine ⟨_, rfl, ?_⟩; have n0_ := Aside0.mk (Kd.V_below (by (with_reducible repeat (first | apply Kd.V_alloc | apply Kd.V_drewN | apply Kd.V_drew)); exact HO103.out) hb); have n1_ := Aside0.mk (Kd.R_below (by (with_reducible repeat (first | apply Kd.R_alloc | apply Kd.R_drewN | apply Kd.R_drew)); exact HO107.out) hb); have n2_ := Aside0.mk (below_step (by repeat (first | (with_reducible first | exact HB.out | apply below_alloc | apply pw_below_drewN | apply below_drew1) | exact HB.out)) hb); clear HO103; clear HO107; clear HB; have HO103 := n0_; have HO107 := n1_; have HB := n2_; clear n0_ n1_ n2_; (try clear hb); (try clear hb2); (try clear hk); (try clear hi)) | ((with_reducible refine gate_callee (f := 51) rfl ?_); refine goesL_ (some 19) rfl rfl Try.func51 (by kernel_rfl) rfl #[.slice Ao6 t101.length co6] rfl (by (try simp only [List.map_toArray, List.map_cons, List.map_nil]); first | done | rfl | (simp only [List.length_drop, List.length_take]; rfl)) ?_; (with_reducible refine (doorwardref21_Size.calls k _ _ t101 t109 _ ?side1 ?side2 A9.out).mono ?_); (case side1 => repeat (first | exact (Kd.V_reads' HO103.out).2.2 | (with_reducible refine Kd.C_alloc ?_ _) | (with_reducible refine Kd.C_drewN ?_ _) | (with_reducible refine Kd.C_drew ?_))); (case side2 => exact (Kd.V_reads' HO103.out).2.1); rintro e w13 ⟨rfl, hb⟩; refine ⟨_, rfl, ?_⟩; have n0_ := Aside0.mk (Kd.V_below (by (with_reducible repeat (first | apply Kd.V_alloc | apply Kd.V_drewN | apply Kd.V_drew)); exact HO103.out) hb); have n1_ := Aside0.mk (Kd.R_below (by (with_reducible repeat (first | apply Kd.R_alloc | apply Kd.R_drewN | apply Kd.R_drew)); exact HO107.out) hb); have n2_ := Aside0.mk (below_step (by repeat (first | (with_reducible first | exact HB.out | apply below_alloc | apply pw_below_drewN | apply below_drew1) | exact HB.out)) hb); clear HO103; clear HO107; clear HB; have HO103 := n0_; have HO107 := n1_; have HB := n2_; clear n0_ n1_ n2_; (try clear hb); (try clear hb2); (try clear hk); (try clear hi)) | (go_at_call 35; (with_reducible refine (doorwardlaw21_alive.calls  t110 _ A11.out).mono ?_); rintro e w14 ⟨rfl, hb⟩; have n0_ := Aside0.mk (Kd.V_below (by (with_reducible repeat (first | apply Kd.V_alloc | apply Kd.V_drewN | apply Kd.V_drew)); exact HO103.out) hb); have n1_ := Aside0.mk (Kd.R_below (by (with_reducible repeat (first | apply Kd.R_alloc | apply Kd.R_drewN | apply Kd.R_drew)); exact HO107.out) hb); have n2_ := Aside0.mk (below_step (by repeat (first | (with_reducible first | exact HB.out | apply below_alloc | apply pw_below_drewN | apply below_drew1) | exact HB.out)) hb); clear HO103; clear HO107; clear HB; have HO103 := n0_; have HO107 := n1_; have HB := n2_; clear n0_ n1_ n2_; (try clear hb); (try clear hb2); (try clear hk); (try clear hi)))
      go_meet
      case rel => exact ⟨_, (!t110), (by first | rfl | (simp; done) | (simp [*]; done)), H', ⟨by first | omega | exact Nat.le_refl _⟩, ⟨by (with_reducible repeat (first | apply Kd.V_alloc | apply Kd.V_drewN | apply Kd.V_drew)); exact Kd.V_mono HO103.out (fun _ hk => hk.2)⟩, ⟨by (with_reducible repeat (first | apply Kd.R_alloc | apply Kd.R_drewN | apply Kd.R_drew)); exact HO107.out⟩, ⟨by repeat (first | (with_reducible first | exact HB.out | apply below_alloc | apply pw_below_drewN | apply below_drew1) | exact HB.out)⟩⟩
    · rw [if_neg c10] at H
      have c10b0 : (t108 == t109) = false := beq_eq_false_iff_ne.mpr c10
      have c10b1 : (t108 != t109) = true := bne_iff_ne.mpr c10
      (first | rw [c10b0] | (simp only [i64_w, i32_w]; rw [c10b0]) | skip)
      have H' := Aside0.mk H
      clear H
      go_wp2_with (first | ((with_reducible refine gate_callee (f := 50) rfl ?_); refine goesL_ (some 17) rfl rfl Try.func50 (by kernel_rfl) rfl #[.slice Ao6 t101.length co6] rfl (by (try simp only [List.map_toArray, List.map_cons, List.map_nil]); first | done | rfl | (simp only [List.length_drop, List.length_take]; rfl)) ?_; (with_reducible refine (emit_Size.calls k _ _ t101 t108 _ ?side1 ?side2 A8.out).mono ?_); (case side1 => repeat (first | exact (Kd.V_reads' HO103.out).2.2 | (with_reducible refine Kd.C_alloc ?_ _) | (with_reducible refine Kd.C_drewN ?_ _) | (with_reducible refine Kd.C_drew ?_))); (case side2 => exact (Kd.V_reads' HO103.out).2.1); rintro e w15 ⟨rfl, hb⟩; refine ⟨_, rfl, ?_⟩; have n0_ := Aside0.mk (Kd.V_below (by (with_reducible repeat (first | apply Kd.V_alloc | apply Kd.V_drewN | apply Kd.V_drew)); exact HO103.out) hb); have n1_ := Aside0.mk (Kd.R_below (by (with_reducible repeat (first | apply Kd.R_alloc | apply Kd.R_drewN | apply Kd.R_drew)); exact HO107.out) hb); have n2_ := Aside0.mk (below_step (by repeat (first | (with_reducible first | exact HB.out | apply below_alloc | apply pw_below_drewN | apply below_drew1) | exact HB.out)) hb); clear HO103; clear HO107; clear HB; have HO103 := n0_; have HO107 := n1_; have HB := n2_; clear n0_ n1_ n2_; (try clear hb); (try clear hb2); (try clear hk); (try clear hi)) | ((with_reducible refine gate_callee (f := 51) rfl ?_); refine goesL_ (some 19) rfl rfl Try.func51 (by kernel_rfl) rfl #[.slice Ao6 t101.length co6] rfl (by (try simp only [List.map_toArray, List.map_cons, List.map_nil]); first | done | rfl | (simp only [List.length_drop, List.length_take]; rfl)) ?_; (with_reducible refine (doorwardref21_Size.calls k _ _ t101 t109 _ ?side1 ?side2 A9.out).mono ?_); (case side1 => repeat (first | exact (Kd.V_reads' HO103.out).2.2 | (with_reducible refine Kd.C_alloc ?_ _) | (with_reducible refine Kd.C_drewN ?_ _) | (with_reducible refine Kd.C_drew ?_))); (case side2 => exact (Kd.V_reads' HO103.out).2.1); rintro e w16 ⟨rfl, hb⟩; refine ⟨_, rfl, ?_⟩; have n0_ := Aside0.mk (Kd.V_below (by (with_reducible repeat (first | apply Kd.V_alloc | apply Kd.V_drewN | apply Kd.V_drew)); exact HO103.out) hb); have n1_ := Aside0.mk (Kd.R_below (by (with_reducible repeat (first | apply Kd.R_alloc | apply Kd.R_drewN | apply Kd.R_drew)); exact HO107.out) hb); have n2_ := Aside0.mk (below_step (by repeat (first | (with_reducible first | exact HB.out | apply below_alloc | apply pw_below_drewN | apply below_drew1) | exact HB.out)) hb); clear HO103; clear HO107; clear HB; have HO103 := n0_; have HO107 := n1_; have HB := n2_; clear n0_ n1_ n2_; (try clear hb); (try clear hb2); (try clear hk); (try clear hi)))
      go_meet
      case rel => exact ⟨_, (true), (by first | rfl | (simp; done) | (simp [*]; done)), H', ⟨by first | omega | exact Nat.le_refl _⟩, ⟨by (with_reducible repeat (first | apply Kd.V_alloc | apply Kd.V_drewN | apply Kd.V_drew)); exact Kd.V_mono HO103.out (fun _ hk => hk.2)⟩, ⟨by (with_reducible repeat (first | apply Kd.R_alloc | apply Kd.R_drewN | apply Kd.R_drew)); exact HO107.out⟩, ⟨by repeat (first | (with_reducible first | exact HB.out | apply below_alloc | apply pw_below_drewN | apply below_drew1) | exact HB.out)⟩⟩
  case rest =>
    clear HC4
    try clear c1
    try clear p2
    try clear c3
    try clear c4
    try clear c5
    try clear c10
    try clear c10b0
    try clear c10b1
    try clear c11
    obtain ⟨kq, x24_3, rfl, HA, HJ3, HO_0, HO_3, HB⟩ := hcut
    cases kq with
    | zero => exact absurd HA.out (by simp [doorwardlaw21_EmitMakes.j0])
    | succ kj3 =>
      have H := HA.out
      clear HA
      simp only [doorwardlaw21_EmitMakes.j0] at H
      by_cases c17 : x24_3 = true
      · subst c17
        have H1 : (some false) = some r := by rw [if_pos rfl] at H; exact H
        clear H
        have H := H1
        clear H1
        obtain rfl := Option.some.inj H
        go_wp2
        go_ret
        exact ⟨by first | rfl | (simp [errW_none, errW_some] <;> rfl) | (simp [*, errW_none, errW_some] <;> rfl), by repeat (first | (with_reducible first | exact HB.out | apply below_alloc | apply pw_below_drewN | apply below_drew1) | exact HB.out)⟩
      · replace c17 := Bool.eq_false_iff.mpr c17
        subst c17
        have H1 : (if (t101.length : Int) > 200 then (doorwardlaw21_EmitMakes.l0 kj3 t101 t104 t105 t101 (t101.length : Int) 0) else ((doorwardref21_Assemble.f kj3 t101).bind fun bt119 => ((doorwardref10_Like.f kj3 t104 bt119.1).bind fun t123 => (if t123 = true then (if t105 = bt119.2 then (if t105 = 0 then ((emit_Size.f kj3 t101).bind fun t124 => (some ((t104.length : Int) == t124))) else (some true)) else (some false)) else (some false))))) = some r := by rw [if_neg (show ¬ (false = true) by decide)] at H; exact H
        clear H
        have H := H1
        clear H1
        by_cases c18 : (t101.length : Int) > 200
        · rw [if_pos c18] at H
          have c18b0 : decide (200 < (t101.length : Int)) = true := decide_eq_true c18
          have c18b1 : decide (200 < t101.length) = true := decide_eq_true (by omega)
          clear c18
          have H' := Aside0.mk H
          clear H
          go_wp2
          go_loopg [30] kj3 (fun kq v30 w' => ∃ (x30_2 : Int), v30 = .int .i64 x30_2 ∧ Aside0 (doorwardlaw21_EmitMakes.l0 kq t101 t104 t105 t101 (t101.length : Int) x30_2 = some r) ∧ Aside0 (kq ≤ kj3) ∧ Aside0 (Kd.V k40 40 w' w.heap.size (fun k_ => some k_ ≠ (v106 : Value).ownBlock) (.slice Ao6 t101.length co6) t101) ∧ Aside0 (Kd.R k28 28 w' w.heap.size (fun _ => True) v106 t104) ∧ Aside0 (Kd.V k40 40 w' w.heap.size (fun k_ => some k_ ≠ (v106 : Value).ownBlock) (.slice Ao6 t101.length co6) t101) ∧ Aside0 (Below w.heap.size w w'))
          case atStart => exact ⟨(0), (by first | rfl | (simp; done) | (simp [*]; done)), H', ⟨Nat.le_refl _⟩, ⟨by (with_reducible repeat (first | apply Kd.V_alloc | apply Kd.V_drewN | apply Kd.V_drew)); exact HO_0.out⟩, ⟨by (with_reducible repeat (first | apply Kd.R_alloc | apply Kd.R_drewN | apply Kd.R_drew)); exact HO_3.out⟩, ⟨by (with_reducible repeat (first | apply Kd.V_alloc | apply Kd.V_drewN | apply Kd.V_drew)); exact HO_0.out⟩, ⟨by repeat (first | (with_reducible first | exact HB.out | apply below_alloc | apply pw_below_drewN | apply below_drew1) | exact HB.out)⟩⟩
          case round =>
            clear H'
            try clear c1
            try clear p2
            try clear c3
            try clear c4
            try clear c5
            try clear c10
            try clear c10b0
            try clear c10b1
            try clear c11
            try clear c17
            try clear c18
            try clear c18b0
            try clear c18b1
            try clear p2
            obtain ⟨x30_2, rfl, HA, HK2, HO_0, HO_3, HO_28, HB⟩ := hrel
            cases gk with
            | zero => exact absurd HA.out (by simp [doorwardlaw21_EmitMakes.l0])
            | succ k2 =>
              have H := HA.out
              clear HA
              simp only [doorwardlaw21_EmitMakes.l0] at H
              by_cases c19 : x30_2 < (t101.length : Int)
              · rw [if_pos c19] at H
                have c19b0 : decide (x30_2 < (t101.length : Int)) = true := decide_eq_true c19
                clear c19
                by_cases c20 : 0 ≤ x30_2
                · rw [if_pos c20] at H
                  have c20b0 : decide (0 ≤ x30_2) = true := decide_eq_true c20
                  clear c20
                  by_cases c21 : x30_2 < (t101.length : Int)
                  · rw [if_pos c21] at H
                    have c21b0 : decide (x30_2 < (t101.length : Int)) = true := decide_eq_true c21
                    clear c21
                    by_cases c22 : ((rd_T40 t101 x30_2).f0) = 1
                    · rw [if_pos c22] at H
                      have c22b0 : (((rd_T40 t101 x30_2).f0) == 1) = true := beq_iff_eq.mpr c22
                      have c22b1 : (((rd_T40 t101 x30_2).f0) != 1) = false := bne_eq_false_iff_eq.mpr c22
                      clear c22
                      have H' := Aside0.mk H
                      clear H
                      have p111 : 0 ≤ (x30_2 : Int) := of_decide_eq_true (by first | (with_reducible assumption) | assumption)
                      have q111 : x30_2 < (t101.length : Int) := of_decide_eq_true (by first | (with_reducible assumption) | assumption)
                      obtain ⟨ad111, e111, hx111_0, hx111_1, hx111_2, hx111_3⟩ := at_T40 (Kd.V_reads' HO_28.out).2.2 x30_2 p111 q111
                      cases e111
                      replace p111 := eq_true p111
                      replace q111 := eq_true q111
                      go_wp2_with (first | ((with_reducible refine gate_dst (N := 6) rfl ?_); (try (refine gate_guard (by rfl) ?_; dsimp only)); refine box_event ?hg (N := 6) ?hd (cs := #[.int .i64 0, .int .u32 0, .int .i64 0, .int .i64 0]) (t := 40) ?hr ?_; (case hd => rfl); (case hg => rfl); (case hr => first | (go_simp; done) | (go_simp; rfl)); intro gb112 hg w23 hbox hb; have n0_ := Aside0.mk (Kd.V_below (Kd.V_elderB (by (with_reducible repeat (first | apply Kd.V_alloc | apply Kd.V_drewN | apply Kd.V_drew)); exact HO_0.out) gb112 (Nat.le_of_eq hg.symm)) hb); have n1_ := Aside0.mk (Kd.R_below (by (with_reducible repeat (first | apply Kd.R_alloc | apply Kd.R_drewN | apply Kd.R_drew)); exact HO_3.out) hb); have n2_ := Aside0.mk (Kd.V_below (Kd.V_elderB (by (with_reducible repeat (first | apply Kd.V_alloc | apply Kd.V_drewN | apply Kd.V_drew)); exact HO_28.out) gb112 (Nat.le_of_eq hg.symm)) hb); have n3_ := Aside0.mk (below_step (by repeat (first | (with_reducible first | exact HB.out | apply below_alloc | apply pw_below_drewN | apply below_drew1) | exact HB.out)) hb); have n4_ := Aside0.mk (hbox); have n5_ := Aside0.mk ((by rw [hg]; exact (below_size (by repeat (first | (with_reducible first | exact HB.out | apply below_alloc | apply pw_below_drewN | apply below_drew1) | exact HB.out))) : w.heap.size ≤ gb112)); have n6_ := Aside0.mk ((by rw [hg]; exact (below_size (by repeat (first | (with_reducible first | exact HB.out | apply below_alloc | apply pw_below_drewN | apply below_drew1) | exact HB.out))) : w.heap.size ≤ gb112)); clear HO_0; clear HO_3; clear HO_28; clear HB; have HO_0 := n0_; have HO_3 := n1_; have HO_28 := n2_; have HB := n3_; have BK112 := n4_; have GW112 := n5_; have GE112 := n6_; clear n0_ n1_ n2_ n3_ n4_ n5_ n6_; clear hb hbox hg; have hcz24_0 : w23.cell? ⟨gb112, 0, none⟩ = some (.int .i64 0) := (blk_cell BK112.out 0).trans rfl; have hcz24_1 : w23.cell? ⟨gb112, 1, none⟩ = some (.int .u32 0) := (blk_cell BK112.out 1).trans rfl; have hcz24_2 : w23.cell? ⟨gb112, 2, none⟩ = some (.int .i64 0) := (blk_cell BK112.out 2).trans rfl; have hcz24_3 : w23.cell? ⟨gb112, 3, none⟩ = some (.int .i64 0) := (blk_cell BK112.out 3).trans rfl; have hfz24_0 := blk_frozen BK112.out 0; have hfz24_1 := blk_frozen BK112.out 1; have hfz24_2 := blk_frozen BK112.out 2; have hfz24_3 := blk_frozen BK112.out 3))
                      go_roundg k2
                      case measure => have := HJ3.out; have := HK2.out; omega
                      case rel => exact ⟨(wrap64 (x30_2 + 1)), (by first | rfl | (simp; done) | (simp [*]; done)), H', ⟨by have := HJ3.out; have := HK2.out; omega⟩, ⟨by (with_reducible repeat (first | apply Kd.V_alloc | apply Kd.V_drewN | apply Kd.V_drew)); exact Kd.V_mono (Kd.V_far (p := ⟨gb112, 3, none⟩) (Kd.V_far (p := ⟨gb112, 2, none⟩) (Kd.V_far (p := ⟨gb112, 1, none⟩) (Kd.V_far (p := ⟨gb112, 0, none⟩) (Kd.V_mono HO_0.out (fun k_ hk => (⟨hk, hk.2⟩ : _ ∧ k_ ≠ gb112))) (fun _ hk => hk.2) (.int .i64 ((rd_T40 t101 x30_2).f0))) (fun _ hk => hk.2) (.int .u32 ((rd_T40 t101 x30_2).f1))) (fun _ hk => hk.2) (.int .i64 ((rd_T40 t101 x30_2).f2))) (fun _ hk => hk.2) (.int .i64 ((rd_T40 t101 x30_2).f3))) (fun _ hk => hk.1.1)⟩, ⟨by (with_reducible repeat (first | apply Kd.R_alloc | apply Kd.R_drewN | apply Kd.R_drew)); exact Kd.R_mono (Kd.R_far (p := ⟨gb112, 3, none⟩) (Kd.R_far (p := ⟨gb112, 2, none⟩) (Kd.R_far (p := ⟨gb112, 1, none⟩) (Kd.R_far (p := ⟨gb112, 0, none⟩) (Kd.R_types HO_3.out BK112.out (by decide)) (fun _ hk => hk.2) (.int .i64 ((rd_T40 t101 x30_2).f0))) (fun _ hk => hk.2) (.int .u32 ((rd_T40 t101 x30_2).f1))) (fun _ hk => hk.2) (.int .i64 ((rd_T40 t101 x30_2).f2))) (fun _ hk => hk.2) (.int .i64 ((rd_T40 t101 x30_2).f3))) (fun _ hk => trivial)⟩, ⟨by (with_reducible repeat (first | apply Kd.V_alloc | apply Kd.V_drewN | apply Kd.V_drew)); exact Kd.V_mono (Kd.V_far (p := ⟨gb112, 3, none⟩) (Kd.V_far (p := ⟨gb112, 2, none⟩) (Kd.V_far (p := ⟨gb112, 1, none⟩) (Kd.V_far (p := ⟨gb112, 0, none⟩) (Kd.V_mono HO_28.out (fun k_ hk => (⟨hk, hk.2⟩ : _ ∧ k_ ≠ gb112))) (fun _ hk => hk.2) (.int .i64 ((rd_T40 t101 x30_2).f0))) (fun _ hk => hk.2) (.int .u32 ((rd_T40 t101 x30_2).f1))) (fun _ hk => hk.2) (.int .i64 ((rd_T40 t101 x30_2).f2))) (fun _ hk => hk.2) (.int .i64 ((rd_T40 t101 x30_2).f3))) (fun _ hk => hk.1.1)⟩, ⟨by repeat (first | (with_reducible first | exact HB.out | apply below_alloc | apply pw_below_drewN | apply below_drew1 | refine below_set ?_ GE112.out) | exact HB.out)⟩⟩
                    · rw [if_neg c22] at H
                      have c22b0 : (((rd_T40 t101 x30_2).f0) == 1) = false := beq_eq_false_iff_ne.mpr c22
                      have c22b1 : (((rd_T40 t101 x30_2).f0) != 1) = true := bne_iff_ne.mpr c22
                      obtain rfl := Option.some.inj H
                      have p111 : 0 ≤ (x30_2 : Int) := of_decide_eq_true (by first | (with_reducible assumption) | assumption)
                      have q111 : x30_2 < (t101.length : Int) := of_decide_eq_true (by first | (with_reducible assumption) | assumption)
                      obtain ⟨ad111, e111, hx111_0, hx111_1, hx111_2, hx111_3⟩ := at_T40 (Kd.V_reads' HO_28.out).2.2 x30_2 p111 q111
                      cases e111
                      replace p111 := eq_true p111
                      replace q111 := eq_true q111
                      go_wp2_with (first | ((with_reducible refine gate_dst (N := 6) rfl ?_); (try (refine gate_guard (by rfl) ?_; dsimp only)); refine box_event ?hg (N := 6) ?hd (cs := #[.int .i64 0, .int .u32 0, .int .i64 0, .int .i64 0]) (t := 40) ?hr ?_; (case hd => rfl); (case hg => rfl); (case hr => first | (go_simp; done) | (go_simp; rfl)); intro gb112 hg w25 hbox hb; have n0_ := Aside0.mk (Kd.V_below (Kd.V_elderB (by (with_reducible repeat (first | apply Kd.V_alloc | apply Kd.V_drewN | apply Kd.V_drew)); exact HO_0.out) gb112 (Nat.le_of_eq hg.symm)) hb); have n1_ := Aside0.mk (Kd.R_below (by (with_reducible repeat (first | apply Kd.R_alloc | apply Kd.R_drewN | apply Kd.R_drew)); exact HO_3.out) hb); have n2_ := Aside0.mk (Kd.V_below (Kd.V_elderB (by (with_reducible repeat (first | apply Kd.V_alloc | apply Kd.V_drewN | apply Kd.V_drew)); exact HO_28.out) gb112 (Nat.le_of_eq hg.symm)) hb); have n3_ := Aside0.mk (below_step (by repeat (first | (with_reducible first | exact HB.out | apply below_alloc | apply pw_below_drewN | apply below_drew1) | exact HB.out)) hb); have n4_ := Aside0.mk (hbox); have n5_ := Aside0.mk ((by rw [hg]; exact (below_size (by repeat (first | (with_reducible first | exact HB.out | apply below_alloc | apply pw_below_drewN | apply below_drew1) | exact HB.out))) : w.heap.size ≤ gb112)); have n6_ := Aside0.mk ((by rw [hg]; exact (below_size (by repeat (first | (with_reducible first | exact HB.out | apply below_alloc | apply pw_below_drewN | apply below_drew1) | exact HB.out))) : w.heap.size ≤ gb112)); clear HO_0; clear HO_3; clear HO_28; clear HB; have HO_0 := n0_; have HO_3 := n1_; have HO_28 := n2_; have HB := n3_; have BK112 := n4_; have GW112 := n5_; have GE112 := n6_; clear n0_ n1_ n2_ n3_ n4_ n5_ n6_; clear hb hbox hg; have hcz26_0 : w25.cell? ⟨gb112, 0, none⟩ = some (.int .i64 0) := (blk_cell BK112.out 0).trans rfl; have hcz26_1 : w25.cell? ⟨gb112, 1, none⟩ = some (.int .u32 0) := (blk_cell BK112.out 1).trans rfl; have hcz26_2 : w25.cell? ⟨gb112, 2, none⟩ = some (.int .i64 0) := (blk_cell BK112.out 2).trans rfl; have hcz26_3 : w25.cell? ⟨gb112, 3, none⟩ = some (.int .i64 0) := (blk_cell BK112.out 3).trans rfl; have hfz26_0 := blk_frozen BK112.out 0; have hfz26_1 := blk_frozen BK112.out 1; have hfz26_2 := blk_frozen BK112.out 2; have hfz26_3 := blk_frozen BK112.out 3))
                      go_ret
                      exact ⟨by first | rfl | (simp [errW_none, errW_some] <;> rfl) | (simp [*, errW_none, errW_some] <;> rfl), by repeat (first | (with_reducible first | exact HB.out | apply below_alloc | apply pw_below_drewN | apply below_drew1 | refine below_set ?_ GE112.out) | exact HB.out)⟩
                  · rw [if_neg c21] at H
                    exact absurd H (by simp)
                · rw [if_neg c20] at H
                  exact absurd H (by simp)
              · rw [if_neg c19] at H
                have c19b0 : decide (x30_2 < (t101.length : Int)) = false := decide_eq_false c19
                clear c19
                replace H := Option.bind_eq_some_iff.mp H
                obtain ⟨⟨t113, t114⟩, A270, H⟩ := H
                replace H : ((doorwardref10_Like.f k2 t104 t113).bind fun t117 => (if t117 = true then (if t105 = t114 then (if t105 = 0 then ((emit_Size.f k2 t101).bind fun t118 => (some ((t104.length : Int) == t118))) else (some true)) else (some false)) else (some false))) = some r := H
                have A27 := Aside0.mk A270
                clear A270
                replace H := Option.bind_eq_some_iff.mp H
                obtain ⟨t117, A280, H⟩ := H
                replace H : (if t117 = true then (if t105 = t114 then (if t105 = 0 then ((emit_Size.f k2 t101).bind fun t118 => (some ((t104.length : Int) == t118))) else (some true)) else (some false)) else (some false)) = some r := H
                have A28 := Aside0.mk A280
                clear A280
                by_cases c29 : t117 = true
                · subst c29
                  have H1 : (if t105 = t114 then (if t105 = 0 then ((emit_Size.f k2 t101).bind fun t118 => (some ((t104.length : Int) == t118))) else (some true)) else (some false)) = some r := by rw [if_pos rfl] at H; exact H
                  clear H
                  have H := H1
                  clear H1
                  by_cases c30 : t105 = t114
                  · rw [if_pos c30] at H
                    have c30b0 : (t105 == t114) = true := beq_iff_eq.mpr c30
                    have c30b1 : (t105 != t114) = false := bne_eq_false_iff_eq.mpr c30
                    clear c30
                    by_cases c31 : t105 = 0
                    · rw [if_pos c31] at H
                      have c31b0 : (t105 == 0) = true := beq_iff_eq.mpr c31
                      have c31b1 : (t105 != 0) = false := bne_eq_false_iff_eq.mpr c31
                      clear c31
                      replace H := Option.bind_eq_some_iff.mp H
                      obtain ⟨t118, A320, H⟩ := H
                      replace H : (some ((t104.length : Int) == t118)) = some r := H
                      have A32 := Aside0.mk A320
                      clear A320
                      obtain rfl := Option.some.inj H
                      go_wp2_with (first | ((with_reducible refine gate_callee (f := 52) rfl ?_); refine goesL_ (some 40) rfl rfl Try.func52 (by kernel_rfl) rfl #[.slice Ao6 t101.length co6] rfl (by (try simp only [List.map_toArray, List.map_cons, List.map_nil]); first | done | rfl | (simp only [List.length_drop, List.length_take]; rfl)) ?_; (with_reducible refine (doorwardref21_Assemble.calls k2 _ _ t101 t113 t114 _ ?side1 ?side2 A27.out).mono ?_); (case side1 => repeat (first | exact (Kd.V_reads' HO_0.out).2.2 | (with_reducible refine Kd.C_alloc ?_ _) | (with_reducible refine Kd.C_drewN ?_ _) | (with_reducible refine Kd.C_drew ?_))); (case side2 => exact (Kd.V_reads' HO_0.out).2.1); rintro e w33 ⟨v115, rfl, ho0, hb⟩; refine ⟨_, rfl, ?_⟩; have n0_ := Aside0.mk (Kd.V_elder' (by (with_reducible repeat (first | apply Kd.V_alloc | apply Kd.V_drewN | apply Kd.V_drew)); exact HO_0.out) (Kd.R_base ho0) hb); have n1_ := Aside0.mk (Kd.R_elder' (by (with_reducible repeat (first | apply Kd.R_alloc | apply Kd.R_drewN | apply Kd.R_drew)); exact HO_3.out) (Kd.R_base ho0) hb); have n2_ := Aside0.mk (Kd.V_elder' (by (with_reducible repeat (first | apply Kd.V_alloc | apply Kd.V_drewN | apply Kd.V_drew)); exact HO_28.out) (Kd.R_base ho0) hb); have n3_ := Aside0.mk (Kd.R_lower (Kd.R_new' ho0 (Kd.R_lt (by (with_reducible repeat (first | apply Kd.R_alloc | apply Kd.R_drewN | apply Kd.R_drew)); exact HO_3.out))) (below_size (by repeat (first | (with_reducible first | exact HB.out | apply below_alloc | apply pw_below_drewN | apply below_drew1) | exact HB.out)))); have n4_ := Aside0.mk (below_step (by repeat (first | (with_reducible first | exact HB.out | apply below_alloc | apply pw_below_drewN | apply below_drew1) | exact HB.out)) hb); clear HO_0; clear HO_3; clear HO_28; clear HB; have HO_0 := n0_; have HO_3 := n1_; have HO_28 := n2_; have HO116 := n3_; have HB := n4_; clear n0_ n1_ n2_ n3_ n4_; (try clear hb); (try clear hb2); (try clear hk); (try clear hi); (try clear ho0); obtain ⟨Ao34, co34, eo34⟩ := Kd.R_slice HO_3.out; subst eo34; obtain ⟨Ao35, co35, eo35⟩ := Kd.R_slice HO116.out; subst eo35) | ((with_reducible refine gate_callee (f := 36) rfl ?_); refine goesL_ (some 45) rfl rfl Try.func36 (by kernel_rfl) rfl #[.slice Ao34 t104.length co34, .slice Ao35 t113.length co35] rfl (by (try simp only [List.map_toArray, List.map_cons, List.map_nil]); first | done | rfl | (simp only [List.length_drop, List.length_take]; rfl)) ?_; (with_reducible refine (doorwardref10_Like.calls k2 _ _ t104 _ _ t113 true _ ?side1 ?side2 ?side3 ?side4 A28.out).mono ?_); (case side1 => repeat (first | exact (Kd.R_reads' HO_3.out).2.2 | (with_reducible refine Kd.C_alloc ?_ _) | (with_reducible refine Kd.C_drewN ?_ _) | (with_reducible refine Kd.C_drew ?_))); (case side2 => exact (Kd.R_reads' HO_3.out).2.1); (case side3 => repeat (first | exact (Kd.R_reads' HO116.out).2.2 | (with_reducible refine Kd.C_alloc ?_ _) | (with_reducible refine Kd.C_drewN ?_ _) | (with_reducible refine Kd.C_drew ?_))); (case side4 => exact (Kd.R_reads' HO116.out).2.1); rintro e w' ⟨rfl, ⟨nd, rfl⟩⟩; refine ⟨_, rfl, ?_⟩) | (go_at_call 50; (with_reducible refine (emit_Size.calls k2 _ _ t101 t118 _ ?side1 ?side2 A32.out).mono ?_); (case side1 => repeat (first | exact (Kd.V_reads' HO_0.out).2.2 | (with_reducible refine Kd.C_alloc ?_ _) | (with_reducible refine Kd.C_drewN ?_ _) | (with_reducible refine Kd.C_drew ?_))); (case side2 => exact (Kd.V_reads' HO_0.out).2.1); rintro e w36 ⟨rfl, hb⟩; have n0_ := Aside0.mk (Kd.V_below (by (with_reducible repeat (first | apply Kd.V_alloc | apply Kd.V_drewN | apply Kd.V_drew)); exact HO_0.out) hb); have n1_ := Aside0.mk (Kd.R_below (by (with_reducible repeat (first | apply Kd.R_alloc | apply Kd.R_drewN | apply Kd.R_drew)); exact HO_3.out) hb); have n2_ := Aside0.mk (Kd.V_below (by (with_reducible repeat (first | apply Kd.V_alloc | apply Kd.V_drewN | apply Kd.V_drew)); exact HO_28.out) hb); have n3_ := Aside0.mk (Kd.R_below (by (with_reducible repeat (first | apply Kd.R_alloc | apply Kd.R_drewN | apply Kd.R_drew)); exact HO116.out) hb); have n4_ := Aside0.mk (below_step (by repeat (first | (with_reducible first | exact HB.out | apply below_alloc | apply pw_below_drewN | apply below_drew1) | exact HB.out)) hb); clear HO_0; clear HO_3; clear HO_28; clear HO116; clear HB; have HO_0 := n0_; have HO_3 := n1_; have HO_28 := n2_; have HO116 := n3_; have HB := n4_; clear n0_ n1_ n2_ n3_ n4_; (try clear hb); (try clear hb2); (try clear hk); (try clear hi)))
                      go_ret
                      exact ⟨by first | rfl | (simp [errW_none, errW_some] <;> rfl) | (simp [*, errW_none, errW_some] <;> rfl), by repeat (first | (with_reducible first | exact HB.out | apply below_alloc | apply pw_below_drewN | apply below_drew1) | exact HB.out)⟩
                    · rw [if_neg c31] at H
                      have c31b0 : (t105 == 0) = false := beq_eq_false_iff_ne.mpr c31
                      have c31b1 : (t105 != 0) = true := bne_iff_ne.mpr c31
                      obtain rfl := Option.some.inj H
                      go_wp2_with (first | ((with_reducible refine gate_callee (f := 52) rfl ?_); refine goesL_ (some 40) rfl rfl Try.func52 (by kernel_rfl) rfl #[.slice Ao6 t101.length co6] rfl (by (try simp only [List.map_toArray, List.map_cons, List.map_nil]); first | done | rfl | (simp only [List.length_drop, List.length_take]; rfl)) ?_; (with_reducible refine (doorwardref21_Assemble.calls k2 _ _ t101 t113 t114 _ ?side1 ?side2 A27.out).mono ?_); (case side1 => repeat (first | exact (Kd.V_reads' HO_0.out).2.2 | (with_reducible refine Kd.C_alloc ?_ _) | (with_reducible refine Kd.C_drewN ?_ _) | (with_reducible refine Kd.C_drew ?_))); (case side2 => exact (Kd.V_reads' HO_0.out).2.1); rintro e w37 ⟨v115, rfl, ho0, hb⟩; refine ⟨_, rfl, ?_⟩; have n0_ := Aside0.mk (Kd.V_elder' (by (with_reducible repeat (first | apply Kd.V_alloc | apply Kd.V_drewN | apply Kd.V_drew)); exact HO_0.out) (Kd.R_base ho0) hb); have n1_ := Aside0.mk (Kd.R_elder' (by (with_reducible repeat (first | apply Kd.R_alloc | apply Kd.R_drewN | apply Kd.R_drew)); exact HO_3.out) (Kd.R_base ho0) hb); have n2_ := Aside0.mk (Kd.V_elder' (by (with_reducible repeat (first | apply Kd.V_alloc | apply Kd.V_drewN | apply Kd.V_drew)); exact HO_28.out) (Kd.R_base ho0) hb); have n3_ := Aside0.mk (Kd.R_lower (Kd.R_new' ho0 (Kd.R_lt (by (with_reducible repeat (first | apply Kd.R_alloc | apply Kd.R_drewN | apply Kd.R_drew)); exact HO_3.out))) (below_size (by repeat (first | (with_reducible first | exact HB.out | apply below_alloc | apply pw_below_drewN | apply below_drew1) | exact HB.out)))); have n4_ := Aside0.mk (below_step (by repeat (first | (with_reducible first | exact HB.out | apply below_alloc | apply pw_below_drewN | apply below_drew1) | exact HB.out)) hb); clear HO_0; clear HO_3; clear HO_28; clear HB; have HO_0 := n0_; have HO_3 := n1_; have HO_28 := n2_; have HO116 := n3_; have HB := n4_; clear n0_ n1_ n2_ n3_ n4_; (try clear hb); (try clear hb2); (try clear hk); (try clear hi); (try clear ho0); obtain ⟨Ao38, co38, eo38⟩ := Kd.R_slice HO_3.out; subst eo38; obtain ⟨Ao39, co39, eo39⟩ := Kd.R_slice HO116.out; subst eo39) | ((with_reducible refine gate_callee (f := 36) rfl ?_); refine goesL_ (some 45) rfl rfl Try.func36 (by kernel_rfl) rfl #[.slice Ao38 t104.length co38, .slice Ao39 t113.length co39] rfl (by (try simp only [List.map_toArray, List.map_cons, List.map_nil]); first | done | rfl | (simp only [List.length_drop, List.length_take]; rfl)) ?_; (with_reducible refine (doorwardref10_Like.calls k2 _ _ t104 _ _ t113 true _ ?side1 ?side2 ?side3 ?side4 A28.out).mono ?_); (case side1 => repeat (first | exact (Kd.R_reads' HO_3.out).2.2 | (with_reducible refine Kd.C_alloc ?_ _) | (with_reducible refine Kd.C_drewN ?_ _) | (with_reducible refine Kd.C_drew ?_))); (case side2 => exact (Kd.R_reads' HO_3.out).2.1); (case side3 => repeat (first | exact (Kd.R_reads' HO116.out).2.2 | (with_reducible refine Kd.C_alloc ?_ _) | (with_reducible refine Kd.C_drewN ?_ _) | (with_reducible refine Kd.C_drew ?_))); (case side4 => exact (Kd.R_reads' HO116.out).2.1); rintro e w' ⟨rfl, ⟨nd, rfl⟩⟩; refine ⟨_, rfl, ?_⟩))
                      go_ret
                      exact ⟨by first | rfl | (simp [errW_none, errW_some] <;> rfl) | (simp [*, errW_none, errW_some] <;> rfl), by repeat (first | (with_reducible first | exact HB.out | apply below_alloc | apply pw_below_drewN | apply below_drew1) | exact HB.out)⟩
                  · rw [if_neg c30] at H
                    have c30b0 : (t105 == t114) = false := beq_eq_false_iff_ne.mpr c30
                    have c30b1 : (t105 != t114) = true := bne_iff_ne.mpr c30
                    obtain rfl := Option.some.inj H
                    go_wp2_with (first | ((with_reducible refine gate_callee (f := 52) rfl ?_); refine goesL_ (some 40) rfl rfl Try.func52 (by kernel_rfl) rfl #[.slice Ao6 t101.length co6] rfl (by (try simp only [List.map_toArray, List.map_cons, List.map_nil]); first | done | rfl | (simp only [List.length_drop, List.length_take]; rfl)) ?_; (with_reducible refine (doorwardref21_Assemble.calls k2 _ _ t101 t113 t114 _ ?side1 ?side2 A27.out).mono ?_); (case side1 => repeat (first | exact (Kd.V_reads' HO_0.out).2.2 | (with_reducible refine Kd.C_alloc ?_ _) | (with_reducible refine Kd.C_drewN ?_ _) | (with_reducible refine Kd.C_drew ?_))); (case side2 => exact (Kd.V_reads' HO_0.out).2.1); rintro e w40 ⟨v115, rfl, ho0, hb⟩; refine ⟨_, rfl, ?_⟩; have n0_ := Aside0.mk (Kd.V_elder' (by (with_reducible repeat (first | apply Kd.V_alloc | apply Kd.V_drewN | apply Kd.V_drew)); exact HO_0.out) (Kd.R_base ho0) hb); have n1_ := Aside0.mk (Kd.R_elder' (by (with_reducible repeat (first | apply Kd.R_alloc | apply Kd.R_drewN | apply Kd.R_drew)); exact HO_3.out) (Kd.R_base ho0) hb); have n2_ := Aside0.mk (Kd.V_elder' (by (with_reducible repeat (first | apply Kd.V_alloc | apply Kd.V_drewN | apply Kd.V_drew)); exact HO_28.out) (Kd.R_base ho0) hb); have n3_ := Aside0.mk (Kd.R_lower (Kd.R_new' ho0 (Kd.R_lt (by (with_reducible repeat (first | apply Kd.R_alloc | apply Kd.R_drewN | apply Kd.R_drew)); exact HO_3.out))) (below_size (by repeat (first | (with_reducible first | exact HB.out | apply below_alloc | apply pw_below_drewN | apply below_drew1) | exact HB.out)))); have n4_ := Aside0.mk (below_step (by repeat (first | (with_reducible first | exact HB.out | apply below_alloc | apply pw_below_drewN | apply below_drew1) | exact HB.out)) hb); clear HO_0; clear HO_3; clear HO_28; clear HB; have HO_0 := n0_; have HO_3 := n1_; have HO_28 := n2_; have HO116 := n3_; have HB := n4_; clear n0_ n1_ n2_ n3_ n4_; (try clear hb); (try clear hb2); (try clear hk); (try clear hi); (try clear ho0); obtain ⟨Ao41, co41, eo41⟩ := Kd.R_slice HO_3.out; subst eo41; obtain ⟨Ao42, co42, eo42⟩ := Kd.R_slice HO116.out; subst eo42) | ((with_reducible refine gate_callee (f := 36) rfl ?_); refine goesL_ (some 45) rfl rfl Try.func36 (by kernel_rfl) rfl #[.slice Ao41 t104.length co41, .slice Ao42 t113.length co42] rfl (by (try simp only [List.map_toArray, List.map_cons, List.map_nil]); first | done | rfl | (simp only [List.length_drop, List.length_take]; rfl)) ?_; (with_reducible refine (doorwardref10_Like.calls k2 _ _ t104 _ _ t113 true _ ?side1 ?side2 ?side3 ?side4 A28.out).mono ?_); (case side1 => repeat (first | exact (Kd.R_reads' HO_3.out).2.2 | (with_reducible refine Kd.C_alloc ?_ _) | (with_reducible refine Kd.C_drewN ?_ _) | (with_reducible refine Kd.C_drew ?_))); (case side2 => exact (Kd.R_reads' HO_3.out).2.1); (case side3 => repeat (first | exact (Kd.R_reads' HO116.out).2.2 | (with_reducible refine Kd.C_alloc ?_ _) | (with_reducible refine Kd.C_drewN ?_ _) | (with_reducible refine Kd.C_drew ?_))); (case side4 => exact (Kd.R_reads' HO116.out).2.1); rintro e w' ⟨rfl, ⟨nd, rfl⟩⟩; refine ⟨_, rfl, ?_⟩))
                    go_ret
                    exact ⟨by first | rfl | (simp [errW_none, errW_some] <;> rfl) | (simp [*, errW_none, errW_some] <;> rfl), by repeat (first | (with_reducible first | exact HB.out | apply below_alloc | apply pw_below_drewN | apply below_drew1) | exact HB.out)⟩
                · replace c29 := Bool.eq_false_iff.mpr c29
                  subst c29
                  have H1 : (some false) = some r := by rw [if_neg (show ¬ (false = true) by decide)] at H; exact H
                  clear H
                  have H := H1
                  clear H1
                  obtain rfl := Option.some.inj H
                  go_wp2_with (first | ((with_reducible refine gate_callee (f := 52) rfl ?_); refine goesL_ (some 40) rfl rfl Try.func52 (by kernel_rfl) rfl #[.slice Ao6 t101.length co6] rfl (by (try simp only [List.map_toArray, List.map_cons, List.map_nil]); first | done | rfl | (simp only [List.length_drop, List.length_take]; rfl)) ?_; (with_reducible refine (doorwardref21_Assemble.calls k2 _ _ t101 t113 t114 _ ?side1 ?side2 A27.out).mono ?_); (case side1 => repeat (first | exact (Kd.V_reads' HO_0.out).2.2 | (with_reducible refine Kd.C_alloc ?_ _) | (with_reducible refine Kd.C_drewN ?_ _) | (with_reducible refine Kd.C_drew ?_))); (case side2 => exact (Kd.V_reads' HO_0.out).2.1); rintro e w43 ⟨v115, rfl, ho0, hb⟩; refine ⟨_, rfl, ?_⟩; have n0_ := Aside0.mk (Kd.V_elder' (by (with_reducible repeat (first | apply Kd.V_alloc | apply Kd.V_drewN | apply Kd.V_drew)); exact HO_0.out) (Kd.R_base ho0) hb); have n1_ := Aside0.mk (Kd.R_elder' (by (with_reducible repeat (first | apply Kd.R_alloc | apply Kd.R_drewN | apply Kd.R_drew)); exact HO_3.out) (Kd.R_base ho0) hb); have n2_ := Aside0.mk (Kd.V_elder' (by (with_reducible repeat (first | apply Kd.V_alloc | apply Kd.V_drewN | apply Kd.V_drew)); exact HO_28.out) (Kd.R_base ho0) hb); have n3_ := Aside0.mk (Kd.R_lower (Kd.R_new' ho0 (Kd.R_lt (by (with_reducible repeat (first | apply Kd.R_alloc | apply Kd.R_drewN | apply Kd.R_drew)); exact HO_3.out))) (below_size (by repeat (first | (with_reducible first | exact HB.out | apply below_alloc | apply pw_below_drewN | apply below_drew1) | exact HB.out)))); have n4_ := Aside0.mk (below_step (by repeat (first | (with_reducible first | exact HB.out | apply below_alloc | apply pw_below_drewN | apply below_drew1) | exact HB.out)) hb); clear HO_0; clear HO_3; clear HO_28; clear HB; have HO_0 := n0_; have HO_3 := n1_; have HO_28 := n2_; have HO116 := n3_; have HB := n4_; clear n0_ n1_ n2_ n3_ n4_; (try clear hb); (try clear hb2); (try clear hk); (try clear hi); (try clear ho0); obtain ⟨Ao44, co44, eo44⟩ := Kd.R_slice HO_3.out; subst eo44; obtain ⟨Ao45, co45, eo45⟩ := Kd.R_slice HO116.out; subst eo45) | ((with_reducible refine gate_callee (f := 36) rfl ?_); refine goesL_ (some 45) rfl rfl Try.func36 (by kernel_rfl) rfl #[.slice Ao44 t104.length co44, .slice Ao45 t113.length co45] rfl (by (try simp only [List.map_toArray, List.map_cons, List.map_nil]); first | done | rfl | (simp only [List.length_drop, List.length_take]; rfl)) ?_; (with_reducible refine (doorwardref10_Like.calls k2 _ _ t104 _ _ t113 false _ ?side1 ?side2 ?side3 ?side4 A28.out).mono ?_); (case side1 => repeat (first | exact (Kd.R_reads' HO_3.out).2.2 | (with_reducible refine Kd.C_alloc ?_ _) | (with_reducible refine Kd.C_drewN ?_ _) | (with_reducible refine Kd.C_drew ?_))); (case side2 => exact (Kd.R_reads' HO_3.out).2.1); (case side3 => repeat (first | exact (Kd.R_reads' HO116.out).2.2 | (with_reducible refine Kd.C_alloc ?_ _) | (with_reducible refine Kd.C_drewN ?_ _) | (with_reducible refine Kd.C_drew ?_))); (case side4 => exact (Kd.R_reads' HO116.out).2.1); rintro e w' ⟨rfl, ⟨nd, rfl⟩⟩; refine ⟨_, rfl, ?_⟩))
                  go_ret
                  exact ⟨by first | rfl | (simp [errW_none, errW_some] <;> rfl) | (simp [*, errW_none, errW_some] <;> rfl), by repeat (first | (with_reducible first | exact HB.out | apply below_alloc | apply pw_below_drewN | apply below_drew1) | exact HB.out)⟩
        · rw [if_neg c18] at H
          have c18b0 : decide (200 < (t101.length : Int)) = false := decide_eq_false c18
          have c18b1 : decide (200 < t101.length) = false := decide_eq_false (by omega)
          clear c18
          replace H := Option.bind_eq_some_iff.mp H
          obtain ⟨⟨t119, t120⟩, A460, H⟩ := H
          replace H : ((doorwardref10_Like.f kj3 t104 t119).bind fun t123 => (if t123 = true then (if t105 = t120 then (if t105 = 0 then ((emit_Size.f kj3 t101).bind fun t124 => (some ((t104.length : Int) == t124))) else (some true)) else (some false)) else (some false))) = some r := H
          have A46 := Aside0.mk A460
          clear A460
          replace H := Option.bind_eq_some_iff.mp H
          obtain ⟨t123, A470, H⟩ := H
          replace H : (if t123 = true then (if t105 = t120 then (if t105 = 0 then ((emit_Size.f kj3 t101).bind fun t124 => (some ((t104.length : Int) == t124))) else (some true)) else (some false)) else (some false)) = some r := H
          have A47 := Aside0.mk A470
          clear A470
          by_cases c48 : t123 = true
          · subst c48
            have H1 : (if t105 = t120 then (if t105 = 0 then ((emit_Size.f kj3 t101).bind fun t124 => (some ((t104.length : Int) == t124))) else (some true)) else (some false)) = some r := by rw [if_pos rfl] at H; exact H
            clear H
            have H := H1
            clear H1
            by_cases c49 : t105 = t120
            · rw [if_pos c49] at H
              have c49b0 : (t105 == t120) = true := beq_iff_eq.mpr c49
              have c49b1 : (t105 != t120) = false := bne_eq_false_iff_eq.mpr c49
              clear c49
              by_cases c50 : t105 = 0
              · rw [if_pos c50] at H
                have c50b0 : (t105 == 0) = true := beq_iff_eq.mpr c50
                have c50b1 : (t105 != 0) = false := bne_eq_false_iff_eq.mpr c50
                clear c50
                replace H := Option.bind_eq_some_iff.mp H
                obtain ⟨t124, A510, H⟩ := H
                replace H : (some ((t104.length : Int) == t124)) = some r := H
                have A51 := Aside0.mk A510
                clear A510
                obtain rfl := Option.some.inj H
                go_wp2_with (first | ((with_reducible refine gate_callee (f := 52) rfl ?_); refine goesL_ (some 40) rfl rfl Try.func52 (by kernel_rfl) rfl #[.slice Ao6 t101.length co6] rfl (by (try simp only [List.map_toArray, List.map_cons, List.map_nil]); first | done | rfl | (simp only [List.length_drop, List.length_take]; rfl)) ?_; (with_reducible refine (doorwardref21_Assemble.calls kj3 _ _ t101 t119 t120 _ ?side1 ?side2 A46.out).mono ?_); (case side1 => repeat (first | exact (Kd.V_reads' HO_0.out).2.2 | (with_reducible refine Kd.C_alloc ?_ _) | (with_reducible refine Kd.C_drewN ?_ _) | (with_reducible refine Kd.C_drew ?_))); (case side2 => exact (Kd.V_reads' HO_0.out).2.1); rintro e w52 ⟨v121, rfl, ho0, hb⟩; refine ⟨_, rfl, ?_⟩; have n0_ := Aside0.mk (Kd.V_elder' (by (with_reducible repeat (first | apply Kd.V_alloc | apply Kd.V_drewN | apply Kd.V_drew)); exact HO_0.out) (Kd.R_base ho0) hb); have n1_ := Aside0.mk (Kd.R_elder' (by (with_reducible repeat (first | apply Kd.R_alloc | apply Kd.R_drewN | apply Kd.R_drew)); exact HO_3.out) (Kd.R_base ho0) hb); have n2_ := Aside0.mk (Kd.R_lower (Kd.R_new' ho0 (Kd.R_lt (by (with_reducible repeat (first | apply Kd.R_alloc | apply Kd.R_drewN | apply Kd.R_drew)); exact HO_3.out))) (below_size (by repeat (first | (with_reducible first | exact HB.out | apply below_alloc | apply pw_below_drewN | apply below_drew1) | exact HB.out)))); have n3_ := Aside0.mk (below_step (by repeat (first | (with_reducible first | exact HB.out | apply below_alloc | apply pw_below_drewN | apply below_drew1) | exact HB.out)) hb); clear HO_0; clear HO_3; clear HB; have HO_0 := n0_; have HO_3 := n1_; have HO122 := n2_; have HB := n3_; clear n0_ n1_ n2_ n3_; (try clear hb); (try clear hb2); (try clear hk); (try clear hi); (try clear ho0); obtain ⟨Ao53, co53, eo53⟩ := Kd.R_slice HO_3.out; subst eo53; obtain ⟨Ao54, co54, eo54⟩ := Kd.R_slice HO122.out; subst eo54) | ((with_reducible refine gate_callee (f := 36) rfl ?_); refine goesL_ (some 45) rfl rfl Try.func36 (by kernel_rfl) rfl #[.slice Ao53 t104.length co53, .slice Ao54 t119.length co54] rfl (by (try simp only [List.map_toArray, List.map_cons, List.map_nil]); first | done | rfl | (simp only [List.length_drop, List.length_take]; rfl)) ?_; (with_reducible refine (doorwardref10_Like.calls kj3 _ _ t104 _ _ t119 true _ ?side1 ?side2 ?side3 ?side4 A47.out).mono ?_); (case side1 => repeat (first | exact (Kd.R_reads' HO_3.out).2.2 | (with_reducible refine Kd.C_alloc ?_ _) | (with_reducible refine Kd.C_drewN ?_ _) | (with_reducible refine Kd.C_drew ?_))); (case side2 => exact (Kd.R_reads' HO_3.out).2.1); (case side3 => repeat (first | exact (Kd.R_reads' HO122.out).2.2 | (with_reducible refine Kd.C_alloc ?_ _) | (with_reducible refine Kd.C_drewN ?_ _) | (with_reducible refine Kd.C_drew ?_))); (case side4 => exact (Kd.R_reads' HO122.out).2.1); rintro e w' ⟨rfl, ⟨nd, rfl⟩⟩; refine ⟨_, rfl, ?_⟩) | (go_at_call 50; (with_reducible refine (emit_Size.calls kj3 _ _ t101 t124 _ ?side1 ?side2 A51.out).mono ?_); (case side1 => repeat (first | exact (Kd.V_reads' HO_0.out).2.2 | (with_reducible refine Kd.C_alloc ?_ _) | (with_reducible refine Kd.C_drewN ?_ _) | (with_reducible refine Kd.C_drew ?_))); (case side2 => exact (Kd.V_reads' HO_0.out).2.1); rintro e w55 ⟨rfl, hb⟩; have n0_ := Aside0.mk (Kd.V_below (by (with_reducible repeat (first | apply Kd.V_alloc | apply Kd.V_drewN | apply Kd.V_drew)); exact HO_0.out) hb); have n1_ := Aside0.mk (Kd.R_below (by (with_reducible repeat (first | apply Kd.R_alloc | apply Kd.R_drewN | apply Kd.R_drew)); exact HO_3.out) hb); have n2_ := Aside0.mk (Kd.R_below (by (with_reducible repeat (first | apply Kd.R_alloc | apply Kd.R_drewN | apply Kd.R_drew)); exact HO122.out) hb); have n3_ := Aside0.mk (below_step (by repeat (first | (with_reducible first | exact HB.out | apply below_alloc | apply pw_below_drewN | apply below_drew1) | exact HB.out)) hb); clear HO_0; clear HO_3; clear HO122; clear HB; have HO_0 := n0_; have HO_3 := n1_; have HO122 := n2_; have HB := n3_; clear n0_ n1_ n2_ n3_; (try clear hb); (try clear hb2); (try clear hk); (try clear hi)))
                go_ret
                exact ⟨by first | rfl | (simp [errW_none, errW_some] <;> rfl) | (simp [*, errW_none, errW_some] <;> rfl), by repeat (first | (with_reducible first | exact HB.out | apply below_alloc | apply pw_below_drewN | apply below_drew1) | exact HB.out)⟩
              · rw [if_neg c50] at H
                have c50b0 : (t105 == 0) = false := beq_eq_false_iff_ne.mpr c50
                have c50b1 : (t105 != 0) = true := bne_iff_ne.mpr c50
                obtain rfl := Option.some.inj H
                go_wp2_with (first | ((with_reducible refine gate_callee (f := 52) rfl ?_); refine goesL_ (some 40) rfl rfl Try.func52 (by kernel_rfl) rfl #[.slice Ao6 t101.length co6] rfl (by (try simp only [List.map_toArray, List.map_cons, List.map_nil]); first | done | rfl | (simp only [List.length_drop, List.length_take]; rfl)) ?_; (with_reducible refine (doorwardref21_Assemble.calls kj3 _ _ t101 t119 t120 _ ?side1 ?side2 A46.out).mono ?_); (case side1 => repeat (first | exact (Kd.V_reads' HO_0.out).2.2 | (with_reducible refine Kd.C_alloc ?_ _) | (with_reducible refine Kd.C_drewN ?_ _) | (with_reducible refine Kd.C_drew ?_))); (case side2 => exact (Kd.V_reads' HO_0.out).2.1); rintro e w56 ⟨v121, rfl, ho0, hb⟩; refine ⟨_, rfl, ?_⟩; have n0_ := Aside0.mk (Kd.V_elder' (by (with_reducible repeat (first | apply Kd.V_alloc | apply Kd.V_drewN | apply Kd.V_drew)); exact HO_0.out) (Kd.R_base ho0) hb); have n1_ := Aside0.mk (Kd.R_elder' (by (with_reducible repeat (first | apply Kd.R_alloc | apply Kd.R_drewN | apply Kd.R_drew)); exact HO_3.out) (Kd.R_base ho0) hb); have n2_ := Aside0.mk (Kd.R_lower (Kd.R_new' ho0 (Kd.R_lt (by (with_reducible repeat (first | apply Kd.R_alloc | apply Kd.R_drewN | apply Kd.R_drew)); exact HO_3.out))) (below_size (by repeat (first | (with_reducible first | exact HB.out | apply below_alloc | apply pw_below_drewN | apply below_drew1) | exact HB.out)))); have n3_ := Aside0.mk (below_step (by repeat (first | (with_reducible first | exact HB.out | apply below_alloc | apply pw_below_drewN | apply below_drew1) | exact HB.out)) hb); clear HO_0; clear HO_3; clear HB; have HO_0 := n0_; have HO_3 := n1_; have HO122 := n2_; have HB := n3_; clear n0_ n1_ n2_ n3_; (try clear hb); (try clear hb2); (try clear hk); (try clear hi); (try clear ho0); obtain ⟨Ao57, co57, eo57⟩ := Kd.R_slice HO_3.out; subst eo57; obtain ⟨Ao58, co58, eo58⟩ := Kd.R_slice HO122.out; subst eo58) | ((with_reducible refine gate_callee (f := 36) rfl ?_); refine goesL_ (some 45) rfl rfl Try.func36 (by kernel_rfl) rfl #[.slice Ao57 t104.length co57, .slice Ao58 t119.length co58] rfl (by (try simp only [List.map_toArray, List.map_cons, List.map_nil]); first | done | rfl | (simp only [List.length_drop, List.length_take]; rfl)) ?_; (with_reducible refine (doorwardref10_Like.calls kj3 _ _ t104 _ _ t119 true _ ?side1 ?side2 ?side3 ?side4 A47.out).mono ?_); (case side1 => repeat (first | exact (Kd.R_reads' HO_3.out).2.2 | (with_reducible refine Kd.C_alloc ?_ _) | (with_reducible refine Kd.C_drewN ?_ _) | (with_reducible refine Kd.C_drew ?_))); (case side2 => exact (Kd.R_reads' HO_3.out).2.1); (case side3 => repeat (first | exact (Kd.R_reads' HO122.out).2.2 | (with_reducible refine Kd.C_alloc ?_ _) | (with_reducible refine Kd.C_drewN ?_ _) | (with_reducible refine Kd.C_drew ?_))); (case side4 => exact (Kd.R_reads' HO122.out).2.1); rintro e w' ⟨rfl, ⟨nd, rfl⟩⟩; refine ⟨_, rfl, ?_⟩))
                go_ret
                exact ⟨by first | rfl | (simp [errW_none, errW_some] <;> rfl) | (simp [*, errW_none, errW_some] <;> rfl), by repeat (first | (with_reducible first | exact HB.out | apply below_alloc | apply pw_below_drewN | apply below_drew1) | exact HB.out)⟩
            · rw [if_neg c49] at H
              have c49b0 : (t105 == t120) = false := beq_eq_false_iff_ne.mpr c49
              have c49b1 : (t105 != t120) = true := bne_iff_ne.mpr c49
              obtain rfl := Option.some.inj H
              go_wp2_with (first | ((with_reducible refine gate_callee (f := 52) rfl ?_); refine goesL_ (some 40) rfl rfl Try.func52 (by kernel_rfl) rfl #[.slice Ao6 t101.length co6] rfl (by (try simp only [List.map_toArray, List.map_cons, List.map_nil]); first | done | rfl | (simp only [List.length_drop, List.length_take]; rfl)) ?_; (with_reducible refine (doorwardref21_Assemble.calls kj3 _ _ t101 t119 t120 _ ?side1 ?side2 A46.out).mono ?_); (case side1 => repeat (first | exact (Kd.V_reads' HO_0.out).2.2 | (with_reducible refine Kd.C_alloc ?_ _) | (with_reducible refine Kd.C_drewN ?_ _) | (with_reducible refine Kd.C_drew ?_))); (case side2 => exact (Kd.V_reads' HO_0.out).2.1); rintro e w59 ⟨v121, rfl, ho0, hb⟩; refine ⟨_, rfl, ?_⟩; have n0_ := Aside0.mk (Kd.V_elder' (by (with_reducible repeat (first | apply Kd.V_alloc | apply Kd.V_drewN | apply Kd.V_drew)); exact HO_0.out) (Kd.R_base ho0) hb); have n1_ := Aside0.mk (Kd.R_elder' (by (with_reducible repeat (first | apply Kd.R_alloc | apply Kd.R_drewN | apply Kd.R_drew)); exact HO_3.out) (Kd.R_base ho0) hb); have n2_ := Aside0.mk (Kd.R_lower (Kd.R_new' ho0 (Kd.R_lt (by (with_reducible repeat (first | apply Kd.R_alloc | apply Kd.R_drewN | apply Kd.R_drew)); exact HO_3.out))) (below_size (by repeat (first | (with_reducible first | exact HB.out | apply below_alloc | apply pw_below_drewN | apply below_drew1) | exact HB.out)))); have n3_ := Aside0.mk (below_step (by repeat (first | (with_reducible first | exact HB.out | apply below_alloc | apply pw_below_drewN | apply below_drew1) | exact HB.out)) hb); clear HO_0; clear HO_3; clear HB; have HO_0 := n0_; have HO_3 := n1_; have HO122 := n2_; have HB := n3_; clear n0_ n1_ n2_ n3_; (try clear hb); (try clear hb2); (try clear hk); (try clear hi); (try clear ho0); obtain ⟨Ao60, co60, eo60⟩ := Kd.R_slice HO_3.out; subst eo60; obtain ⟨Ao61, co61, eo61⟩ := Kd.R_slice HO122.out; subst eo61) | ((with_reducible refine gate_callee (f := 36) rfl ?_); refine goesL_ (some 45) rfl rfl Try.func36 (by kernel_rfl) rfl #[.slice Ao60 t104.length co60, .slice Ao61 t119.length co61] rfl (by (try simp only [List.map_toArray, List.map_cons, List.map_nil]); first | done | rfl | (simp only [List.length_drop, List.length_take]; rfl)) ?_; (with_reducible refine (doorwardref10_Like.calls kj3 _ _ t104 _ _ t119 true _ ?side1 ?side2 ?side3 ?side4 A47.out).mono ?_); (case side1 => repeat (first | exact (Kd.R_reads' HO_3.out).2.2 | (with_reducible refine Kd.C_alloc ?_ _) | (with_reducible refine Kd.C_drewN ?_ _) | (with_reducible refine Kd.C_drew ?_))); (case side2 => exact (Kd.R_reads' HO_3.out).2.1); (case side3 => repeat (first | exact (Kd.R_reads' HO122.out).2.2 | (with_reducible refine Kd.C_alloc ?_ _) | (with_reducible refine Kd.C_drewN ?_ _) | (with_reducible refine Kd.C_drew ?_))); (case side4 => exact (Kd.R_reads' HO122.out).2.1); rintro e w' ⟨rfl, ⟨nd, rfl⟩⟩; refine ⟨_, rfl, ?_⟩))
              go_ret
              exact ⟨by first | rfl | (simp [errW_none, errW_some] <;> rfl) | (simp [*, errW_none, errW_some] <;> rfl), by repeat (first | (with_reducible first | exact HB.out | apply below_alloc | apply pw_below_drewN | apply below_drew1) | exact HB.out)⟩
          · replace c48 := Bool.eq_false_iff.mpr c48
            subst c48
            have H1 : (some false) = some r := by rw [if_neg (show ¬ (false = true) by decide)] at H; exact H
            clear H
            have H := H1
            clear H1
            obtain rfl := Option.some.inj H
            go_wp2_with (first | ((with_reducible refine gate_callee (f := 52) rfl ?_); refine goesL_ (some 40) rfl rfl Try.func52 (by kernel_rfl) rfl #[.slice Ao6 t101.length co6] rfl (by (try simp only [List.map_toArray, List.map_cons, List.map_nil]); first | done | rfl | (simp only [List.length_drop, List.length_take]; rfl)) ?_; (with_reducible refine (doorwardref21_Assemble.calls kj3 _ _ t101 t119 t120 _ ?side1 ?side2 A46.out).mono ?_); (case side1 => repeat (first | exact (Kd.V_reads' HO_0.out).2.2 | (with_reducible refine Kd.C_alloc ?_ _) | (with_reducible refine Kd.C_drewN ?_ _) | (with_reducible refine Kd.C_drew ?_))); (case side2 => exact (Kd.V_reads' HO_0.out).2.1); rintro e w62 ⟨v121, rfl, ho0, hb⟩; refine ⟨_, rfl, ?_⟩; have n0_ := Aside0.mk (Kd.V_elder' (by (with_reducible repeat (first | apply Kd.V_alloc | apply Kd.V_drewN | apply Kd.V_drew)); exact HO_0.out) (Kd.R_base ho0) hb); have n1_ := Aside0.mk (Kd.R_elder' (by (with_reducible repeat (first | apply Kd.R_alloc | apply Kd.R_drewN | apply Kd.R_drew)); exact HO_3.out) (Kd.R_base ho0) hb); have n2_ := Aside0.mk (Kd.R_lower (Kd.R_new' ho0 (Kd.R_lt (by (with_reducible repeat (first | apply Kd.R_alloc | apply Kd.R_drewN | apply Kd.R_drew)); exact HO_3.out))) (below_size (by repeat (first | (with_reducible first | exact HB.out | apply below_alloc | apply pw_below_drewN | apply below_drew1) | exact HB.out)))); have n3_ := Aside0.mk (below_step (by repeat (first | (with_reducible first | exact HB.out | apply below_alloc | apply pw_below_drewN | apply below_drew1) | exact HB.out)) hb); clear HO_0; clear HO_3; clear HB; have HO_0 := n0_; have HO_3 := n1_; have HO122 := n2_; have HB := n3_; clear n0_ n1_ n2_ n3_; (try clear hb); (try clear hb2); (try clear hk); (try clear hi); (try clear ho0); obtain ⟨Ao63, co63, eo63⟩ := Kd.R_slice HO_3.out; subst eo63; obtain ⟨Ao64, co64, eo64⟩ := Kd.R_slice HO122.out; subst eo64) | ((with_reducible refine gate_callee (f := 36) rfl ?_); refine goesL_ (some 45) rfl rfl Try.func36 (by kernel_rfl) rfl #[.slice Ao63 t104.length co63, .slice Ao64 t119.length co64] rfl (by (try simp only [List.map_toArray, List.map_cons, List.map_nil]); first | done | rfl | (simp only [List.length_drop, List.length_take]; rfl)) ?_; (with_reducible refine (doorwardref10_Like.calls kj3 _ _ t104 _ _ t119 false _ ?side1 ?side2 ?side3 ?side4 A47.out).mono ?_); (case side1 => repeat (first | exact (Kd.R_reads' HO_3.out).2.2 | (with_reducible refine Kd.C_alloc ?_ _) | (with_reducible refine Kd.C_drewN ?_ _) | (with_reducible refine Kd.C_drew ?_))); (case side2 => exact (Kd.R_reads' HO_3.out).2.1); (case side3 => repeat (first | exact (Kd.R_reads' HO122.out).2.2 | (with_reducible refine Kd.C_alloc ?_ _) | (with_reducible refine Kd.C_drewN ?_ _) | (with_reducible refine Kd.C_drew ?_))); (case side4 => exact (Kd.R_reads' HO122.out).2.1); rintro e w' ⟨rfl, ⟨nd, rfl⟩⟩; refine ⟨_, rfl, ?_⟩))
            go_ret
            exact ⟨by first | rfl | (simp [errW_none, errW_some] <;> rfl) | (simp [*, errW_none, errW_some] <;> rfl), by repeat (first | (with_reducible first | exact HB.out | apply below_alloc | apply pw_below_drewN | apply below_drew1) | exact HB.out)⟩
end Go.Proofs.Ytefkhcijgiagdaa.PEmitMakes
end
section
namespace Go.Proofs.Ytefkhcijgiagdaa.Open
open Go.RowKit Go.Proofs.YtefkhcijgiagdaaW.PrintWords
set_option linter.unusedVariables false
set_option linter.unusedSimpArgs false
variable {α β : Type}
/-- A reading (of so much fuel at most) of cells at type t tells a value of kind d, of which Q. -/
def OpensN (P : Program) (fuel : Nat) (d : Kd α) (t : TypeId) (Q : α → Prop) : Prop :=
  P.cellsOf t = d.sz ∧ ∀ (H : Type) (enc : TypeId × Value → H) (W : World) (cs : List Value) (x : DataW H × List MemPlace),
    DataW.trod enc P W 0 (fun _ => true) true fuel t cs = some x → ∃ y, d.K W y cs ∧ Q y
def Opens (P : Program) (d : Kd α) (t : TypeId) (Q : α → Prop) : Prop := ∀ fuel, OpensN P fuel d t Q
section
variable {P : Program} {t e : TypeId} {d : Kd α} {Q : α → Prop} {fuel : Nat}
theorem OpensN.none (h : P.cellsOf t = d.sz) : OpensN P 0 d t Q := ⟨h, fun H enc W cs x hx => by simp [DataW.trod] at hx⟩
theorem one_cell {H : Type} {enc : TypeId × Value → H} {W : World} {cs : List Value} {x : DataW H × List MemPlace} {u : TypeDesc} (hu : P.underlying t = some u) (h1 : (match u with | .struct _ | .array _ _ => true | _ => false) = false)
    (hx : DataW.trod enc P W 0 (fun _ => true) true (fuel + 1) t cs = some x) : ∃ c, cs = [c] := by
  unfold DataW.trod at hx
  rcases cs with _ | ⟨c, _ | ⟨c2, r⟩⟩
  · cases u <;> simp [hu] at hx h1
  · exact ⟨c, rfl⟩
  · cases u <;> simp [hu] at hx h1
theorem Opens.int (k : IntKind) (hu : P.underlying t = some (.int k)) (hc : P.cellsOf t = 1) : Opens P (Kd.int k) t (fun x => (Lit.int k x).wf = true) := by
  intro fuel
  cases fuel with
  | zero => exact OpensN.none hc
  | succ fuel =>
    refine ⟨hc, fun H enc W cs x hx => ?_⟩
    obtain ⟨c, rfl⟩ := one_cell hu rfl hx
    unfold DataW.trod at hx
    cases c <;> simp [hu] at hx
    rename_i k' n
    obtain ⟨⟨rfl, hw⟩, _⟩ := hx
    exact ⟨n, rfl, hw⟩
theorem Opens.bool (hu : P.underlying t = some .bool) (hc : P.cellsOf t = 1) : Opens P Kd.bool t (fun _ => True) := by
  intro fuel
  cases fuel with
  | zero => exact OpensN.none hc
  | succ fuel =>
    refine ⟨hc, fun H enc W cs x hx => ?_⟩
    obtain ⟨c, rfl⟩ := one_cell hu rfl hx
    unfold DataW.trod at hx
    cases c <;> simp [hu] at hx
    rename_i b
    exact ⟨b, rfl, trivial⟩
/-- The cells of a slice. -/
theorem slice_cell {H : Type} {enc : TypeId × Value → H} {W : World} {cs : List Value} {x : DataW H × List MemPlace} (hu : P.underlying t = some (.slice e)) (hx : DataW.trod enc P W 0 (fun _ => true) true (fuel + 1) t cs = some x) :
    cs = [.slice none 0 0] ∨ ∃ a len cap, cs = [.slice (some a) len cap] ∧ len ≤ cap ∧ cap ≤ maxLen ∧
      ∃ els rest, (List.range len).mapM (fun i => (W.cells? 0 (a.add (i * P.cellsOf e)) (P.cellsOf e)).bind (DataW.trod enc P W 0 (fun _ => true) true fuel e)) = some els ∧ x.1 = .slice (els.map (·.1)) rest := by
  obtain ⟨c, rfl⟩ := one_cell hu rfl hx
  unfold DataW.trod at hx
  cases c <;> try (simp [hu] at hx; done)
  rename_i A len cap
  cases A with
  | none =>
    by_cases h0 : len = 0 ∧ cap = 0
    · obtain ⟨rfl, rfl⟩ := h0
      exact .inl rfl
    · exfalso
      rcases len with _ | len <;> rcases cap with _ | cap <;> simp [hu] at hx h0
  | some a =>
    right
    simp only [hu] at hx
    split at hx
    · rename_i hcnd
      rw [Option.bind_eq_some_iff] at hx
      obtain ⟨els, hels, hx⟩ := hx
      rw [Option.map_eq_some_iff] at hx
      obtain ⟨rest, _, hx⟩ := hx
      exact ⟨a, len, cap, rfl, hcnd.2.1, hcnd.2.2, els, rest.map (·.1), hels, by rw [← hx]⟩
    · simp at hx
theorem OpensN.slice (hu : P.underlying t = some (.slice e)) (hc : P.cellsOf t = 1) (h : OpensN P fuel d e Q) : OpensN P (fuel + 1) (Kd.slice e d) t (fun xs => xs.length ≤ maxLen ∧ ∀ x ∈ xs, Q x) := by
  obtain ⟨hsz, h⟩ := h
  refine ⟨hc, fun H enc W cs x hx => ?_⟩
  rcases slice_cell hu hx with rfl | ⟨a, len, cap, rfl, hlc, hcm, els, rest, hels, _⟩
  · refine ⟨[], ⟨Option.none, 0, rfl, Nat.le_refl _, ?_⟩, by simp, by simp⟩
    exact ⟨rfl, by simp, fun h => absurd h (by simp)⟩
  · skip
    · skip
      have hlen : els.length = len := by simpa using mapM_some_length hels
      have hget := fun i (hi : i < len) => mapM_some_get hels i i (by simp [hi])
      have hall : ∀ i, i < len → ∃ (y : α) (c : List Value), d.K W y c ∧ Q y ∧ c.length = d.sz ∧ ∀ j u, c[j]? = some u → W.cell? (a.add (i * d.sz + j)) = some u := by
        intro i hi
        have hi2 := hget i hi
        rw [List.getElem?_eq_getElem (by omega : i < els.length), Option.bind_eq_some_iff] at hi2
        obtain ⟨c, hcs, hr⟩ := hi2
        obtain ⟨y, hy, hq⟩ := h H enc W c _ hr
        obtain ⟨_, hcl, hcell⟩ := World.cells?_some hcs
        refine ⟨y, c, hy, hq, d.K_len hy, fun j u hj => ?_⟩
        have hjl : j < P.cellsOf e := by
          have : j < c.length := by
            rcases Nat.lt_or_ge j c.length with hlt | hge
            · exact hlt
            · rw [List.getElem?_eq_none hge] at hj; simp at hj
          omega
        have := hcell j hjl
        rw [hj, hsz, Addr.add_add] at this
        exact this
      obtain ⟨ys, hys⟩ : ∃ ys : List α, ys.length = len ∧ ∀ i (hi : i < ys.length), (∃ c : List Value, d.K W ys[i] c ∧ Q ys[i] ∧ c.length = d.sz ∧ ∀ j u, c[j]? = some u → W.cell? (a.add (i * d.sz + j)) = some u) := by
        clear hels hget hlen hlc hcm hx
        induction len with
        | zero => exact ⟨[], rfl, fun i hi => absurd hi (by simp)⟩
        | succ n ih =>
          obtain ⟨ys, hl, hy⟩ := ih (fun i hi => hall i (by omega))
          obtain ⟨y, c, hk, hq, hcl, hcc⟩ := hall n (by omega)
          refine ⟨ys ++ [y], by simp [hl], fun i hi => ?_⟩
          by_cases hin : i < ys.length
          · have := hy i hin
            rw [List.getElem_append_left hin]
            exact this
          · have hie : i = n := by simp at hi; omega
            subst hie
            rw [List.getElem_append_right (by omega)]
            simp only [hl, Nat.sub_self, List.getElem_cons_zero]
            exact ⟨c, hk, hq, hcl, hcc⟩
      obtain ⟨hyl, hy⟩ := hys
      refine ⟨ys, ⟨some a, cap, by rw [hyl], by omega, ?_⟩, by omega, ?_⟩
      · refine ⟨rfl, by rw [hyl]; exact Nat.le_trans hlc hcm, fun _ => ⟨a, rfl, fun j p hj => ?_⟩⟩
        have hjl : j < ys.length := by
          rcases Nat.lt_or_ge j ys.length with hlt | hge
          · exact hlt
          · rw [List.getElem?_eq_none hge] at hj; simp at hj
        obtain ⟨c, hk, hq, hcl, hcc⟩ := hy j hjl
        rw [List.getElem?_eq_getElem hjl] at hj
        obtain rfl := Option.some.inj hj
        exact ⟨c, hcl, hk, hcc⟩
      · intro x hx
        obtain ⟨i, hi, rfl⟩ := List.getElem_of_mem hx
        obtain ⟨c, hk, hq, _⟩ := hy i hi
        exact hq
theorem Opens.slice (hu : P.underlying t = some (.slice e)) (hc : P.cellsOf t = 1) (h : Opens P d e Q) : Opens P (Kd.slice e d) t (fun xs => xs.length ≤ maxLen ∧ ∀ x ∈ xs, Q x) := by
  intro fuel
  cases fuel with
  | zero => exact OpensN.none hc
  | succ fuel => exact OpensN.slice hu hc (h fuel)
end
/-- The fields from one on, read one by one, tell a value of kind d out of the cells from o on. -/
def OpensF (P : Program) (fuel : Nat) (fs : List Field) (o : Nat) (d : Kd α) (Q : α → Prop) : Prop :=
  ∀ (H : Type) (enc : TypeId × Value → H) (W : World) (cs : List Value) (xs : List (DataW H × List MemPlace)),
    (fs.mapM fun f => DataW.trod enc P W 0 (fun _ => true) true fuel f.type ((cs.drop f.offset).take (P.cellsOf f.type))) = some xs → cs.length = o + d.sz → ∃ y, d.K W y (cs.drop o) ∧ Q y
section
variable {P : Program} {t : TypeId} {a : Kd α} {b : Kd β} {Q : α → Prop} {R : β → Prop} {fuel o : Nat} {f : Field} {fs : List Field}
theorem OpensF.last (ho : f.offset = o) (h : OpensN P fuel a f.type Q) : OpensF P fuel [f] o a Q := by
  intro H enc W cs xs hx hl
  simp only [List.mapM_cons, List.mapM_nil] at hx
  rw [Option.bind_eq_bind, Option.bind_eq_some_iff] at hx
  obtain ⟨y, hy, _⟩ := hx
  rw [ho, h.1, List.take_of_length_le (by rw [List.length_drop]; omega)] at hy
  exact h.2 H enc W _ _ hy
theorem OpensF.cons (ho : f.offset = o) (h : OpensN P fuel a f.type Q) (hs : OpensF P fuel fs (o + a.sz) b R) : OpensF P fuel (f :: fs) o (Kd.pair a b) (fun x => Q x.1 ∧ R x.2) := by
  intro H enc W cs xs hx hl
  simp only [List.mapM_cons] at hx
  rw [Option.bind_eq_bind, Option.bind_eq_some_iff] at hx
  obtain ⟨y, hy, hx⟩ := hx
  rw [Option.bind_eq_bind, Option.bind_eq_some_iff] at hx
  obtain ⟨ys, hys, _⟩ := hx
  rw [ho, h.1] at hy
  obtain ⟨u, hu, hq⟩ := h.2 H enc W _ _ hy
  obtain ⟨v, hv, hr⟩ := hs H enc W cs ys hys (by have : (Kd.pair a b).sz = a.sz + b.sz := rfl; omega)
  refine ⟨(u, v), ⟨(cs.drop o).take a.sz, (cs.drop o).drop a.sz, (List.take_append_drop _ _).symm, hu, ?_⟩, hq, hr⟩
  rw [List.drop_drop]
  exact hv
theorem OpensF.iso {γ : Type} (g : γ → α) (inv : α → γ) (hg : ∀ x, g (inv x) = x) (h : OpensF P fuel fs o a Q) : OpensF P fuel fs o (Kd.iso a g) (fun x => Q (g x)) := by
  intro H enc W cs xs hx hl
  obtain ⟨y, hy, hq⟩ := h H enc W cs xs hx hl
  exact ⟨inv y, by show a.K W (g (inv y)) _; rw [hg]; exact hy, by show Q (g (inv y)); rw [hg]; exact hq⟩
theorem OpensN.struct {gs : Array Field} (hu : P.underlying t = some (.struct gs)) (hc : P.cellsOf t = a.sz) (h : OpensF P fuel gs.toList 0 a Q) : OpensN P (fuel + 1) a t Q := by
  refine ⟨hc, fun H enc W cs x hx => ?_⟩
  have hx2 : (if cs.length = P.cellsOf t then (gs.toList.mapM fun f => DataW.trod enc P W 0 (fun _ => true) true fuel f.type ((cs.drop f.offset).take (P.cellsOf f.type))).map fun xs => (DataW.agg (xs.map (·.1)), xs.flatMap (·.2)) else Option.none) = some x := by
    rw [← hx]
    conv => rhs; unfold DataW.trod
    simp only [hu]
  split at hx2
  · rename_i hl
    rw [Option.map_eq_some_iff] at hx2
    obtain ⟨xs, hxs, _⟩ := hx2
    have := h H enc W cs xs hxs (by omega)
    simpa using this
  · simp at hx2
/-- The places of an array, read one by one. -/
def OpensA (P : Program) (fuel : Nat) (e : TypeId) (is : List Nat) (o : Nat) (d : Kd α) (Q : α → Prop) : Prop :=
  ∀ (H : Type) (enc : TypeId × Value → H) (W : World) (cs : List Value) (xs : List (DataW H × List MemPlace)),
    (is.mapM fun i => DataW.trod enc P W 0 (fun _ => true) true fuel e ((cs.drop (i * P.cellsOf e)).take (P.cellsOf e))) = some xs → cs.length = o + d.sz → ∃ y, d.K W y (cs.drop o) ∧ Q y
theorem OpensA.last {e : TypeId} {i : Nat} (ho : i * P.cellsOf e = o) (h : OpensN P fuel a e Q) : OpensA P fuel e [i] o a Q := by
  intro H enc W cs xs hx hl
  simp only [List.mapM_cons, List.mapM_nil] at hx
  rw [Option.bind_eq_bind, Option.bind_eq_some_iff] at hx
  obtain ⟨y, hy, _⟩ := hx
  rw [ho, h.1, List.take_of_length_le (by rw [List.length_drop]; omega)] at hy
  exact h.2 H enc W _ _ hy
theorem OpensA.cons {e : TypeId} {i : Nat} {is : List Nat} (ho : i * P.cellsOf e = o) (h : OpensN P fuel a e Q) (hs : OpensA P fuel e is (o + a.sz) b R) : OpensA P fuel e (i :: is) o (Kd.pair a b) (fun x => Q x.1 ∧ R x.2) := by
  intro H enc W cs xs hx hl
  simp only [List.mapM_cons] at hx
  rw [Option.bind_eq_bind, Option.bind_eq_some_iff] at hx
  obtain ⟨y, hy, hx⟩ := hx
  rw [Option.bind_eq_bind, Option.bind_eq_some_iff] at hx
  obtain ⟨ys, hys, _⟩ := hx
  rw [ho, h.1] at hy
  obtain ⟨u, hu, hq⟩ := h.2 H enc W _ _ hy
  obtain ⟨v, hv, hr⟩ := hs H enc W cs ys hys (by have : (Kd.pair a b).sz = a.sz + b.sz := rfl; omega)
  refine ⟨(u, v), ⟨(cs.drop o).take a.sz, (cs.drop o).drop a.sz, (List.take_append_drop _ _).symm, hu, ?_⟩, hq, hr⟩
  rw [List.drop_drop]
  exact hv
theorem OpensA.iso {γ : Type} {e : TypeId} {is : List Nat} (g : γ → α) (inv : α → γ) (hg : ∀ x, g (inv x) = x) (h : OpensA P fuel e is o a Q) : OpensA P fuel e is o (Kd.iso a g) (fun x => Q (g x)) := by
  intro H enc W cs xs hx hl
  obtain ⟨y, hy, hq⟩ := h H enc W cs xs hx hl
  exact ⟨inv y, by show a.K W (g (inv y)) _; rw [hg]; exact hy, by show Q (g (inv y)); rw [hg]; exact hq⟩
theorem OpensN.array {n : Nat} {e : TypeId} (hu : P.underlying t = some (.array n e)) (hc : P.cellsOf t = a.sz) (h : OpensA P fuel e (List.range n) 0 a Q) : OpensN P (fuel + 1) a t Q := by
  refine ⟨hc, fun H enc W cs x hx => ?_⟩
  have hx2 : (if cs.length = P.cellsOf t then ((List.range n).mapM fun i => DataW.trod enc P W 0 (fun _ => true) true fuel e ((cs.drop (i * P.cellsOf e)).take (P.cellsOf e))).map fun xs => (DataW.agg (xs.map (·.1)), xs.flatMap (·.2)) else Option.none) = some x := by
    rw [← hx]
    conv => rhs; unfold DataW.trod
    simp only [hu]
  split at hx2
  · rename_i hl
    rw [Option.map_eq_some_iff] at hx2
    obtain ⟨xs, hxs, _⟩ := hx2
    have := h H enc W cs xs hxs (by omega)
    simpa using this
  · simp at hx2
end
section
variable {P : Program} {t e : TypeId} {d : Kd α} {Q : α → Prop} {H : Type} {enc : TypeId × Value → H} {W : World} {D : DataW H} {p : List MemPlace} {v : Value}
/-- A slice that came in. -/
theorem slice_of {r : Reach} {base : Nat} (hu : P.underlying t = some (.slice e)) (hc : P.cellsOf t = 1) (hv : Value.okWide P W r base t v) (ho : Opens P d e Q) (h : DataW.Trod enc P W 0 (fun _ => true) true t v D p) :
    ∃ A c xs, v = .slice A (List.length xs) c ∧ xs.length ≤ c ∧ d.C W A xs.length xs ∧ xs.length ≤ maxLen ∧ ∀ x ∈ xs, Q x := by
  obtain ⟨a, len, cap, rfl⟩ := Go.WideShapes.okWide_slice hu hv
  obtain ⟨fuel, hf⟩ := h
  obtain ⟨xs, ⟨A, c, hcs, hl, hC⟩, hq, hall⟩ := (Opens.slice hu hc ho fuel).2 H enc W _ _ hf
  have he : Value.slice a len cap = .slice A xs.length c := by
    have : (Value.slice a len cap).cells.toList = [Value.slice a len cap] := rfl
    rw [this] at hcs
    exact (List.cons.inj hcs).1
  exact ⟨A, c, xs, he, hl, hC, hq, hall⟩
/-- .. and how long it is. -/
theorem slice_sized {ts : List TypeId} {ds : List (DataW H)} {j B : Nat} {A : Option Addr} {n c : Nat} (hsz : (DataW.weightsEach P ts ds).all (· ≤ reachBytes) = true) (ht : ts[j]? = some t) (hd : ds[j]? = some D) (hu : P.underlying t = some (.slice e)) (hB : P.bytesOf e = B)
    (h : DataW.Trod enc P W 0 (fun _ => true) true t (.slice A n c) D p) : n * B ≤ 140737488351232 := by
  obtain ⟨fuel, hf⟩ := h
  cases fuel with
  | zero => simp [DataW.trod] at hf
  | succ fuel =>
    have hcl : (Value.slice A n c).cells.toList = [Value.slice A n c] := rfl
    rw [hcl] at hf
    rcases slice_cell hu hf with hs | ⟨a, len, cap, hs, hlc, hcm, els, rest, hels, hx⟩
    · have := (List.cons.inj hs).1
      injection this with _ h2 _
      rw [h2, Nat.zero_mul]
      omega
    · have h1 := (List.cons.inj hs).1
      injection h1 with _ h2 _
      have hlen : els.length = len := by simpa using mapM_some_length hels
      have hx2 : D = .slice (els.map (·.1)) rest := hx
      subst hx2
      have z := sized_slice hsz ht hd hu
      rw [hB, List.length_map, hlen, ← h2] at z
      exact Nat.le_trans (Nat.mul_le_mul_right _ (Nat.le_add_right _ _)) z
end
end Go.Proofs.Ytefkhcijgiagdaa.Open
end
section
namespace Go.Proofs.Ytefkhcijgiagdaa.StatEmitMakes
open Go.RowKit Go.Proofs.YtefkhcijgiagdaaW.PrintWords Go.Proofs.Ytefkhcijgiagdaa.Open Go.Proofs.Ytefkhcijgiagdaa.PEmitMakes Go.Proofs.Ytefkhcijgiagdaa.Le Go.Proofs.Ytefkhcijgiagdaa.HKnown Go.Proofs.Ytefkhcijgiagdaa.I1 Go.Proofs.Ytefkhcijgiagdaa.E1 Go.Proofs.Ytefkhcijgiagdaa.HAsm Go.Proofs.Ytefkhcijgiagdaa.E2
set_option maxRecDepth 100000
def Q3 (x : Int) : Prop := (Lit.int .i64 x).wf = true
theorem opens3 : Opens Try.prog (Kd.int .i64) 3 Q3 := Opens.int .i64 Try.underlying3 (by kernel_rfl)
def Q24 (x : Int) : Prop := (Lit.int .u32 x).wf = true
theorem opens24 : Opens Try.prog (Kd.int .u32) 24 Q24 := Opens.int .u32 Try.underlying24 (by kernel_rfl)
def Q40 (x : S40) : Prop := Q3 x.f0 ∧ Q24 x.f1 ∧ Q3 x.f2 ∧ Q3 x.f3
theorem opens40 : Opens Try.prog k40 40 Q40 := by
  intro fuel
  cases fuel with
  | zero => exact OpensN.none (by kernel_rfl)
  | succ fuel => exact OpensN.struct Try.underlying40 (by kernel_rfl) (OpensF.iso (fun x : S40 => (x.f0, x.f1, x.f2, x.f3)) (fun p => ⟨p.1, p.2.1, p.2.2.1, p.2.2.2⟩) (fun _ => rfl) (OpensF.cons (by kernel_rfl) (opens3 fuel) (OpensF.cons (by kernel_rfl) (opens24 fuel) (OpensF.cons (by kernel_rfl) (opens3 fuel) (OpensF.last (by kernel_rfl) (opens3 fuel))))))
def Stat : Prop := ∀ (a0 : List S40), a0.length ≤ maxLen → a0.length * 32 ≤ 140737488351232 → (∀ x ∈ a0, Q40 x) → ∃ k, doorwardlaw21_EmitMakes.f k a0 = some true
end Go.Proofs.Ytefkhcijgiagdaa.StatEmitMakes
end
section
namespace Go.Proofs.Ytefkhcijgiagdaa.QNum
open Go.RowKit Go.Proofs.YtefkhcijgiagdaaW.PrintWords Go.Proofs.YtefkhcijgiagdaaW.PrintLast Go.Proofs.YtefkhcijgiagdaaW.PrintMore Go.Proofs.Ytefkhcijgiagdaa.QLe
set_option linter.unusedVariables false
set_option linter.unusedSimpArgs false
/-- a row of small numbers, as bytes. -/
def by8 (xs : List Int) : List UInt8 := xs.map fun n => UInt8.ofNat n.toNat
theorem wf_i64 {x : Int} (h : (Lit.int .i64 x).wf = true) : -9223372036854775808 ≤ x ∧ x ≤ 9223372036854775807 := by
  simp [Lit.wf, IntKind.min, IntKind.max, IntKind.bits, IntKind.signed] at h; omega
end Go.Proofs.Ytefkhcijgiagdaa.QNum
end
section
namespace Go.Proofs.Ytefkhcijgiagdaa.QIn
open Go.RowKit Go.Proofs.YtefkhcijgiagdaaW.PrintWords Go.Proofs.YtefkhcijgiagdaaW.PrintLast Go.Proofs.YtefkhcijgiagdaaW.PrintMore Go.Proofs.Ytefkhcijgiagdaa.Le Go.Proofs.Ytefkhcijgiagdaa.QLe Go.Proofs.Ytefkhcijgiagdaa.QNum Go.Proofs.Ytefkhcijgiagdaa.HKnown Go.Proofs.Ytefkhcijgiagdaa.I1
set_option linter.unusedVariables false
set_option linter.unusedSimpArgs false
theorem alive_ok : doorwardlaw10_alive.f = some true := by rfl
def bytes (a b c d : Int) : List UInt8 := by8 (leB a 2) ++ by8 (leB b 1) ++ by8 (leB c 1) ++ by8 (leB d 4)
end Go.Proofs.Ytefkhcijgiagdaa.QIn
end
section
namespace Go.Proofs.Ytefkhcijgiagdaa.QEmit
open Go.RowKit Go.Proofs.YtefkhcijgiagdaaW.PrintWords Go.Proofs.YtefkhcijgiagdaaW.PrintLast Go.Proofs.YtefkhcijgiagdaaW.PrintMore Go.Proofs.Ytefkhcijgiagdaa.QLe Go.Proofs.Ytefkhcijgiagdaa.I1 Go.Proofs.Ytefkhcijgiagdaa.E1 Go.Proofs.Ytefkhcijgiagdaa.E2 Go.Proofs.Ytefkhcijgiagdaa.HAsm
set_option linter.unusedVariables false
set_option linter.unusedSimpArgs false
set_option maxRecDepth 100000
def init : WS := ⟨[], fun _ => none, 0, false⟩
def foldR (s : WS) : List S40 → WS
  | [] => s
  | o :: l => stepS (foldR s l) o
theorem foldR_append (s : WS) (l m : List S40) : foldR s (l ++ m) = foldR (foldR s m) l := by
  induction l with
  | nil => rfl
  | cons o l ih => exact congrArg (fun x => stepS x o) ih
theorem rd40_get (l : List S40) (i : Nat) (h : i < l.length) : rd_T40 l (i : Int) = l[i] := by
  unfold rd_T40; simp [List.getD, h]
theorem runS_fold (l : List S40) : ∀ j, j ≤ l.length → runS l j = foldR init (l.drop (l.length - j)) := by
  intro j
  induction j with
  | zero => intro _; rw [Nat.sub_zero, List.drop_length]; rfl
  | succ j ih =>
    intro hj
    have hlt : l.length - (j + 1) < l.length := by omega
    rw [List.drop_eq_getElem_cons hlt]
    show stepS (runS l j) _ = stepS _ _
    rw [ih (by omega), show l.length - 1 - j = l.length - (j + 1) by omega, rd40_get l _ hlt, show l.length - (j + 1) + 1 = l.length - j by omega]
def asmR (l : List S40) : List S28 × Int :=
  if (foldR init l).bad = true then ([], 1) else if 4096 < (foldR init l).xs.length then ([], 64) else ((foldR init l).xs.reverse, 0)
theorem asm_asmR (l : List S40) : asm l = asmR l := by
  unfold asm asmR
  rw [runS_fold l l.length (Nat.le_refl _), Nat.sub_self, List.drop_zero]
def OkOp (o : S40) : Prop := inI o.f2 = true ∧ inI o.f3 = true
theorem emit_f (l : List S40) (hl : l.length ≤ 100000) (hw : ∀ o ∈ l, OkOp o) : emit_Assemble.f l = some (asmR l) := by
  unfold emit_Assemble.f
  rw [if_pos ⟨hl, List.all_eq_true.2 (fun o ho => by rw [(hw o ho).1, (hw o ho).2]; rfl)⟩, asm_asmR]
theorem alive_ok : doorwardlaw21_alive.f = some true := by
  unfold doorwardlaw21_alive.f
  rw [emit_f _ (by simp) (by intro o ho; simp at ho; subst ho; exact ⟨by decide, by decide⟩)]
  have e : asmR [(⟨8, 7, 0, 0⟩ : S40)] = ([⟨6, 0, 0, 7⟩], 0) := rfl
  rw [e]; rfl
theorem like_loop (a : List S28) (hl : a.length < 1000000) : ∀ n i : Nat, i + n = a.length → ∀ k, n < k → doorwardref10_Like.l0 k a a (a.length : Int) i = some true := by
  intro n
  induction n with
  | zero =>
    intro i hi k hk
    obtain ⟨k, rfl⟩ : ∃ m, k = m + 1 := ⟨k - 1, by omega⟩
    simp only [doorwardref10_Like.l0]
    rw [if_neg (by omega)]
  | succ n ih =>
    intro i hi k hk
    obtain ⟨k, rfl⟩ : ∃ m, k = m + 1 := ⟨k - 1, by omega⟩
    simp only [doorwardref10_Like.l0]
    rw [if_pos (by omega), if_pos (by omega), if_pos (by omega), if_pos (by omega), w64 _ (by omega) (by omega)]
    simp only [beq_self_eq_true, Bool.not_true, Bool.or_self]
    rw [if_neg (by decide)]
    exact ih (i + 1) (by omega) k (by omega)
theorem like_self (a : List S28) (hl : a.length < 1000000) (k : Nat) (hk : a.length < k) : doorwardref10_Like.f k a a = some true := by
  unfold doorwardref10_Like.f
  rw [if_pos rfl]
  exact like_loop a hl a.length 0 (by omega) k hk
theorem step_bad (s : WS) (o : S40) (h : s.bad = true) : (stepS s o).bad = true := by
  unfold stepS
  repeat' split
  all_goals simp [WS.put, WS.go, h]
theorem fold_bad (s : WS) (l : List S40) (h : s.bad = true) : (foldR s l).bad = true := by
  induction l with
  | nil => exact h
  | cons o l ih => exact step_bad _ o ih
end Go.Proofs.Ytefkhcijgiagdaa.QEmit
end
section
namespace Go.Proofs.Ytefkhcijgiagdaa.QRef21
open Go.RowKit Go.Proofs.YtefkhcijgiagdaaW.PrintWords Go.Proofs.YtefkhcijgiagdaaW.PrintLast Go.Proofs.YtefkhcijgiagdaaW.PrintMore Go.Proofs.Ytefkhcijgiagdaa.QLe Go.Proofs.Ytefkhcijgiagdaa.I1 Go.Proofs.Ytefkhcijgiagdaa.E1 Go.Proofs.Ytefkhcijgiagdaa.HAsm Go.Proofs.Ytefkhcijgiagdaa.QEmit
set_option linter.unusedVariables false
set_option linter.unusedSimpArgs false
def sz1 (o : S40) : Nat := if o.f0 = 3 ∨ o.f0 = 4 ∨ o.f0 = 5 then 3 else if o.f0 = 1 ∨ o.f0 = 2 ∨ o.f0 = 7 ∨ o.f0 = 8 then 1 else 0
def sz : List S40 → Nat
  | [] => 0
  | o :: l => sz1 o + sz l
theorem sz1_le (o : S40) : sz1 o ≤ 3 := by unfold sz1; repeat' split
                                           all_goals omega
theorem sz_le (l : List S40) : sz l ≤ 3 * l.length := by
  induction l with
  | nil => exact Nat.le_refl _
  | cons o l ih => have := sz1_le o; rw [List.length_cons]; show sz1 o + sz l ≤ _; omega
theorem sz_append (l m : List S40) : sz (l ++ m) = sz l + sz m := by
  induction l with
  | nil => simp [sz]
  | cons o l ih => show sz1 o + sz (l ++ m) = sz1 o + sz l + sz m; omega
theorem sz_take_succ (l : List S40) (i : Nat) (h : i < l.length) : sz (l.take (i + 1)) = sz (l.take i) + sz1 l[i] := by
  rw [List.take_succ_eq_append_getElem h, sz_append]; simp [sz]
theorem test_f (o : S40) : doorwardref21_test.f o.f0 o.f1 o.f2 o.f3 = some (decide (o.f0 = 3 ∨ o.f0 = 4 ∨ o.f0 = 5)) := by
  unfold doorwardref21_test.f
  by_cases h3 : o.f0 = 3
  · simp [h3]
  · by_cases h4 : o.f0 = 4
    · simp [h4]
    · simp [h3, h4]; rfl
theorem refSize_loop (l : List S40) (hl : l.length ≤ 100000) : ∀ n i : Nat, i + n = l.length → ∀ k, n < k → doorwardref21_Size.l0 k (sz (l.take i) : Int) l (l.length : Int) i = some (sz l : Int) := by
  intro n
  induction n with
  | zero =>
    intro i hi k hk
    obtain ⟨k, rfl⟩ : ∃ m, k = m + 1 := ⟨k - 1, by omega⟩
    simp only [doorwardref21_Size.l0]
    rw [if_neg (by omega), List.take_of_length_le (by omega)]
  | succ n ih =>
    intro i hi k hk
    obtain ⟨k, rfl⟩ : ∃ m, k = m + 1 := ⟨k - 1, by omega⟩
    simp only [doorwardref21_Size.l0]
    have hlt : i < l.length := by omega
    have hs := sz_le (l.take i)
    have hs2 : (l.take i).length ≤ 100000 := by rw [List.length_take]; omega
    have next := ih (i + 1) (by omega) k (by omega)
    rw [sz_take_succ l i hlt] at next
    rw [if_pos (by omega), if_pos (by omega), if_pos (by omega), rd40_get l i hlt, test_f]
    simp only [Option.bind_some, decide_eq_true_eq]
    rw [w64 ((i : Int) + 1) (by omega) (by omega), w64 ((sz (l.take i) : Int) + 3) (by omega) (by omega), w64 ((sz (l.take i) : Int) + 1) (by omega) (by omega)]
    unfold sz1 at next
    split
    · rename_i h; rw [if_pos h] at next; exact next
    · rename_i h; rw [if_neg h] at next
      have c1 : ∀ x : Int, (x = 1 ∨ x = 2 ∨ x = 7 ∨ x = 8) → (if x = 1 ∨ x = 2 ∨ x = 7 ∨ x = 8 then 1 else 0) = 1 := fun x hx => if_pos hx
      split
      · rename_i h1; rw [if_pos (Or.inl h1)] at next; exact next
      · rename_i h1
        split
        · rename_i h2; rw [if_pos (Or.inr (Or.inl h2))] at next; exact next
        · rename_i h2
          split
          · rename_i h7; rw [if_pos (Or.inr (Or.inr (Or.inl h7)))] at next; exact next
          · rename_i h7
            split
            · rename_i h8; rw [if_pos (Or.inr (Or.inr (Or.inr h8)))] at next; exact next
            · rename_i h8
              rw [if_neg (by omega)] at next; exact next
theorem refSize_f (l : List S40) (hl : l.length ≤ 100000) (k : Nat) (hk : l.length < k) : doorwardref21_Size.f k l = some (sz l : Int) :=
  refSize_loop l hl l.length 0 (by omega) k hk
theorem size1_f (o : S40) (k : Nat) (hk : 1 ≤ k) : emit_size.f k o.f0 o.f1 o.f2 o.f3 = some (sz1 o : Int) := by
  obtain ⟨k, rfl⟩ : ∃ m, k = m + 1 := ⟨k - 1, by omega⟩
  unfold emit_size.f sz1
  by_cases h3 : o.f0 = 3
  · simp [h3, emit_size.j0]
  · by_cases h4 : o.f0 = 4
    · simp [h4, emit_size.j0]
    · by_cases h5 : o.f0 = 5
      · simp [h5, emit_size.j0]
      · by_cases h1 : o.f0 = 1
        · simp [h1, emit_size.j0]
        · by_cases h2 : o.f0 = 2
          · simp [h2, emit_size.j0]
          · by_cases h7 : o.f0 = 7
            · simp [h7, emit_size.j0]
            · by_cases h8 : o.f0 = 8
              · simp [h8, emit_size.j0]
              · simp [h1, h2, h3, h4, h5, h7, h8, emit_size.j0]
theorem emitSize_loop (l : List S40) (hl : l.length ≤ 100000) : ∀ n i : Nat, i + n = l.length → ∀ k, n + 1 < k → emit_Size.l0 k (sz (l.take i) : Int) l (l.length : Int) i = some (sz l : Int) := by
  intro n
  induction n with
  | zero =>
    intro i hi k hk
    obtain ⟨k, rfl⟩ : ∃ m, k = m + 1 := ⟨k - 1, by omega⟩
    simp only [emit_Size.l0]
    rw [if_neg (by omega), List.take_of_length_le (by omega)]
  | succ n ih =>
    intro i hi k hk
    obtain ⟨k, rfl⟩ : ∃ m, k = m + 1 := ⟨k - 1, by omega⟩
    simp only [emit_Size.l0]
    have hlt : i < l.length := by omega
    have hs := sz_le (l.take i)
    have hs2 : (l.take i).length ≤ 100000 := by rw [List.length_take]; omega
    have hs3 := sz1_le l[i]
    have next := ih (i + 1) (by omega) k (by omega)
    rw [sz_take_succ l i hlt] at next
    rw [if_pos (by omega), if_pos (by omega), if_pos (by omega), rd40_get l i hlt, size1_f _ k (by omega)]
    simp only [Option.bind_some]
    rw [w64 ((i : Int) + 1) (by omega) (by omega), w64 ((sz (l.take i) : Int) + (sz1 l[i] : Int)) (by omega) (by omega)]
    exact next
theorem emitSize_f (l : List S40) (hl : l.length ≤ 100000) (k : Nat) (hk : l.length + 1 < k) : emit_Size.f k l = some (sz l : Int) :=
  emitSize_loop l hl l.length 0 (by omega) k hk
def lab (lb : Int) : List S40 → Option Nat
  | [] => none
  | o :: l => if o.f0 = 6 ∧ o.f2 = lb then some 0 else (lab lb l).map (· + 1)
theorem lab_lt (lb : Int) : ∀ (l : List S40) (j : Nat), lab lb l = some j → j < l.length := by
  intro l
  induction l with
  | nil => intro j h; cases h
  | cons o l ih =>
    intro j h
    unfold lab at h
    split at h
    · cases h; simp
    · obtain ⟨m, hm, rfl⟩ := Option.map_eq_some_iff.1 h
      have := ih m hm
      simp; omega
def behindR (lb : Int) (l : List S40) (i : Nat) : Int := match lab lb (l.drop i) with
  | some j => ((i + j : Nat) : Int)
  | none => -1
theorem behind_loop (l : List S40) (hl : l.length ≤ 100000) (lb : Int) : ∀ n i : Nat, i + n = l.length → ∀ k, n < k → doorwardref21_behind.l0 k l lb i = some (behindR lb l i) := by
  intro n
  induction n with
  | zero =>
    intro i hi k hk
    obtain ⟨k, rfl⟩ : ∃ m, k = m + 1 := ⟨k - 1, by omega⟩
    simp only [doorwardref21_behind.l0]
    unfold behindR
    rw [if_neg (by omega), List.drop_eq_nil_of_le (by omega)]; rfl
  | succ n ih =>
    intro i hi k hk
    obtain ⟨k, rfl⟩ : ∃ m, k = m + 1 := ⟨k - 1, by omega⟩
    simp only [doorwardref21_behind.l0]
    have hlt : i < l.length := by omega
    have next := ih (i + 1) (by omega) k (by omega)
    rw [if_pos (by omega), if_pos (by omega), rd40_get l i hlt, w64 ((i : Int) + 1) (by omega) (by omega)]
    unfold behindR at next ⊢
    rw [List.drop_eq_getElem_cons hlt]
    unfold lab
    by_cases h6 : l[i].f0 = 6
    · by_cases h2 : l[i].f2 = lb
      · rw [if_pos h6, if_pos h2, if_pos ⟨h6, h2⟩]; simp
      · rw [if_pos h6, if_neg h2, if_neg (fun h => h2 h.2)]
        refine next.trans ?_
        cases e : lab lb (l.drop (i + 1)) with
        | none => rfl
        | some j => simp only [Option.map_some]; congr 2; omega
    · rw [if_neg h6, if_neg (fun h => h6 h.1)]
      refine next.trans ?_
      cases e : lab lb (l.drop (i + 1)) with
      | none => rfl
      | some j => simp only [Option.map_some]; congr 2; omega
theorem behind_f (l : List S40) (hl : l.length ≤ 100000) (lb : Int) (i : Nat) (hi : i < l.length) (k : Nat) (hk : l.length < k) : doorwardref21_behind.f k l i lb = some (behindR lb l (i + 1)) := by
  unfold doorwardref21_behind.f
  rw [w64 ((i : Int) + 1) (by omega) (by omega)]
  exact behind_loop l hl lb (l.length - (i + 1)) (i + 1) (by omega) k (by omega)
theorem fold_xs (l : List S40) : (foldR init l).xs.length = sz l := by
  induction l with
  | nil => rfl
  | cons o l ih =>
    show (stepS (foldR init l) o).xs.length = sz1 o + sz l
    unfold stepS sz1
    by_cases h1 : o.f0 = 1
    · simp [h1, WS.put, ih]; omega
    · by_cases h2 : o.f0 = 2
      · simp [h2, WS.put, ih]; omega
      · by_cases h3 : o.f0 = 3 ∨ o.f0 = 4 ∨ o.f0 = 5
        · simp [h1, h2, h3, WS.put, WS.go, ih]; omega
        · by_cases h6 : o.f0 = 6
          · simp [h6, ih]
          · by_cases h7 : o.f0 = 7
            · simp [h7, WS.go, ih]; omega
            · by_cases h8 : o.f0 = 8
              · simp [h8, WS.put, ih]; omega
              · simp [h1, h2, h3, h6, h7, h8, ih]
theorem step_L (s : WS) (o : S40) (lb : Int) : (stepS s o).L lb = if o.f0 = 6 ∧ o.f2 = lb then some (s.xs.length : Int) else s.L lb := by
  unfold stepS
  by_cases h6 : o.f0 = 6
  · rw [if_neg (by omega), if_neg (by omega), if_neg (by omega), if_pos h6]
    by_cases h : lb = o.f2
    · rw [if_pos ⟨h6, h.symm⟩]; simp [h]
    · rw [if_neg (fun x => h x.2.symm)]; simp [h]
  · have e : (if o.f0 = 6 ∧ o.f2 = lb then some (s.xs.length : Int) else s.L lb) = s.L lb := if_neg (fun x => h6 x.1)
    rw [e]
    repeat' split
    all_goals first | rfl | omega
theorem fold_L (l : List S40) (lb : Int) : (foldR init l).L lb = (lab lb l).map fun j => ((sz (l.drop j) : Nat) : Int) := by
  induction l with
  | nil => rfl
  | cons o l ih =>
    show (stepS (foldR init l) o).L lb = _
    rw [step_L]
    unfold lab
    split
    · rename_i h
      have e : sz1 o = 0 := by unfold sz1; rw [if_neg (by omega), if_neg (by omega)]
      simp only [Option.map_some, List.drop_zero]
      rw [fold_xs]; show some ((sz l : Nat) : Int) = some ((sz1 o + sz l : Nat) : Int); rw [e, Nat.zero_add]
    · rw [ih]
      cases lab lb l <;> rfl
def fit1 (o : S40) (t : List S40) : Bool := decide (1 ≤ o.f0 ∧ o.f0 ≤ 8) && (if o.f0 = 3 ∨ o.f0 = 4 ∨ o.f0 = 5 then (lab o.f2 t).isSome && (lab o.f3 t).isSome else if o.f0 = 7 then (lab o.f2 t).isSome else true)
theorem L_isSome (l : List S40) (lb : Int) : ((foldR init l).L lb).isSome = (lab lb l).isSome := by
  rw [fold_L]; cases lab lb l <;> rfl
theorem step_fit (o : S40) (t : List S40) : (foldR init (o :: t)).bad = ((foldR init t).bad || !(fit1 o t)) := by
  show (stepS (foldR init t) o).bad = _
  have h2 := L_isSome t o.f2
  have h3 := L_isSome t o.f3
  generalize foldR init t = s at *
  unfold stepS fit1
  rw [← h2, ← h3]
  by_cases e1 : o.f0 = 1
  · simp [e1, WS.put]
  · by_cases e2 : o.f0 = 2
    · simp [e2, WS.put]
    · by_cases e3 : o.f0 = 3 ∨ o.f0 = 4 ∨ o.f0 = 5
      · have hr : decide (1 ≤ o.f0 ∧ o.f0 ≤ 8) = true := decide_eq_true (by omega)
        rw [if_neg e1, if_neg e2, if_pos e3, hr, if_pos e3]
        show ((s.bad || !(s.L o.f3).isSome) || !(s.L o.f2).isSome) = _
        cases s.bad <;> cases (s.L o.f2).isSome <;> cases (s.L o.f3).isSome <;> rfl
      · by_cases e6 : o.f0 = 6
        · simp [e6]
        · by_cases e7 : o.f0 = 7
          · simp [e7, WS.go]
          · by_cases e8 : o.f0 = 8
            · simp [e8, WS.put]
            · have hr : decide (1 ≤ o.f0 ∧ o.f0 ≤ 8) = false := decide_eq_false (by omega)
              rw [if_neg e1, if_neg e2, if_neg e3, if_neg e6, if_neg e7, if_neg e8, hr]
              simp
theorem behind_neg (l : List S40) (lb : Int) (i : Nat) : decide (behindR lb l i < 0) = !(lab lb (l.drop i)).isSome := by
  unfold behindR
  cases lab lb (l.drop i) with
  | none => rfl
  | some j => simp only [Option.isSome_some, Bool.not_true]; exact decide_eq_false (by omega)
theorem fits_loop (l : List S40) (hl : l.length ≤ 100000) : ∀ n i : Nat, i + n = l.length → ∀ k, l.length + 3 * n + 3 < k → doorwardref21_fits.l0 k l l (l.length : Int) i = some (!(foldR init (l.drop i)).bad) := by
  intro n
  induction n with
  | zero =>
    intro i hi k hk
    obtain ⟨k, rfl⟩ : ∃ m, k = m + 1 := ⟨k - 1, by omega⟩
    simp only [doorwardref21_fits.l0]
    rw [if_neg (by omega), List.drop_eq_nil_of_le (by omega)]; rfl
  | succ n ih =>
    intro i hi k hk
    obtain ⟨k, rfl⟩ : ∃ m, k = m + 1 + 1 + 1 := ⟨k - 3, by omega⟩
    have hlt : i < l.length := by omega
    have next := ih (i + 1) (by omega) k (by omega)
    have b2 := fun lb kk (h : l.length < kk) => behind_f l hl lb i hlt kk h
    have hN := behind_neg l
    rw [List.drop_eq_getElem_cons hlt, step_fit]
    have hw : wrap64 ((i : Int) + 1) = ((i + 1 : Nat) : Int) := by rw [w64 _ (by omega) (by omega)]; rfl
    have hrd := rd40_get l i hlt
    generalize l[i] = o at *
    have tf := test_f o
    -- the last part
    have J2 : ∀ b : Bool, doorwardref21_fits.j2 (k + 1) l (i : Int) l (l.length : Int) (i : Int) b o.f0 o.f1 o.f2 o.f3 = some (!b && ((if o.f0 = 3 ∨ o.f0 = 4 ∨ o.f0 = 5 then (lab o.f3 (l.drop (i + 1))).isSome else true) && !(foldR init (l.drop (i + 1))).bad)) := by
      intro b
      simp only [doorwardref21_fits.j2]
      cases b
      · rw [if_neg (by decide), tf, b2 o.f3 k (by omega), hw]
        simp only [Option.bind_some, decide_eq_true_eq]
        split
        · have := hN o.f3 (i + 1)
          cases e : (lab o.f3 (l.drop (i + 1))).isSome
          · rw [e] at this
            rw [if_pos (of_decide_eq_true this)]; rfl
          · rw [e] at this
            rw [if_neg (of_decide_eq_false this), next]; rfl
        · rw [next]; rfl
      · rw [if_pos rfl]; rfl
    have J1 : ∀ b : Bool, b = !decide (1 ≤ o.f0 ∧ o.f0 ≤ 8) → doorwardref21_fits.j1 (k + 1 + 1) l (i : Int) l (l.length : Int) (i : Int) b o.f0 o.f1 o.f2 o.f3 = some (!((foldR init (l.drop (i + 1))).bad || !(fit1 o (l.drop (i + 1))))) := by
      intro b hb
      simp only [doorwardref21_fits.j1]
      unfold fit1
      cases b
      · have hr : decide (1 ≤ o.f0 ∧ o.f0 ≤ 8) = true := by cases h : decide (1 ≤ o.f0 ∧ o.f0 ≤ 8) <;> rw [h] at hb <;> simp at hb ⊢
        rw [if_neg (by decide), tf, b2 o.f2 (k + 1) (by omega), hr]
        simp only [Option.bind_some, decide_eq_true_eq, hN, J2]
        by_cases h3 : o.f0 = 3 ∨ o.f0 = 4 ∨ o.f0 = 5
        · simp only [if_pos h3]
          cases (lab o.f2 (l.drop (i + 1))).isSome <;> cases (lab o.f3 (l.drop (i + 1))).isSome <;> cases (foldR init (l.drop (i + 1))).bad <;> rfl
        · simp only [if_neg h3]
          by_cases h7 : o.f0 = 7
          · simp only [if_pos h7]
            cases (lab o.f2 (l.drop (i + 1))).isSome <;> cases (foldR init (l.drop (i + 1))).bad <;> rfl
          · simp only [if_neg h7]
            cases (foldR init (l.drop (i + 1))).bad <;> rfl
      · have hr : decide (1 ≤ o.f0 ∧ o.f0 ≤ 8) = false := by cases h : decide (1 ≤ o.f0 ∧ o.f0 ≤ 8) <;> rw [h] at hb <;> simp at hb ⊢
        rw [if_pos rfl, hr]
        simp
    simp only [doorwardref21_fits.l0]
    rw [if_pos (by omega), if_pos (by omega), if_pos (by omega), hrd]
    split
    · rename_i h1
      exact J1 true (by rw [decide_eq_false (by omega)]; rfl)
    · rename_i h1
      refine J1 _ ?_
      by_cases h8 : o.f0 > 8
      · rw [decide_eq_true h8, decide_eq_false (by omega)]; rfl
      · rw [decide_eq_false h8, decide_eq_true (by omega)]; rfl
theorem fits_f (l : List S40) (hl : l.length ≤ 100000) (k : Nat) (hk : 4 * l.length + 3 < k) : doorwardref21_fits.f k l = some (!(foldR init l).bad) := by
  have := fits_loop l hl l.length 0 (by omega) k (by omega)
  rw [List.drop_zero] at this
  exact this
theorem ja_f (l : List S40) (hl : l.length ≤ 100000) (i : Nat) (hi : i < l.length) (lb : Int) (d : Nat) (hd : d ≤ 2) (hsz : sz1 l[i] = 1 ∧ d = 0 ∨ sz1 l[i] = 3 ∧ 1 ≤ d) (hlab : (lab lb (l.drop (i + 1))).isSome = true) (k : Nat) (hk : l.length < k) (xs : List S28)
    (hxs : 1 ≤ d → xs.length = sz (l.drop (i + 1)) + (2 - d)) (hx0 : d = 0 → xs.length = sz (l.drop (i + 1))) :
    doorwardref21_ja.f k l i ((sz (l.take i) : Int) + d) lb = some (5, 0, 0, (goI xs (foldR init (l.drop (i + 1))).L lb).f3) := by
  obtain ⟨j, hj⟩ := Option.isSome_iff_exists.1 hlab
  have hjl := lab_lt lb _ j hj
  rw [List.length_drop] at hjl
  unfold doorwardref21_ja.f
  rw [behind_f l hl lb i hi k hk]
  have hb : behindR lb l (i + 1) = ((i + 1 + j : Nat) : Int) := by unfold behindR; rw [hj]
  rw [hb]
  simp only [Option.bind_some]
  have hz := sz_le (l.take (i + 1 + j))
  have hz2 : (l.take (i + 1 + j)).length ≤ l.length := List.length_take_le' ..
  have hz3 := sz_le (l.take i)
  have hz4 : (l.take i).length ≤ l.length := List.length_take_le' ..
  have hz5 := sz_le (l.drop (i + 1))
  have hz6 : (l.drop (i + 1)).length ≤ l.length := by rw [List.length_drop]; omega
  rw [if_pos (by omega), if_pos (by omega), Int.toNat_natCast, refSize_f _ (by omega) k (by omega)]
  simp only [Option.bind_some]
  have e1 : l.take (i + 1 + j) = l.take (i + 1) ++ (l.drop (i + 1)).take j := by rw [List.take_add]
  have e2 : sz (l.take (i + 1 + j)) = sz (l.take i) + sz1 l[i] + sz ((l.drop (i + 1)).take j) := by rw [e1, sz_append, sz_take_succ l i hi]
  have e3 : sz (l.drop (i + 1)) = sz ((l.drop (i + 1)).take j) + sz ((l.drop (i + 1)).drop j) := by rw [← sz_append, List.take_append_drop]
  have hL : (foldR init (l.drop (i + 1))).L lb = some ((sz ((l.drop (i + 1)).drop j) : Nat) : Int) := by rw [fold_L, hj]; rfl
  unfold goI
  rw [hL]
  simp only [Option.getD_some]
  have g1 : wrap64 ((sz (l.take (i + 1 + j)) : Int) - ((sz (l.take i) : Int) + d)) = (sz (l.take (i + 1 + j)) : Int) - ((sz (l.take i) : Int) + d) := w64 _ (by omega) (by omega)
  rw [g1]
  have g2 : (sz (l.take (i + 1 + j)) : Int) - ((sz (l.take i) : Int) + d) - 1 = (xs.length : Int) - ((sz ((l.drop (i + 1)).drop j) : Nat) : Int) := by
    rcases hsz with ⟨h1, rfl⟩ | ⟨h1, h2⟩
    · rw [hx0 rfl, e2, h1, e3]; omega
    · rw [hxs h2, e2, h1, e3]; omega
  rw [g2]
theorem wlen1 (n m : Nat) (h : n = m) (hn : n ≤ 300000) : wrap64 ((n : Int) + 1) = (m : Int) + ((1 : Nat) : Int) := by
  subst h; rw [w64 _ (by omega) (by omega)]; rfl
theorem wlen2 (n m : Nat) (h : n = m) (hn : n ≤ 300000) : wrap64 ((n : Int) + 2) = (m : Int) + ((2 : Nat) : Int) := by
  subst h; rw [w64 _ (by omega) (by omega)]; rfl
set_option maxHeartbeats 1000000 in
theorem asm_loop (l : List S40) (hl : l.length ≤ 100000) (hb : (foldR init l).bad = false) : ∀ n i : Nat, i + n = l.length → ∀ k, l.length + n + 2 < k → ∀ out : List S28, out.length = sz (l.take i) → doorwardref21_Assemble.l0 k l out l (l.length : Int) i = some (out ++ (foldR init (l.drop i)).xs.reverse, 0) := by
  have bads : ∀ i, i ≤ l.length → (foldR init (l.drop i)).bad = false := by
    intro i hi
    cases e : (foldR init (l.drop i)).bad
    · rfl
    · have h := foldR_append init (l.take i) (l.drop i)
      rw [List.take_append_drop] at h
      rw [h, fold_bad _ _ e] at hb; cases hb
  intro n
  induction n with
  | zero =>
    intro i hi k hk out ho
    obtain ⟨k, rfl⟩ : ∃ m, k = m + 1 := ⟨k - 1, by omega⟩
    simp only [doorwardref21_Assemble.l0]
    rw [if_neg (by omega), List.drop_eq_nil_of_le (by omega)]
    show _ = some (out ++ [], 0)
    rw [List.append_nil]
  | succ n ih =>
    intro i hi k hk out ho
    obtain ⟨k, rfl⟩ : ∃ m, k = m + 1 := ⟨k - 1, by omega⟩
    have hlt : i < l.length := by omega
    have hbad := bads i (by omega)
    rw [List.drop_eq_getElem_cons hlt, step_fit] at hbad
    have next := ih (i + 1) (by omega) k (by omega)
    have hts := sz_take_succ l i hlt
    have hw : wrap64 ((i : Int) + 1) = ((i + 1 : Nat) : Int) := by rw [w64 _ (by omega) (by omega)]; rfl
    have hrd := rd40_get l i hlt
    have hz3 := sz_le (l.take i)
    have hz4 : (l.take i).length ≤ l.length := List.length_take_le' ..
    have hlen : out.length ≤ 300000 := by omega
    have hja := ja_f l hl i hlt
    have hxl := fold_xs (l.drop (i + 1))
    simp only [doorwardref21_Assemble.l0]
    rw [if_pos (by omega), if_pos (by omega), if_pos (by omega), hrd, hw, List.drop_eq_getElem_cons hlt]
    have hfit : fit1 l[i] (l.drop (i + 1)) = true := by
      cases h : fit1 l[i] (l.drop (i + 1))
      · rw [h] at hbad; simp at hbad
      · rfl
    show _ = some (out ++ (stepS (foldR init (l.drop (i + 1))) l[i]).xs.reverse, 0)
    generalize l[i] = o at *
    generalize foldR init (l.drop (i + 1)) = s at *
    -- one instruction more
    have one : ∀ x : S28, sz1 o = 1 → (if out.length < 4398046511104 then doorwardref21_Assemble.l0 k l (out ++ [x]) l (l.length : Int) ((i + 1 : Nat) : Int) else none) = some (out ++ (s.xs ++ [x]).reverse, 0) := by
      intro x h1
      rw [if_pos (by omega), next (out ++ [x]) (by rw [List.length_append, hts, h1, ho]; rfl)]
      simp
    have three : ∀ a b c : S28, sz1 o = 3 → (if out.length + [a, b, c].length < 4398046511104 then doorwardref21_Assemble.l0 k l (out ++ [a, b, c]) l (l.length : Int) ((i + 1 : Nat) : Int) else none) = some (out ++ (((s.xs ++ [c]) ++ [b]) ++ [a]).reverse, 0) := by
      intro a b c h3
      have e3 : [a, b, c].length = 3 := rfl
      rw [if_pos (show out.length + [a, b, c].length < 4398046511104 by rw [e3]; omega), next (out ++ [a, b, c]) (by rw [List.length_append, hts, h3, ho, e3])]
      simp
    have same : sz1 o = 0 → doorwardref21_Assemble.l0 k l out l (l.length : Int) ((i + 1 : Nat) : Int) = some (out ++ s.xs.reverse, 0) := fun h0 => next out (by rw [hts, ho, h0]; rfl)
    clear next
    unfold stepS
    by_cases e1 : o.f0 = 1
    · rw [if_pos e1, if_pos e1]
      exact one _ (by unfold sz1; rw [if_neg (by omega), if_pos (Or.inl e1)])
    · rw [if_neg e1, if_neg e1]
      by_cases e2 : o.f0 = 2
      · rw [if_pos e2, if_pos e2]
        exact one _ (by unfold sz1; rw [if_neg (by omega), if_pos (Or.inr (Or.inl e2))])
      · rw [if_neg e2, if_neg e2]
        by_cases e345 : o.f0 = 3 ∨ o.f0 = 4 ∨ o.f0 = 5
        · have h3 : sz1 o = 3 := by unfold sz1; rw [if_pos e345]
          unfold fit1 at hfit
          rw [if_pos e345, Bool.and_eq_true, Bool.and_eq_true] at hfit
          obtain ⟨_, hf2, hf3⟩ := hfit
          have w1 := wlen1 out.length _ ho hlen
          have w2 := wlen2 out.length _ ho hlen
          have j2 := hja o.f2 1 (by omega) (Or.inr ⟨h3, by omega⟩) hf2 k (by omega) (s.xs ++ [goI s.xs s.L o.f3]) (fun _ => by rw [List.length_append, hxl]; simp) (fun h => absurd h (by decide))
          have j3 := hja o.f3 2 (by omega) (Or.inr ⟨h3, by omega⟩) hf3 k (by omega) s.xs (fun _ => by rw [hxl]; simp) (fun h => absurd h (by decide))
          have fin : ∀ c : Int, codeB o.f0 = c → (if out.length + [(⟨c, 0, 1, o.f1⟩ : S28), goI (s.xs ++ [goI s.xs s.L o.f3]) s.L o.f2, goI s.xs s.L o.f3].length < 4398046511104 then doorwardref21_Assemble.l0 k l (out ++ [(⟨c, 0, 1, o.f1⟩ : S28), goI (s.xs ++ [goI s.xs s.L o.f3]) s.L o.f2, goI s.xs s.L o.f3]) l (l.length : Int) ((i + 1 : Nat) : Int) else none) = some (out ++ (((s.go o.f3).go o.f2).put ⟨codeB o.f0, 0, 1, o.f1⟩).xs.reverse, 0) := by
            rintro c rfl
            exact three _ _ _ h3
          rw [if_pos e345, w1, w2, j2, j3]
          simp only [Option.bind_some]
          by_cases e3 : o.f0 = 3
          · rw [if_pos e3]; exact fin 21 (by unfold codeB; rw [if_pos e3])
          · rw [if_neg e3]
            by_cases e4 : o.f0 = 4
            · rw [if_pos e4]; exact fin 37 (by unfold codeB; rw [if_neg e3, if_pos e4])
            · rw [if_neg e4, if_pos (by omega)]
              exact fin 53 (by unfold codeB; rw [if_neg e3, if_neg e4])
        · rw [if_neg e345, if_neg (by omega), if_neg (by omega), if_neg (by omega)]
          by_cases e6 : o.f0 = 6
          · rw [if_pos e6, if_neg (by omega), if_neg (by omega)]
            exact same (by unfold sz1; rw [if_neg e345, if_neg (by omega)])
          · rw [if_neg e6]
            by_cases e7 : o.f0 = 7
            · have h1 : sz1 o = 1 := by unfold sz1; rw [if_neg e345, if_pos (Or.inr (Or.inr (Or.inl e7)))]
              unfold fit1 at hfit
              rw [if_neg e345, if_pos e7, Bool.and_eq_true] at hfit
              have j7 := hja o.f2 0 (by omega) (Or.inl ⟨h1, rfl⟩) hfit.2 k (by omega)
              have w0 : (out.length : Int) = (sz (l.take i) : Int) + (0 : Nat) := by omega
              rw [if_pos e7, if_pos e7, w0, j7 s.xs (fun h => absurd h (by decide)) (fun _ => hxl)]
              simp only [Option.bind_some]
              exact one (goI s.xs s.L o.f2) h1
            · rw [if_neg e7, if_neg e7]
              by_cases e8 : o.f0 = 8
              · rw [if_pos e8, if_pos e8]
                exact one _ (by unfold sz1; rw [if_neg e345, if_pos (Or.inr (Or.inr (Or.inr e8)))])
              · exfalso
                unfold fit1 at hfit
                rw [Bool.and_eq_true] at hfit
                have := of_decide_eq_true hfit.1
                omega
theorem refAsm_f (l : List S40) (hl : l.length ≤ 100000) (k : Nat) (hk : 4 * l.length + 3 < k) : doorwardref21_Assemble.f k l = some (asmR l) := by
  unfold doorwardref21_Assemble.f asmR
  rw [fits_f l hl k hk, fold_xs]
  simp only [Option.bind_some]
  cases hb : (foldR init l).bad
  · rw [refSize_f l hl k (by omega)]
    simp only [Option.bind_some, Bool.not_false, if_true]
    by_cases h : 4096 < sz l
    · rw [if_pos (show ((sz l : Nat) : Int) > 4096 by omega)]
      simp [h]
    · rw [if_neg (show ¬ ((sz l : Nat) : Int) > 4096 by omega)]
      have := asm_loop l hl hb l.length 0 (by omega) k (by omega) [] rfl
      rw [List.drop_zero, List.nil_append] at this
      simp only [h, if_false]
      exact this
  · simp
end Go.Proofs.Ytefkhcijgiagdaa.QRef21
end
section
namespace Go.Proofs.Ytefkhcijgiagdaa.Pure
open Go.RowKit Go.Proofs.Ytefkhcijgiagdaa.StatEmitMakes Go.Proofs.YtefkhcijgiagdaaW.PrintWords Go.Proofs.YtefkhcijgiagdaaW.PrintMore Go.Proofs.Ytefkhcijgiagdaa.PEmitMakes Go.Proofs.Ytefkhcijgiagdaa.QLe Go.Proofs.Ytefkhcijgiagdaa.QNum Go.Proofs.Ytefkhcijgiagdaa.QEmit Go.Proofs.Ytefkhcijgiagdaa.QRef21 Go.Proofs.Ytefkhcijgiagdaa.HAsm Go.Proofs.Ytefkhcijgiagdaa.E1 Go.Proofs.Ytefkhcijgiagdaa.E2 Go.Proofs.Ytefkhcijgiagdaa.I1
theorem few_f (l : List S40) : ∃ a : List S40, doorwardlaw21_few.f l = some a ∧ a.length ≤ 4100 ∧ ∀ x ∈ a, x ∈ l := by
  unfold doorwardlaw21_few.f
  have e1 : mn (l.length : Int) 4100 = ((min l.length 4100 : Nat) : Int) := by unfold mn; split <;> omega
  rw [e1, if_pos (show (0 : Int) ≤ ((min l.length 4100 : Nat) : Int) by omega), if_pos (show ((min l.length 4100 : Nat) : Int) ≤ (l.length : Int) by omega)]
  have B : ∃ a : List S40, some (l.take (((min l.length 4100 : Nat) : Int)).toNat) = some a ∧ a.length ≤ 4100 ∧ ∀ x ∈ a, x ∈ l :=
    ⟨_, rfl, by rw [List.length_take]; omega, fun x hx => List.mem_of_mem_take hx⟩
  split
  · split
    · rw [if_pos (by omega)]
      exact ⟨_, rfl, by rw [List.length_take]; omega, fun x hx => List.mem_of_mem_take hx⟩
    · exact B
  · exact B
theorem asm_len (l : List S40) : (asmR l).1.length ≤ sz l ∧ ((asmR l).2 = 0 → (asmR l).1.length = sz l) := by
  unfold asmR
  rw [fold_xs]
  split
  · simp
  · split
    · simp
    · simp [fold_xs]
theorem last (l : List S40) (hl : l.length ≤ 5000) (k : Nat) (hk : 30000 ≤ k) :
    ((doorwardref21_Assemble.f k l).bind fun bt119 => ((doorwardref10_Like.f k (asmR l).1 bt119.1).bind fun t123 => (if t123 = true then (if (asmR l).2 = bt119.2 then (if (asmR l).2 = 0 then ((emit_Size.f k l).bind fun t124 => (some (((asmR l).1.length : Int) == t124))) else (some true)) else (some false)) else (some false)))) = some true := by
  have h1 := asm_len l
  have h2 := sz_le l
  rw [refAsm_f l (by omega) k (by omega)]
  simp only [Option.bind_some]
  rw [like_self _ (by omega) k (by omega), emitSize_f l (by omega) k (by omega)]
  simp only [Option.bind_some, if_true]
  split
  · rename_i h
    rw [h1.2 h]; simp
  · rfl
theorem makes_loop (l : List S40) (hl : l.length ≤ 5000) (out : List S28) (e : Int) (he : (out, e) = asmR l) : ∀ n i : Nat, i + n = l.length → ∀ k, 30000 + n < k → doorwardlaw21_EmitMakes.l0 k l out e l (l.length : Int) i = some true := by
  obtain ⟨rfl, rfl⟩ := Prod.mk.inj he
  intro n
  induction n with
  | zero =>
    intro i hi k hk
    obtain ⟨k, rfl⟩ : ∃ m, k = m + 1 := ⟨k - 1, by omega⟩
    simp only [doorwardlaw21_EmitMakes.l0]
    rw [if_neg (by omega)]
    exact last l hl k (by omega)
  | succ n ih =>
    intro i hi k hk
    obtain ⟨k, rfl⟩ : ∃ m, k = m + 1 := ⟨k - 1, by omega⟩
    simp only [doorwardlaw21_EmitMakes.l0]
    rw [if_pos (by omega), if_pos (by omega), if_pos (by omega), w64 ((i : Int) + 1) (by omega) (by omega)]
    split
    · exact ih (i + 1) (by omega) k (by omega)
    · rfl
theorem EmitMakes : StatEmitMakes.Stat := by
  intro l _ _ hq
  obtain ⟨a, ha, hl, hm⟩ := few_f l
  obtain ⟨K, hK⟩ : ∃ K : Nat, 50000 ≤ K := ⟨50000, Nat.le_refl _⟩
  refine ⟨K + 1, ?_⟩
  unfold doorwardlaw21_EmitMakes.f
  rw [ha]
  simp only [Option.bind_some]
  rw [emit_f a (by omega) (fun o ho => by
    obtain ⟨_, _, h2, h3⟩ := hq o (hm o ho)
    exact ⟨decide_eq_true (wf_i64 h2), decide_eq_true (wf_i64 h3)⟩), emitSize_f a (by omega) (K + 1) (by omega), refSize_f a (by omega) (K + 1) (by omega), alive_ok]
  simp only [Option.bind_some, if_true, Bool.not_true]
  simp only [doorwardlaw21_EmitMakes.j0]
  rw [if_neg (by decide)]
  split
  · exact makes_loop a (by omega) _ _ rfl a.length 0 (by omega) K (by omega)
  · exact last a (by omega) K (by omega)
end Go.Proofs.Ytefkhcijgiagdaa.Pure
end
section
namespace Go.Proofs.Ytefkhcijgiagdaa.emitMakes
open Go.ChangeShapes Go.WideShapes Go.ChangeAt Go.RowKit Go.Proofs.Ytefkhcijgiagdaa.Open Go.Proofs.Ytefkhcijgiagdaa.StatEmitMakes Go.Proofs.YtefkhcijgiagdaaW.PrintWords Go.Proofs.Ytefkhcijgiagdaa.PEmitMakes Go.Proofs.Ytefkhcijgiagdaa.Le Go.Proofs.Ytefkhcijgiagdaa.HKnown Go.Proofs.Ytefkhcijgiagdaa.I1 Go.Proofs.Ytefkhcijgiagdaa.E1 Go.Proofs.Ytefkhcijgiagdaa.HAsm Go.Proofs.Ytefkhcijgiagdaa.E2
open Go.ChangeMaps (open_string shut_string)
set_option linter.unusedVariables false
open Go.Proofs.Ytefkhcijgiagdaa.Order (own laidOut)
open Go.Proofs.Ytefkhcijgiagdaa
set_option maxRecDepth 100000 in
set_option maxHeartbeats 1000000 in
theorem lifted (os : Os) (started : os.Started) (H : Type) (enc : TypeId × Value → H) :
    ReturnsInHanded {} Try.checked os 11 .any (Rows.emitMakesSpec.pre6 enc Try.prog Try.f11 Rows.emitMakesRow.domain false) (Rows.emitMakesSpec.post enc Try.prog Try.f11 false true false false) := by
  refine returnsInHanded_of_change_sized (C := Try.checked) own started (by kernel_rfl) Try.func11
    (ChangeSpec.witness6 (enc := enc) (C := Try.checked) false ⟨#[], #[.slice none 0 0], []⟩ 20 (by kernel_rfl) (by kernel_rfl) (by kernel_rfl) (by kernel_rfl)) ?_
  intro W base args ds gs before hval0 hW hcnd hsz0 _
  have hsz : (DataW.weightsEach Try.prog (Try.f11.params.toList ++ Rows.emitMakesSpec.plain.varTypes Try.prog) (ds ++ gs)).all (· ≤ reachBytes) = true := hsz0
  have hval : ∀ (j : Nat) t v, Try.f11.params[j]? = some t → args[j]? = some v → Value.okWide Try.prog W .any base t v := hval0
  have hW' := hW
  obtain ⟨p, q, hA0, hV, rfl, hfz, hnd⟩ := hW
  have hA : DataW.TrodAll enc Try.prog W 0 (fun _ => true) true Try.f11.params.toList args.toList ds p := hA0
  rw [Try.params11] at hA hval hsz
  obtain ⟨v0, vs0, d0, ds0, p0, q0, hargs, rfl, rfl, h0, r0⟩ := trodAll_cons hA
  obtain ⟨rfl, rfl, rfl⟩ := trodAll_nil r0
  obtain rfl : args = #[v0] := by cases args; simp_all
  obtain ⟨rfl, rfl⟩ := trodVars_none hV
  have k0_ := h0
  have lt0 : ∀ x ∈ p0, x.block < W.heap.size := by obtain ⟨m, hm⟩ := k0_; exact DataW.trod_lt m _ _ _ hm
  obtain ⟨A0, c0, x0, rfl, hc0, hr0, hm0, hq0⟩ := slice_of Try.underlying33 (by kernel_rfl) (hval 0 33 v0 rfl rfl) opens40 h0
  have y0 : x0.length * 32 ≤ 140737488351232 := slice_sized hsz (j := 0) (t := 33) rfl rfl Try.underlying33 (by kernel_rfl) h0
  clear hA0 hval0 hsz0 hsz
  obtain ⟨k, hk⟩ := Pure.EmitMakes x0 hm0 y0 hq0
  refine (doorwardlaw21_EmitMakes.calls (k := k) (hr0 := hr0) (hc0 := hc0) (r := true) (w := W) (h := hk)).mono ?_
  rintro e W' ⟨rfl, bel0⟩
  have bel := bel0
  exact ⟨_, rfl, _, _, _, [], _, [], hW', trodAll_mk1 (shut_bool Try.underlying4 _), (trodAll_cons_mk (Below.trod laidOut (by kernel_rfl) (of_decide_eq_true (by kernel_rfl)) k0_ bel lt0) trodAll_mk0), rfl, bel.frame _, fun h => by cases h⟩
set_option maxHeartbeats 4000000 in
theorem facts : joinedFacts Try.prog 11 Try.f11 Rows.emitMakesSpec Rows.emitMakesRow = true := by
  unfold joinedFacts
  repeat' (with_reducible refine (Bool.and_eq_true_iff).mpr ⟨?_, ?_⟩)
  all_goals first | (with_reducible exact Order.laidOut) | (with_reducible exact Order.mapsRowed) | (with_reducible exact Order.noStops) | (with_reducible exact Order.noKnobs) | (with_reducible exact Order.enter) | (with_reducible exact Order.heard) | (rw [Order.makes]; rfl) | (rw [Order.lifts]; rfl) | (as_aux_lemma => kernel_rfl)
theorem named : Try.prog.funcNamed "doorward/doorwardlaw21.EmitMakes" = some 11 := by kernel_rfl
theorem inst : Try.f11.isInstance Try.prog Rows.emitMakesRow.origin Rows.emitMakesRow.targs := of_decide_eq_true (by kernel_rfl)
theorem wrap : Try.f11.isWrapper Try.prog Rows.emitMakesRow.wrapper Rows.emitMakesRow.mainSum := by unfold Func.isWrapper; first | (rw [if_pos (by decide +kernel)]; kernel_rfl) | (rw [if_neg (by decide +kernel)]; exact ⟨rfl, rfl⟩)
theorem over : Rows.emitMakesRow.holds Try.pinned (OpenSpec.ofChange Rows.emitMakesSpec) :=
  OpenClaim.holds_of_wide 11 Try.f11 rfl rfl rfl rfl rfl rfl rfl ⟨rfl, rfl, rfl, rfl, rfl⟩ rfl rfl rfl rfl rfl named Try.func11 facts inst wrap
    (fun os started H enc _ => lifted os started H enc)
theorem proved : Rows.EmitMakesSaid := over
#print axioms proved
end Go.Proofs.Ytefkhcijgiagdaa.emitMakes
namespace Go.Proofs.Ytefkhcijgiagdaa
/-- The row, under a short name, for the claim. -/
theorem emitMakes_holds : Rows.EmitMakesSaid := emitMakes.proved
end Go.Proofs.Ytefkhcijgiagdaa
end
