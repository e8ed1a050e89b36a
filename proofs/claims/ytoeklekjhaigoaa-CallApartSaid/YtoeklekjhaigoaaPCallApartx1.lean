-- Written by a program of this session (wip/tools/unit.py) with the kit's print.
import Derived.Test.YtoeklekjhaigoaaPCallApartx0
namespace Go.Proofs.Ytoeklekjhaigoaa.PCallApart
open Go.RowKit Go.Proofs.YtoeklekjhaigoaaW.PrintWords Go.Proofs.YtoeklekjhaigoaaW.PrintLast Go.Proofs.YtoeklekjhaigoaaW.PrintMore
attribute [local go_sem] max2_int min2_int max_two min_two max_three min_three max_four min_four IntKind.wrap_u32 IntKind.wrap_u8   -- for this text's walks alone
set_option linter.unusedVariables false
open Go.Proofs.Ytoeklekjhaigoaa.Le Go.Proofs.Ytoeklekjhaigoaa.C1 Go.Proofs.Ytoeklekjhaigoaa.C2
set_option linter.unusedSimpArgs false

/-! ### doorwardlaw13_CallApart: function 3 -/
mutual
def doorwardlaw13_CallApart.l0 : Nat → ByteArray → ByteArray → Int → Int → List Int → Int → Int → Option (Bool)
  | 0, _, _, _, _, _, _, _ => none
  | k + 1, x0, x1, x2, x3, x19, x20, x21 => if x21 < x20 then (if 0 ≤ x21 then (if x21 < (x19.length : Int) then ((call_Nr.f k (rd x19 x21) x0).bind fun bt106 => ((call_Nr.f k (rd x19 x21) x1).bind fun bt108 => (if bt106.2 = true then (if bt108.2 = true then (doorwardlaw13_CallApart.j1 k x0 x1 x2 x3 (rd x19 x21) x19 x20 x21 ((bt106.1 == bt108.1) != (x0.toList == x1.toList))) else (doorwardlaw13_CallApart.j1 k x0 x1 x2 x3 (rd x19 x21) x19 x20 x21 false)) else (doorwardlaw13_CallApart.j1 k x0 x1 x2 x3 (rd x19 x21) x19 x20 x21 false)))) else (none)) else (none)) else ((doorwardlaw13_alive.f k).bind fun t104 => (some t104))
def doorwardlaw13_CallApart.j1 : Nat → ByteArray → ByteArray → Int → Int → Int → List Int → Int → Int → Bool → Option (Bool)
  | 0, _, _, _, _, _, _, _, _, _ => none
  | k + 1, x0, x1, x2, x3, x10, x19, x20, x21, x49 => if x49 = true then (some false) else ((call_Name.f k x10 x2).bind fun bt110 => ((call_Name.f k x10 x3).bind fun bt112 => (if bt110.2 = true then (if bt112.2 = true then (if ((bt110.1.toList == bt112.1.toList) != (x2 == x3)) = true then (some false) else (doorwardlaw13_CallApart.l0 k x0 x1 x2 x3 x19 x20 (wrap64 (x21 + 1)))) else (doorwardlaw13_CallApart.l0 k x0 x1 x2 x3 x19 x20 (wrap64 (x21 + 1)))) else (doorwardlaw13_CallApart.l0 k x0 x1 x2 x3 x19 x20 (wrap64 (x21 + 1))))))
end
def doorwardlaw13_CallApart.f (k : Nat) (a0 : ByteArray) (a1 : ByteArray) (a2 : Int) (a3 : Int) : Option (Bool) := (some (([3221225534, 3221225655] : List Int) : List Int)).bind fun y101 => (doorwardlaw13_CallApart.l0 k a0 a1 a2 a3 y101 (y101.length : Int) 0)
theorem doorwardlaw13_CallApart.mono_l : ∀ k, (∀ y0 y1 y2 y3 y4 y5 y6, LeO (doorwardlaw13_CallApart.l0 k y0 y1 y2 y3 y4 y5 y6) (doorwardlaw13_CallApart.l0 (k + 1) y0 y1 y2 y3 y4 y5 y6)) ∧ (∀ y0 y1 y2 y3 y4 y5 y6 y7 y8, LeO (doorwardlaw13_CallApart.j1 k y0 y1 y2 y3 y4 y5 y6 y7 y8) (doorwardlaw13_CallApart.j1 (k + 1) y0 y1 y2 y3 y4 y5 y6 y7 y8))
  | 0 => ⟨fun _ _ _ _ _ _ _ r h => by simp [doorwardlaw13_CallApart.l0] at h, fun _ _ _ _ _ _ _ _ _ r h => by simp [doorwardlaw13_CallApart.j1] at h⟩
  | k + 1 => by
    obtain ⟨ih0, ih1⟩ := doorwardlaw13_CallApart.mono_l k
    refine ⟨?_, ?_⟩
    · intro y0 y1 y2 y3 y4 y5 y6
      unfold doorwardlaw13_CallApart.l0
      repeat' first
      | (with_reducible exact ih0 _ _ _ _ _ _ _)
      | (with_reducible exact ih1 _ _ _ _ _ _ _ _ _)
      | (with_reducible exact call_Name.mono _ _ _)
      | (with_reducible exact call_Nr.mono _ _ _)
      | (with_reducible exact doorwardlaw13_alive.mono _)
      | (with_reducible exact LeO.refl _)
      | (with_reducible exact LeO.none _)
      | (with_reducible refine LeO.ite ?_ ?_)
      | (with_reducible refine LeO.bind ?_ (fun _ => ?_))
      | exact ih0 _ _ _ _ _ _ _
      | exact ih1 _ _ _ _ _ _ _ _ _
      | exact call_Name.mono _ _ _
      | exact call_Nr.mono _ _ _
      | exact doorwardlaw13_alive.mono _
      | exact LeO.none _
      | refine LeO.ite ?_ ?_
      | refine LeO.bind ?_ (fun _ => ?_)
    · intro y0 y1 y2 y3 y4 y5 y6 y7 y8
      unfold doorwardlaw13_CallApart.j1
      repeat' first
      | (with_reducible exact ih0 _ _ _ _ _ _ _)
      | (with_reducible exact ih1 _ _ _ _ _ _ _ _ _)
      | (with_reducible exact call_Name.mono _ _ _)
      | (with_reducible exact call_Nr.mono _ _ _)
      | (with_reducible exact doorwardlaw13_alive.mono _)
      | (with_reducible exact LeO.refl _)
      | (with_reducible exact LeO.none _)
      | (with_reducible refine LeO.ite ?_ ?_)
      | (with_reducible refine LeO.bind ?_ (fun _ => ?_))
      | exact ih0 _ _ _ _ _ _ _
      | exact ih1 _ _ _ _ _ _ _ _ _
      | exact call_Name.mono _ _ _
      | exact call_Nr.mono _ _ _
      | exact doorwardlaw13_alive.mono _
      | exact LeO.none _
      | refine LeO.ite ?_ ?_
      | refine LeO.bind ?_ (fun _ => ?_)
theorem doorwardlaw13_CallApart.mono : ∀ a0 a1 a2 a3 k, LeO (doorwardlaw13_CallApart.f k a0 a1 a2 a3) (doorwardlaw13_CallApart.f (k + 1) a0 a1 a2 a3) := by
  intro a0 a1 a2 a3 k
  obtain ⟨ih0, ih1⟩ := doorwardlaw13_CallApart.mono_l k
  unfold doorwardlaw13_CallApart.f
  repeat' first
      | (with_reducible exact ih0 _ _ _ _ _ _ _)
      | (with_reducible exact ih1 _ _ _ _ _ _ _ _ _)
      | (with_reducible exact call_Name.mono _ _ _)
      | (with_reducible exact call_Nr.mono _ _ _)
      | (with_reducible exact doorwardlaw13_alive.mono _)
      | (with_reducible exact LeO.refl _)
      | (with_reducible exact LeO.none _)
      | (with_reducible refine LeO.ite ?_ ?_)
      | (with_reducible refine LeO.bind ?_ (fun _ => ?_))
      | exact ih0 _ _ _ _ _ _ _
      | exact ih1 _ _ _ _ _ _ _ _ _
      | exact call_Name.mono _ _ _
      | exact call_Nr.mono _ _ _
      | exact doorwardlaw13_alive.mono _
      | exact LeO.none _
      | refine LeO.ite ?_ ?_
      | refine LeO.bind ?_ (fun _ => ?_)
set_option maxHeartbeats 8000000 in
set_option maxRecDepth 100000 in
theorem doorwardlaw13_CallApart.calls (k : Nat) (a0 : ByteArray) (a1 : ByteArray) (a2 : Int) (a3 : Int) (r : Bool) (w : World) (h : doorwardlaw13_CallApart.f k a0 a1 a2 a3 = some r) :
    Calls Try.prog 3 #[.string a0, .string a1, .int .u32 a2, .int .u32 a3] w fun e w' => e = .returned (.bool r) ∧ Below w.heap.size w w' := by
  have HB := Aside0.mk (Below.refl w.heap.size w)
  have H : ((some (([3221225534, 3221225655] : List Int) : List Int)).bind fun y101 => (doorwardlaw13_CallApart.l0 k a0 a1 a2 a3 y101 (y101.length : Int) 0)) = some r := h
  clear h
  obtain ⟨y101, hy101⟩ : ∃ y_ : List Int, y_ = (([3221225534, 3221225655] : List Int)) := ⟨_, rfl⟩
  replace H : (doorwardlaw13_CallApart.l0 k a0 a1 a2 a3 y101 (y101.length : Int) 0) = some r := by first | (rw [hy101]; with_reducible exact H) | (have H2_ := (Option.bind_some _ _).symm.trans H; rw [hy101]; with_reducible exact H2_) | (have H2_ := (Option.bind_some _ _).symm.trans H; with_reducible exact H2_) | with_reducible exact H | (rw [hy101]; exact H) | exact H
  have Ny101 := Aside0.mk hy101
  clear hy101
  have H' := Aside0.mk H
  clear H
  go_enter Try.func3, Try.ntmps3
  go_wp2_with (first | ((with_reducible refine gate_dst (N := 19) rfl ?_); refine Kd.R_lit (Kd.int .u32) _ 22 ?hg (N := 19) ?hd (xs := ([3221225534, 3221225655] : List Int)) (inner := [.int .u32 3221225534, .int .u32 3221225655]) (ok := fun _ => True) (okp := fun _ => True) ?hr ?hp (fun _ hk => hk) trivial (Below.refl _ _) (Nat.le_refl _) (by simp) ?_; (case hd => rfl); (case hg => rfl); (case hr => first | (go_simp; done) | (go_simp; rfl)); (case hp => exact (Reps.one (show Kd.M (Kd.int .u32) _ _ _ 3221225534 [.int .u32 3221225534] from rfl) (Reps.one (show Kd.M (Kd.int .u32) _ _ _ 3221225655 [.int .u32 3221225655] from rfl) (Reps.none _ _)))); intro v102 w5 ho6 hb hg_ hnew_; clear hg_ hnew_; (first | rw [← Ny101.out] at ho6 | (simp only [Int.reduceToNat] at ho6; rw [← Ny101.out] at ho6)); have n0_ := Aside0.mk (Kd.R_lower ho6 (below_size (by repeat (first | (with_reducible first | exact HB.out | apply below_alloc | apply pw_below_drewN | apply below_drew1) | exact HB.out)))); have n1_ := Aside0.mk (below_step (by repeat (first | (with_reducible first | exact HB.out | apply below_alloc | apply pw_below_drewN | apply below_drew1) | exact HB.out)) hb); clear HB; have HO103 := n0_; have HB := n1_; clear n0_ n1_; clear hb ho6; obtain ⟨Ao7, co7, eo7⟩ := Kd.R_slice HO103.out; subst eo7))
  go_loopg [21] k (fun kq v21 w' => ∃ (x21_1 : Int), v21 = .int .i64 x21_1 ∧ Aside0 (doorwardlaw13_CallApart.l0 kq a0 a1 a2 a3 y101 (y101.length : Int) x21_1 = some r) ∧ Aside0 (kq ≤ k) ∧ Aside0 (Kd.R (Kd.int .u32) 22 w' w.heap.size (fun _ => True) (.slice Ao7 y101.length co7) y101) ∧ Aside0 (Below w.heap.size w w'))
  case atStart => exact ⟨(0), (by first | rfl | (simp; done) | (simp [*]; done)), H', ⟨Nat.le_refl _⟩, ⟨by (with_reducible repeat (first | apply Kd.R_alloc | apply Kd.R_drewN | apply Kd.R_drew)); exact HO103.out⟩, ⟨by repeat (first | (with_reducible first | exact HB.out | apply below_alloc | apply pw_below_drewN | apply below_drew1) | exact HB.out)⟩⟩
  case round =>
    clear H'
    try clear p2
    try clear c3
    obtain ⟨x21_1, rfl, HA, HK1, HO_19, HB⟩ := hrel
    cases gk with
    | zero => exact absurd HA.out (by simp [doorwardlaw13_CallApart.l0])
    | succ k1 =>
      have H := HA.out
      clear HA
      simp only [doorwardlaw13_CallApart.l0] at H
      by_cases c8 : x21_1 < (y101.length : Int)
      · rw [if_pos c8] at H
        have c8b0 : decide (x21_1 < (y101.length : Int)) = true := decide_eq_true c8
        clear c8
        by_cases c9 : 0 ≤ x21_1
        · rw [if_pos c9] at H
          have c9b0 : decide (0 ≤ x21_1) = true := decide_eq_true c9
          clear c9
          by_cases c10 : x21_1 < (y101.length : Int)
          · rw [if_pos c10] at H
            have c10b0 : decide (x21_1 < (y101.length : Int)) = true := decide_eq_true c10
            clear c10
            replace H := Option.bind_eq_some_iff.mp H
            obtain ⟨⟨t106, t107⟩, A110, H⟩ := H
            replace H : ((call_Nr.f k1 (rd y101 x21_1) a1).bind fun bt108 => (if t107 = true then (if bt108.2 = true then (doorwardlaw13_CallApart.j1 k1 a0 a1 a2 a3 (rd y101 x21_1) y101 (y101.length : Int) x21_1 ((t106 == bt108.1) != (a0.toList == a1.toList))) else (doorwardlaw13_CallApart.j1 k1 a0 a1 a2 a3 (rd y101 x21_1) y101 (y101.length : Int) x21_1 false)) else (doorwardlaw13_CallApart.j1 k1 a0 a1 a2 a3 (rd y101 x21_1) y101 (y101.length : Int) x21_1 false))) = some r := H
            have A11 := Aside0.mk A110
            clear A110
            replace H := Option.bind_eq_some_iff.mp H
            obtain ⟨⟨t108, t109⟩, A120, H⟩ := H
            replace H : (if t107 = true then (if t109 = true then (doorwardlaw13_CallApart.j1 k1 a0 a1 a2 a3 (rd y101 x21_1) y101 (y101.length : Int) x21_1 ((t106 == t108) != (a0.toList == a1.toList))) else (doorwardlaw13_CallApart.j1 k1 a0 a1 a2 a3 (rd y101 x21_1) y101 (y101.length : Int) x21_1 false)) else (doorwardlaw13_CallApart.j1 k1 a0 a1 a2 a3 (rd y101 x21_1) y101 (y101.length : Int) x21_1 false)) = some r := H
            have A12 := Aside0.mk A120
            clear A120
            have HC13 := Aside0.mk H
            clear H
            have p105 : 0 ≤ (x21_1 : Int) := of_decide_eq_true (by first | (with_reducible assumption) | assumption)
            have q105 : x21_1 < (y101.length : Int) := of_decide_eq_true (by first | (with_reducible assumption) | assumption)
            obtain ⟨ad105, e105, hx105_0⟩ := Kd.at_int (Kd.R_reads' HO_19.out).2.2 x21_1 p105 q105
            cases e105
            replace p105 := eq_true p105
            replace q105 := eq_true q105
            go_upto_region 6 with (first | ((with_reducible refine gate_callee (f := 30) rfl ?_); refine goesL_ (some 28) rfl rfl Try.func30 (by kernel_rfl) rfl #[.int .u32 (rd y101 x21_1), .string a0] rfl (by (try simp only [List.map_toArray, List.map_cons, List.map_nil]); first | done | rfl | (simp only [List.length_drop, List.length_take]; rfl)) ?_; (with_reducible refine (call_Nr.calls k1 (rd y101 x21_1) a0 t106 t107 _ A11.out).mono ?_); rintro e w14 ⟨rfl, hb⟩; refine ⟨_, rfl, ?_⟩; have n0_ := Aside0.mk (Kd.R_below (by (with_reducible repeat (first | apply Kd.R_alloc | apply Kd.R_drewN | apply Kd.R_drew)); exact HO_19.out) hb); have n1_ := Aside0.mk (below_step (by repeat (first | (with_reducible first | exact HB.out | apply below_alloc | apply pw_below_drewN | apply below_drew1) | exact HB.out)) hb); clear HO_19; clear HB; have HO_19 := n0_; have HB := n1_; clear n0_ n1_; (try clear hb); (try clear hb2); (try clear hk); (try clear hi)) | ((with_reducible refine gate_callee (f := 30) rfl ?_); refine goesL_ (some 34) rfl rfl Try.func30 (by kernel_rfl) rfl #[.int .u32 (rd y101 x21_1), .string a1] rfl (by (try simp only [List.map_toArray, List.map_cons, List.map_nil]); first | done | rfl | (simp only [List.length_drop, List.length_take]; rfl)) ?_; (with_reducible refine (call_Nr.calls k1 (rd y101 x21_1) a1 t108 t109 _ A12.out).mono ?_); rintro e w15 ⟨rfl, hb⟩; refine ⟨_, rfl, ?_⟩; have n0_ := Aside0.mk (Kd.R_below (by (with_reducible repeat (first | apply Kd.R_alloc | apply Kd.R_drewN | apply Kd.R_drew)); exact HO_19.out) hb); have n1_ := Aside0.mk (below_step (by repeat (first | (with_reducible first | exact HB.out | apply below_alloc | apply pw_below_drewN | apply below_drew1) | exact HB.out)) hb); clear HO_19; clear HB; have HO_19 := n0_; have HB := n1_; clear n0_ n1_; (try clear hb); (try clear hb2); (try clear hk); (try clear hi)))
            (try simp only [Act.put, List.setIfInBounds_toArray, List.set_cons_zero, List.set_cons_succ])
            go_cut [49] (fun v49 wc => ∃ (kq : Nat) (x49_12 : Bool), v49 = .bool x49_12 ∧ Aside0 (doorwardlaw13_CallApart.j1 kq a0 a1 a2 a3 (rd y101 x21_1) y101 (y101.length : Int) x21_1 x49_12 = some r) ∧ Aside0 (kq ≤ k1) ∧ Aside0 (Kd.R (Kd.int .u32) 22 wc w.heap.size (fun _ => True) (.slice (some ad105) y101.length co7) y101) ∧ Aside0 (Below w.heap.size w wc))
            case first =>
              have H := HC13.out
              clear HC13
              by_cases c16 : t107 = true
              · subst c16
                have H1 : (if t109 = true then (doorwardlaw13_CallApart.j1 k1 a0 a1 a2 a3 (rd y101 x21_1) y101 (y101.length : Int) x21_1 ((t106 == t108) != (a0.toList == a1.toList))) else (doorwardlaw13_CallApart.j1 k1 a0 a1 a2 a3 (rd y101 x21_1) y101 (y101.length : Int) x21_1 false)) = some r := by rw [if_pos rfl] at H; exact H
                clear H
                have H := H1
                clear H1
                by_cases c17 : t109 = true
                · subst c17
                  have H1 : (doorwardlaw13_CallApart.j1 k1 a0 a1 a2 a3 (rd y101 x21_1) y101 (y101.length : Int) x21_1 ((t106 == t108) != (a0.toList == a1.toList))) = some r := by rw [if_pos rfl] at H; exact H
                  clear H
                  have H := H1
                  clear H1
                  have H' := Aside0.mk H
                  clear H
                  go_wp2
                  go_meet
                  case rel => exact ⟨_, (((t106 == t108) != (a0.toList == a1.toList))), (by first | rfl | (simp; done) | (simp [*]; done)), H', ⟨by have := HK1.out; first | omega | exact Nat.le_refl _⟩, ⟨by (with_reducible repeat (first | apply Kd.R_alloc | apply Kd.R_drewN | apply Kd.R_drew)); exact HO_19.out⟩, ⟨by repeat (first | (with_reducible first | exact HB.out | apply below_alloc | apply pw_below_drewN | apply below_drew1) | exact HB.out)⟩⟩
                · replace c17 := Bool.eq_false_iff.mpr c17
                  subst c17
                  have H1 : (doorwardlaw13_CallApart.j1 k1 a0 a1 a2 a3 (rd y101 x21_1) y101 (y101.length : Int) x21_1 false) = some r := by rw [if_neg (show ¬ (false = true) by decide)] at H; exact H
                  clear H
                  have H := H1
                  clear H1
                  have H' := Aside0.mk H
                  clear H
                  go_wp2
                  go_meet
                  case rel => exact ⟨_, (false), (by first | rfl | (simp; done) | (simp [*]; done)), H', ⟨by have := HK1.out; first | omega | exact Nat.le_refl _⟩, ⟨by (with_reducible repeat (first | apply Kd.R_alloc | apply Kd.R_drewN | apply Kd.R_drew)); exact HO_19.out⟩, ⟨by repeat (first | (with_reducible first | exact HB.out | apply below_alloc | apply pw_below_drewN | apply below_drew1) | exact HB.out)⟩⟩
              · replace c16 := Bool.eq_false_iff.mpr c16
                subst c16
                have H1 : (doorwardlaw13_CallApart.j1 k1 a0 a1 a2 a3 (rd y101 x21_1) y101 (y101.length : Int) x21_1 false) = some r := by rw [if_neg (show ¬ (false = true) by decide)] at H; exact H
                clear H
                have H := H1
                clear H1
                have H' := Aside0.mk H
                clear H
                go_wp2
                go_meet
                case rel => exact ⟨_, (false), (by first | rfl | (simp; done) | (simp [*]; done)), H', ⟨by have := HK1.out; first | omega | exact Nat.le_refl _⟩, ⟨by (with_reducible repeat (first | apply Kd.R_alloc | apply Kd.R_drewN | apply Kd.R_drew)); exact HO_19.out⟩, ⟨by repeat (first | (with_reducible first | exact HB.out | apply below_alloc | apply pw_below_drewN | apply below_drew1) | exact HB.out)⟩⟩
            case rest =>
              clear HC13
              try clear c1
              try clear p1
              try clear q1
              try clear hx1
              try clear p2
              try clear c3
              try clear c8
              try clear c8b0
              try clear c9
              try clear c9b0
              try clear c10
              try clear c10b0
              try clear p10
              try clear q10
              try clear hx10
              try clear c16
              try clear c17
              try clear hx105_0
              try clear p105
              try clear p2
              try clear q105
              obtain ⟨kq, x49_12, rfl, HA, HJ12, HO_19, HB⟩ := hcut
              cases kq with
              | zero => exact absurd HA.out (by simp [doorwardlaw13_CallApart.j1])
              | succ kj12 =>
                have H := HA.out
                clear HA
                simp only [doorwardlaw13_CallApart.j1] at H
                by_cases c18 : x49_12 = true
                · subst c18
                  have H1 : (some false) = some r := by rw [if_pos rfl] at H; exact H
                  clear H
                  have H := H1
                  clear H1
                  obtain rfl := Option.some.inj H
                  go_wp2
                  go_ret
                  exact ⟨by first | rfl | (simp [errW_none, errW_some] <;> rfl) | (simp [*, errW_none, errW_some] <;> rfl), by repeat (first | (with_reducible first | exact HB.out | apply below_alloc | apply pw_below_drewN | apply below_drew1) | exact HB.out)⟩
                · replace c18 := Bool.eq_false_iff.mpr c18
                  subst c18
                  have H1 : ((call_Name.f kj12 (rd y101 x21_1) a2).bind fun bt110 => ((call_Name.f kj12 (rd y101 x21_1) a3).bind fun bt112 => (if bt110.2 = true then (if bt112.2 = true then (if ((bt110.1.toList == bt112.1.toList) != (a2 == a3)) = true then (some false) else (doorwardlaw13_CallApart.l0 kj12 a0 a1 a2 a3 y101 (y101.length : Int) (wrap64 (x21_1 + 1)))) else (doorwardlaw13_CallApart.l0 kj12 a0 a1 a2 a3 y101 (y101.length : Int) (wrap64 (x21_1 + 1)))) else (doorwardlaw13_CallApart.l0 kj12 a0 a1 a2 a3 y101 (y101.length : Int) (wrap64 (x21_1 + 1)))))) = some r := by rw [if_neg (show ¬ (false = true) by decide)] at H; exact H
                  clear H
                  have H := H1
                  clear H1
                  replace H := Option.bind_eq_some_iff.mp H
                  obtain ⟨⟨t110, t111⟩, A190, H⟩ := H
                  replace H : ((call_Name.f kj12 (rd y101 x21_1) a3).bind fun bt112 => (if t111 = true then (if bt112.2 = true then (if ((t110.toList == bt112.1.toList) != (a2 == a3)) = true then (some false) else (doorwardlaw13_CallApart.l0 kj12 a0 a1 a2 a3 y101 (y101.length : Int) (wrap64 (x21_1 + 1)))) else (doorwardlaw13_CallApart.l0 kj12 a0 a1 a2 a3 y101 (y101.length : Int) (wrap64 (x21_1 + 1)))) else (doorwardlaw13_CallApart.l0 kj12 a0 a1 a2 a3 y101 (y101.length : Int) (wrap64 (x21_1 + 1))))) = some r := H
                  have A19 := Aside0.mk A190
                  clear A190
                  replace H := Option.bind_eq_some_iff.mp H
                  obtain ⟨⟨t112, t113⟩, A200, H⟩ := H
                  replace H : (if t111 = true then (if t113 = true then (if ((t110.toList == t112.toList) != (a2 == a3)) = true then (some false) else (doorwardlaw13_CallApart.l0 kj12 a0 a1 a2 a3 y101 (y101.length : Int) (wrap64 (x21_1 + 1)))) else (doorwardlaw13_CallApart.l0 kj12 a0 a1 a2 a3 y101 (y101.length : Int) (wrap64 (x21_1 + 1)))) else (doorwardlaw13_CallApart.l0 kj12 a0 a1 a2 a3 y101 (y101.length : Int) (wrap64 (x21_1 + 1)))) = some r := H
                  have A20 := Aside0.mk A200
                  clear A200
                  by_cases c21 : t111 = true
                  · subst c21
                    have H1 : (if t113 = true then (if ((t110.toList == t112.toList) != (a2 == a3)) = true then (some false) else (doorwardlaw13_CallApart.l0 kj12 a0 a1 a2 a3 y101 (y101.length : Int) (wrap64 (x21_1 + 1)))) else (doorwardlaw13_CallApart.l0 kj12 a0 a1 a2 a3 y101 (y101.length : Int) (wrap64 (x21_1 + 1)))) = some r := by rw [if_pos rfl] at H; exact H
                    clear H
                    have H := H1
                    clear H1
                    by_cases c22 : t113 = true
                    · subst c22
                      have H1 : (if ((t110.toList == t112.toList) != (a2 == a3)) = true then (some false) else (doorwardlaw13_CallApart.l0 kj12 a0 a1 a2 a3 y101 (y101.length : Int) (wrap64 (x21_1 + 1)))) = some r := by rw [if_pos rfl] at H; exact H
                      clear H
                      have H := H1
                      clear H1
                      by_cases c23 : ((t110.toList == t112.toList) != (a2 == a3)) = true
                      · rw [if_pos c23] at H
                        have c23b0 : ((t110.toList == t112.toList) != (a2 == a3)) = true := c23
                        (try (have c23b1 : decide ((t110.toList == t112.toList) = (a2 == a3)) = false := by simpa using c23))
                        (try (have c23b2 : ((t110.toList == t112.toList) == (a2 == a3)) = false := by simpa using c23))
                        (try (have c23b3 : ¬ ((t110.toList == t112.toList) = (a2 == a3)) := by simpa using c23))
                        clear c23
                        obtain rfl := Option.some.inj H
                        go_wp2_with (first | ((with_reducible refine gate_callee (f := 31) rfl ?_); refine goesL_ (some 53) rfl rfl Try.func31 (by kernel_rfl) rfl #[.int .u32 (rd y101 x21_1), .int .u32 a2] rfl (by (try simp only [List.map_toArray, List.map_cons, List.map_nil]); first | done | rfl | (simp only [List.length_drop, List.length_take]; rfl)) ?_; (with_reducible refine (call_Name.calls kj12 (rd y101 x21_1) a2 t110 true _ A19.out).mono ?_); rintro e w24 ⟨rfl, hb⟩; refine ⟨_, rfl, ?_⟩; have n0_ := Aside0.mk (Kd.R_below (by (with_reducible repeat (first | apply Kd.R_alloc | apply Kd.R_drewN | apply Kd.R_drew)); exact HO_19.out) hb); have n1_ := Aside0.mk (below_step (by repeat (first | (with_reducible first | exact HB.out | apply below_alloc | apply pw_below_drewN | apply below_drew1) | exact HB.out)) hb); clear HO_19; clear HB; have HO_19 := n0_; have HB := n1_; clear n0_ n1_; (try clear hb); (try clear hb2); (try clear hk); (try clear hi)) | ((with_reducible refine gate_callee (f := 31) rfl ?_); refine goesL_ (some 59) rfl rfl Try.func31 (by kernel_rfl) rfl #[.int .u32 (rd y101 x21_1), .int .u32 a3] rfl (by (try simp only [List.map_toArray, List.map_cons, List.map_nil]); first | done | rfl | (simp only [List.length_drop, List.length_take]; rfl)) ?_; (with_reducible refine (call_Name.calls kj12 (rd y101 x21_1) a3 t112 true _ A20.out).mono ?_); rintro e w25 ⟨rfl, hb⟩; refine ⟨_, rfl, ?_⟩; have n0_ := Aside0.mk (Kd.R_below (by (with_reducible repeat (first | apply Kd.R_alloc | apply Kd.R_drewN | apply Kd.R_drew)); exact HO_19.out) hb); have n1_ := Aside0.mk (below_step (by repeat (first | (with_reducible first | exact HB.out | apply below_alloc | apply pw_below_drewN | apply below_drew1) | exact HB.out)) hb); clear HO_19; clear HB; have HO_19 := n0_; have HB := n1_; clear n0_ n1_; (try clear hb); (try clear hb2); (try clear hk); (try clear hi)))
                        go_ret
                        exact ⟨by first | rfl | (simp [errW_none, errW_some] <;> rfl) | (simp [*, errW_none, errW_some] <;> rfl), by repeat (first | (with_reducible first | exact HB.out | apply below_alloc | apply pw_below_drewN | apply below_drew1) | exact HB.out)⟩
                      · rw [if_neg c23] at H
                        have c23b0 : ((t110.toList == t112.toList) != (a2 == a3)) = false := by simpa using c23
                        (try (have c23b1 : decide ((t110.toList == t112.toList) = (a2 == a3)) = true := by simpa using c23))
                        (try (have c23b2 : ((t110.toList == t112.toList) == (a2 == a3)) = true := by simpa using c23))
                        clear c23
                        have H' := Aside0.mk H
                        clear H
                        go_wp2_with (first | ((with_reducible refine gate_callee (f := 31) rfl ?_); refine goesL_ (some 53) rfl rfl Try.func31 (by kernel_rfl) rfl #[.int .u32 (rd y101 x21_1), .int .u32 a2] rfl (by (try simp only [List.map_toArray, List.map_cons, List.map_nil]); first | done | rfl | (simp only [List.length_drop, List.length_take]; rfl)) ?_; (with_reducible refine (call_Name.calls kj12 (rd y101 x21_1) a2 t110 true _ A19.out).mono ?_); rintro e w26 ⟨rfl, hb⟩; refine ⟨_, rfl, ?_⟩; have n0_ := Aside0.mk (Kd.R_below (by (with_reducible repeat (first | apply Kd.R_alloc | apply Kd.R_drewN | apply Kd.R_drew)); exact HO_19.out) hb); have n1_ := Aside0.mk (below_step (by repeat (first | (with_reducible first | exact HB.out | apply below_alloc | apply pw_below_drewN | apply below_drew1) | exact HB.out)) hb); clear HO_19; clear HB; have HO_19 := n0_; have HB := n1_; clear n0_ n1_; (try clear hb); (try clear hb2); (try clear hk); (try clear hi)) | ((with_reducible refine gate_callee (f := 31) rfl ?_); refine goesL_ (some 59) rfl rfl Try.func31 (by kernel_rfl) rfl #[.int .u32 (rd y101 x21_1), .int .u32 a3] rfl (by (try simp only [List.map_toArray, List.map_cons, List.map_nil]); first | done | rfl | (simp only [List.length_drop, List.length_take]; rfl)) ?_; (with_reducible refine (call_Name.calls kj12 (rd y101 x21_1) a3 t112 true _ A20.out).mono ?_); rintro e w27 ⟨rfl, hb⟩; refine ⟨_, rfl, ?_⟩; have n0_ := Aside0.mk (Kd.R_below (by (with_reducible repeat (first | apply Kd.R_alloc | apply Kd.R_drewN | apply Kd.R_drew)); exact HO_19.out) hb); have n1_ := Aside0.mk (below_step (by repeat (first | (with_reducible first | exact HB.out | apply below_alloc | apply pw_below_drewN | apply below_drew1) | exact HB.out)) hb); clear HO_19; clear HB; have HO_19 := n0_; have HB := n1_; clear n0_ n1_; (try clear hb); (try clear hb2); (try clear hk); (try clear hi)))
                        go_roundg kj12
                        case measure => have := HK1.out; have := HJ12.out; omega
                        case rel => exact ⟨(wrap64 (x21_1 + 1)), (by first | rfl | (simp; done) | (simp [*]; done)), H', ⟨by have := HK1.out; have := HJ12.out; omega⟩, ⟨by (with_reducible repeat (first | apply Kd.R_alloc | apply Kd.R_drewN | apply Kd.R_drew)); exact HO_19.out⟩, ⟨by repeat (first | (with_reducible first | exact HB.out | apply below_alloc | apply pw_below_drewN | apply below_drew1) | exact HB.out)⟩⟩
                    · replace c22 := Bool.eq_false_iff.mpr c22
                      subst c22
                      have H1 : (doorwardlaw13_CallApart.l0 kj12 a0 a1 a2 a3 y101 (y101.length : Int) (wrap64 (x21_1 + 1))) = some r := by rw [if_neg (show ¬ (false = true) by decide)] at H; exact H
                      clear H
                      have H := H1
                      clear H1
                      have H' := Aside0.mk H
                      clear H
                      go_wp2_with (first | ((with_reducible refine gate_callee (f := 31) rfl ?_); refine goesL_ (some 53) rfl rfl Try.func31 (by kernel_rfl) rfl #[.int .u32 (rd y101 x21_1), .int .u32 a2] rfl (by (try simp only [List.map_toArray, List.map_cons, List.map_nil]); first | done | rfl | (simp only [List.length_drop, List.length_take]; rfl)) ?_; (with_reducible refine (call_Name.calls kj12 (rd y101 x21_1) a2 t110 true _ A19.out).mono ?_); rintro e w28 ⟨rfl, hb⟩; refine ⟨_, rfl, ?_⟩; have n0_ := Aside0.mk (Kd.R_below (by (with_reducible repeat (first | apply Kd.R_alloc | apply Kd.R_drewN | apply Kd.R_drew)); exact HO_19.out) hb); have n1_ := Aside0.mk (below_step (by repeat (first | (with_reducible first | exact HB.out | apply below_alloc | apply pw_below_drewN | apply below_drew1) | exact HB.out)) hb); clear HO_19; clear HB; have HO_19 := n0_; have HB := n1_; clear n0_ n1_; (try clear hb); (try clear hb2); (try clear hk); (try clear hi)) | ((with_reducible refine gate_callee (f := 31) rfl ?_); refine goesL_ (some 59) rfl rfl Try.func31 (by kernel_rfl) rfl #[.int .u32 (rd y101 x21_1), .int .u32 a3] rfl (by (try simp only [List.map_toArray, List.map_cons, List.map_nil]); first | done | rfl | (simp only [List.length_drop, List.length_take]; rfl)) ?_; (with_reducible refine (call_Name.calls kj12 (rd y101 x21_1) a3 t112 false _ A20.out).mono ?_); rintro e w29 ⟨rfl, hb⟩; refine ⟨_, rfl, ?_⟩; have n0_ := Aside0.mk (Kd.R_below (by (with_reducible repeat (first | apply Kd.R_alloc | apply Kd.R_drewN | apply Kd.R_drew)); exact HO_19.out) hb); have n1_ := Aside0.mk (below_step (by repeat (first | (with_reducible first | exact HB.out | apply below_alloc | apply pw_below_drewN | apply below_drew1) | exact HB.out)) hb); clear HO_19; clear HB; have HO_19 := n0_; have HB := n1_; clear n0_ n1_; (try clear hb); (try clear hb2); (try clear hk); (try clear hi)))
                      go_roundg kj12
                      case measure => have := HK1.out; have := HJ12.out; omega
                      case rel => exact ⟨(wrap64 (x21_1 + 1)), (by first | rfl | (simp; done) | (simp [*]; done)), H', ⟨by have := HK1.out; have := HJ12.out; omega⟩, ⟨by (with_reducible repeat (first | apply Kd.R_alloc | apply Kd.R_drewN | apply Kd.R_drew)); exact HO_19.out⟩, ⟨by repeat (first | (with_reducible first | exact HB.out | apply below_alloc | apply pw_below_drewN | apply below_drew1) | exact HB.out)⟩⟩
                  · replace c21 := Bool.eq_false_iff.mpr c21
                    subst c21
                    have H1 : (doorwardlaw13_CallApart.l0 kj12 a0 a1 a2 a3 y101 (y101.length : Int) (wrap64 (x21_1 + 1))) = some r := by rw [if_neg (show ¬ (false = true) by decide)] at H; exact H
                    clear H
                    have H := H1
                    clear H1
                    have H' := Aside0.mk H
                    clear H
                    go_wp2_with (first | ((with_reducible refine gate_callee (f := 31) rfl ?_); refine goesL_ (some 53) rfl rfl Try.func31 (by kernel_rfl) rfl #[.int .u32 (rd y101 x21_1), .int .u32 a2] rfl (by (try simp only [List.map_toArray, List.map_cons, List.map_nil]); first | done | rfl | (simp only [List.length_drop, List.length_take]; rfl)) ?_; (with_reducible refine (call_Name.calls kj12 (rd y101 x21_1) a2 t110 false _ A19.out).mono ?_); rintro e w30 ⟨rfl, hb⟩; refine ⟨_, rfl, ?_⟩; have n0_ := Aside0.mk (Kd.R_below (by (with_reducible repeat (first | apply Kd.R_alloc | apply Kd.R_drewN | apply Kd.R_drew)); exact HO_19.out) hb); have n1_ := Aside0.mk (below_step (by repeat (first | (with_reducible first | exact HB.out | apply below_alloc | apply pw_below_drewN | apply below_drew1) | exact HB.out)) hb); clear HO_19; clear HB; have HO_19 := n0_; have HB := n1_; clear n0_ n1_; (try clear hb); (try clear hb2); (try clear hk); (try clear hi)) | ((with_reducible refine gate_callee (f := 31) rfl ?_); refine goesL_ (some 59) rfl rfl Try.func31 (by kernel_rfl) rfl #[.int .u32 (rd y101 x21_1), .int .u32 a3] rfl (by (try simp only [List.map_toArray, List.map_cons, List.map_nil]); first | done | rfl | (simp only [List.length_drop, List.length_take]; rfl)) ?_; (with_reducible refine (call_Name.calls kj12 (rd y101 x21_1) a3 t112 t113 _ A20.out).mono ?_); rintro e w31 ⟨rfl, hb⟩; refine ⟨_, rfl, ?_⟩; have n0_ := Aside0.mk (Kd.R_below (by (with_reducible repeat (first | apply Kd.R_alloc | apply Kd.R_drewN | apply Kd.R_drew)); exact HO_19.out) hb); have n1_ := Aside0.mk (below_step (by repeat (first | (with_reducible first | exact HB.out | apply below_alloc | apply pw_below_drewN | apply below_drew1) | exact HB.out)) hb); clear HO_19; clear HB; have HO_19 := n0_; have HB := n1_; clear n0_ n1_; (try clear hb); (try clear hb2); (try clear hk); (try clear hi)))
                    go_roundg kj12
                    case measure => have := HK1.out; have := HJ12.out; omega
                    case rel => exact ⟨(wrap64 (x21_1 + 1)), (by first | rfl | (simp; done) | (simp [*]; done)), H', ⟨by have := HK1.out; have := HJ12.out; omega⟩, ⟨by (with_reducible repeat (first | apply Kd.R_alloc | apply Kd.R_drewN | apply Kd.R_drew)); exact HO_19.out⟩, ⟨by repeat (first | (with_reducible first | exact HB.out | apply below_alloc | apply pw_below_drewN | apply below_drew1) | exact HB.out)⟩⟩
          · rw [if_neg c10] at H
            exact absurd H (by simp)
        · rw [if_neg c9] at H
          exact absurd H (by simp)
      · rw [if_neg c8] at H
        have c8b0 : decide (x21_1 < (y101.length : Int)) = false := decide_eq_false c8
        clear c8
        replace H := Option.bind_eq_some_iff.mp H
        obtain ⟨t104, A320, H⟩ := H
        replace H : (some t104) = some r := H
        have A32 := Aside0.mk A320
        clear A320
        obtain rfl := Option.some.inj H
        go_wp2_with (first | ((with_reducible refine gate_callee (f := 32) rfl ?_); refine goesL_ (some 76) rfl rfl Try.func32 (by kernel_rfl) rfl #[] rfl (by (try simp only [List.map_toArray, List.map_cons, List.map_nil]); first | done | rfl | (simp only [List.length_drop, List.length_take]; rfl)) ?_; (with_reducible refine (doorwardlaw13_alive.calls k1  t104 _ A32.out).mono ?_); rintro e w33 ⟨rfl, hb⟩; refine ⟨_, rfl, ?_⟩; have n0_ := Aside0.mk (Kd.R_below (by (with_reducible repeat (first | apply Kd.R_alloc | apply Kd.R_drewN | apply Kd.R_drew)); exact HO_19.out) hb); have n1_ := Aside0.mk (below_step (by repeat (first | (with_reducible first | exact HB.out | apply below_alloc | apply pw_below_drewN | apply below_drew1) | exact HB.out)) hb); clear HO_19; clear HB; have HO_19 := n0_; have HB := n1_; clear n0_ n1_; (try clear hb); (try clear hb2); (try clear hk); (try clear hi)))
        go_ret
        exact ⟨by first | rfl | (simp [errW_none, errW_some] <;> rfl) | (simp [*, errW_none, errW_some] <;> rfl), by repeat (first | (with_reducible first | exact HB.out | apply below_alloc | apply pw_below_drewN | apply below_drew1) | exact HB.out)⟩

end Go.Proofs.Ytoeklekjhaigoaa.PCallApart
