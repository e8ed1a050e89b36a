/- VmRuns: what any filter returns of any record, in how many steps, or that it goes wrong, is as the document says. -/
import Derived.Test.YtefkhcijgiagdaaZVmRuns1
section
namespace Go.Proofs.Ytefkhcijgiagdaa.HMr
open Go.RowKit Go.Proofs.YtefkhcijgiagdaaW.PrintWords Go.Proofs.YtefkhcijgiagdaaW.PrintLast Go.Proofs.YtefkhcijgiagdaaW.PrintMore Go.Proofs.Ytefkhcijgiagdaa.HKnown Go.Proofs.Ytefkhcijgiagdaa.I1 Go.Proofs.Ytefkhcijgiagdaa.QVm Go.Proofs.Ytefkhcijgiagdaa.QLe Go.Proofs.Ytefkhcijgiagdaa.V0 Go.Proofs.Ytefkhcijgiagdaa.HVm Go.Proofs.Ytefkhcijgiagdaa.QIn
set_option linter.unusedVariables false
set_option linter.unusedSimpArgs false
set_option maxRecDepth 100000
set_option maxHeartbeats 4000000 in
theorem st_reta {w : World} {rec : ByteArray} {v : V} {l : List S28} {A0 : Option Addr} {c0 : Nat} (hl : v.cs.length = 16) (z : Int) (hC : Kd.C k28 w A0 l.length l) (hz0 : 0 ≤ z) (hz1 : z < (l.length : Int)) (hz2 : z < 1000000) (a1 a2 a3 : Int) (hk : 0 ≤ a3 ∧ a3 < 4294967296) (hi : rd_T28 l z = ⟨22, a1, a2, a3⟩)  :
    Calls Try.prog 121 #[.agg (mL v z 0 false false).toArray, .slice A0 l.length c0, .string rec] w (StPost w z (.done v.a)) := by
  have hu159 := Try.underlying159
  have hu28 := Try.underlying28
  have hu97 := Try.underlying97
  obtain ⟨ad, eA, hx0, hx1, hx2, hx3⟩ := at_T28 hC z hz0 hz1
  subst eA
  rw [hi] at hx0 hx1 hx2 hx3
  simp only at hx0 hx1 hx2 hx3
  have hy0 := fun o1 o2 => pw_cell_below (below_alloc (below_alloc (Below.refl w.heap.size w) o1) o2) hx0
  have HX0 := Aside0.mk hx0
  have HX1 := Aside0.mk hx1
  have HX2 := Aside0.mk hx2
  have HX3 := Aside0.mk hx3
  have HV := Aside0.mk hl
  have HV2 := Aside0.mk (show ((v) : V).cs.length = 16 from hl)
  have h18 : (mL v z 0 false false).toArray[18]? = some (.int .i64 z) := by rw [getA]; exact mL_tail hl 0
  obtain ⟨Cs, hCs⟩ : ∃ Cs, (mL v z 0 false false).toArray = Cs := ⟨_, rfl⟩
  rw [hCs] at h18 ⊢
  have HCS := Aside0.mk hCs
  have hz4 : wrap64 (z + 1) = z + 1 := w64 _ (by omega) (by omega)
  have hd : decide (z < 0) = false := decide_eq_false (by omega)
  have hd2 : decide ((l.length : Int) ≤ z) = false := decide_eq_false (by omega)
  have HK := Aside0.mk (show ∀ W, Calls Try.prog 45 #[.int .i64 22] W fun e w' => e = .returned (.bool true) ∧ Drawn0 W w' from fun W => known_c 22 W)
  clear hCs hl hC hi hx0 hx1 hx2 hx3
  go_enter Try.func121, Try.ntmps121
  go_upto_region 16 with (first | (go_at_call 45; refine (HK.out _).mono ?_; rintro e w1 ⟨rfl, hb0⟩; have hb := hb0.below; have HS := Aside0.mk (s0_new' HV.out HCS.out hb); clear hb hb0; have hlt := HS.out.M.lt; have k0 := HS.out.M.cA; have k1 := HS.out.M.cX; have k18 := HS.out.M.cAt; have k19 := HS.out.M.cOut; have k20 := HS.out.M.cDone; have k21 := HS.out.M.cWrong; have f0 := HS.out.M.free 0; have f18 := HS.out.M.free 18; have f19 := HS.out.M.free 19; have f20 := HS.out.M.free 20; have f21 := HS.out.M.free 21; have hx0 := pw_cell_below HS.out.B HX0.out; have hx1 := pw_cell_below HS.out.B HX1.out; have hx2 := pw_cell_below HS.out.B HX2.out; have hx3 := pw_cell_below HS.out.B HX3.out; have HMF := Aside0.mk (((((HS.out.M.setAt (z + 1)).setDone true).setOut a3).setOut v.a).alloc (.cells #[.int .i64 22, .int .i64 a1, .int .i64 a2, .int .u32 a3] 28)); have HZF := Aside0.mk (blk_alloc (zfar (zfar (zfar (zfar HS.out.Z 18 (.int .i64 (z + 1))) 20 (.bool true)) 19 (.int .u32 a3)) 19 (.int .u32 v.a)) (.cells #[.int .i64 22, .int .i64 a1, .int .i64 a2, .int .u32 a3] 28)); have HBF := Aside0.mk (below_alloc ((((HS.out.B.setCell (p := ⟨w.heap.size, 18, none⟩) (Nat.le_refl _) (.int .i64 (z + 1))).setCell (p := ⟨w.heap.size, 20, none⟩) (Nat.le_refl _) (.bool true)).setCell (p := ⟨w.heap.size, 19, none⟩) (Nat.le_refl _) (.int .u32 a3)).setCell (p := ⟨w.heap.size, 19, none⟩) (Nat.le_refl _) (.int .u32 v.a)) (.cells #[.int .i64 22, .int .i64 a1, .int .i64 a2, .int .u32 a3] 28)); clear h18 hy0))
  go_wp2_with (first | ((with_reducible refine gate_dst (N := 75) rfl ?_); refine wpList_load_row rfl 159 (.tmp 3) rfl w.heap.size rfl 159 _ (0, 0) _ HMF.out.hW Try.underlying159 rfl (mL_size HV2.out _ _ _ _) ?_) | (refine wpList_store_row rfl 159 (.tmp 6) (.tmp 75) rfl (w.heap.size + 1) _ rfl rfl 159 _ HZF.out (mL_size HV2.out _ _ _ _) (by simp [mL_len (v := v) HV2.out, mL_len (v := z0) z_len]) (mL_one _ _ _ _ _) ?_))
  refine bodyPost_ret (v := .agg (mL (v) (z + 1) (v.a) true false).toArray) (results_cell_row (p := 6) (by kernel_rfl) _ _ (w.heap.size + 1) 159 _ (0, 0) _ rfl (setRow_heap _ _ _ _ _ _ HZF.out) Try.underlying159 rfl (mL_size HV2.out _ _ _ _)) rfl ?_
  exact ⟨v, z + 1, v.a, true, false, rfl, HV2.out, below_setRow HBF.out (by omega) _, ⟨rfl, rfl, rfl⟩⟩
end Go.Proofs.Ytefkhcijgiagdaa.HMr
end
section
namespace Go.Proofs.Ytefkhcijgiagdaa.HMr
open Go.RowKit Go.Proofs.YtefkhcijgiagdaaW.PrintWords Go.Proofs.YtefkhcijgiagdaaW.PrintLast Go.Proofs.YtefkhcijgiagdaaW.PrintMore Go.Proofs.Ytefkhcijgiagdaa.HKnown Go.Proofs.Ytefkhcijgiagdaa.I1 Go.Proofs.Ytefkhcijgiagdaa.QVm Go.Proofs.Ytefkhcijgiagdaa.QLe Go.Proofs.Ytefkhcijgiagdaa.V0 Go.Proofs.Ytefkhcijgiagdaa.HVm Go.Proofs.Ytefkhcijgiagdaa.QIn
set_option linter.unusedVariables false
set_option linter.unusedSimpArgs false
set_option maxRecDepth 100000
set_option maxHeartbeats 4000000 in
theorem st_mov0 {w : World} {rec : ByteArray} {v : V} {l : List S28} {A0 : Option Addr} {c0 : Nat} (hl : v.cs.length = 16) (z : Int) (hC : Kd.C k28 w A0 l.length l) (hz0 : 0 ≤ z) (hz1 : z < (l.length : Int)) (hz2 : z < 1000000) (a1 a2 a3 : Int) (hk : 0 ≤ a3 ∧ a3 < 4294967296) (hi : rd_T28 l z = ⟨0, a1, a2, a3⟩)  (R0 : Option V) (hm : ∀ W, Calls Try.prog 147 #[.agg (mL v (z + 1) 0 false false).toArray, .agg #[.int .i64 0, .int .i64 a1, .int .i64 a2, .int .u32 a3], .string rec] W (MovPost W (z + 1) R0)) :
    Calls Try.prog 121 #[.agg (mL v z 0 false false).toArray, .slice A0 l.length c0, .string rec] w (StPost w z (memR R0)) := by
  have hu159 := Try.underlying159
  have hu28 := Try.underlying28
  have hu97 := Try.underlying97
  obtain ⟨ad, eA, hx0, hx1, hx2, hx3⟩ := at_T28 hC z hz0 hz1
  subst eA
  rw [hi] at hx0 hx1 hx2 hx3
  simp only at hx0 hx1 hx2 hx3
  have hy0 := fun o1 o2 => pw_cell_below (below_alloc (below_alloc (Below.refl w.heap.size w) o1) o2) hx0
  have HX0 := Aside0.mk hx0
  have HX1 := Aside0.mk hx1
  have HX2 := Aside0.mk hx2
  have HX3 := Aside0.mk hx3
  have HV := Aside0.mk hl
  have HV2 := Aside0.mk (show ((v) : V).cs.length = 16 from hl)
  have h18 : (mL v z 0 false false).toArray[18]? = some (.int .i64 z) := by rw [getA]; exact mL_tail hl 0
  obtain ⟨Cs, hCs⟩ : ∃ Cs, (mL v z 0 false false).toArray = Cs := ⟨_, rfl⟩
  rw [hCs] at h18 ⊢
  have HCS := Aside0.mk hCs
  have hz4 : wrap64 (z + 1) = z + 1 := w64 _ (by omega) (by omega)
  have hd : decide (z < 0) = false := decide_eq_false (by omega)
  have hd2 : decide ((l.length : Int) ≤ z) = false := decide_eq_false (by omega)
  have HK := Aside0.mk (show ∀ W, Calls Try.prog 45 #[.int .i64 0] W fun e w' => e = .returned (.bool true) ∧ Drawn0 W w' from fun W => known_c 0 W)
  have HMO := Aside0.mk hm
  clear hm
  clear hCs hl hC hi hx0 hx1 hx2 hx3
  go_enter Try.func121, Try.ntmps121
  go_upto_region 33 with (first | (go_at_call 45; refine (HK.out _).mono ?_; rintro e w1 ⟨rfl, hb0⟩; have hb := hb0.below; have HS := Aside0.mk (s0_new' HV.out HCS.out hb); clear hb hb0; have hlt := HS.out.M.lt; have k0 := HS.out.M.cA; have k1 := HS.out.M.cX; have k18 := HS.out.M.cAt; have k19 := HS.out.M.cOut; have k20 := HS.out.M.cDone; have k21 := HS.out.M.cWrong; have f0 := HS.out.M.free 0; have f18 := HS.out.M.free 18; have f19 := HS.out.M.free 19; have f20 := HS.out.M.free 20; have f21 := HS.out.M.free 21; have hx0 := pw_cell_below HS.out.B HX0.out; have hx1 := pw_cell_below HS.out.B HX1.out; have hx2 := pw_cell_below HS.out.B HX2.out; have hx3 := pw_cell_below HS.out.B HX3.out; have HMF := Aside0.mk ((HS.out.M.setAt (z + 1)).alloc (.cells #[.int .i64 0, .int .i64 a1, .int .i64 a2, .int .u32 a3] 28)); have HZF := Aside0.mk (blk_alloc (zfar HS.out.Z 18 (.int .i64 (z + 1))) (.cells #[.int .i64 0, .int .i64 a1, .int .i64 a2, .int .u32 a3] 28)); have HBF := Aside0.mk (below_alloc (HS.out.B.setCell (p := ⟨w.heap.size, 18, none⟩) (Nat.le_refl _) (.int .i64 (z + 1))) (.cells #[.int .i64 0, .int .i64 a1, .int .i64 a2, .int .u32 a3] 28)); clear h18 hy0))
  go_wp2_with (first | ((with_reducible refine gate_dst (N := 132) rfl ?_); refine wpList_load_row rfl 159 (.tmp 3) rfl w.heap.size rfl 159 _ (0, 0) _ HMF.out.hW Try.underlying159 rfl (mL_size HV2.out _ _ _ _) ?_) | (go_at_call 147; refine (HMO.out _).mono ?_; rintro e w2 ⟨v2, wr, rfl, hl2, hb, hmt⟩; have HL2 := Aside0.mk hl2; have HMT := Aside0.mk hmt; have HZF := Aside0.mk (blk_below HZF.out hb); have HBF := Aside0.mk (below_step HBF.out hb); clear hb hl2 hmt) | (refine wpList_store_row rfl 159 (.tmp 6) (.tmp 135) rfl (w.heap.size + 1) _ rfl rfl 159 _ HZF.out (mL_size HL2.out _ _ _ _) (by simp [mL_len HL2.out, mL_len (v := z0) z_len]) (mL_one _ _ _ _ _) ?_))
  refine bodyPost_ret (v := .agg (mL v2 (z + 1) 0 false wr).toArray) (results_cell_row (p := 6) (by kernel_rfl) _ _ (w.heap.size + 1) 159 _ (0, 0) _ rfl (setRow_heap _ _ _ _ _ _ HZF.out) Try.underlying159 rfl (mL_size HL2.out _ _ _ _)) rfl ?_
  refine ⟨v2, z + 1, 0, false, wr, rfl, HL2.out, below_setRow HBF.out (by omega) _, ?_⟩
  have h := HMT.out
  cases R0 with
  | none => exact h
  | some v' => exact ⟨h.1, rfl, rfl, h.2, by show z + 1 = wrap64 (z + 1 + ((0 : Nat) : Int)); rw [show z + 1 + ((0 : Nat) : Int) = z + 1 by omega]; exact (w64 _ (by omega) (by omega)).symm⟩
set_option maxHeartbeats 4000000 in
theorem st_mov96 {w : World} {rec : ByteArray} {v : V} {l : List S28} {A0 : Option Addr} {c0 : Nat} (hl : v.cs.length = 16) (z : Int) (hC : Kd.C k28 w A0 l.length l) (hz0 : 0 ≤ z) (hz1 : z < (l.length : Int)) (hz2 : z < 1000000) (a1 a2 a3 : Int) (hk : 0 ≤ a3 ∧ a3 < 4294967296) (hi : rd_T28 l z = ⟨96, a1, a2, a3⟩)  (R0 : Option V) (hm : ∀ W, Calls Try.prog 147 #[.agg (mL v (z + 1) 0 false false).toArray, .agg #[.int .i64 96, .int .i64 a1, .int .i64 a2, .int .u32 a3], .string rec] W (MovPost W (z + 1) R0)) :
    Calls Try.prog 121 #[.agg (mL v z 0 false false).toArray, .slice A0 l.length c0, .string rec] w (StPost w z (memR R0)) := by
  have hu159 := Try.underlying159
  have hu28 := Try.underlying28
  have hu97 := Try.underlying97
  obtain ⟨ad, eA, hx0, hx1, hx2, hx3⟩ := at_T28 hC z hz0 hz1
  subst eA
  rw [hi] at hx0 hx1 hx2 hx3
  simp only at hx0 hx1 hx2 hx3
  have hy0 := fun o1 o2 => pw_cell_below (below_alloc (below_alloc (Below.refl w.heap.size w) o1) o2) hx0
  have HX0 := Aside0.mk hx0
  have HX1 := Aside0.mk hx1
  have HX2 := Aside0.mk hx2
  have HX3 := Aside0.mk hx3
  have HV := Aside0.mk hl
  have HV2 := Aside0.mk (show ((v) : V).cs.length = 16 from hl)
  have h18 : (mL v z 0 false false).toArray[18]? = some (.int .i64 z) := by rw [getA]; exact mL_tail hl 0
  obtain ⟨Cs, hCs⟩ : ∃ Cs, (mL v z 0 false false).toArray = Cs := ⟨_, rfl⟩
  rw [hCs] at h18 ⊢
  have HCS := Aside0.mk hCs
  have hz4 : wrap64 (z + 1) = z + 1 := w64 _ (by omega) (by omega)
  have hd : decide (z < 0) = false := decide_eq_false (by omega)
  have hd2 : decide ((l.length : Int) ≤ z) = false := decide_eq_false (by omega)
  have HK := Aside0.mk (show ∀ W, Calls Try.prog 45 #[.int .i64 96] W fun e w' => e = .returned (.bool true) ∧ Drawn0 W w' from fun W => known_c 96 W)
  have HMO := Aside0.mk hm
  clear hm
  clear hCs hl hC hi hx0 hx1 hx2 hx3
  go_enter Try.func121, Try.ntmps121
  go_upto_region 33 with (first | (go_at_call 45; refine (HK.out _).mono ?_; rintro e w1 ⟨rfl, hb0⟩; have hb := hb0.below; have HS := Aside0.mk (s0_new' HV.out HCS.out hb); clear hb hb0; have hlt := HS.out.M.lt; have k0 := HS.out.M.cA; have k1 := HS.out.M.cX; have k18 := HS.out.M.cAt; have k19 := HS.out.M.cOut; have k20 := HS.out.M.cDone; have k21 := HS.out.M.cWrong; have f0 := HS.out.M.free 0; have f18 := HS.out.M.free 18; have f19 := HS.out.M.free 19; have f20 := HS.out.M.free 20; have f21 := HS.out.M.free 21; have hx0 := pw_cell_below HS.out.B HX0.out; have hx1 := pw_cell_below HS.out.B HX1.out; have hx2 := pw_cell_below HS.out.B HX2.out; have hx3 := pw_cell_below HS.out.B HX3.out; have HMF := Aside0.mk ((HS.out.M.setAt (z + 1)).alloc (.cells #[.int .i64 96, .int .i64 a1, .int .i64 a2, .int .u32 a3] 28)); have HZF := Aside0.mk (blk_alloc (zfar HS.out.Z 18 (.int .i64 (z + 1))) (.cells #[.int .i64 96, .int .i64 a1, .int .i64 a2, .int .u32 a3] 28)); have HBF := Aside0.mk (below_alloc (HS.out.B.setCell (p := ⟨w.heap.size, 18, none⟩) (Nat.le_refl _) (.int .i64 (z + 1))) (.cells #[.int .i64 96, .int .i64 a1, .int .i64 a2, .int .u32 a3] 28)); clear h18 hy0))
  go_wp2_with (first | ((with_reducible refine gate_dst (N := 132) rfl ?_); refine wpList_load_row rfl 159 (.tmp 3) rfl w.heap.size rfl 159 _ (0, 0) _ HMF.out.hW Try.underlying159 rfl (mL_size HV2.out _ _ _ _) ?_) | (go_at_call 147; refine (HMO.out _).mono ?_; rintro e w2 ⟨v2, wr, rfl, hl2, hb, hmt⟩; have HL2 := Aside0.mk hl2; have HMT := Aside0.mk hmt; have HZF := Aside0.mk (blk_below HZF.out hb); have HBF := Aside0.mk (below_step HBF.out hb); clear hb hl2 hmt) | (refine wpList_store_row rfl 159 (.tmp 6) (.tmp 135) rfl (w.heap.size + 1) _ rfl rfl 159 _ HZF.out (mL_size HL2.out _ _ _ _) (by simp [mL_len HL2.out, mL_len (v := z0) z_len]) (mL_one _ _ _ _ _) ?_))
  refine bodyPost_ret (v := .agg (mL v2 (z + 1) 0 false wr).toArray) (results_cell_row (p := 6) (by kernel_rfl) _ _ (w.heap.size + 1) 159 _ (0, 0) _ rfl (setRow_heap _ _ _ _ _ _ HZF.out) Try.underlying159 rfl (mL_size HL2.out _ _ _ _)) rfl ?_
  refine ⟨v2, z + 1, 0, false, wr, rfl, HL2.out, below_setRow HBF.out (by omega) _, ?_⟩
  have h := HMT.out
  cases R0 with
  | none => exact h
  | some v' => exact ⟨h.1, rfl, rfl, h.2, by show z + 1 = wrap64 (z + 1 + ((0 : Nat) : Int)); rw [show z + 1 + ((0 : Nat) : Int) = z + 1 by omega]; exact (w64 _ (by omega) (by omega)).symm⟩
set_option maxHeartbeats 4000000 in
theorem st_mov1 {w : World} {rec : ByteArray} {v : V} {l : List S28} {A0 : Option Addr} {c0 : Nat} (hl : v.cs.length = 16) (z : Int) (hC : Kd.C k28 w A0 l.length l) (hz0 : 0 ≤ z) (hz1 : z < (l.length : Int)) (hz2 : z < 1000000) (a1 a2 a3 : Int) (hk : 0 ≤ a3 ∧ a3 < 4294967296) (hi : rd_T28 l z = ⟨1, a1, a2, a3⟩)  (R0 : Option V) (hm : ∀ W, Calls Try.prog 147 #[.agg (mL v (z + 1) 0 false false).toArray, .agg #[.int .i64 1, .int .i64 a1, .int .i64 a2, .int .u32 a3], .string rec] W (MovPost W (z + 1) R0)) :
    Calls Try.prog 121 #[.agg (mL v z 0 false false).toArray, .slice A0 l.length c0, .string rec] w (StPost w z (memR R0)) := by
  have hu159 := Try.underlying159
  have hu28 := Try.underlying28
  have hu97 := Try.underlying97
  obtain ⟨ad, eA, hx0, hx1, hx2, hx3⟩ := at_T28 hC z hz0 hz1
  subst eA
  rw [hi] at hx0 hx1 hx2 hx3
  simp only at hx0 hx1 hx2 hx3
  have hy0 := fun o1 o2 => pw_cell_below (below_alloc (below_alloc (Below.refl w.heap.size w) o1) o2) hx0
  have HX0 := Aside0.mk hx0
  have HX1 := Aside0.mk hx1
  have HX2 := Aside0.mk hx2
  have HX3 := Aside0.mk hx3
  have HV := Aside0.mk hl
  have HV2 := Aside0.mk (show ((v) : V).cs.length = 16 from hl)
  have h18 : (mL v z 0 false false).toArray[18]? = some (.int .i64 z) := by rw [getA]; exact mL_tail hl 0
  obtain ⟨Cs, hCs⟩ : ∃ Cs, (mL v z 0 false false).toArray = Cs := ⟨_, rfl⟩
  rw [hCs] at h18 ⊢
  have HCS := Aside0.mk hCs
  have hz4 : wrap64 (z + 1) = z + 1 := w64 _ (by omega) (by omega)
  have hd : decide (z < 0) = false := decide_eq_false (by omega)
  have hd2 : decide ((l.length : Int) ≤ z) = false := decide_eq_false (by omega)
  have HK := Aside0.mk (show ∀ W, Calls Try.prog 45 #[.int .i64 1] W fun e w' => e = .returned (.bool true) ∧ Drawn0 W w' from fun W => known_c 1 W)
  have HMO := Aside0.mk hm
  clear hm
  clear hCs hl hC hi hx0 hx1 hx2 hx3
  go_enter Try.func121, Try.ntmps121
  go_upto_region 33 with (first | (go_at_call 45; refine (HK.out _).mono ?_; rintro e w1 ⟨rfl, hb0⟩; have hb := hb0.below; have HS := Aside0.mk (s0_new' HV.out HCS.out hb); clear hb hb0; have hlt := HS.out.M.lt; have k0 := HS.out.M.cA; have k1 := HS.out.M.cX; have k18 := HS.out.M.cAt; have k19 := HS.out.M.cOut; have k20 := HS.out.M.cDone; have k21 := HS.out.M.cWrong; have f0 := HS.out.M.free 0; have f18 := HS.out.M.free 18; have f19 := HS.out.M.free 19; have f20 := HS.out.M.free 20; have f21 := HS.out.M.free 21; have hx0 := pw_cell_below HS.out.B HX0.out; have hx1 := pw_cell_below HS.out.B HX1.out; have hx2 := pw_cell_below HS.out.B HX2.out; have hx3 := pw_cell_below HS.out.B HX3.out; have HMF := Aside0.mk ((HS.out.M.setAt (z + 1)).alloc (.cells #[.int .i64 1, .int .i64 a1, .int .i64 a2, .int .u32 a3] 28)); have HZF := Aside0.mk (blk_alloc (zfar HS.out.Z 18 (.int .i64 (z + 1))) (.cells #[.int .i64 1, .int .i64 a1, .int .i64 a2, .int .u32 a3] 28)); have HBF := Aside0.mk (below_alloc (HS.out.B.setCell (p := ⟨w.heap.size, 18, none⟩) (Nat.le_refl _) (.int .i64 (z + 1))) (.cells #[.int .i64 1, .int .i64 a1, .int .i64 a2, .int .u32 a3] 28)); clear h18 hy0))
  go_wp2_with (first | ((with_reducible refine gate_dst (N := 132) rfl ?_); refine wpList_load_row rfl 159 (.tmp 3) rfl w.heap.size rfl 159 _ (0, 0) _ HMF.out.hW Try.underlying159 rfl (mL_size HV2.out _ _ _ _) ?_) | (go_at_call 147; refine (HMO.out _).mono ?_; rintro e w2 ⟨v2, wr, rfl, hl2, hb, hmt⟩; have HL2 := Aside0.mk hl2; have HMT := Aside0.mk hmt; have HZF := Aside0.mk (blk_below HZF.out hb); have HBF := Aside0.mk (below_step HBF.out hb); clear hb hl2 hmt) | (refine wpList_store_row rfl 159 (.tmp 6) (.tmp 135) rfl (w.heap.size + 1) _ rfl rfl 159 _ HZF.out (mL_size HL2.out _ _ _ _) (by simp [mL_len HL2.out, mL_len (v := z0) z_len]) (mL_one _ _ _ _ _) ?_))
  refine bodyPost_ret (v := .agg (mL v2 (z + 1) 0 false wr).toArray) (results_cell_row (p := 6) (by kernel_rfl) _ _ (w.heap.size + 1) 159 _ (0, 0) _ rfl (setRow_heap _ _ _ _ _ _ HZF.out) Try.underlying159 rfl (mL_size HL2.out _ _ _ _)) rfl ?_
  refine ⟨v2, z + 1, 0, false, wr, rfl, HL2.out, below_setRow HBF.out (by omega) _, ?_⟩
  have h := HMT.out
  cases R0 with
  | none => exact h
  | some v' => exact ⟨h.1, rfl, rfl, h.2, by show z + 1 = wrap64 (z + 1 + ((0 : Nat) : Int)); rw [show z + 1 + ((0 : Nat) : Int) = z + 1 by omega]; exact (w64 _ (by omega) (by omega)).symm⟩
set_option maxHeartbeats 4000000 in
theorem st_mov97 {w : World} {rec : ByteArray} {v : V} {l : List S28} {A0 : Option Addr} {c0 : Nat} (hl : v.cs.length = 16) (z : Int) (hC : Kd.C k28 w A0 l.length l) (hz0 : 0 ≤ z) (hz1 : z < (l.length : Int)) (hz2 : z < 1000000) (a1 a2 a3 : Int) (hk : 0 ≤ a3 ∧ a3 < 4294967296) (hi : rd_T28 l z = ⟨97, a1, a2, a3⟩)  (R0 : Option V) (hm : ∀ W, Calls Try.prog 147 #[.agg (mL v (z + 1) 0 false false).toArray, .agg #[.int .i64 97, .int .i64 a1, .int .i64 a2, .int .u32 a3], .string rec] W (MovPost W (z + 1) R0)) :
    Calls Try.prog 121 #[.agg (mL v z 0 false false).toArray, .slice A0 l.length c0, .string rec] w (StPost w z (memR R0)) := by
  have hu159 := Try.underlying159
  have hu28 := Try.underlying28
  have hu97 := Try.underlying97
  obtain ⟨ad, eA, hx0, hx1, hx2, hx3⟩ := at_T28 hC z hz0 hz1
  subst eA
  rw [hi] at hx0 hx1 hx2 hx3
  simp only at hx0 hx1 hx2 hx3
  have hy0 := fun o1 o2 => pw_cell_below (below_alloc (below_alloc (Below.refl w.heap.size w) o1) o2) hx0
  have HX0 := Aside0.mk hx0
  have HX1 := Aside0.mk hx1
  have HX2 := Aside0.mk hx2
  have HX3 := Aside0.mk hx3
  have HV := Aside0.mk hl
  have HV2 := Aside0.mk (show ((v) : V).cs.length = 16 from hl)
  have h18 : (mL v z 0 false false).toArray[18]? = some (.int .i64 z) := by rw [getA]; exact mL_tail hl 0
  obtain ⟨Cs, hCs⟩ : ∃ Cs, (mL v z 0 false false).toArray = Cs := ⟨_, rfl⟩
  rw [hCs] at h18 ⊢
  have HCS := Aside0.mk hCs
  have hz4 : wrap64 (z + 1) = z + 1 := w64 _ (by omega) (by omega)
  have hd : decide (z < 0) = false := decide_eq_false (by omega)
  have hd2 : decide ((l.length : Int) ≤ z) = false := decide_eq_false (by omega)
  have HK := Aside0.mk (show ∀ W, Calls Try.prog 45 #[.int .i64 97] W fun e w' => e = .returned (.bool true) ∧ Drawn0 W w' from fun W => known_c 97 W)
  have HMO := Aside0.mk hm
  clear hm
  clear hCs hl hC hi hx0 hx1 hx2 hx3
  go_enter Try.func121, Try.ntmps121
  go_upto_region 33 with (first | (go_at_call 45; refine (HK.out _).mono ?_; rintro e w1 ⟨rfl, hb0⟩; have hb := hb0.below; have HS := Aside0.mk (s0_new' HV.out HCS.out hb); clear hb hb0; have hlt := HS.out.M.lt; have k0 := HS.out.M.cA; have k1 := HS.out.M.cX; have k18 := HS.out.M.cAt; have k19 := HS.out.M.cOut; have k20 := HS.out.M.cDone; have k21 := HS.out.M.cWrong; have f0 := HS.out.M.free 0; have f18 := HS.out.M.free 18; have f19 := HS.out.M.free 19; have f20 := HS.out.M.free 20; have f21 := HS.out.M.free 21; have hx0 := pw_cell_below HS.out.B HX0.out; have hx1 := pw_cell_below HS.out.B HX1.out; have hx2 := pw_cell_below HS.out.B HX2.out; have hx3 := pw_cell_below HS.out.B HX3.out; have HMF := Aside0.mk ((HS.out.M.setAt (z + 1)).alloc (.cells #[.int .i64 97, .int .i64 a1, .int .i64 a2, .int .u32 a3] 28)); have HZF := Aside0.mk (blk_alloc (zfar HS.out.Z 18 (.int .i64 (z + 1))) (.cells #[.int .i64 97, .int .i64 a1, .int .i64 a2, .int .u32 a3] 28)); have HBF := Aside0.mk (below_alloc (HS.out.B.setCell (p := ⟨w.heap.size, 18, none⟩) (Nat.le_refl _) (.int .i64 (z + 1))) (.cells #[.int .i64 97, .int .i64 a1, .int .i64 a2, .int .u32 a3] 28)); clear h18 hy0))
  go_wp2_with (first | ((with_reducible refine gate_dst (N := 132) rfl ?_); refine wpList_load_row rfl 159 (.tmp 3) rfl w.heap.size rfl 159 _ (0, 0) _ HMF.out.hW Try.underlying159 rfl (mL_size HV2.out _ _ _ _) ?_) | (go_at_call 147; refine (HMO.out _).mono ?_; rintro e w2 ⟨v2, wr, rfl, hl2, hb, hmt⟩; have HL2 := Aside0.mk hl2; have HMT := Aside0.mk hmt; have HZF := Aside0.mk (blk_below HZF.out hb); have HBF := Aside0.mk (below_step HBF.out hb); clear hb hl2 hmt) | (refine wpList_store_row rfl 159 (.tmp 6) (.tmp 135) rfl (w.heap.size + 1) _ rfl rfl 159 _ HZF.out (mL_size HL2.out _ _ _ _) (by simp [mL_len HL2.out, mL_len (v := z0) z_len]) (mL_one _ _ _ _ _) ?_))
  refine bodyPost_ret (v := .agg (mL v2 (z + 1) 0 false wr).toArray) (results_cell_row (p := 6) (by kernel_rfl) _ _ (w.heap.size + 1) 159 _ (0, 0) _ rfl (setRow_heap _ _ _ _ _ _ HZF.out) Try.underlying159 rfl (mL_size HL2.out _ _ _ _)) rfl ?_
  refine ⟨v2, z + 1, 0, false, wr, rfl, HL2.out, below_setRow HBF.out (by omega) _, ?_⟩
  have h := HMT.out
  cases R0 with
  | none => exact h
  | some v' => exact ⟨h.1, rfl, rfl, h.2, by show z + 1 = wrap64 (z + 1 + ((0 : Nat) : Int)); rw [show z + 1 + ((0 : Nat) : Int) = z + 1 by omega]; exact (w64 _ (by omega) (by omega)).symm⟩
set_option maxHeartbeats 4000000 in
theorem st_mov129 {w : World} {rec : ByteArray} {v : V} {l : List S28} {A0 : Option Addr} {c0 : Nat} (hl : v.cs.length = 16) (z : Int) (hC : Kd.C k28 w A0 l.length l) (hz0 : 0 ≤ z) (hz1 : z < (l.length : Int)) (hz2 : z < 1000000) (a1 a2 a3 : Int) (hk : 0 ≤ a3 ∧ a3 < 4294967296) (hi : rd_T28 l z = ⟨129, a1, a2, a3⟩)  (R0 : Option V) (hm : ∀ W, Calls Try.prog 147 #[.agg (mL v (z + 1) 0 false false).toArray, .agg #[.int .i64 129, .int .i64 a1, .int .i64 a2, .int .u32 a3], .string rec] W (MovPost W (z + 1) R0)) :
    Calls Try.prog 121 #[.agg (mL v z 0 false false).toArray, .slice A0 l.length c0, .string rec] w (StPost w z (memR R0)) := by
  have hu159 := Try.underlying159
  have hu28 := Try.underlying28
  have hu97 := Try.underlying97
  obtain ⟨ad, eA, hx0, hx1, hx2, hx3⟩ := at_T28 hC z hz0 hz1
  subst eA
  rw [hi] at hx0 hx1 hx2 hx3
  simp only at hx0 hx1 hx2 hx3
  have hy0 := fun o1 o2 => pw_cell_below (below_alloc (below_alloc (Below.refl w.heap.size w) o1) o2) hx0
  have HX0 := Aside0.mk hx0
  have HX1 := Aside0.mk hx1
  have HX2 := Aside0.mk hx2
  have HX3 := Aside0.mk hx3
  have HV := Aside0.mk hl
  have HV2 := Aside0.mk (show ((v) : V).cs.length = 16 from hl)
  have h18 : (mL v z 0 false false).toArray[18]? = some (.int .i64 z) := by rw [getA]; exact mL_tail hl 0
  obtain ⟨Cs, hCs⟩ : ∃ Cs, (mL v z 0 false false).toArray = Cs := ⟨_, rfl⟩
  rw [hCs] at h18 ⊢
  have HCS := Aside0.mk hCs
  have hz4 : wrap64 (z + 1) = z + 1 := w64 _ (by omega) (by omega)
  have hd : decide (z < 0) = false := decide_eq_false (by omega)
  have hd2 : decide ((l.length : Int) ≤ z) = false := decide_eq_false (by omega)
  have HK := Aside0.mk (show ∀ W, Calls Try.prog 45 #[.int .i64 129] W fun e w' => e = .returned (.bool true) ∧ Drawn0 W w' from fun W => known_c 129 W)
  have HMO := Aside0.mk hm
  clear hm
  clear hCs hl hC hi hx0 hx1 hx2 hx3
  go_enter Try.func121, Try.ntmps121
  go_upto_region 33 with (first | (go_at_call 45; refine (HK.out _).mono ?_; rintro e w1 ⟨rfl, hb0⟩; have hb := hb0.below; have HS := Aside0.mk (s0_new' HV.out HCS.out hb); clear hb hb0; have hlt := HS.out.M.lt; have k0 := HS.out.M.cA; have k1 := HS.out.M.cX; have k18 := HS.out.M.cAt; have k19 := HS.out.M.cOut; have k20 := HS.out.M.cDone; have k21 := HS.out.M.cWrong; have f0 := HS.out.M.free 0; have f18 := HS.out.M.free 18; have f19 := HS.out.M.free 19; have f20 := HS.out.M.free 20; have f21 := HS.out.M.free 21; have hx0 := pw_cell_below HS.out.B HX0.out; have hx1 := pw_cell_below HS.out.B HX1.out; have hx2 := pw_cell_below HS.out.B HX2.out; have hx3 := pw_cell_below HS.out.B HX3.out; have HMF := Aside0.mk ((HS.out.M.setAt (z + 1)).alloc (.cells #[.int .i64 129, .int .i64 a1, .int .i64 a2, .int .u32 a3] 28)); have HZF := Aside0.mk (blk_alloc (zfar HS.out.Z 18 (.int .i64 (z + 1))) (.cells #[.int .i64 129, .int .i64 a1, .int .i64 a2, .int .u32 a3] 28)); have HBF := Aside0.mk (below_alloc (HS.out.B.setCell (p := ⟨w.heap.size, 18, none⟩) (Nat.le_refl _) (.int .i64 (z + 1))) (.cells #[.int .i64 129, .int .i64 a1, .int .i64 a2, .int .u32 a3] 28)); clear h18 hy0))
  go_wp2_with (first | ((with_reducible refine gate_dst (N := 132) rfl ?_); refine wpList_load_row rfl 159 (.tmp 3) rfl w.heap.size rfl 159 _ (0, 0) _ HMF.out.hW Try.underlying159 rfl (mL_size HV2.out _ _ _ _) ?_) | (go_at_call 147; refine (HMO.out _).mono ?_; rintro e w2 ⟨v2, wr, rfl, hl2, hb, hmt⟩; have HL2 := Aside0.mk hl2; have HMT := Aside0.mk hmt; have HZF := Aside0.mk (blk_below HZF.out hb); have HBF := Aside0.mk (below_step HBF.out hb); clear hb hl2 hmt) | (refine wpList_store_row rfl 159 (.tmp 6) (.tmp 135) rfl (w.heap.size + 1) _ rfl rfl 159 _ HZF.out (mL_size HL2.out _ _ _ _) (by simp [mL_len HL2.out, mL_len (v := z0) z_len]) (mL_one _ _ _ _ _) ?_))
  refine bodyPost_ret (v := .agg (mL v2 (z + 1) 0 false wr).toArray) (results_cell_row (p := 6) (by kernel_rfl) _ _ (w.heap.size + 1) 159 _ (0, 0) _ rfl (setRow_heap _ _ _ _ _ _ HZF.out) Try.underlying159 rfl (mL_size HL2.out _ _ _ _)) rfl ?_
  refine ⟨v2, z + 1, 0, false, wr, rfl, HL2.out, below_setRow HBF.out (by omega) _, ?_⟩
  have h := HMT.out
  cases R0 with
  | none => exact h
  | some v' => exact ⟨h.1, rfl, rfl, h.2, by show z + 1 = wrap64 (z + 1 + ((0 : Nat) : Int)); rw [show z + 1 + ((0 : Nat) : Int) = z + 1 by omega]; exact (w64 _ (by omega) (by omega)).symm⟩
end Go.Proofs.Ytefkhcijgiagdaa.HMr
end
