/- VmRuns: what any filter returns of any record, in how many steps, or that it goes wrong, is as the document says. -/
import Derived.Test.YtefkhcijgiagdaaZVmRuns1
section
namespace Go.Proofs.Ytefkhcijgiagdaa.HMr
open Go.RowKit Go.Proofs.YtefkhcijgiagdaaW.PrintWords Go.Proofs.YtefkhcijgiagdaaW.PrintLast Go.Proofs.YtefkhcijgiagdaaW.PrintMore Go.Proofs.Ytefkhcijgiagdaa.HKnown Go.Proofs.Ytefkhcijgiagdaa.I1 Go.Proofs.Ytefkhcijgiagdaa.QVm Go.Proofs.Ytefkhcijgiagdaa.QLe Go.Proofs.Ytefkhcijgiagdaa.V0 Go.Proofs.Ytefkhcijgiagdaa.HVm Go.Proofs.Ytefkhcijgiagdaa.QIn
set_option linter.unusedVariables false
set_option linter.unusedSimpArgs false
set_option maxRecDepth 100000
set_option maxHeartbeats 4000000 in
theorem st_two4 {w : World} {rec : ByteArray} {v : V} {l : List S28} {A0 : Option Addr} {c0 : Nat} (hl : v.cs.length = 16) (z : Int) (hC : Kd.C k28 w A0 l.length l) (hz0 : 0 ≤ z) (hz1 : z < (l.length : Int)) (hz2 : z < 1000000) (a1 a2 a3 : Int) (hk : 0 ≤ a3 ∧ a3 < 4294967296) (hi : rd_T28 l z = ⟨4, a1, a2, a3⟩)  (r : Int) (hr : doorwardref11_two.f 0 v.a a3 = some r) :
    Calls Try.prog 121 #[.agg (mL v z 0 false false).toArray, .slice A0 l.length c0, .string rec] w (StPost w z (.next ⟨r, v.x, v.cs⟩ 0)) := by
  have hu159 := Try.underlying159
  have hu28 := Try.underlying28
  have hu97 := Try.underlying97
  obtain ⟨ad, eA, hx0, hx1, hx2, hx3⟩ := at_T28 hC z hz0 hz1
  subst eA
  rw [hi] at hx0 hx1 hx2 hx3
  simp only at hx0 hx1 hx2 hx3
  have hy0 := fun o1 o2 => pw_cell_below (below_alloc (below_alloc (Below.refl w.heap.size w) o1) o2) hx0
  have HX0 := Aside0.mk hx0
  have HX1 := Aside0.mk hx1
  have HX2 := Aside0.mk hx2
  have HX3 := Aside0.mk hx3
  have HV := Aside0.mk hl
  have HV2 := Aside0.mk (show ((⟨r, v.x, v.cs⟩) : V).cs.length = 16 from hl)
  have h18 : (mL v z 0 false false).toArray[18]? = some (.int .i64 z) := by rw [getA]; exact mL_tail hl 0
  obtain ⟨Cs, hCs⟩ : ∃ Cs, (mL v z 0 false false).toArray = Cs := ⟨_, rfl⟩
  rw [hCs] at h18 ⊢
  have HCS := Aside0.mk hCs
  have hz4 : wrap64 (z + 1) = z + 1 := w64 _ (by omega) (by omega)
  have hd : decide (z < 0) = false := decide_eq_false (by omega)
  have hd2 : decide ((l.length : Int) ≤ z) = false := decide_eq_false (by omega)
  have HK := Aside0.mk (show ∀ W, Calls Try.prog 45 #[.int .i64 4] W fun e w' => e = .returned (.bool true) ∧ Drawn0 W w' from fun W => known_c 4 W)
  have HT := Aside0.mk (fun W => doorwardref11_two.calls 0 v.a a3 r W hr)
  clear hCs hl hC hi hx0 hx1 hx2 hx3
  go_enter Try.func121, Try.ntmps121
  go_upto_region 25 with (first | (go_at_call 45; refine (HK.out _).mono ?_; rintro e w1 ⟨rfl, hb0⟩; have hb := hb0.below; have HS := Aside0.mk (s0_new' HV.out HCS.out hb); clear hb hb0; have hlt := HS.out.M.lt; have k0 := HS.out.M.cA; have k1 := HS.out.M.cX; have k18 := HS.out.M.cAt; have k19 := HS.out.M.cOut; have k20 := HS.out.M.cDone; have k21 := HS.out.M.cWrong; have f0 := HS.out.M.free 0; have f18 := HS.out.M.free 18; have f19 := HS.out.M.free 19; have f20 := HS.out.M.free 20; have f21 := HS.out.M.free 21; have hx0 := pw_cell_below HS.out.B HX0.out; have hx1 := pw_cell_below HS.out.B HX1.out; have hx2 := pw_cell_below HS.out.B HX2.out; have hx3 := pw_cell_below HS.out.B HX3.out; have HMF := Aside0.mk ((HS.out.M.setAt (z + 1)).alloc (.cells #[.int .i64 4, .int .i64 a1, .int .i64 a2, .int .u32 a3] 28)); have HZF := Aside0.mk (blk_alloc (zfar HS.out.Z 18 (.int .i64 (z + 1))) (.cells #[.int .i64 4, .int .i64 a1, .int .i64 a2, .int .u32 a3] 28)); have HBF := Aside0.mk (below_alloc (HS.out.B.setCell (p := ⟨w.heap.size, 18, none⟩) (Nat.le_refl _) (.int .i64 (z + 1))) (.cells #[.int .i64 4, .int .i64 a1, .int .i64 a2, .int .u32 a3] 28)); clear h18 hy0) | (go_at_call 144; refine (HT.out _).mono ?_; rintro e w2 ⟨rfl, hb0⟩; have hb := hb0.below; have kA2 := (HMF.out.below hb).cA; have fA2 := (HMF.out.below hb).free 0; have HMF := Aside0.mk ((HMF.out.below hb).setA r); have HZF := Aside0.mk (zfar (blk_below HZF.out hb) 0 (.int .u32 r)); have HBF := Aside0.mk ((below_step HBF.out hb).setCell (p := ⟨w.heap.size, 0, none⟩) (Nat.le_refl _) (.int .u32 r)); clear hb hb0))
  go_wp2_with (first | ((with_reducible refine gate_dst (N := 100) rfl ?_); refine wpList_load_row rfl 159 (.tmp 3) rfl w.heap.size rfl 159 _ (0, 0) _ HMF.out.hW Try.underlying159 rfl (mL_size HV2.out _ _ _ _) ?_) | (refine wpList_store_row rfl 159 (.tmp 6) (.tmp 100) rfl (w.heap.size + 1) _ rfl rfl 159 _ HZF.out (mL_size HV2.out _ _ _ _) (by simp [mL_len (v := ⟨r, v.x, v.cs⟩) HV2.out, mL_len (v := z0) z_len]) (mL_one _ _ _ _ _) ?_))
  refine bodyPost_ret (v := .agg (mL (⟨r, v.x, v.cs⟩) (z + 1) (0) false false).toArray) (results_cell_row (p := 6) (by kernel_rfl) _ _ (w.heap.size + 1) 159 _ (0, 0) _ rfl (setRow_heap _ _ _ _ _ _ HZF.out) Try.underlying159 rfl (mL_size HV2.out _ _ _ _)) rfl ?_
  exact ⟨⟨r, v.x, v.cs⟩, z + 1, 0, false, false, rfl, HV2.out, below_setRow HBF.out (by omega) _, ⟨rfl, rfl, rfl, rfl, by show z + 1 = wrap64 (z + 1 + ((0 : Nat) : Int)); rw [show z + 1 + ((0 : Nat) : Int) = z + 1 by omega]; exact (w64 _ (by omega) (by omega)).symm⟩⟩
set_option maxHeartbeats 4000000 in
theorem st_two12 {w : World} {rec : ByteArray} {v : V} {l : List S28} {A0 : Option Addr} {c0 : Nat} (hl : v.cs.length = 16) (z : Int) (hC : Kd.C k28 w A0 l.length l) (hz0 : 0 ≤ z) (hz1 : z < (l.length : Int)) (hz2 : z < 1000000) (a1 a2 a3 : Int) (hk : 0 ≤ a3 ∧ a3 < 4294967296) (hi : rd_T28 l z = ⟨12, a1, a2, a3⟩)  (r : Int) (hr : doorwardref11_two.f 0 v.a v.x = some r) :
    Calls Try.prog 121 #[.agg (mL v z 0 false false).toArray, .slice A0 l.length c0, .string rec] w (StPost w z (.next ⟨r, v.x, v.cs⟩ 0)) := by
  have hu159 := Try.underlying159
  have hu28 := Try.underlying28
  have hu97 := Try.underlying97
  obtain ⟨ad, eA, hx0, hx1, hx2, hx3⟩ := at_T28 hC z hz0 hz1
  subst eA
  rw [hi] at hx0 hx1 hx2 hx3
  simp only at hx0 hx1 hx2 hx3
  have hy0 := fun o1 o2 => pw_cell_below (below_alloc (below_alloc (Below.refl w.heap.size w) o1) o2) hx0
  have HX0 := Aside0.mk hx0
  have HX1 := Aside0.mk hx1
  have HX2 := Aside0.mk hx2
  have HX3 := Aside0.mk hx3
  have HV := Aside0.mk hl
  have HV2 := Aside0.mk (show ((⟨r, v.x, v.cs⟩) : V).cs.length = 16 from hl)
  have h18 : (mL v z 0 false false).toArray[18]? = some (.int .i64 z) := by rw [getA]; exact mL_tail hl 0
  obtain ⟨Cs, hCs⟩ : ∃ Cs, (mL v z 0 false false).toArray = Cs := ⟨_, rfl⟩
  rw [hCs] at h18 ⊢
  have HCS := Aside0.mk hCs
  have hz4 : wrap64 (z + 1) = z + 1 := w64 _ (by omega) (by omega)
  have hd : decide (z < 0) = false := decide_eq_false (by omega)
  have hd2 : decide ((l.length : Int) ≤ z) = false := decide_eq_false (by omega)
  have HK := Aside0.mk (show ∀ W, Calls Try.prog 45 #[.int .i64 12] W fun e w' => e = .returned (.bool true) ∧ Drawn0 W w' from fun W => known_c 12 W)
  have HT := Aside0.mk (fun W => doorwardref11_two.calls 0 v.a v.x r W hr)
  clear hCs hl hC hi hx0 hx1 hx2 hx3
  go_enter Try.func121, Try.ntmps121
  go_upto_region 25 with (first | (go_at_call 45; refine (HK.out _).mono ?_; rintro e w1 ⟨rfl, hb0⟩; have hb := hb0.below; have HS := Aside0.mk (s0_new' HV.out HCS.out hb); clear hb hb0; have hlt := HS.out.M.lt; have k0 := HS.out.M.cA; have k1 := HS.out.M.cX; have k18 := HS.out.M.cAt; have k19 := HS.out.M.cOut; have k20 := HS.out.M.cDone; have k21 := HS.out.M.cWrong; have f0 := HS.out.M.free 0; have f18 := HS.out.M.free 18; have f19 := HS.out.M.free 19; have f20 := HS.out.M.free 20; have f21 := HS.out.M.free 21; have hx0 := pw_cell_below HS.out.B HX0.out; have hx1 := pw_cell_below HS.out.B HX1.out; have hx2 := pw_cell_below HS.out.B HX2.out; have hx3 := pw_cell_below HS.out.B HX3.out; have HMF := Aside0.mk ((HS.out.M.setAt (z + 1)).alloc (.cells #[.int .i64 12, .int .i64 a1, .int .i64 a2, .int .u32 a3] 28)); have HZF := Aside0.mk (blk_alloc (zfar HS.out.Z 18 (.int .i64 (z + 1))) (.cells #[.int .i64 12, .int .i64 a1, .int .i64 a2, .int .u32 a3] 28)); have HBF := Aside0.mk (below_alloc (HS.out.B.setCell (p := ⟨w.heap.size, 18, none⟩) (Nat.le_refl _) (.int .i64 (z + 1))) (.cells #[.int .i64 12, .int .i64 a1, .int .i64 a2, .int .u32 a3] 28)); clear h18 hy0) | (go_at_call 144; refine (HT.out _).mono ?_; rintro e w2 ⟨rfl, hb0⟩; have hb := hb0.below; have kA2 := (HMF.out.below hb).cA; have fA2 := (HMF.out.below hb).free 0; have HMF := Aside0.mk ((HMF.out.below hb).setA r); have HZF := Aside0.mk (zfar (blk_below HZF.out hb) 0 (.int .u32 r)); have HBF := Aside0.mk ((below_step HBF.out hb).setCell (p := ⟨w.heap.size, 0, none⟩) (Nat.le_refl _) (.int .u32 r)); clear hb hb0))
  go_wp2_with (first | ((with_reducible refine gate_dst (N := 100) rfl ?_); refine wpList_load_row rfl 159 (.tmp 3) rfl w.heap.size rfl 159 _ (0, 0) _ HMF.out.hW Try.underlying159 rfl (mL_size HV2.out _ _ _ _) ?_) | (refine wpList_store_row rfl 159 (.tmp 6) (.tmp 100) rfl (w.heap.size + 1) _ rfl rfl 159 _ HZF.out (mL_size HV2.out _ _ _ _) (by simp [mL_len (v := ⟨r, v.x, v.cs⟩) HV2.out, mL_len (v := z0) z_len]) (mL_one _ _ _ _ _) ?_))
  refine bodyPost_ret (v := .agg (mL (⟨r, v.x, v.cs⟩) (z + 1) (0) false false).toArray) (results_cell_row (p := 6) (by kernel_rfl) _ _ (w.heap.size + 1) 159 _ (0, 0) _ rfl (setRow_heap _ _ _ _ _ _ HZF.out) Try.underlying159 rfl (mL_size HV2.out _ _ _ _)) rfl ?_
  exact ⟨⟨r, v.x, v.cs⟩, z + 1, 0, false, false, rfl, HV2.out, below_setRow HBF.out (by omega) _, ⟨rfl, rfl, rfl, rfl, by show z + 1 = wrap64 (z + 1 + ((0 : Nat) : Int)); rw [show z + 1 + ((0 : Nat) : Int) = z + 1 by omega]; exact (w64 _ (by omega) (by omega)).symm⟩⟩
set_option maxHeartbeats 4000000 in
theorem st_two20 {w : World} {rec : ByteArray} {v : V} {l : List S28} {A0 : Option Addr} {c0 : Nat} (hl : v.cs.length = 16) (z : Int) (hC : Kd.C k28 w A0 l.length l) (hz0 : 0 ≤ z) (hz1 : z < (l.length : Int)) (hz2 : z < 1000000) (a1 a2 a3 : Int) (hk : 0 ≤ a3 ∧ a3 < 4294967296) (hi : rd_T28 l z = ⟨20, a1, a2, a3⟩)  (r : Int) (hr : doorwardref11_two.f 1 v.a a3 = some r) :
    Calls Try.prog 121 #[.agg (mL v z 0 false false).toArray, .slice A0 l.length c0, .string rec] w (StPost w z (.next ⟨r, v.x, v.cs⟩ 0)) := by
  have hu159 := Try.underlying159
  have hu28 := Try.underlying28
  have hu97 := Try.underlying97
  obtain ⟨ad, eA, hx0, hx1, hx2, hx3⟩ := at_T28 hC z hz0 hz1
  subst eA
  rw [hi] at hx0 hx1 hx2 hx3
  simp only at hx0 hx1 hx2 hx3
  have hy0 := fun o1 o2 => pw_cell_below (below_alloc (below_alloc (Below.refl w.heap.size w) o1) o2) hx0
  have HX0 := Aside0.mk hx0
  have HX1 := Aside0.mk hx1
  have HX2 := Aside0.mk hx2
  have HX3 := Aside0.mk hx3
  have HV := Aside0.mk hl
  have HV2 := Aside0.mk (show ((⟨r, v.x, v.cs⟩) : V).cs.length = 16 from hl)
  have h18 : (mL v z 0 false false).toArray[18]? = some (.int .i64 z) := by rw [getA]; exact mL_tail hl 0
  obtain ⟨Cs, hCs⟩ : ∃ Cs, (mL v z 0 false false).toArray = Cs := ⟨_, rfl⟩
  rw [hCs] at h18 ⊢
  have HCS := Aside0.mk hCs
  have hz4 : wrap64 (z + 1) = z + 1 := w64 _ (by omega) (by omega)
  have hd : decide (z < 0) = false := decide_eq_false (by omega)
  have hd2 : decide ((l.length : Int) ≤ z) = false := decide_eq_false (by omega)
  have HK := Aside0.mk (show ∀ W, Calls Try.prog 45 #[.int .i64 20] W fun e w' => e = .returned (.bool true) ∧ Drawn0 W w' from fun W => known_c 20 W)
  have HT := Aside0.mk (fun W => doorwardref11_two.calls 1 v.a a3 r W hr)
  clear hCs hl hC hi hx0 hx1 hx2 hx3
  go_enter Try.func121, Try.ntmps121
  go_upto_region 25 with (first | (go_at_call 45; refine (HK.out _).mono ?_; rintro e w1 ⟨rfl, hb0⟩; have hb := hb0.below; have HS := Aside0.mk (s0_new' HV.out HCS.out hb); clear hb hb0; have hlt := HS.out.M.lt; have k0 := HS.out.M.cA; have k1 := HS.out.M.cX; have k18 := HS.out.M.cAt; have k19 := HS.out.M.cOut; have k20 := HS.out.M.cDone; have k21 := HS.out.M.cWrong; have f0 := HS.out.M.free 0; have f18 := HS.out.M.free 18; have f19 := HS.out.M.free 19; have f20 := HS.out.M.free 20; have f21 := HS.out.M.free 21; have hx0 := pw_cell_below HS.out.B HX0.out; have hx1 := pw_cell_below HS.out.B HX1.out; have hx2 := pw_cell_below HS.out.B HX2.out; have hx3 := pw_cell_below HS.out.B HX3.out; have HMF := Aside0.mk ((HS.out.M.setAt (z + 1)).alloc (.cells #[.int .i64 20, .int .i64 a1, .int .i64 a2, .int .u32 a3] 28)); have HZF := Aside0.mk (blk_alloc (zfar HS.out.Z 18 (.int .i64 (z + 1))) (.cells #[.int .i64 20, .int .i64 a1, .int .i64 a2, .int .u32 a3] 28)); have HBF := Aside0.mk (below_alloc (HS.out.B.setCell (p := ⟨w.heap.size, 18, none⟩) (Nat.le_refl _) (.int .i64 (z + 1))) (.cells #[.int .i64 20, .int .i64 a1, .int .i64 a2, .int .u32 a3] 28)); clear h18 hy0) | (go_at_call 144; refine (HT.out _).mono ?_; rintro e w2 ⟨rfl, hb0⟩; have hb := hb0.below; have kA2 := (HMF.out.below hb).cA; have fA2 := (HMF.out.below hb).free 0; have HMF := Aside0.mk ((HMF.out.below hb).setA r); have HZF := Aside0.mk (zfar (blk_below HZF.out hb) 0 (.int .u32 r)); have HBF := Aside0.mk ((below_step HBF.out hb).setCell (p := ⟨w.heap.size, 0, none⟩) (Nat.le_refl _) (.int .u32 r)); clear hb hb0))
  go_wp2_with (first | ((with_reducible refine gate_dst (N := 100) rfl ?_); refine wpList_load_row rfl 159 (.tmp 3) rfl w.heap.size rfl 159 _ (0, 0) _ HMF.out.hW Try.underlying159 rfl (mL_size HV2.out _ _ _ _) ?_) | (refine wpList_store_row rfl 159 (.tmp 6) (.tmp 100) rfl (w.heap.size + 1) _ rfl rfl 159 _ HZF.out (mL_size HV2.out _ _ _ _) (by simp [mL_len (v := ⟨r, v.x, v.cs⟩) HV2.out, mL_len (v := z0) z_len]) (mL_one _ _ _ _ _) ?_))
  refine bodyPost_ret (v := .agg (mL (⟨r, v.x, v.cs⟩) (z + 1) (0) false false).toArray) (results_cell_row (p := 6) (by kernel_rfl) _ _ (w.heap.size + 1) 159 _ (0, 0) _ rfl (setRow_heap _ _ _ _ _ _ HZF.out) Try.underlying159 rfl (mL_size HV2.out _ _ _ _)) rfl ?_
  exact ⟨⟨r, v.x, v.cs⟩, z + 1, 0, false, false, rfl, HV2.out, below_setRow HBF.out (by omega) _, ⟨rfl, rfl, rfl, rfl, by show z + 1 = wrap64 (z + 1 + ((0 : Nat) : Int)); rw [show z + 1 + ((0 : Nat) : Int) = z + 1 by omega]; exact (w64 _ (by omega) (by omega)).symm⟩⟩
set_option maxHeartbeats 4000000 in
theorem st_two28 {w : World} {rec : ByteArray} {v : V} {l : List S28} {A0 : Option Addr} {c0 : Nat} (hl : v.cs.length = 16) (z : Int) (hC : Kd.C k28 w A0 l.length l) (hz0 : 0 ≤ z) (hz1 : z < (l.length : Int)) (hz2 : z < 1000000) (a1 a2 a3 : Int) (hk : 0 ≤ a3 ∧ a3 < 4294967296) (hi : rd_T28 l z = ⟨28, a1, a2, a3⟩)  (r : Int) (hr : doorwardref11_two.f 1 v.a v.x = some r) :
    Calls Try.prog 121 #[.agg (mL v z 0 false false).toArray, .slice A0 l.length c0, .string rec] w (StPost w z (.next ⟨r, v.x, v.cs⟩ 0)) := by
  have hu159 := Try.underlying159
  have hu28 := Try.underlying28
  have hu97 := Try.underlying97
  obtain ⟨ad, eA, hx0, hx1, hx2, hx3⟩ := at_T28 hC z hz0 hz1
  subst eA
  rw [hi] at hx0 hx1 hx2 hx3
  simp only at hx0 hx1 hx2 hx3
  have hy0 := fun o1 o2 => pw_cell_below (below_alloc (below_alloc (Below.refl w.heap.size w) o1) o2) hx0
  have HX0 := Aside0.mk hx0
  have HX1 := Aside0.mk hx1
  have HX2 := Aside0.mk hx2
  have HX3 := Aside0.mk hx3
  have HV := Aside0.mk hl
  have HV2 := Aside0.mk (show ((⟨r, v.x, v.cs⟩) : V).cs.length = 16 from hl)
  have h18 : (mL v z 0 false false).toArray[18]? = some (.int .i64 z) := by rw [getA]; exact mL_tail hl 0
  obtain ⟨Cs, hCs⟩ : ∃ Cs, (mL v z 0 false false).toArray = Cs := ⟨_, rfl⟩
  rw [hCs] at h18 ⊢
  have HCS := Aside0.mk hCs
  have hz4 : wrap64 (z + 1) = z + 1 := w64 _ (by omega) (by omega)
  have hd : decide (z < 0) = false := decide_eq_false (by omega)
  have hd2 : decide ((l.length : Int) ≤ z) = false := decide_eq_false (by omega)
  have HK := Aside0.mk (show ∀ W, Calls Try.prog 45 #[.int .i64 28] W fun e w' => e = .returned (.bool true) ∧ Drawn0 W w' from fun W => known_c 28 W)
  have HT := Aside0.mk (fun W => doorwardref11_two.calls 1 v.a v.x r W hr)
  clear hCs hl hC hi hx0 hx1 hx2 hx3
  go_enter Try.func121, Try.ntmps121
  go_upto_region 25 with (first | (go_at_call 45; refine (HK.out _).mono ?_; rintro e w1 ⟨rfl, hb0⟩; have hb := hb0.below; have HS := Aside0.mk (s0_new' HV.out HCS.out hb); clear hb hb0; have hlt := HS.out.M.lt; have k0 := HS.out.M.cA; have k1 := HS.out.M.cX; have k18 := HS.out.M.cAt; have k19 := HS.out.M.cOut; have k20 := HS.out.M.cDone; have k21 := HS.out.M.cWrong; have f0 := HS.out.M.free 0; have f18 := HS.out.M.free 18; have f19 := HS.out.M.free 19; have f20 := HS.out.M.free 20; have f21 := HS.out.M.free 21; have hx0 := pw_cell_below HS.out.B HX0.out; have hx1 := pw_cell_below HS.out.B HX1.out; have hx2 := pw_cell_below HS.out.B HX2.out; have hx3 := pw_cell_below HS.out.B HX3.out; have HMF := Aside0.mk ((HS.out.M.setAt (z + 1)).alloc (.cells #[.int .i64 28, .int .i64 a1, .int .i64 a2, .int .u32 a3] 28)); have HZF := Aside0.mk (blk_alloc (zfar HS.out.Z 18 (.int .i64 (z + 1))) (.cells #[.int .i64 28, .int .i64 a1, .int .i64 a2, .int .u32 a3] 28)); have HBF := Aside0.mk (below_alloc (HS.out.B.setCell (p := ⟨w.heap.size, 18, none⟩) (Nat.le_refl _) (.int .i64 (z + 1))) (.cells #[.int .i64 28, .int .i64 a1, .int .i64 a2, .int .u32 a3] 28)); clear h18 hy0) | (go_at_call 144; refine (HT.out _).mono ?_; rintro e w2 ⟨rfl, hb0⟩; have hb := hb0.below; have kA2 := (HMF.out.below hb).cA; have fA2 := (HMF.out.below hb).free 0; have HMF := Aside0.mk ((HMF.out.below hb).setA r); have HZF := Aside0.mk (zfar (blk_below HZF.out hb) 0 (.int .u32 r)); have HBF := Aside0.mk ((below_step HBF.out hb).setCell (p := ⟨w.heap.size, 0, none⟩) (Nat.le_refl _) (.int .u32 r)); clear hb hb0))
  go_wp2_with (first | ((with_reducible refine gate_dst (N := 100) rfl ?_); refine wpList_load_row rfl 159 (.tmp 3) rfl w.heap.size rfl 159 _ (0, 0) _ HMF.out.hW Try.underlying159 rfl (mL_size HV2.out _ _ _ _) ?_) | (refine wpList_store_row rfl 159 (.tmp 6) (.tmp 100) rfl (w.heap.size + 1) _ rfl rfl 159 _ HZF.out (mL_size HV2.out _ _ _ _) (by simp [mL_len (v := ⟨r, v.x, v.cs⟩) HV2.out, mL_len (v := z0) z_len]) (mL_one _ _ _ _ _) ?_))
  refine bodyPost_ret (v := .agg (mL (⟨r, v.x, v.cs⟩) (z + 1) (0) false false).toArray) (results_cell_row (p := 6) (by kernel_rfl) _ _ (w.heap.size + 1) 159 _ (0, 0) _ rfl (setRow_heap _ _ _ _ _ _ HZF.out) Try.underlying159 rfl (mL_size HV2.out _ _ _ _)) rfl ?_
  exact ⟨⟨r, v.x, v.cs⟩, z + 1, 0, false, false, rfl, HV2.out, below_setRow HBF.out (by omega) _, ⟨rfl, rfl, rfl, rfl, by show z + 1 = wrap64 (z + 1 + ((0 : Nat) : Int)); rw [show z + 1 + ((0 : Nat) : Int) = z + 1 by omega]; exact (w64 _ (by omega) (by omega)).symm⟩⟩
set_option maxHeartbeats 4000000 in
theorem st_two36 {w : World} {rec : ByteArray} {v : V} {l : List S28} {A0 : Option Addr} {c0 : Nat} (hl : v.cs.length = 16) (z : Int) (hC : Kd.C k28 w A0 l.length l) (hz0 : 0 ≤ z) (hz1 : z < (l.length : Int)) (hz2 : z < 1000000) (a1 a2 a3 : Int) (hk : 0 ≤ a3 ∧ a3 < 4294967296) (hi : rd_T28 l z = ⟨36, a1, a2, a3⟩)  (r : Int) (hr : doorwardref11_two.f 2 v.a a3 = some r) :
    Calls Try.prog 121 #[.agg (mL v z 0 false false).toArray, .slice A0 l.length c0, .string rec] w (StPost w z (.next ⟨r, v.x, v.cs⟩ 0)) := by
  have hu159 := Try.underlying159
  have hu28 := Try.underlying28
  have hu97 := Try.underlying97
  obtain ⟨ad, eA, hx0, hx1, hx2, hx3⟩ := at_T28 hC z hz0 hz1
  subst eA
  rw [hi] at hx0 hx1 hx2 hx3
  simp only at hx0 hx1 hx2 hx3
  have hy0 := fun o1 o2 => pw_cell_below (below_alloc (below_alloc (Below.refl w.heap.size w) o1) o2) hx0
  have HX0 := Aside0.mk hx0
  have HX1 := Aside0.mk hx1
  have HX2 := Aside0.mk hx2
  have HX3 := Aside0.mk hx3
  have HV := Aside0.mk hl
  have HV2 := Aside0.mk (show ((⟨r, v.x, v.cs⟩) : V).cs.length = 16 from hl)
  have h18 : (mL v z 0 false false).toArray[18]? = some (.int .i64 z) := by rw [getA]; exact mL_tail hl 0
  obtain ⟨Cs, hCs⟩ : ∃ Cs, (mL v z 0 false false).toArray = Cs := ⟨_, rfl⟩
  rw [hCs] at h18 ⊢
  have HCS := Aside0.mk hCs
  have hz4 : wrap64 (z + 1) = z + 1 := w64 _ (by omega) (by omega)
  have hd : decide (z < 0) = false := decide_eq_false (by omega)
  have hd2 : decide ((l.length : Int) ≤ z) = false := decide_eq_false (by omega)
  have HK := Aside0.mk (show ∀ W, Calls Try.prog 45 #[.int .i64 36] W fun e w' => e = .returned (.bool true) ∧ Drawn0 W w' from fun W => known_c 36 W)
  have HT := Aside0.mk (fun W => doorwardref11_two.calls 2 v.a a3 r W hr)
  clear hCs hl hC hi hx0 hx1 hx2 hx3
  go_enter Try.func121, Try.ntmps121
  go_upto_region 25 with (first | (go_at_call 45; refine (HK.out _).mono ?_; rintro e w1 ⟨rfl, hb0⟩; have hb := hb0.below; have HS := Aside0.mk (s0_new' HV.out HCS.out hb); clear hb hb0; have hlt := HS.out.M.lt; have k0 := HS.out.M.cA; have k1 := HS.out.M.cX; have k18 := HS.out.M.cAt; have k19 := HS.out.M.cOut; have k20 := HS.out.M.cDone; have k21 := HS.out.M.cWrong; have f0 := HS.out.M.free 0; have f18 := HS.out.M.free 18; have f19 := HS.out.M.free 19; have f20 := HS.out.M.free 20; have f21 := HS.out.M.free 21; have hx0 := pw_cell_below HS.out.B HX0.out; have hx1 := pw_cell_below HS.out.B HX1.out; have hx2 := pw_cell_below HS.out.B HX2.out; have hx3 := pw_cell_below HS.out.B HX3.out; have HMF := Aside0.mk ((HS.out.M.setAt (z + 1)).alloc (.cells #[.int .i64 36, .int .i64 a1, .int .i64 a2, .int .u32 a3] 28)); have HZF := Aside0.mk (blk_alloc (zfar HS.out.Z 18 (.int .i64 (z + 1))) (.cells #[.int .i64 36, .int .i64 a1, .int .i64 a2, .int .u32 a3] 28)); have HBF := Aside0.mk (below_alloc (HS.out.B.setCell (p := ⟨w.heap.size, 18, none⟩) (Nat.le_refl _) (.int .i64 (z + 1))) (.cells #[.int .i64 36, .int .i64 a1, .int .i64 a2, .int .u32 a3] 28)); clear h18 hy0) | (go_at_call 144; refine (HT.out _).mono ?_; rintro e w2 ⟨rfl, hb0⟩; have hb := hb0.below; have kA2 := (HMF.out.below hb).cA; have fA2 := (HMF.out.below hb).free 0; have HMF := Aside0.mk ((HMF.out.below hb).setA r); have HZF := Aside0.mk (zfar (blk_below HZF.out hb) 0 (.int .u32 r)); have HBF := Aside0.mk ((below_step HBF.out hb).setCell (p := ⟨w.heap.size, 0, none⟩) (Nat.le_refl _) (.int .u32 r)); clear hb hb0))
  go_wp2_with (first | ((with_reducible refine gate_dst (N := 100) rfl ?_); refine wpList_load_row rfl 159 (.tmp 3) rfl w.heap.size rfl 159 _ (0, 0) _ HMF.out.hW Try.underlying159 rfl (mL_size HV2.out _ _ _ _) ?_) | (refine wpList_store_row rfl 159 (.tmp 6) (.tmp 100) rfl (w.heap.size + 1) _ rfl rfl 159 _ HZF.out (mL_size HV2.out _ _ _ _) (by simp [mL_len (v := ⟨r, v.x, v.cs⟩) HV2.out, mL_len (v := z0) z_len]) (mL_one _ _ _ _ _) ?_))
  refine bodyPost_ret (v := .agg (mL (⟨r, v.x, v.cs⟩) (z + 1) (0) false false).toArray) (results_cell_row (p := 6) (by kernel_rfl) _ _ (w.heap.size + 1) 159 _ (0, 0) _ rfl (setRow_heap _ _ _ _ _ _ HZF.out) Try.underlying159 rfl (mL_size HV2.out _ _ _ _)) rfl ?_
  exact ⟨⟨r, v.x, v.cs⟩, z + 1, 0, false, false, rfl, HV2.out, below_setRow HBF.out (by omega) _, ⟨rfl, rfl, rfl, rfl, by show z + 1 = wrap64 (z + 1 + ((0 : Nat) : Int)); rw [show z + 1 + ((0 : Nat) : Int) = z + 1 by omega]; exact (w64 _ (by omega) (by omega)).symm⟩⟩
set_option maxHeartbeats 4000000 in
theorem st_two44 {w : World} {rec : ByteArray} {v : V} {l : List S28} {A0 : Option Addr} {c0 : Nat} (hl : v.cs.length = 16) (z : Int) (hC : Kd.C k28 w A0 l.length l) (hz0 : 0 ≤ z) (hz1 : z < (l.length : Int)) (hz2 : z < 1000000) (a1 a2 a3 : Int) (hk : 0 ≤ a3 ∧ a3 < 4294967296) (hi : rd_T28 l z = ⟨44, a1, a2, a3⟩)  (r : Int) (hr : doorwardref11_two.f 2 v.a v.x = some r) :
    Calls Try.prog 121 #[.agg (mL v z 0 false false).toArray, .slice A0 l.length c0, .string rec] w (StPost w z (.next ⟨r, v.x, v.cs⟩ 0)) := by
  have hu159 := Try.underlying159
  have hu28 := Try.underlying28
  have hu97 := Try.underlying97
  obtain ⟨ad, eA, hx0, hx1, hx2, hx3⟩ := at_T28 hC z hz0 hz1
  subst eA
  rw [hi] at hx0 hx1 hx2 hx3
  simp only at hx0 hx1 hx2 hx3
  have hy0 := fun o1 o2 => pw_cell_below (below_alloc (below_alloc (Below.refl w.heap.size w) o1) o2) hx0
  have HX0 := Aside0.mk hx0
  have HX1 := Aside0.mk hx1
  have HX2 := Aside0.mk hx2
  have HX3 := Aside0.mk hx3
  have HV := Aside0.mk hl
  have HV2 := Aside0.mk (show ((⟨r, v.x, v.cs⟩) : V).cs.length = 16 from hl)
  have h18 : (mL v z 0 false false).toArray[18]? = some (.int .i64 z) := by rw [getA]; exact mL_tail hl 0
  obtain ⟨Cs, hCs⟩ : ∃ Cs, (mL v z 0 false false).toArray = Cs := ⟨_, rfl⟩
  rw [hCs] at h18 ⊢
  have HCS := Aside0.mk hCs
  have hz4 : wrap64 (z + 1) = z + 1 := w64 _ (by omega) (by omega)
  have hd : decide (z < 0) = false := decide_eq_false (by omega)
  have hd2 : decide ((l.length : Int) ≤ z) = false := decide_eq_false (by omega)
  have HK := Aside0.mk (show ∀ W, Calls Try.prog 45 #[.int .i64 44] W fun e w' => e = .returned (.bool true) ∧ Drawn0 W w' from fun W => known_c 44 W)
  have HT := Aside0.mk (fun W => doorwardref11_two.calls 2 v.a v.x r W hr)
  clear hCs hl hC hi hx0 hx1 hx2 hx3
  go_enter Try.func121, Try.ntmps121
  go_upto_region 25 with (first | (go_at_call 45; refine (HK.out _).mono ?_; rintro e w1 ⟨rfl, hb0⟩; have hb := hb0.below; have HS := Aside0.mk (s0_new' HV.out HCS.out hb); clear hb hb0; have hlt := HS.out.M.lt; have k0 := HS.out.M.cA; have k1 := HS.out.M.cX; have k18 := HS.out.M.cAt; have k19 := HS.out.M.cOut; have k20 := HS.out.M.cDone; have k21 := HS.out.M.cWrong; have f0 := HS.out.M.free 0; have f18 := HS.out.M.free 18; have f19 := HS.out.M.free 19; have f20 := HS.out.M.free 20; have f21 := HS.out.M.free 21; have hx0 := pw_cell_below HS.out.B HX0.out; have hx1 := pw_cell_below HS.out.B HX1.out; have hx2 := pw_cell_below HS.out.B HX2.out; have hx3 := pw_cell_below HS.out.B HX3.out; have HMF := Aside0.mk ((HS.out.M.setAt (z + 1)).alloc (.cells #[.int .i64 44, .int .i64 a1, .int .i64 a2, .int .u32 a3] 28)); have HZF := Aside0.mk (blk_alloc (zfar HS.out.Z 18 (.int .i64 (z + 1))) (.cells #[.int .i64 44, .int .i64 a1, .int .i64 a2, .int .u32 a3] 28)); have HBF := Aside0.mk (below_alloc (HS.out.B.setCell (p := ⟨w.heap.size, 18, none⟩) (Nat.le_refl _) (.int .i64 (z + 1))) (.cells #[.int .i64 44, .int .i64 a1, .int .i64 a2, .int .u32 a3] 28)); clear h18 hy0) | (go_at_call 144; refine (HT.out _).mono ?_; rintro e w2 ⟨rfl, hb0⟩; have hb := hb0.below; have kA2 := (HMF.out.below hb).cA; have fA2 := (HMF.out.below hb).free 0; have HMF := Aside0.mk ((HMF.out.below hb).setA r); have HZF := Aside0.mk (zfar (blk_below HZF.out hb) 0 (.int .u32 r)); have HBF := Aside0.mk ((below_step HBF.out hb).setCell (p := ⟨w.heap.size, 0, none⟩) (Nat.le_refl _) (.int .u32 r)); clear hb hb0))
  go_wp2_with (first | ((with_reducible refine gate_dst (N := 100) rfl ?_); refine wpList_load_row rfl 159 (.tmp 3) rfl w.heap.size rfl 159 _ (0, 0) _ HMF.out.hW Try.underlying159 rfl (mL_size HV2.out _ _ _ _) ?_) | (refine wpList_store_row rfl 159 (.tmp 6) (.tmp 100) rfl (w.heap.size + 1) _ rfl rfl 159 _ HZF.out (mL_size HV2.out _ _ _ _) (by simp [mL_len (v := ⟨r, v.x, v.cs⟩) HV2.out, mL_len (v := z0) z_len]) (mL_one _ _ _ _ _) ?_))
  refine bodyPost_ret (v := .agg (mL (⟨r, v.x, v.cs⟩) (z + 1) (0) false false).toArray) (results_cell_row (p := 6) (by kernel_rfl) _ _ (w.heap.size + 1) 159 _ (0, 0) _ rfl (setRow_heap _ _ _ _ _ _ HZF.out) Try.underlying159 rfl (mL_size HV2.out _ _ _ _)) rfl ?_
  exact ⟨⟨r, v.x, v.cs⟩, z + 1, 0, false, false, rfl, HV2.out, below_setRow HBF.out (by omega) _, ⟨rfl, rfl, rfl, rfl, by show z + 1 = wrap64 (z + 1 + ((0 : Nat) : Int)); rw [show z + 1 + ((0 : Nat) : Int) = z + 1 by omega]; exact (w64 _ (by omega) (by omega)).symm⟩⟩
end Go.Proofs.Ytefkhcijgiagdaa.HMr
end
section
namespace Go.Proofs.Ytefkhcijgiagdaa.HMr
open Go.RowKit Go.Proofs.YtefkhcijgiagdaaW.PrintWords Go.Proofs.YtefkhcijgiagdaaW.PrintLast Go.Proofs.YtefkhcijgiagdaaW.PrintMore Go.Proofs.Ytefkhcijgiagdaa.HKnown Go.Proofs.Ytefkhcijgiagdaa.I1 Go.Proofs.Ytefkhcijgiagdaa.QVm Go.Proofs.Ytefkhcijgiagdaa.QLe Go.Proofs.Ytefkhcijgiagdaa.V0 Go.Proofs.Ytefkhcijgiagdaa.HVm Go.Proofs.Ytefkhcijgiagdaa.QIn
set_option linter.unusedVariables false
set_option linter.unusedSimpArgs false
set_option maxRecDepth 100000
set_option maxHeartbeats 4000000 in
theorem st_mov2 {w : World} {rec : ByteArray} {v : V} {l : List S28} {A0 : Option Addr} {c0 : Nat} (hl : v.cs.length = 16) (z : Int) (hC : Kd.C k28 w A0 l.length l) (hz0 : 0 ≤ z) (hz1 : z < (l.length : Int)) (hz2 : z < 1000000) (a1 a2 a3 : Int) (hk : 0 ≤ a3 ∧ a3 < 4294967296) (hi : rd_T28 l z = ⟨2, a1, a2, a3⟩)  (R0 : Option V) (hm : ∀ W, Calls Try.prog 147 #[.agg (mL v (z + 1) 0 false false).toArray, .agg #[.int .i64 2, .int .i64 a1, .int .i64 a2, .int .u32 a3], .string rec] W (MovPost W (z + 1) R0)) :
    Calls Try.prog 121 #[.agg (mL v z 0 false false).toArray, .slice A0 l.length c0, .string rec] w (StPost w z (memR R0)) := by
  have hu159 := Try.underlying159
  have hu28 := Try.underlying28
  have hu97 := Try.underlying97
  obtain ⟨ad, eA, hx0, hx1, hx2, hx3⟩ := at_T28 hC z hz0 hz1
  subst eA
  rw [hi] at hx0 hx1 hx2 hx3
  simp only at hx0 hx1 hx2 hx3
  have hy0 := fun o1 o2 => pw_cell_below (below_alloc (below_alloc (Below.refl w.heap.size w) o1) o2) hx0
  have HX0 := Aside0.mk hx0
  have HX1 := Aside0.mk hx1
  have HX2 := Aside0.mk hx2
  have HX3 := Aside0.mk hx3
  have HV := Aside0.mk hl
  have HV2 := Aside0.mk (show ((v) : V).cs.length = 16 from hl)
  have h18 : (mL v z 0 false false).toArray[18]? = some (.int .i64 z) := by rw [getA]; exact mL_tail hl 0
  obtain ⟨Cs, hCs⟩ : ∃ Cs, (mL v z 0 false false).toArray = Cs := ⟨_, rfl⟩
  rw [hCs] at h18 ⊢
  have HCS := Aside0.mk hCs
  have hz4 : wrap64 (z + 1) = z + 1 := w64 _ (by omega) (by omega)
  have hd : decide (z < 0) = false := decide_eq_false (by omega)
  have hd2 : decide ((l.length : Int) ≤ z) = false := decide_eq_false (by omega)
  have HK := Aside0.mk (show ∀ W, Calls Try.prog 45 #[.int .i64 2] W fun e w' => e = .returned (.bool true) ∧ Drawn0 W w' from fun W => known_c 2 W)
  have HMO := Aside0.mk hm
  clear hm
  clear hCs hl hC hi hx0 hx1 hx2 hx3
  go_enter Try.func121, Try.ntmps121
  go_upto_region 33 with (first | (go_at_call 45; refine (HK.out _).mono ?_; rintro e w1 ⟨rfl, hb0⟩; have hb := hb0.below; have HS := Aside0.mk (s0_new' HV.out HCS.out hb); clear hb hb0; have hlt := HS.out.M.lt; have k0 := HS.out.M.cA; have k1 := HS.out.M.cX; have k18 := HS.out.M.cAt; have k19 := HS.out.M.cOut; have k20 := HS.out.M.cDone; have k21 := HS.out.M.cWrong; have f0 := HS.out.M.free 0; have f18 := HS.out.M.free 18; have f19 := HS.out.M.free 19; have f20 := HS.out.M.free 20; have f21 := HS.out.M.free 21; have hx0 := pw_cell_below HS.out.B HX0.out; have hx1 := pw_cell_below HS.out.B HX1.out; have hx2 := pw_cell_below HS.out.B HX2.out; have hx3 := pw_cell_below HS.out.B HX3.out; have HMF := Aside0.mk ((HS.out.M.setAt (z + 1)).alloc (.cells #[.int .i64 2, .int .i64 a1, .int .i64 a2, .int .u32 a3] 28)); have HZF := Aside0.mk (blk_alloc (zfar HS.out.Z 18 (.int .i64 (z + 1))) (.cells #[.int .i64 2, .int .i64 a1, .int .i64 a2, .int .u32 a3] 28)); have HBF := Aside0.mk (below_alloc (HS.out.B.setCell (p := ⟨w.heap.size, 18, none⟩) (Nat.le_refl _) (.int .i64 (z + 1))) (.cells #[.int .i64 2, .int .i64 a1, .int .i64 a2, .int .u32 a3] 28)); clear h18 hy0))
  go_wp2_with (first | ((with_reducible refine gate_dst (N := 132) rfl ?_); refine wpList_load_row rfl 159 (.tmp 3) rfl w.heap.size rfl 159 _ (0, 0) _ HMF.out.hW Try.underlying159 rfl (mL_size HV2.out _ _ _ _) ?_) | (go_at_call 147; refine (HMO.out _).mono ?_; rintro e w2 ⟨v2, wr, rfl, hl2, hb, hmt⟩; have HL2 := Aside0.mk hl2; have HMT := Aside0.mk hmt; have HZF := Aside0.mk (blk_below HZF.out hb); have HBF := Aside0.mk (below_step HBF.out hb); clear hb hl2 hmt) | (refine wpList_store_row rfl 159 (.tmp 6) (.tmp 135) rfl (w.heap.size + 1) _ rfl rfl 159 _ HZF.out (mL_size HL2.out _ _ _ _) (by simp [mL_len HL2.out, mL_len (v := z0) z_len]) (mL_one _ _ _ _ _) ?_))
  refine bodyPost_ret (v := .agg (mL v2 (z + 1) 0 false wr).toArray) (results_cell_row (p := 6) (by kernel_rfl) _ _ (w.heap.size + 1) 159 _ (0, 0) _ rfl (setRow_heap _ _ _ _ _ _ HZF.out) Try.underlying159 rfl (mL_size HL2.out _ _ _ _)) rfl ?_
  refine ⟨v2, z + 1, 0, false, wr, rfl, HL2.out, below_setRow HBF.out (by omega) _, ?_⟩
  have h := HMT.out
  cases R0 with
  | none => exact h
  | some v' => exact ⟨h.1, rfl, rfl, h.2, by show z + 1 = wrap64 (z + 1 + ((0 : Nat) : Int)); rw [show z + 1 + ((0 : Nat) : Int) = z + 1 by omega]; exact (w64 _ (by omega) (by omega)).symm⟩
set_option maxHeartbeats 4000000 in
theorem st_mov3 {w : World} {rec : ByteArray} {v : V} {l : List S28} {A0 : Option Addr} {c0 : Nat} (hl : v.cs.length = 16) (z : Int) (hC : Kd.C k28 w A0 l.length l) (hz0 : 0 ≤ z) (hz1 : z < (l.length : Int)) (hz2 : z < 1000000) (a1 a2 a3 : Int) (hk : 0 ≤ a3 ∧ a3 < 4294967296) (hi : rd_T28 l z = ⟨3, a1, a2, a3⟩)  (R0 : Option V) (hm : ∀ W, Calls Try.prog 147 #[.agg (mL v (z + 1) 0 false false).toArray, .agg #[.int .i64 3, .int .i64 a1, .int .i64 a2, .int .u32 a3], .string rec] W (MovPost W (z + 1) R0)) :
    Calls Try.prog 121 #[.agg (mL v z 0 false false).toArray, .slice A0 l.length c0, .string rec] w (StPost w z (memR R0)) := by
  have hu159 := Try.underlying159
  have hu28 := Try.underlying28
  have hu97 := Try.underlying97
  obtain ⟨ad, eA, hx0, hx1, hx2, hx3⟩ := at_T28 hC z hz0 hz1
  subst eA
  rw [hi] at hx0 hx1 hx2 hx3
  simp only at hx0 hx1 hx2 hx3
  have hy0 := fun o1 o2 => pw_cell_below (below_alloc (below_alloc (Below.refl w.heap.size w) o1) o2) hx0
  have HX0 := Aside0.mk hx0
  have HX1 := Aside0.mk hx1
  have HX2 := Aside0.mk hx2
  have HX3 := Aside0.mk hx3
  have HV := Aside0.mk hl
  have HV2 := Aside0.mk (show ((v) : V).cs.length = 16 from hl)
  have h18 : (mL v z 0 false false).toArray[18]? = some (.int .i64 z) := by rw [getA]; exact mL_tail hl 0
  obtain ⟨Cs, hCs⟩ : ∃ Cs, (mL v z 0 false false).toArray = Cs := ⟨_, rfl⟩
  rw [hCs] at h18 ⊢
  have HCS := Aside0.mk hCs
  have hz4 : wrap64 (z + 1) = z + 1 := w64 _ (by omega) (by omega)
  have hd : decide (z < 0) = false := decide_eq_false (by omega)
  have hd2 : decide ((l.length : Int) ≤ z) = false := decide_eq_false (by omega)
  have HK := Aside0.mk (show ∀ W, Calls Try.prog 45 #[.int .i64 3] W fun e w' => e = .returned (.bool true) ∧ Drawn0 W w' from fun W => known_c 3 W)
  have HMO := Aside0.mk hm
  clear hm
  clear hCs hl hC hi hx0 hx1 hx2 hx3
  go_enter Try.func121, Try.ntmps121
  go_upto_region 33 with (first | (go_at_call 45; refine (HK.out _).mono ?_; rintro e w1 ⟨rfl, hb0⟩; have hb := hb0.below; have HS := Aside0.mk (s0_new' HV.out HCS.out hb); clear hb hb0; have hlt := HS.out.M.lt; have k0 := HS.out.M.cA; have k1 := HS.out.M.cX; have k18 := HS.out.M.cAt; have k19 := HS.out.M.cOut; have k20 := HS.out.M.cDone; have k21 := HS.out.M.cWrong; have f0 := HS.out.M.free 0; have f18 := HS.out.M.free 18; have f19 := HS.out.M.free 19; have f20 := HS.out.M.free 20; have f21 := HS.out.M.free 21; have hx0 := pw_cell_below HS.out.B HX0.out; have hx1 := pw_cell_below HS.out.B HX1.out; have hx2 := pw_cell_below HS.out.B HX2.out; have hx3 := pw_cell_below HS.out.B HX3.out; have HMF := Aside0.mk ((HS.out.M.setAt (z + 1)).alloc (.cells #[.int .i64 3, .int .i64 a1, .int .i64 a2, .int .u32 a3] 28)); have HZF := Aside0.mk (blk_alloc (zfar HS.out.Z 18 (.int .i64 (z + 1))) (.cells #[.int .i64 3, .int .i64 a1, .int .i64 a2, .int .u32 a3] 28)); have HBF := Aside0.mk (below_alloc (HS.out.B.setCell (p := ⟨w.heap.size, 18, none⟩) (Nat.le_refl _) (.int .i64 (z + 1))) (.cells #[.int .i64 3, .int .i64 a1, .int .i64 a2, .int .u32 a3] 28)); clear h18 hy0))
  go_wp2_with (first | ((with_reducible refine gate_dst (N := 132) rfl ?_); refine wpList_load_row rfl 159 (.tmp 3) rfl w.heap.size rfl 159 _ (0, 0) _ HMF.out.hW Try.underlying159 rfl (mL_size HV2.out _ _ _ _) ?_) | (go_at_call 147; refine (HMO.out _).mono ?_; rintro e w2 ⟨v2, wr, rfl, hl2, hb, hmt⟩; have HL2 := Aside0.mk hl2; have HMT := Aside0.mk hmt; have HZF := Aside0.mk (blk_below HZF.out hb); have HBF := Aside0.mk (below_step HBF.out hb); clear hb hl2 hmt) | (refine wpList_store_row rfl 159 (.tmp 6) (.tmp 135) rfl (w.heap.size + 1) _ rfl rfl 159 _ HZF.out (mL_size HL2.out _ _ _ _) (by simp [mL_len HL2.out, mL_len (v := z0) z_len]) (mL_one _ _ _ _ _) ?_))
  refine bodyPost_ret (v := .agg (mL v2 (z + 1) 0 false wr).toArray) (results_cell_row (p := 6) (by kernel_rfl) _ _ (w.heap.size + 1) 159 _ (0, 0) _ rfl (setRow_heap _ _ _ _ _ _ HZF.out) Try.underlying159 rfl (mL_size HL2.out _ _ _ _)) rfl ?_
  refine ⟨v2, z + 1, 0, false, wr, rfl, HL2.out, below_setRow HBF.out (by omega) _, ?_⟩
  have h := HMT.out
  cases R0 with
  | none => exact h
  | some v' => exact ⟨h.1, rfl, rfl, h.2, by show z + 1 = wrap64 (z + 1 + ((0 : Nat) : Int)); rw [show z + 1 + ((0 : Nat) : Int) = z + 1 by omega]; exact (w64 _ (by omega) (by omega)).symm⟩
set_option maxHeartbeats 4000000 in
theorem st_mov7 {w : World} {rec : ByteArray} {v : V} {l : List S28} {A0 : Option Addr} {c0 : Nat} (hl : v.cs.length = 16) (z : Int) (hC : Kd.C k28 w A0 l.length l) (hz0 : 0 ≤ z) (hz1 : z < (l.length : Int)) (hz2 : z < 1000000) (a1 a2 a3 : Int) (hk : 0 ≤ a3 ∧ a3 < 4294967296) (hi : rd_T28 l z = ⟨7, a1, a2, a3⟩)  (R0 : Option V) (hm : ∀ W, Calls Try.prog 147 #[.agg (mL v (z + 1) 0 false false).toArray, .agg #[.int .i64 7, .int .i64 a1, .int .i64 a2, .int .u32 a3], .string rec] W (MovPost W (z + 1) R0)) :
    Calls Try.prog 121 #[.agg (mL v z 0 false false).toArray, .slice A0 l.length c0, .string rec] w (StPost w z (memR R0)) := by
  have hu159 := Try.underlying159
  have hu28 := Try.underlying28
  have hu97 := Try.underlying97
  obtain ⟨ad, eA, hx0, hx1, hx2, hx3⟩ := at_T28 hC z hz0 hz1
  subst eA
  rw [hi] at hx0 hx1 hx2 hx3
  simp only at hx0 hx1 hx2 hx3
  have hy0 := fun o1 o2 => pw_cell_below (below_alloc (below_alloc (Below.refl w.heap.size w) o1) o2) hx0
  have HX0 := Aside0.mk hx0
  have HX1 := Aside0.mk hx1
  have HX2 := Aside0.mk hx2
  have HX3 := Aside0.mk hx3
  have HV := Aside0.mk hl
  have HV2 := Aside0.mk (show ((v) : V).cs.length = 16 from hl)
  have h18 : (mL v z 0 false false).toArray[18]? = some (.int .i64 z) := by rw [getA]; exact mL_tail hl 0
  obtain ⟨Cs, hCs⟩ : ∃ Cs, (mL v z 0 false false).toArray = Cs := ⟨_, rfl⟩
  rw [hCs] at h18 ⊢
  have HCS := Aside0.mk hCs
  have hz4 : wrap64 (z + 1) = z + 1 := w64 _ (by omega) (by omega)
  have hd : decide (z < 0) = false := decide_eq_false (by omega)
  have hd2 : decide ((l.length : Int) ≤ z) = false := decide_eq_false (by omega)
  have HK := Aside0.mk (show ∀ W, Calls Try.prog 45 #[.int .i64 7] W fun e w' => e = .returned (.bool true) ∧ Drawn0 W w' from fun W => known_c 7 W)
  have HMO := Aside0.mk hm
  clear hm
  clear hCs hl hC hi hx0 hx1 hx2 hx3
  go_enter Try.func121, Try.ntmps121
  go_upto_region 33 with (first | (go_at_call 45; refine (HK.out _).mono ?_; rintro e w1 ⟨rfl, hb0⟩; have hb := hb0.below; have HS := Aside0.mk (s0_new' HV.out HCS.out hb); clear hb hb0; have hlt := HS.out.M.lt; have k0 := HS.out.M.cA; have k1 := HS.out.M.cX; have k18 := HS.out.M.cAt; have k19 := HS.out.M.cOut; have k20 := HS.out.M.cDone; have k21 := HS.out.M.cWrong; have f0 := HS.out.M.free 0; have f18 := HS.out.M.free 18; have f19 := HS.out.M.free 19; have f20 := HS.out.M.free 20; have f21 := HS.out.M.free 21; have hx0 := pw_cell_below HS.out.B HX0.out; have hx1 := pw_cell_below HS.out.B HX1.out; have hx2 := pw_cell_below HS.out.B HX2.out; have hx3 := pw_cell_below HS.out.B HX3.out; have HMF := Aside0.mk ((HS.out.M.setAt (z + 1)).alloc (.cells #[.int .i64 7, .int .i64 a1, .int .i64 a2, .int .u32 a3] 28)); have HZF := Aside0.mk (blk_alloc (zfar HS.out.Z 18 (.int .i64 (z + 1))) (.cells #[.int .i64 7, .int .i64 a1, .int .i64 a2, .int .u32 a3] 28)); have HBF := Aside0.mk (below_alloc (HS.out.B.setCell (p := ⟨w.heap.size, 18, none⟩) (Nat.le_refl _) (.int .i64 (z + 1))) (.cells #[.int .i64 7, .int .i64 a1, .int .i64 a2, .int .u32 a3] 28)); clear h18 hy0))
  go_wp2_with (first | ((with_reducible refine gate_dst (N := 132) rfl ?_); refine wpList_load_row rfl 159 (.tmp 3) rfl w.heap.size rfl 159 _ (0, 0) _ HMF.out.hW Try.underlying159 rfl (mL_size HV2.out _ _ _ _) ?_) | (go_at_call 147; refine (HMO.out _).mono ?_; rintro e w2 ⟨v2, wr, rfl, hl2, hb, hmt⟩; have HL2 := Aside0.mk hl2; have HMT := Aside0.mk hmt; have HZF := Aside0.mk (blk_below HZF.out hb); have HBF := Aside0.mk (below_step HBF.out hb); clear hb hl2 hmt) | (refine wpList_store_row rfl 159 (.tmp 6) (.tmp 135) rfl (w.heap.size + 1) _ rfl rfl 159 _ HZF.out (mL_size HL2.out _ _ _ _) (by simp [mL_len HL2.out, mL_len (v := z0) z_len]) (mL_one _ _ _ _ _) ?_))
  refine bodyPost_ret (v := .agg (mL v2 (z + 1) 0 false wr).toArray) (results_cell_row (p := 6) (by kernel_rfl) _ _ (w.heap.size + 1) 159 _ (0, 0) _ rfl (setRow_heap _ _ _ _ _ _ HZF.out) Try.underlying159 rfl (mL_size HL2.out _ _ _ _)) rfl ?_
  refine ⟨v2, z + 1, 0, false, wr, rfl, HL2.out, below_setRow HBF.out (by omega) _, ?_⟩
  have h := HMT.out
  cases R0 with
  | none => exact h
  | some v' => exact ⟨h.1, rfl, rfl, h.2, by show z + 1 = wrap64 (z + 1 + ((0 : Nat) : Int)); rw [show z + 1 + ((0 : Nat) : Int) = z + 1 by omega]; exact (w64 _ (by omega) (by omega)).symm⟩
set_option maxHeartbeats 4000000 in
theorem st_mov135 {w : World} {rec : ByteArray} {v : V} {l : List S28} {A0 : Option Addr} {c0 : Nat} (hl : v.cs.length = 16) (z : Int) (hC : Kd.C k28 w A0 l.length l) (hz0 : 0 ≤ z) (hz1 : z < (l.length : Int)) (hz2 : z < 1000000) (a1 a2 a3 : Int) (hk : 0 ≤ a3 ∧ a3 < 4294967296) (hi : rd_T28 l z = ⟨135, a1, a2, a3⟩)  (R0 : Option V) (hm : ∀ W, Calls Try.prog 147 #[.agg (mL v (z + 1) 0 false false).toArray, .agg #[.int .i64 135, .int .i64 a1, .int .i64 a2, .int .u32 a3], .string rec] W (MovPost W (z + 1) R0)) :
    Calls Try.prog 121 #[.agg (mL v z 0 false false).toArray, .slice A0 l.length c0, .string rec] w (StPost w z (memR R0)) := by
  have hu159 := Try.underlying159
  have hu28 := Try.underlying28
  have hu97 := Try.underlying97
  obtain ⟨ad, eA, hx0, hx1, hx2, hx3⟩ := at_T28 hC z hz0 hz1
  subst eA
  rw [hi] at hx0 hx1 hx2 hx3
  simp only at hx0 hx1 hx2 hx3
  have hy0 := fun o1 o2 => pw_cell_below (below_alloc (below_alloc (Below.refl w.heap.size w) o1) o2) hx0
  have HX0 := Aside0.mk hx0
  have HX1 := Aside0.mk hx1
  have HX2 := Aside0.mk hx2
  have HX3 := Aside0.mk hx3
  have HV := Aside0.mk hl
  have HV2 := Aside0.mk (show ((v) : V).cs.length = 16 from hl)
  have h18 : (mL v z 0 false false).toArray[18]? = some (.int .i64 z) := by rw [getA]; exact mL_tail hl 0
  obtain ⟨Cs, hCs⟩ : ∃ Cs, (mL v z 0 false false).toArray = Cs := ⟨_, rfl⟩
  rw [hCs] at h18 ⊢
  have HCS := Aside0.mk hCs
  have hz4 : wrap64 (z + 1) = z + 1 := w64 _ (by omega) (by omega)
  have hd : decide (z < 0) = false := decide_eq_false (by omega)
  have hd2 : decide ((l.length : Int) ≤ z) = false := decide_eq_false (by omega)
  have HK := Aside0.mk (show ∀ W, Calls Try.prog 45 #[.int .i64 135] W fun e w' => e = .returned (.bool true) ∧ Drawn0 W w' from fun W => known_c 135 W)
  have HMO := Aside0.mk hm
  clear hm
  clear hCs hl hC hi hx0 hx1 hx2 hx3
  go_enter Try.func121, Try.ntmps121
  go_upto_region 33 with (first | (go_at_call 45; refine (HK.out _).mono ?_; rintro e w1 ⟨rfl, hb0⟩; have hb := hb0.below; have HS := Aside0.mk (s0_new' HV.out HCS.out hb); clear hb hb0; have hlt := HS.out.M.lt; have k0 := HS.out.M.cA; have k1 := HS.out.M.cX; have k18 := HS.out.M.cAt; have k19 := HS.out.M.cOut; have k20 := HS.out.M.cDone; have k21 := HS.out.M.cWrong; have f0 := HS.out.M.free 0; have f18 := HS.out.M.free 18; have f19 := HS.out.M.free 19; have f20 := HS.out.M.free 20; have f21 := HS.out.M.free 21; have hx0 := pw_cell_below HS.out.B HX0.out; have hx1 := pw_cell_below HS.out.B HX1.out; have hx2 := pw_cell_below HS.out.B HX2.out; have hx3 := pw_cell_below HS.out.B HX3.out; have HMF := Aside0.mk ((HS.out.M.setAt (z + 1)).alloc (.cells #[.int .i64 135, .int .i64 a1, .int .i64 a2, .int .u32 a3] 28)); have HZF := Aside0.mk (blk_alloc (zfar HS.out.Z 18 (.int .i64 (z + 1))) (.cells #[.int .i64 135, .int .i64 a1, .int .i64 a2, .int .u32 a3] 28)); have HBF := Aside0.mk (below_alloc (HS.out.B.setCell (p := ⟨w.heap.size, 18, none⟩) (Nat.le_refl _) (.int .i64 (z + 1))) (.cells #[.int .i64 135, .int .i64 a1, .int .i64 a2, .int .u32 a3] 28)); clear h18 hy0))
  go_wp2_with (first | ((with_reducible refine gate_dst (N := 132) rfl ?_); refine wpList_load_row rfl 159 (.tmp 3) rfl w.heap.size rfl 159 _ (0, 0) _ HMF.out.hW Try.underlying159 rfl (mL_size HV2.out _ _ _ _) ?_) | (go_at_call 147; refine (HMO.out _).mono ?_; rintro e w2 ⟨v2, wr, rfl, hl2, hb, hmt⟩; have HL2 := Aside0.mk hl2; have HMT := Aside0.mk hmt; have HZF := Aside0.mk (blk_below HZF.out hb); have HBF := Aside0.mk (below_step HBF.out hb); clear hb hl2 hmt) | (refine wpList_store_row rfl 159 (.tmp 6) (.tmp 135) rfl (w.heap.size + 1) _ rfl rfl 159 _ HZF.out (mL_size HL2.out _ _ _ _) (by simp [mL_len HL2.out, mL_len (v := z0) z_len]) (mL_one _ _ _ _ _) ?_))
  refine bodyPost_ret (v := .agg (mL v2 (z + 1) 0 false wr).toArray) (results_cell_row (p := 6) (by kernel_rfl) _ _ (w.heap.size + 1) 159 _ (0, 0) _ rfl (setRow_heap _ _ _ _ _ _ HZF.out) Try.underlying159 rfl (mL_size HL2.out _ _ _ _)) rfl ?_
  refine ⟨v2, z + 1, 0, false, wr, rfl, HL2.out, below_setRow HBF.out (by omega) _, ?_⟩
  have h := HMT.out
  cases R0 with
  | none => exact h
  | some v' => exact ⟨h.1, rfl, rfl, h.2, by show z + 1 = wrap64 (z + 1 + ((0 : Nat) : Int)); rw [show z + 1 + ((0 : Nat) : Int) = z + 1 by omega]; exact (w64 _ (by omega) (by omega)).symm⟩
end Go.Proofs.Ytefkhcijgiagdaa.HMr
end
