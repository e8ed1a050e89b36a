/- VmRuns: what any filter returns of any record, in how many steps, or that it goes wrong, is as the document says. -/
import Derived.Test.YtefkhcijgiagdaaZVmRuns1
section
namespace Go.Proofs.Ytefkhcijgiagdaa.HMr
open Go.RowKit Go.Proofs.YtefkhcijgiagdaaW.PrintWords Go.Proofs.YtefkhcijgiagdaaW.PrintLast Go.Proofs.YtefkhcijgiagdaaW.PrintMore Go.Proofs.Ytefkhcijgiagdaa.HKnown Go.Proofs.Ytefkhcijgiagdaa.I1 Go.Proofs.Ytefkhcijgiagdaa.QVm Go.Proofs.Ytefkhcijgiagdaa.QLe Go.Proofs.Ytefkhcijgiagdaa.V0 Go.Proofs.Ytefkhcijgiagdaa.HVm Go.Proofs.Ytefkhcijgiagdaa.QIn
set_option linter.unusedVariables false
set_option linter.unusedSimpArgs false
set_option maxRecDepth 100000
set_option maxHeartbeats 4000000 in
theorem st_unk {w : World} {rec : ByteArray} {v : V} {l : List S28} {A0 : Option Addr} {c0 : Nat} (hl : v.cs.length = 16) (z : Int) (hC : Kd.C k28 w A0 l.length l) (hz0 : 0 ≤ z) (hz1 : z < (l.length : Int)) (hz2 : z < 1000000) (i : S28) (hi : rd_T28 l z = i) (hkn : knownB i.f0 = false) :
    Calls Try.prog 121 #[.agg (mL v z 0 false false).toArray, .slice A0 l.length c0, .string rec] w (StPost w z (.bad)) := by
  have hu159 := Try.underlying159
  have hu28 := Try.underlying28
  have hu97 := Try.underlying97
  obtain ⟨ad, eA, hx0, hx1, hx2, hx3⟩ := at_T28 hC z hz0 hz1
  subst eA
  rw [hi] at hx0 hx1 hx2 hx3
  have hy0 := fun o1 o2 => pw_cell_below (below_alloc (below_alloc (Below.refl w.heap.size w) o1) o2) hx0
  have HX0 := Aside0.mk hx0
  have HX1 := Aside0.mk hx1
  have HX2 := Aside0.mk hx2
  have HX3 := Aside0.mk hx3
  have HV := Aside0.mk hl
  have HV2 := Aside0.mk (show ((v) : V).cs.length = 16 from hl)
  have h18 : (mL v z 0 false false).toArray[18]? = some (.int .i64 z) := by rw [getA]; exact mL_tail hl 0
  obtain ⟨Cs, hCs⟩ : ∃ Cs, (mL v z 0 false false).toArray = Cs := ⟨_, rfl⟩
  rw [hCs] at h18 ⊢
  have HCS := Aside0.mk hCs
  have hz4 : wrap64 (z + 1) = z + 1 := w64 _ (by omega) (by omega)
  have hd : decide (z < 0) = false := decide_eq_false (by omega)
  have hd2 : decide ((l.length : Int) ≤ z) = false := decide_eq_false (by omega)
  have HK := Aside0.mk (fun W => hkn ▸ known_c i.f0 W)
  clear hCs hl hC hkn hi hx0 hx1 hx2 hx3
  go_enter Try.func121, Try.ntmps121
  go_wp2_with (first | (go_at_call 45; refine (HK.out _).mono ?_; rintro e w1 ⟨rfl, hb0⟩; have hb := hb0.below; have HS := Aside0.mk (s0_new' HV.out HCS.out hb); clear hb hb0; have hlt := HS.out.M.lt; have k0 := HS.out.M.cA; have k1 := HS.out.M.cX; have k18 := HS.out.M.cAt; have k19 := HS.out.M.cOut; have k20 := HS.out.M.cDone; have k21 := HS.out.M.cWrong; have f0 := HS.out.M.free 0; have f18 := HS.out.M.free 18; have f19 := HS.out.M.free 19; have f20 := HS.out.M.free 20; have f21 := HS.out.M.free 21; have hx0 := pw_cell_below HS.out.B HX0.out; have hx1 := pw_cell_below HS.out.B HX1.out; have hx2 := pw_cell_below HS.out.B HX2.out; have hx3 := pw_cell_below HS.out.B HX3.out; have HMF := Aside0.mk (HS.out.M.setWrong true); have HZF := Aside0.mk (zfar HS.out.Z 21 (.bool true)); have HBF := Aside0.mk (HS.out.B.setCell (p := ⟨w.heap.size, 21, none⟩) (Nat.le_refl _) (.bool true)); clear h18 hy0) | ((with_reducible refine gate_dst (N := 32) rfl ?_); refine wpList_load_row rfl 159 (.tmp 3) rfl w.heap.size rfl 159 _ (0, 0) _ HMF.out.hW Try.underlying159 rfl (mL_size HV2.out _ _ _ _) ?_) | (refine wpList_store_row rfl 159 (.tmp 6) (.tmp 32) rfl (w.heap.size + 1) _ rfl rfl 159 _ HZF.out (mL_size HV2.out _ _ _ _) (by simp [mL_len (v := v) HV2.out, mL_len (v := z0) z_len]) (mL_one _ _ _ _ _) ?_))
  refine bodyPost_ret (v := .agg (mL (v) (z) (0) false true).toArray) (results_cell_row (p := 6) (by kernel_rfl) _ _ (w.heap.size + 1) 159 _ (0, 0) _ rfl (setRow_heap _ _ _ _ _ _ HZF.out) Try.underlying159 rfl (mL_size HV2.out _ _ _ _)) rfl ?_
  exact ⟨v, z, 0, false, true, rfl, HV2.out, below_setRow HBF.out (by omega) _, rfl⟩
end Go.Proofs.Ytefkhcijgiagdaa.HMr
end
section
namespace Go.Proofs.Ytefkhcijgiagdaa.HMr
open Go.RowKit Go.Proofs.YtefkhcijgiagdaaW.PrintWords Go.Proofs.YtefkhcijgiagdaaW.PrintLast Go.Proofs.YtefkhcijgiagdaaW.PrintMore Go.Proofs.Ytefkhcijgiagdaa.HKnown Go.Proofs.Ytefkhcijgiagdaa.I1 Go.Proofs.Ytefkhcijgiagdaa.QVm Go.Proofs.Ytefkhcijgiagdaa.QLe Go.Proofs.Ytefkhcijgiagdaa.V0 Go.Proofs.Ytefkhcijgiagdaa.HVm Go.Proofs.Ytefkhcijgiagdaa.QIn
set_option linter.unusedVariables false
set_option linter.unusedSimpArgs false
set_option maxRecDepth 100000
set_option maxHeartbeats 4000000 in
theorem st_two116 {w : World} {rec : ByteArray} {v : V} {l : List S28} {A0 : Option Addr} {c0 : Nat} (hl : v.cs.length = 16) (z : Int) (hC : Kd.C k28 w A0 l.length l) (hz0 : 0 ≤ z) (hz1 : z < (l.length : Int)) (hz2 : z < 1000000) (a1 a2 a3 : Int) (hk : 0 ≤ a3 ∧ a3 < 4294967296) (hi : rd_T28 l z = ⟨116, a1, a2, a3⟩)  (r : Int) (hr : doorwardref11_two.f 7 v.a a3 = some r) :
    Calls Try.prog 121 #[.agg (mL v z 0 false false).toArray, .slice A0 l.length c0, .string rec] w (StPost w z (.next ⟨r, v.x, v.cs⟩ 0)) := by
  have hu159 := Try.underlying159
  have hu28 := Try.underlying28
  have hu97 := Try.underlying97
  obtain ⟨ad, eA, hx0, hx1, hx2, hx3⟩ := at_T28 hC z hz0 hz1
  subst eA
  rw [hi] at hx0 hx1 hx2 hx3
  simp only at hx0 hx1 hx2 hx3
  have hy0 := fun o1 o2 => pw_cell_below (below_alloc (below_alloc (Below.refl w.heap.size w) o1) o2) hx0
  have HX0 := Aside0.mk hx0
  have HX1 := Aside0.mk hx1
  have HX2 := Aside0.mk hx2
  have HX3 := Aside0.mk hx3
  have HV := Aside0.mk hl
  have HV2 := Aside0.mk (show ((⟨r, v.x, v.cs⟩) : V).cs.length = 16 from hl)
  have h18 : (mL v z 0 false false).toArray[18]? = some (.int .i64 z) := by rw [getA]; exact mL_tail hl 0
  obtain ⟨Cs, hCs⟩ : ∃ Cs, (mL v z 0 false false).toArray = Cs := ⟨_, rfl⟩
  rw [hCs] at h18 ⊢
  have HCS := Aside0.mk hCs
  have hz4 : wrap64 (z + 1) = z + 1 := w64 _ (by omega) (by omega)
  have hd : decide (z < 0) = false := decide_eq_false (by omega)
  have hd2 : decide ((l.length : Int) ≤ z) = false := decide_eq_false (by omega)
  have HK := Aside0.mk (show ∀ W, Calls Try.prog 45 #[.int .i64 116] W fun e w' => e = .returned (.bool true) ∧ Drawn0 W w' from fun W => known_c 116 W)
  have HT := Aside0.mk (fun W => doorwardref11_two.calls 7 v.a a3 r W hr)
  clear hCs hl hC hi hx0 hx1 hx2 hx3
  go_enter Try.func121, Try.ntmps121
  go_upto_region 25 with (first | (go_at_call 45; refine (HK.out _).mono ?_; rintro e w1 ⟨rfl, hb0⟩; have hb := hb0.below; have HS := Aside0.mk (s0_new' HV.out HCS.out hb); clear hb hb0; have hlt := HS.out.M.lt; have k0 := HS.out.M.cA; have k1 := HS.out.M.cX; have k18 := HS.out.M.cAt; have k19 := HS.out.M.cOut; have k20 := HS.out.M.cDone; have k21 := HS.out.M.cWrong; have f0 := HS.out.M.free 0; have f18 := HS.out.M.free 18; have f19 := HS.out.M.free 19; have f20 := HS.out.M.free 20; have f21 := HS.out.M.free 21; have hx0 := pw_cell_below HS.out.B HX0.out; have hx1 := pw_cell_below HS.out.B HX1.out; have hx2 := pw_cell_below HS.out.B HX2.out; have hx3 := pw_cell_below HS.out.B HX3.out; have HMF := Aside0.mk ((HS.out.M.setAt (z + 1)).alloc (.cells #[.int .i64 116, .int .i64 a1, .int .i64 a2, .int .u32 a3] 28)); have HZF := Aside0.mk (blk_alloc (zfar HS.out.Z 18 (.int .i64 (z + 1))) (.cells #[.int .i64 116, .int .i64 a1, .int .i64 a2, .int .u32 a3] 28)); have HBF := Aside0.mk (below_alloc (HS.out.B.setCell (p := ⟨w.heap.size, 18, none⟩) (Nat.le_refl _) (.int .i64 (z + 1))) (.cells #[.int .i64 116, .int .i64 a1, .int .i64 a2, .int .u32 a3] 28)); clear h18 hy0) | (go_at_call 144; refine (HT.out _).mono ?_; rintro e w2 ⟨rfl, hb0⟩; have hb := hb0.below; have kA2 := (HMF.out.below hb).cA; have fA2 := (HMF.out.below hb).free 0; have HMF := Aside0.mk ((HMF.out.below hb).setA r); have HZF := Aside0.mk (zfar (blk_below HZF.out hb) 0 (.int .u32 r)); have HBF := Aside0.mk ((below_step HBF.out hb).setCell (p := ⟨w.heap.size, 0, none⟩) (Nat.le_refl _) (.int .u32 r)); clear hb hb0))
  go_wp2_with (first | ((with_reducible refine gate_dst (N := 100) rfl ?_); refine wpList_load_row rfl 159 (.tmp 3) rfl w.heap.size rfl 159 _ (0, 0) _ HMF.out.hW Try.underlying159 rfl (mL_size HV2.out _ _ _ _) ?_) | (refine wpList_store_row rfl 159 (.tmp 6) (.tmp 100) rfl (w.heap.size + 1) _ rfl rfl 159 _ HZF.out (mL_size HV2.out _ _ _ _) (by simp [mL_len (v := ⟨r, v.x, v.cs⟩) HV2.out, mL_len (v := z0) z_len]) (mL_one _ _ _ _ _) ?_))
  refine bodyPost_ret (v := .agg (mL (⟨r, v.x, v.cs⟩) (z + 1) (0) false false).toArray) (results_cell_row (p := 6) (by kernel_rfl) _ _ (w.heap.size + 1) 159 _ (0, 0) _ rfl (setRow_heap _ _ _ _ _ _ HZF.out) Try.underlying159 rfl (mL_size HV2.out _ _ _ _)) rfl ?_
  exact ⟨⟨r, v.x, v.cs⟩, z + 1, 0, false, false, rfl, HV2.out, below_setRow HBF.out (by omega) _, ⟨rfl, rfl, rfl, rfl, by show z + 1 = wrap64 (z + 1 + ((0 : Nat) : Int)); rw [show z + 1 + ((0 : Nat) : Int) = z + 1 by omega]; exact (w64 _ (by omega) (by omega)).symm⟩⟩
set_option maxHeartbeats 4000000 in
theorem st_two124 {w : World} {rec : ByteArray} {v : V} {l : List S28} {A0 : Option Addr} {c0 : Nat} (hl : v.cs.length = 16) (z : Int) (hC : Kd.C k28 w A0 l.length l) (hz0 : 0 ≤ z) (hz1 : z < (l.length : Int)) (hz2 : z < 1000000) (a1 a2 a3 : Int) (hk : 0 ≤ a3 ∧ a3 < 4294967296) (hi : rd_T28 l z = ⟨124, a1, a2, a3⟩)  (r : Int) (hr : doorwardref11_two.f 7 v.a v.x = some r) :
    Calls Try.prog 121 #[.agg (mL v z 0 false false).toArray, .slice A0 l.length c0, .string rec] w (StPost w z (.next ⟨r, v.x, v.cs⟩ 0)) := by
  have hu159 := Try.underlying159
  have hu28 := Try.underlying28
  have hu97 := Try.underlying97
  obtain ⟨ad, eA, hx0, hx1, hx2, hx3⟩ := at_T28 hC z hz0 hz1
  subst eA
  rw [hi] at hx0 hx1 hx2 hx3
  simp only at hx0 hx1 hx2 hx3
  have hy0 := fun o1 o2 => pw_cell_below (below_alloc (below_alloc (Below.refl w.heap.size w) o1) o2) hx0
  have HX0 := Aside0.mk hx0
  have HX1 := Aside0.mk hx1
  have HX2 := Aside0.mk hx2
  have HX3 := Aside0.mk hx3
  have HV := Aside0.mk hl
  have HV2 := Aside0.mk (show ((⟨r, v.x, v.cs⟩) : V).cs.length = 16 from hl)
  have h18 : (mL v z 0 false false).toArray[18]? = some (.int .i64 z) := by rw [getA]; exact mL_tail hl 0
  obtain ⟨Cs, hCs⟩ : ∃ Cs, (mL v z 0 false false).toArray = Cs := ⟨_, rfl⟩
  rw [hCs] at h18 ⊢
  have HCS := Aside0.mk hCs
  have hz4 : wrap64 (z + 1) = z + 1 := w64 _ (by omega) (by omega)
  have hd : decide (z < 0) = false := decide_eq_false (by omega)
  have hd2 : decide ((l.length : Int) ≤ z) = false := decide_eq_false (by omega)
  have HK := Aside0.mk (show ∀ W, Calls Try.prog 45 #[.int .i64 124] W fun e w' => e = .returned (.bool true) ∧ Drawn0 W w' from fun W => known_c 124 W)
  have HT := Aside0.mk (fun W => doorwardref11_two.calls 7 v.a v.x r W hr)
  clear hCs hl hC hi hx0 hx1 hx2 hx3
  go_enter Try.func121, Try.ntmps121
  go_upto_region 25 with (first | (go_at_call 45; refine (HK.out _).mono ?_; rintro e w1 ⟨rfl, hb0⟩; have hb := hb0.below; have HS := Aside0.mk (s0_new' HV.out HCS.out hb); clear hb hb0; have hlt := HS.out.M.lt; have k0 := HS.out.M.cA; have k1 := HS.out.M.cX; have k18 := HS.out.M.cAt; have k19 := HS.out.M.cOut; have k20 := HS.out.M.cDone; have k21 := HS.out.M.cWrong; have f0 := HS.out.M.free 0; have f18 := HS.out.M.free 18; have f19 := HS.out.M.free 19; have f20 := HS.out.M.free 20; have f21 := HS.out.M.free 21; have hx0 := pw_cell_below HS.out.B HX0.out; have hx1 := pw_cell_below HS.out.B HX1.out; have hx2 := pw_cell_below HS.out.B HX2.out; have hx3 := pw_cell_below HS.out.B HX3.out; have HMF := Aside0.mk ((HS.out.M.setAt (z + 1)).alloc (.cells #[.int .i64 124, .int .i64 a1, .int .i64 a2, .int .u32 a3] 28)); have HZF := Aside0.mk (blk_alloc (zfar HS.out.Z 18 (.int .i64 (z + 1))) (.cells #[.int .i64 124, .int .i64 a1, .int .i64 a2, .int .u32 a3] 28)); have HBF := Aside0.mk (below_alloc (HS.out.B.setCell (p := ⟨w.heap.size, 18, none⟩) (Nat.le_refl _) (.int .i64 (z + 1))) (.cells #[.int .i64 124, .int .i64 a1, .int .i64 a2, .int .u32 a3] 28)); clear h18 hy0) | (go_at_call 144; refine (HT.out _).mono ?_; rintro e w2 ⟨rfl, hb0⟩; have hb := hb0.below; have kA2 := (HMF.out.below hb).cA; have fA2 := (HMF.out.below hb).free 0; have HMF := Aside0.mk ((HMF.out.below hb).setA r); have HZF := Aside0.mk (zfar (blk_below HZF.out hb) 0 (.int .u32 r)); have HBF := Aside0.mk ((below_step HBF.out hb).setCell (p := ⟨w.heap.size, 0, none⟩) (Nat.le_refl _) (.int .u32 r)); clear hb hb0))
  go_wp2_with (first | ((with_reducible refine gate_dst (N := 100) rfl ?_); refine wpList_load_row rfl 159 (.tmp 3) rfl w.heap.size rfl 159 _ (0, 0) _ HMF.out.hW Try.underlying159 rfl (mL_size HV2.out _ _ _ _) ?_) | (refine wpList_store_row rfl 159 (.tmp 6) (.tmp 100) rfl (w.heap.size + 1) _ rfl rfl 159 _ HZF.out (mL_size HV2.out _ _ _ _) (by simp [mL_len (v := ⟨r, v.x, v.cs⟩) HV2.out, mL_len (v := z0) z_len]) (mL_one _ _ _ _ _) ?_))
  refine bodyPost_ret (v := .agg (mL (⟨r, v.x, v.cs⟩) (z + 1) (0) false false).toArray) (results_cell_row (p := 6) (by kernel_rfl) _ _ (w.heap.size + 1) 159 _ (0, 0) _ rfl (setRow_heap _ _ _ _ _ _ HZF.out) Try.underlying159 rfl (mL_size HV2.out _ _ _ _)) rfl ?_
  exact ⟨⟨r, v.x, v.cs⟩, z + 1, 0, false, false, rfl, HV2.out, below_setRow HBF.out (by omega) _, ⟨rfl, rfl, rfl, rfl, by show z + 1 = wrap64 (z + 1 + ((0 : Nat) : Int)); rw [show z + 1 + ((0 : Nat) : Int) = z + 1 by omega]; exact (w64 _ (by omega) (by omega)).symm⟩⟩
set_option maxHeartbeats 4000000 in
theorem st_two132 {w : World} {rec : ByteArray} {v : V} {l : List S28} {A0 : Option Addr} {c0 : Nat} (hl : v.cs.length = 16) (z : Int) (hC : Kd.C k28 w A0 l.length l) (hz0 : 0 ≤ z) (hz1 : z < (l.length : Int)) (hz2 : z < 1000000) (a1 a2 a3 : Int) (hk : 0 ≤ a3 ∧ a3 < 4294967296) (hi : rd_T28 l z = ⟨132, a1, a2, a3⟩)  (r : Int) (hr : doorwardref11_two.f 8 v.a a3 = some r) :
    Calls Try.prog 121 #[.agg (mL v z 0 false false).toArray, .slice A0 l.length c0, .string rec] w (StPost w z (.next ⟨r, v.x, v.cs⟩ 0)) := by
  have hu159 := Try.underlying159
  have hu28 := Try.underlying28
  have hu97 := Try.underlying97
  obtain ⟨ad, eA, hx0, hx1, hx2, hx3⟩ := at_T28 hC z hz0 hz1
  subst eA
  rw [hi] at hx0 hx1 hx2 hx3
  simp only at hx0 hx1 hx2 hx3
  have hy0 := fun o1 o2 => pw_cell_below (below_alloc (below_alloc (Below.refl w.heap.size w) o1) o2) hx0
  have HX0 := Aside0.mk hx0
  have HX1 := Aside0.mk hx1
  have HX2 := Aside0.mk hx2
  have HX3 := Aside0.mk hx3
  have HV := Aside0.mk hl
  have HV2 := Aside0.mk (show ((⟨r, v.x, v.cs⟩) : V).cs.length = 16 from hl)
  have h18 : (mL v z 0 false false).toArray[18]? = some (.int .i64 z) := by rw [getA]; exact mL_tail hl 0
  obtain ⟨Cs, hCs⟩ : ∃ Cs, (mL v z 0 false false).toArray = Cs := ⟨_, rfl⟩
  rw [hCs] at h18 ⊢
  have HCS := Aside0.mk hCs
  have hz4 : wrap64 (z + 1) = z + 1 := w64 _ (by omega) (by omega)
  have hd : decide (z < 0) = false := decide_eq_false (by omega)
  have hd2 : decide ((l.length : Int) ≤ z) = false := decide_eq_false (by omega)
  have HK := Aside0.mk (show ∀ W, Calls Try.prog 45 #[.int .i64 132] W fun e w' => e = .returned (.bool true) ∧ Drawn0 W w' from fun W => known_c 132 W)
  have HT := Aside0.mk (fun W => doorwardref11_two.calls 8 v.a a3 r W hr)
  clear hCs hl hC hi hx0 hx1 hx2 hx3
  go_enter Try.func121, Try.ntmps121
  go_upto_region 25 with (first | (go_at_call 45; refine (HK.out _).mono ?_; rintro e w1 ⟨rfl, hb0⟩; have hb := hb0.below; have HS := Aside0.mk (s0_new' HV.out HCS.out hb); clear hb hb0; have hlt := HS.out.M.lt; have k0 := HS.out.M.cA; have k1 := HS.out.M.cX; have k18 := HS.out.M.cAt; have k19 := HS.out.M.cOut; have k20 := HS.out.M.cDone; have k21 := HS.out.M.cWrong; have f0 := HS.out.M.free 0; have f18 := HS.out.M.free 18; have f19 := HS.out.M.free 19; have f20 := HS.out.M.free 20; have f21 := HS.out.M.free 21; have hx0 := pw_cell_below HS.out.B HX0.out; have hx1 := pw_cell_below HS.out.B HX1.out; have hx2 := pw_cell_below HS.out.B HX2.out; have hx3 := pw_cell_below HS.out.B HX3.out; have HMF := Aside0.mk ((HS.out.M.setAt (z + 1)).alloc (.cells #[.int .i64 132, .int .i64 a1, .int .i64 a2, .int .u32 a3] 28)); have HZF := Aside0.mk (blk_alloc (zfar HS.out.Z 18 (.int .i64 (z + 1))) (.cells #[.int .i64 132, .int .i64 a1, .int .i64 a2, .int .u32 a3] 28)); have HBF := Aside0.mk (below_alloc (HS.out.B.setCell (p := ⟨w.heap.size, 18, none⟩) (Nat.le_refl _) (.int .i64 (z + 1))) (.cells #[.int .i64 132, .int .i64 a1, .int .i64 a2, .int .u32 a3] 28)); clear h18 hy0) | (go_at_call 144; refine (HT.out _).mono ?_; rintro e w2 ⟨rfl, hb0⟩; have hb := hb0.below; have kA2 := (HMF.out.below hb).cA; have fA2 := (HMF.out.below hb).free 0; have HMF := Aside0.mk ((HMF.out.below hb).setA r); have HZF := Aside0.mk (zfar (blk_below HZF.out hb) 0 (.int .u32 r)); have HBF := Aside0.mk ((below_step HBF.out hb).setCell (p := ⟨w.heap.size, 0, none⟩) (Nat.le_refl _) (.int .u32 r)); clear hb hb0))
  go_wp2_with (first | ((with_reducible refine gate_dst (N := 100) rfl ?_); refine wpList_load_row rfl 159 (.tmp 3) rfl w.heap.size rfl 159 _ (0, 0) _ HMF.out.hW Try.underlying159 rfl (mL_size HV2.out _ _ _ _) ?_) | (refine wpList_store_row rfl 159 (.tmp 6) (.tmp 100) rfl (w.heap.size + 1) _ rfl rfl 159 _ HZF.out (mL_size HV2.out _ _ _ _) (by simp [mL_len (v := ⟨r, v.x, v.cs⟩) HV2.out, mL_len (v := z0) z_len]) (mL_one _ _ _ _ _) ?_))
  refine bodyPost_ret (v := .agg (mL (⟨r, v.x, v.cs⟩) (z + 1) (0) false false).toArray) (results_cell_row (p := 6) (by kernel_rfl) _ _ (w.heap.size + 1) 159 _ (0, 0) _ rfl (setRow_heap _ _ _ _ _ _ HZF.out) Try.underlying159 rfl (mL_size HV2.out _ _ _ _)) rfl ?_
  exact ⟨⟨r, v.x, v.cs⟩, z + 1, 0, false, false, rfl, HV2.out, below_setRow HBF.out (by omega) _, ⟨rfl, rfl, rfl, rfl, by show z + 1 = wrap64 (z + 1 + ((0 : Nat) : Int)); rw [show z + 1 + ((0 : Nat) : Int) = z + 1 by omega]; exact (w64 _ (by omega) (by omega)).symm⟩⟩
set_option maxHeartbeats 4000000 in
theorem st_two164 {w : World} {rec : ByteArray} {v : V} {l : List S28} {A0 : Option Addr} {c0 : Nat} (hl : v.cs.length = 16) (z : Int) (hC : Kd.C k28 w A0 l.length l) (hz0 : 0 ≤ z) (hz1 : z < (l.length : Int)) (hz2 : z < 1000000) (a1 a2 a3 : Int) (hk : 0 ≤ a3 ∧ a3 < 4294967296) (hi : rd_T28 l z = ⟨164, a1, a2, a3⟩)  (r : Int) (hr : doorwardref11_two.f 10 v.a a3 = some r) :
    Calls Try.prog 121 #[.agg (mL v z 0 false false).toArray, .slice A0 l.length c0, .string rec] w (StPost w z (.next ⟨r, v.x, v.cs⟩ 0)) := by
  have hu159 := Try.underlying159
  have hu28 := Try.underlying28
  have hu97 := Try.underlying97
  obtain ⟨ad, eA, hx0, hx1, hx2, hx3⟩ := at_T28 hC z hz0 hz1
  subst eA
  rw [hi] at hx0 hx1 hx2 hx3
  simp only at hx0 hx1 hx2 hx3
  have hy0 := fun o1 o2 => pw_cell_below (below_alloc (below_alloc (Below.refl w.heap.size w) o1) o2) hx0
  have HX0 := Aside0.mk hx0
  have HX1 := Aside0.mk hx1
  have HX2 := Aside0.mk hx2
  have HX3 := Aside0.mk hx3
  have HV := Aside0.mk hl
  have HV2 := Aside0.mk (show ((⟨r, v.x, v.cs⟩) : V).cs.length = 16 from hl)
  have h18 : (mL v z 0 false false).toArray[18]? = some (.int .i64 z) := by rw [getA]; exact mL_tail hl 0
  obtain ⟨Cs, hCs⟩ : ∃ Cs, (mL v z 0 false false).toArray = Cs := ⟨_, rfl⟩
  rw [hCs] at h18 ⊢
  have HCS := Aside0.mk hCs
  have hz4 : wrap64 (z + 1) = z + 1 := w64 _ (by omega) (by omega)
  have hd : decide (z < 0) = false := decide_eq_false (by omega)
  have hd2 : decide ((l.length : Int) ≤ z) = false := decide_eq_false (by omega)
  have HK := Aside0.mk (show ∀ W, Calls Try.prog 45 #[.int .i64 164] W fun e w' => e = .returned (.bool true) ∧ Drawn0 W w' from fun W => known_c 164 W)
  have HT := Aside0.mk (fun W => doorwardref11_two.calls 10 v.a a3 r W hr)
  clear hCs hl hC hi hx0 hx1 hx2 hx3
  go_enter Try.func121, Try.ntmps121
  go_upto_region 25 with (first | (go_at_call 45; refine (HK.out _).mono ?_; rintro e w1 ⟨rfl, hb0⟩; have hb := hb0.below; have HS := Aside0.mk (s0_new' HV.out HCS.out hb); clear hb hb0; have hlt := HS.out.M.lt; have k0 := HS.out.M.cA; have k1 := HS.out.M.cX; have k18 := HS.out.M.cAt; have k19 := HS.out.M.cOut; have k20 := HS.out.M.cDone; have k21 := HS.out.M.cWrong; have f0 := HS.out.M.free 0; have f18 := HS.out.M.free 18; have f19 := HS.out.M.free 19; have f20 := HS.out.M.free 20; have f21 := HS.out.M.free 21; have hx0 := pw_cell_below HS.out.B HX0.out; have hx1 := pw_cell_below HS.out.B HX1.out; have hx2 := pw_cell_below HS.out.B HX2.out; have hx3 := pw_cell_below HS.out.B HX3.out; have HMF := Aside0.mk ((HS.out.M.setAt (z + 1)).alloc (.cells #[.int .i64 164, .int .i64 a1, .int .i64 a2, .int .u32 a3] 28)); have HZF := Aside0.mk (blk_alloc (zfar HS.out.Z 18 (.int .i64 (z + 1))) (.cells #[.int .i64 164, .int .i64 a1, .int .i64 a2, .int .u32 a3] 28)); have HBF := Aside0.mk (below_alloc (HS.out.B.setCell (p := ⟨w.heap.size, 18, none⟩) (Nat.le_refl _) (.int .i64 (z + 1))) (.cells #[.int .i64 164, .int .i64 a1, .int .i64 a2, .int .u32 a3] 28)); clear h18 hy0) | (go_at_call 144; refine (HT.out _).mono ?_; rintro e w2 ⟨rfl, hb0⟩; have hb := hb0.below; have kA2 := (HMF.out.below hb).cA; have fA2 := (HMF.out.below hb).free 0; have HMF := Aside0.mk ((HMF.out.below hb).setA r); have HZF := Aside0.mk (zfar (blk_below HZF.out hb) 0 (.int .u32 r)); have HBF := Aside0.mk ((below_step HBF.out hb).setCell (p := ⟨w.heap.size, 0, none⟩) (Nat.le_refl _) (.int .u32 r)); clear hb hb0))
  go_wp2_with (first | ((with_reducible refine gate_dst (N := 100) rfl ?_); refine wpList_load_row rfl 159 (.tmp 3) rfl w.heap.size rfl 159 _ (0, 0) _ HMF.out.hW Try.underlying159 rfl (mL_size HV2.out _ _ _ _) ?_) | (refine wpList_store_row rfl 159 (.tmp 6) (.tmp 100) rfl (w.heap.size + 1) _ rfl rfl 159 _ HZF.out (mL_size HV2.out _ _ _ _) (by simp [mL_len (v := ⟨r, v.x, v.cs⟩) HV2.out, mL_len (v := z0) z_len]) (mL_one _ _ _ _ _) ?_))
  refine bodyPost_ret (v := .agg (mL (⟨r, v.x, v.cs⟩) (z + 1) (0) false false).toArray) (results_cell_row (p := 6) (by kernel_rfl) _ _ (w.heap.size + 1) 159 _ (0, 0) _ rfl (setRow_heap _ _ _ _ _ _ HZF.out) Try.underlying159 rfl (mL_size HV2.out _ _ _ _)) rfl ?_
  exact ⟨⟨r, v.x, v.cs⟩, z + 1, 0, false, false, rfl, HV2.out, below_setRow HBF.out (by omega) _, ⟨rfl, rfl, rfl, rfl, by show z + 1 = wrap64 (z + 1 + ((0 : Nat) : Int)); rw [show z + 1 + ((0 : Nat) : Int) = z + 1 by omega]; exact (w64 _ (by omega) (by omega)).symm⟩⟩
set_option maxHeartbeats 4000000 in
theorem st_two172 {w : World} {rec : ByteArray} {v : V} {l : List S28} {A0 : Option Addr} {c0 : Nat} (hl : v.cs.length = 16) (z : Int) (hC : Kd.C k28 w A0 l.length l) (hz0 : 0 ≤ z) (hz1 : z < (l.length : Int)) (hz2 : z < 1000000) (a1 a2 a3 : Int) (hk : 0 ≤ a3 ∧ a3 < 4294967296) (hi : rd_T28 l z = ⟨172, a1, a2, a3⟩)  (r : Int) (hr : doorwardref11_two.f 10 v.a v.x = some r) :
    Calls Try.prog 121 #[.agg (mL v z 0 false false).toArray, .slice A0 l.length c0, .string rec] w (StPost w z (.next ⟨r, v.x, v.cs⟩ 0)) := by
  have hu159 := Try.underlying159
  have hu28 := Try.underlying28
  have hu97 := Try.underlying97
  obtain ⟨ad, eA, hx0, hx1, hx2, hx3⟩ := at_T28 hC z hz0 hz1
  subst eA
  rw [hi] at hx0 hx1 hx2 hx3
  simp only at hx0 hx1 hx2 hx3
  have hy0 := fun o1 o2 => pw_cell_below (below_alloc (below_alloc (Below.refl w.heap.size w) o1) o2) hx0
  have HX0 := Aside0.mk hx0
  have HX1 := Aside0.mk hx1
  have HX2 := Aside0.mk hx2
  have HX3 := Aside0.mk hx3
  have HV := Aside0.mk hl
  have HV2 := Aside0.mk (show ((⟨r, v.x, v.cs⟩) : V).cs.length = 16 from hl)
  have h18 : (mL v z 0 false false).toArray[18]? = some (.int .i64 z) := by rw [getA]; exact mL_tail hl 0
  obtain ⟨Cs, hCs⟩ : ∃ Cs, (mL v z 0 false false).toArray = Cs := ⟨_, rfl⟩
  rw [hCs] at h18 ⊢
  have HCS := Aside0.mk hCs
  have hz4 : wrap64 (z + 1) = z + 1 := w64 _ (by omega) (by omega)
  have hd : decide (z < 0) = false := decide_eq_false (by omega)
  have hd2 : decide ((l.length : Int) ≤ z) = false := decide_eq_false (by omega)
  have HK := Aside0.mk (show ∀ W, Calls Try.prog 45 #[.int .i64 172] W fun e w' => e = .returned (.bool true) ∧ Drawn0 W w' from fun W => known_c 172 W)
  have HT := Aside0.mk (fun W => doorwardref11_two.calls 10 v.a v.x r W hr)
  clear hCs hl hC hi hx0 hx1 hx2 hx3
  go_enter Try.func121, Try.ntmps121
  go_upto_region 25 with (first | (go_at_call 45; refine (HK.out _).mono ?_; rintro e w1 ⟨rfl, hb0⟩; have hb := hb0.below; have HS := Aside0.mk (s0_new' HV.out HCS.out hb); clear hb hb0; have hlt := HS.out.M.lt; have k0 := HS.out.M.cA; have k1 := HS.out.M.cX; have k18 := HS.out.M.cAt; have k19 := HS.out.M.cOut; have k20 := HS.out.M.cDone; have k21 := HS.out.M.cWrong; have f0 := HS.out.M.free 0; have f18 := HS.out.M.free 18; have f19 := HS.out.M.free 19; have f20 := HS.out.M.free 20; have f21 := HS.out.M.free 21; have hx0 := pw_cell_below HS.out.B HX0.out; have hx1 := pw_cell_below HS.out.B HX1.out; have hx2 := pw_cell_below HS.out.B HX2.out; have hx3 := pw_cell_below HS.out.B HX3.out; have HMF := Aside0.mk ((HS.out.M.setAt (z + 1)).alloc (.cells #[.int .i64 172, .int .i64 a1, .int .i64 a2, .int .u32 a3] 28)); have HZF := Aside0.mk (blk_alloc (zfar HS.out.Z 18 (.int .i64 (z + 1))) (.cells #[.int .i64 172, .int .i64 a1, .int .i64 a2, .int .u32 a3] 28)); have HBF := Aside0.mk (below_alloc (HS.out.B.setCell (p := ⟨w.heap.size, 18, none⟩) (Nat.le_refl _) (.int .i64 (z + 1))) (.cells #[.int .i64 172, .int .i64 a1, .int .i64 a2, .int .u32 a3] 28)); clear h18 hy0) | (go_at_call 144; refine (HT.out _).mono ?_; rintro e w2 ⟨rfl, hb0⟩; have hb := hb0.below; have kA2 := (HMF.out.below hb).cA; have fA2 := (HMF.out.below hb).free 0; have HMF := Aside0.mk ((HMF.out.below hb).setA r); have HZF := Aside0.mk (zfar (blk_below HZF.out hb) 0 (.int .u32 r)); have HBF := Aside0.mk ((below_step HBF.out hb).setCell (p := ⟨w.heap.size, 0, none⟩) (Nat.le_refl _) (.int .u32 r)); clear hb hb0))
  go_wp2_with (first | ((with_reducible refine gate_dst (N := 100) rfl ?_); refine wpList_load_row rfl 159 (.tmp 3) rfl w.heap.size rfl 159 _ (0, 0) _ HMF.out.hW Try.underlying159 rfl (mL_size HV2.out _ _ _ _) ?_) | (refine wpList_store_row rfl 159 (.tmp 6) (.tmp 100) rfl (w.heap.size + 1) _ rfl rfl 159 _ HZF.out (mL_size HV2.out _ _ _ _) (by simp [mL_len (v := ⟨r, v.x, v.cs⟩) HV2.out, mL_len (v := z0) z_len]) (mL_one _ _ _ _ _) ?_))
  refine bodyPost_ret (v := .agg (mL (⟨r, v.x, v.cs⟩) (z + 1) (0) false false).toArray) (results_cell_row (p := 6) (by kernel_rfl) _ _ (w.heap.size + 1) 159 _ (0, 0) _ rfl (setRow_heap _ _ _ _ _ _ HZF.out) Try.underlying159 rfl (mL_size HV2.out _ _ _ _)) rfl ?_
  exact ⟨⟨r, v.x, v.cs⟩, z + 1, 0, false, false, rfl, HV2.out, below_setRow HBF.out (by omega) _, ⟨rfl, rfl, rfl, rfl, by show z + 1 = wrap64 (z + 1 + ((0 : Nat) : Int)); rw [show z + 1 + ((0 : Nat) : Int) = z + 1 by omega]; exact (w64 _ (by omega) (by omega)).symm⟩⟩
set_option maxHeartbeats 4000000 in
theorem st_ja {w : World} {rec : ByteArray} {v : V} {l : List S28} {A0 : Option Addr} {c0 : Nat} (hl : v.cs.length = 16) (z : Int) (hC : Kd.C k28 w A0 l.length l) (hz0 : 0 ≤ z) (hz1 : z < (l.length : Int)) (hz2 : z < 1000000) (a1 a2 a3 : Int) (hk : 0 ≤ a3 ∧ a3 < 4294967296) (hi : rd_T28 l z = ⟨5, a1, a2, a3⟩)  :
    Calls Try.prog 121 #[.agg (mL v z 0 false false).toArray, .slice A0 l.length c0, .string rec] w (StPost w z (.next v a3.toNat)) := by
  have hu159 := Try.underlying159
  have hu28 := Try.underlying28
  have hu97 := Try.underlying97
  obtain ⟨ad, eA, hx0, hx1, hx2, hx3⟩ := at_T28 hC z hz0 hz1
  subst eA
  rw [hi] at hx0 hx1 hx2 hx3
  simp only at hx0 hx1 hx2 hx3
  have hy0 := fun o1 o2 => pw_cell_below (below_alloc (below_alloc (Below.refl w.heap.size w) o1) o2) hx0
  have HX0 := Aside0.mk hx0
  have HX1 := Aside0.mk hx1
  have HX2 := Aside0.mk hx2
  have HX3 := Aside0.mk hx3
  have HV := Aside0.mk hl
  have HV2 := Aside0.mk (show ((v) : V).cs.length = 16 from hl)
  have h18 : (mL v z 0 false false).toArray[18]? = some (.int .i64 z) := by rw [getA]; exact mL_tail hl 0
  obtain ⟨Cs, hCs⟩ : ∃ Cs, (mL v z 0 false false).toArray = Cs := ⟨_, rfl⟩
  rw [hCs] at h18 ⊢
  have HCS := Aside0.mk hCs
  have hz4 : wrap64 (z + 1) = z + 1 := w64 _ (by omega) (by omega)
  have hd : decide (z < 0) = false := decide_eq_false (by omega)
  have hd2 : decide ((l.length : Int) ≤ z) = false := decide_eq_false (by omega)
  have HK := Aside0.mk (show ∀ W, Calls Try.prog 45 #[.int .i64 5] W fun e w' => e = .returned (.bool true) ∧ Drawn0 W w' from fun W => known_c 5 W)
  have hw3 : wrap64 a3 = a3 := w64 _ (by omega) (by omega)
  clear hCs hl hC hi hx0 hx1 hx2 hx3
  go_enter Try.func121, Try.ntmps121
  go_upto_region 32 with (first | (go_at_call 45; refine (HK.out _).mono ?_; rintro e w1 ⟨rfl, hb0⟩; have hb := hb0.below; have HS := Aside0.mk (s0_new' HV.out HCS.out hb); clear hb hb0; have hlt := HS.out.M.lt; have k0 := HS.out.M.cA; have k1 := HS.out.M.cX; have k18 := HS.out.M.cAt; have k19 := HS.out.M.cOut; have k20 := HS.out.M.cDone; have k21 := HS.out.M.cWrong; have f0 := HS.out.M.free 0; have f18 := HS.out.M.free 18; have f19 := HS.out.M.free 19; have f20 := HS.out.M.free 20; have f21 := HS.out.M.free 21; have hx0 := pw_cell_below HS.out.B HX0.out; have hx1 := pw_cell_below HS.out.B HX1.out; have hx2 := pw_cell_below HS.out.B HX2.out; have hx3 := pw_cell_below HS.out.B HX3.out; have HMF := Aside0.mk (((HS.out.M.setAt (z + 1)).setAt (z + 1 + a3)).alloc (.cells #[.int .i64 5, .int .i64 a1, .int .i64 a2, .int .u32 a3] 28)); have HZF := Aside0.mk (blk_alloc (zfar (zfar HS.out.Z 18 (.int .i64 (z + 1))) 18 (.int .i64 (z + 1 + a3))) (.cells #[.int .i64 5, .int .i64 a1, .int .i64 a2, .int .u32 a3] 28)); have HBF := Aside0.mk (below_alloc ((HS.out.B.setCell (p := ⟨w.heap.size, 18, none⟩) (Nat.le_refl _) (.int .i64 (z + 1))).setCell (p := ⟨w.heap.size, 18, none⟩) (Nat.le_refl _) (.int .i64 (z + 1 + a3))) (.cells #[.int .i64 5, .int .i64 a1, .int .i64 a2, .int .u32 a3] 28)); clear h18 hy0))
  go_wp2_with (first | ((with_reducible refine gate_dst (N := 131) rfl ?_); refine wpList_load_row rfl 159 (.tmp 3) rfl w.heap.size rfl 159 _ (0, 0) _ HMF.out.hW Try.underlying159 rfl (mL_size HV2.out _ _ _ _) ?_) | (refine wpList_store_row rfl 159 (.tmp 6) (.tmp 131) rfl (w.heap.size + 1) _ rfl rfl 159 _ HZF.out (mL_size HV2.out _ _ _ _) (by simp [mL_len (v := v) HV2.out, mL_len (v := z0) z_len]) (mL_one _ _ _ _ _) ?_))
  refine bodyPost_ret (v := .agg (mL (v) (z + 1 + a3) (0) false false).toArray) (results_cell_row (p := 6) (by kernel_rfl) _ _ (w.heap.size + 1) 159 _ (0, 0) _ rfl (setRow_heap _ _ _ _ _ _ HZF.out) Try.underlying159 rfl (mL_size HV2.out _ _ _ _)) rfl ?_
  exact ⟨v, z + 1 + a3, 0, false, false, rfl, HV2.out, below_setRow HBF.out (by omega) _, ⟨rfl, rfl, rfl, rfl, by show z + 1 + a3 = wrap64 (z + 1 + ((a3.toNat : Nat) : Int)); rw [show ((a3.toNat : Nat) : Int) = a3 by omega]; exact (w64 _ (by omega) (by omega)).symm⟩⟩
end Go.Proofs.Ytefkhcijgiagdaa.HMr
end
section
namespace Go.Proofs.Ytefkhcijgiagdaa.HMr
open Go.RowKit Go.Proofs.YtefkhcijgiagdaaW.PrintWords Go.Proofs.YtefkhcijgiagdaaW.PrintLast Go.Proofs.YtefkhcijgiagdaaW.PrintMore Go.Proofs.Ytefkhcijgiagdaa.HKnown Go.Proofs.Ytefkhcijgiagdaa.I1 Go.Proofs.Ytefkhcijgiagdaa.QVm Go.Proofs.Ytefkhcijgiagdaa.QLe Go.Proofs.Ytefkhcijgiagdaa.V0 Go.Proofs.Ytefkhcijgiagdaa.HVm Go.Proofs.Ytefkhcijgiagdaa.QIn
set_option linter.unusedVariables false
set_option linter.unusedSimpArgs false
set_option maxRecDepth 100000
set_option maxHeartbeats 4000000 in
theorem st_jmp45y {w : World} {rec : ByteArray} {v : V} {l : List S28} {A0 : Option Addr} {c0 : Nat} (hl : v.cs.length = 16) (z : Int) (hC : Kd.C k28 w A0 l.length l) (hz0 : 0 ≤ z) (hz1 : z < (l.length : Int)) (hz2 : z < 1000000) (a1 a2 a3 : Int) (hk : 0 ≤ a3 ∧ a3 < 4294967296) (hi : rd_T28 l z = ⟨45, a1, a2, a3⟩)  (hh : doorwardref11_holds.f 2 v.a v.x = some true) (m : Int) (hm : (if a1 < 0 then 0 else a1) = m) (hm0 : 0 ≤ m) :
    Calls Try.prog 121 #[.agg (mL v z 0 false false).toArray, .slice A0 l.length c0, .string rec] w (StPost w z (.next v m.toNat)) := by
  have hu159 := Try.underlying159
  have hu28 := Try.underlying28
  have hu97 := Try.underlying97
  obtain ⟨ad, eA, hx0, hx1, hx2, hx3⟩ := at_T28 hC z hz0 hz1
  subst eA
  rw [hi] at hx0 hx1 hx2 hx3
  simp only at hx0 hx1 hx2 hx3
  have hy0 := fun o1 o2 => pw_cell_below (below_alloc (below_alloc (Below.refl w.heap.size w) o1) o2) hx0
  have HX0 := Aside0.mk hx0
  have HX1 := Aside0.mk hx1
  have HX2 := Aside0.mk hx2
  have HX3 := Aside0.mk hx3
  have HV := Aside0.mk hl
  have HV2 := Aside0.mk (show ((v) : V).cs.length = 16 from hl)
  have h18 : (mL v z 0 false false).toArray[18]? = some (.int .i64 z) := by rw [getA]; exact mL_tail hl 0
  obtain ⟨Cs, hCs⟩ : ∃ Cs, (mL v z 0 false false).toArray = Cs := ⟨_, rfl⟩
  rw [hCs] at h18 ⊢
  have HCS := Aside0.mk hCs
  have hz4 : wrap64 (z + 1) = z + 1 := w64 _ (by omega) (by omega)
  have hd : decide (z < 0) = false := decide_eq_false (by omega)
  have hd2 : decide ((l.length : Int) ≤ z) = false := decide_eq_false (by omega)
  have HK := Aside0.mk (show ∀ W, Calls Try.prog 45 #[.int .i64 45] W fun e w' => e = .returned (.bool true) ∧ Drawn0 W w' from fun W => known_c 45 W)
  have HH := Aside0.mk (fun W => doorwardref11_holds.calls 2 v.a v.x true W hh)
  have HLE := Aside0.mk (fun W => hm ▸ least_same a1 W)
  clear hh hm
  clear hCs hl hC hi hx0 hx1 hx2 hx3
  go_enter Try.func121, Try.ntmps121
  go_wp2_with (first | (go_at_call 45; refine (HK.out _).mono ?_; rintro e w1 ⟨rfl, hb0⟩; have hb := hb0.below; have HS := Aside0.mk (s0_new' HV.out HCS.out hb); clear hb hb0; have hlt := HS.out.M.lt; have k0 := HS.out.M.cA; have k1 := HS.out.M.cX; have k18 := HS.out.M.cAt; have k19 := HS.out.M.cOut; have k20 := HS.out.M.cDone; have k21 := HS.out.M.cWrong; have f0 := HS.out.M.free 0; have f18 := HS.out.M.free 18; have f19 := HS.out.M.free 19; have f20 := HS.out.M.free 20; have f21 := HS.out.M.free 21; have hx0 := pw_cell_below HS.out.B HX0.out; have hx1 := pw_cell_below HS.out.B HX1.out; have hx2 := pw_cell_below HS.out.B HX2.out; have hx3 := pw_cell_below HS.out.B HX3.out; have HMF := Aside0.mk ((HS.out.M.setAt (z + 1)).alloc (.cells #[.int .i64 45, .int .i64 a1, .int .i64 a2, .int .u32 a3] 28)); have HZF := Aside0.mk (blk_alloc (zfar HS.out.Z 18 (.int .i64 (z + 1))) (.cells #[.int .i64 45, .int .i64 a1, .int .i64 a2, .int .u32 a3] 28)); have HBF := Aside0.mk (below_alloc (HS.out.B.setCell (p := ⟨w.heap.size, 18, none⟩) (Nat.le_refl _) (.int .i64 (z + 1))) (.cells #[.int .i64 45, .int .i64 a1, .int .i64 a2, .int .u32 a3] 28)); have HI := Aside0.mk (alloc_set w1 ⟨w.heap.size, 18, none⟩ (.int .i64 (z + 1)) (.cells #[.int .i64 45, .int .i64 a1, .int .i64 a2, .int .u32 a3] 28)); clear h18 hy0) | (go_at_call 145; refine (HH.out _).mono ?_; rintro e w2 ⟨rfl, hb0⟩; have hb := hb0.below; have HMF := Aside0.mk (HMF.out.below hb); have HZF := Aside0.mk (blk_below HZF.out hb); have HBF := Aside0.mk (below_step HBF.out hb); have HI := Aside0.mk (blk_below HI.out hb); clear hb hb0))
  have u18 := HMF.out.cAt
  have uI : w2.cell? ⟨w1.heap.size, 1, none⟩ = some (.int .i64 a1) := blk_cell HI.out 1
  go_still_tail 7, (by kernel_rfl)
  still_call (HLE.out w2.drew)
  repeat still_step
  refine wpStill_nil ?_
  change wpList _ _ _ _ _ w2.drew
  generalize hw3 : w2.drew = w3
  have HM3 := Aside0.mk (show Mb w3 w.heap.size v (z + 1) 0 false false from by rw [← hw3]; exact HMF.out.drew)
  have HZ3 := Aside0.mk (show w3.heap[w.heap.size + 1]? = some (.cells (mL z0 0 0 false false).toArray 159 (0, 0)) from by rw [← hw3]; exact HZF.out)
  have HB3 := Aside0.mk (show Below w.heap.size w w3 from by rw [← hw3]; exact below_drew HBF.out)
  have HI3 := Aside0.mk (show w3.heap[w1.heap.size]? = some (.cells #[.int .i64 45, .int .i64 a1, .int .i64 a2, .int .u32 a3] 28 (0, 0)) from by rw [← hw3]; exact HI.out)
  have q18 := HM3.out.cAt
  clear HMF HZF HBF HI hw3
  have pf18 := HM3.out.free 18
  have HMF := Aside0.mk (HM3.out.setAt (wrap64 (z + 1 + m)))
  have HZF := Aside0.mk (zfar HZ3.out 18 (.int .i64 (wrap64 (z + 1 + m))))
  have HBF := Aside0.mk (HB3.out.setCell (p := ⟨w.heap.size, 18, none⟩) (Nat.le_refl _) (.int .i64 (wrap64 (z + 1 + m))))
  go_upto_region 32 with fail
  go_wp2_with (first | ((with_reducible refine gate_dst (N := 131) rfl ?_); refine wpList_load_row rfl 159 (.tmp 3) rfl w.heap.size rfl 159 _ (0, 0) _ HMF.out.hW Try.underlying159 rfl (mL_size HV2.out _ _ _ _) ?_) | (refine wpList_store_row rfl 159 (.tmp 6) (.tmp 131) rfl (w.heap.size + 1) _ rfl rfl 159 _ HZF.out (mL_size HV2.out _ _ _ _) (by simp [mL_len (v := v) HV2.out, mL_len (v := z0) z_len]) (mL_one _ _ _ _ _) ?_))
  refine bodyPost_ret (v := .agg (mL (v) (wrap64 (z + 1 + m)) (0) false false).toArray) (results_cell_row (p := 6) (by kernel_rfl) _ _ (w.heap.size + 1) 159 _ (0, 0) _ rfl (setRow_heap _ _ _ _ _ _ HZF.out) Try.underlying159 rfl (mL_size HV2.out _ _ _ _)) rfl ?_
  exact ⟨v, wrap64 (z + 1 + m), 0, false, false, rfl, HV2.out, below_setRow HBF.out (by omega) _, ⟨rfl, rfl, rfl, rfl, by show wrap64 (z + 1 + m) = wrap64 (z + 1 + ((m.toNat : Nat) : Int)); rw [show ((m.toNat : Nat) : Int) = m by omega]⟩⟩
set_option maxHeartbeats 4000000 in
theorem st_jmp45n {w : World} {rec : ByteArray} {v : V} {l : List S28} {A0 : Option Addr} {c0 : Nat} (hl : v.cs.length = 16) (z : Int) (hC : Kd.C k28 w A0 l.length l) (hz0 : 0 ≤ z) (hz1 : z < (l.length : Int)) (hz2 : z < 1000000) (a1 a2 a3 : Int) (hk : 0 ≤ a3 ∧ a3 < 4294967296) (hi : rd_T28 l z = ⟨45, a1, a2, a3⟩)  (hh : doorwardref11_holds.f 2 v.a v.x = some false) (m : Int) (hm : (if a2 < 0 then 0 else a2) = m) (hm0 : 0 ≤ m) :
    Calls Try.prog 121 #[.agg (mL v z 0 false false).toArray, .slice A0 l.length c0, .string rec] w (StPost w z (.next v m.toNat)) := by
  have hu159 := Try.underlying159
  have hu28 := Try.underlying28
  have hu97 := Try.underlying97
  obtain ⟨ad, eA, hx0, hx1, hx2, hx3⟩ := at_T28 hC z hz0 hz1
  subst eA
  rw [hi] at hx0 hx1 hx2 hx3
  simp only at hx0 hx1 hx2 hx3
  have hy0 := fun o1 o2 => pw_cell_below (below_alloc (below_alloc (Below.refl w.heap.size w) o1) o2) hx0
  have HX0 := Aside0.mk hx0
  have HX1 := Aside0.mk hx1
  have HX2 := Aside0.mk hx2
  have HX3 := Aside0.mk hx3
  have HV := Aside0.mk hl
  have HV2 := Aside0.mk (show ((v) : V).cs.length = 16 from hl)
  have h18 : (mL v z 0 false false).toArray[18]? = some (.int .i64 z) := by rw [getA]; exact mL_tail hl 0
  obtain ⟨Cs, hCs⟩ : ∃ Cs, (mL v z 0 false false).toArray = Cs := ⟨_, rfl⟩
  rw [hCs] at h18 ⊢
  have HCS := Aside0.mk hCs
  have hz4 : wrap64 (z + 1) = z + 1 := w64 _ (by omega) (by omega)
  have hd : decide (z < 0) = false := decide_eq_false (by omega)
  have hd2 : decide ((l.length : Int) ≤ z) = false := decide_eq_false (by omega)
  have HK := Aside0.mk (show ∀ W, Calls Try.prog 45 #[.int .i64 45] W fun e w' => e = .returned (.bool true) ∧ Drawn0 W w' from fun W => known_c 45 W)
  have HH := Aside0.mk (fun W => doorwardref11_holds.calls 2 v.a v.x false W hh)
  have HLE := Aside0.mk (fun W => hm ▸ least_same a2 W)
  clear hh hm
  clear hCs hl hC hi hx0 hx1 hx2 hx3
  go_enter Try.func121, Try.ntmps121
  go_wp2_with (first | (go_at_call 45; refine (HK.out _).mono ?_; rintro e w1 ⟨rfl, hb0⟩; have hb := hb0.below; have HS := Aside0.mk (s0_new' HV.out HCS.out hb); clear hb hb0; have hlt := HS.out.M.lt; have k0 := HS.out.M.cA; have k1 := HS.out.M.cX; have k18 := HS.out.M.cAt; have k19 := HS.out.M.cOut; have k20 := HS.out.M.cDone; have k21 := HS.out.M.cWrong; have f0 := HS.out.M.free 0; have f18 := HS.out.M.free 18; have f19 := HS.out.M.free 19; have f20 := HS.out.M.free 20; have f21 := HS.out.M.free 21; have hx0 := pw_cell_below HS.out.B HX0.out; have hx1 := pw_cell_below HS.out.B HX1.out; have hx2 := pw_cell_below HS.out.B HX2.out; have hx3 := pw_cell_below HS.out.B HX3.out; have HMF := Aside0.mk ((HS.out.M.setAt (z + 1)).alloc (.cells #[.int .i64 45, .int .i64 a1, .int .i64 a2, .int .u32 a3] 28)); have HZF := Aside0.mk (blk_alloc (zfar HS.out.Z 18 (.int .i64 (z + 1))) (.cells #[.int .i64 45, .int .i64 a1, .int .i64 a2, .int .u32 a3] 28)); have HBF := Aside0.mk (below_alloc (HS.out.B.setCell (p := ⟨w.heap.size, 18, none⟩) (Nat.le_refl _) (.int .i64 (z + 1))) (.cells #[.int .i64 45, .int .i64 a1, .int .i64 a2, .int .u32 a3] 28)); have HI := Aside0.mk (alloc_set w1 ⟨w.heap.size, 18, none⟩ (.int .i64 (z + 1)) (.cells #[.int .i64 45, .int .i64 a1, .int .i64 a2, .int .u32 a3] 28)); clear h18 hy0) | (go_at_call 145; refine (HH.out _).mono ?_; rintro e w2 ⟨rfl, hb0⟩; have hb := hb0.below; have HMF := Aside0.mk (HMF.out.below hb); have HZF := Aside0.mk (blk_below HZF.out hb); have HBF := Aside0.mk (below_step HBF.out hb); have HI := Aside0.mk (blk_below HI.out hb); clear hb hb0))
  have u18 := HMF.out.cAt
  have uI : w2.cell? ⟨w1.heap.size, 2, none⟩ = some (.int .i64 a2) := blk_cell HI.out 2
  go_still_tail 7, (by kernel_rfl)
  still_call (HLE.out w2.drew)
  repeat still_step
  refine wpStill_nil ?_
  change wpList _ _ _ _ _ w2.drew
  generalize hw3 : w2.drew = w3
  have HM3 := Aside0.mk (show Mb w3 w.heap.size v (z + 1) 0 false false from by rw [← hw3]; exact HMF.out.drew)
  have HZ3 := Aside0.mk (show w3.heap[w.heap.size + 1]? = some (.cells (mL z0 0 0 false false).toArray 159 (0, 0)) from by rw [← hw3]; exact HZF.out)
  have HB3 := Aside0.mk (show Below w.heap.size w w3 from by rw [← hw3]; exact below_drew HBF.out)
  have HI3 := Aside0.mk (show w3.heap[w1.heap.size]? = some (.cells #[.int .i64 45, .int .i64 a1, .int .i64 a2, .int .u32 a3] 28 (0, 0)) from by rw [← hw3]; exact HI.out)
  have q18 := HM3.out.cAt
  clear HMF HZF HBF HI hw3
  have pf18 := HM3.out.free 18
  have HMF := Aside0.mk (HM3.out.setAt (wrap64 (z + 1 + m)))
  have HZF := Aside0.mk (zfar HZ3.out 18 (.int .i64 (wrap64 (z + 1 + m))))
  have HBF := Aside0.mk (HB3.out.setCell (p := ⟨w.heap.size, 18, none⟩) (Nat.le_refl _) (.int .i64 (wrap64 (z + 1 + m))))
  go_upto_region 32 with fail
  go_wp2_with (first | ((with_reducible refine gate_dst (N := 131) rfl ?_); refine wpList_load_row rfl 159 (.tmp 3) rfl w.heap.size rfl 159 _ (0, 0) _ HMF.out.hW Try.underlying159 rfl (mL_size HV2.out _ _ _ _) ?_) | (refine wpList_store_row rfl 159 (.tmp 6) (.tmp 131) rfl (w.heap.size + 1) _ rfl rfl 159 _ HZF.out (mL_size HV2.out _ _ _ _) (by simp [mL_len (v := v) HV2.out, mL_len (v := z0) z_len]) (mL_one _ _ _ _ _) ?_))
  refine bodyPost_ret (v := .agg (mL (v) (wrap64 (z + 1 + m)) (0) false false).toArray) (results_cell_row (p := 6) (by kernel_rfl) _ _ (w.heap.size + 1) 159 _ (0, 0) _ rfl (setRow_heap _ _ _ _ _ _ HZF.out) Try.underlying159 rfl (mL_size HV2.out _ _ _ _)) rfl ?_
  exact ⟨v, wrap64 (z + 1 + m), 0, false, false, rfl, HV2.out, below_setRow HBF.out (by omega) _, ⟨rfl, rfl, rfl, rfl, by show wrap64 (z + 1 + m) = wrap64 (z + 1 + ((m.toNat : Nat) : Int)); rw [show ((m.toNat : Nat) : Int) = m by omega]⟩⟩
set_option maxHeartbeats 4000000 in
theorem st_jmp53y {w : World} {rec : ByteArray} {v : V} {l : List S28} {A0 : Option Addr} {c0 : Nat} (hl : v.cs.length = 16) (z : Int) (hC : Kd.C k28 w A0 l.length l) (hz0 : 0 ≤ z) (hz1 : z < (l.length : Int)) (hz2 : z < 1000000) (a1 a2 a3 : Int) (hk : 0 ≤ a3 ∧ a3 < 4294967296) (hi : rd_T28 l z = ⟨53, a1, a2, a3⟩)  (hh : doorwardref11_holds.f 3 v.a a3 = some true) (m : Int) (hm : (if a1 < 0 then 0 else a1) = m) (hm0 : 0 ≤ m) :
    Calls Try.prog 121 #[.agg (mL v z 0 false false).toArray, .slice A0 l.length c0, .string rec] w (StPost w z (.next v m.toNat)) := by
  have hu159 := Try.underlying159
  have hu28 := Try.underlying28
  have hu97 := Try.underlying97
  obtain ⟨ad, eA, hx0, hx1, hx2, hx3⟩ := at_T28 hC z hz0 hz1
  subst eA
  rw [hi] at hx0 hx1 hx2 hx3
  simp only at hx0 hx1 hx2 hx3
  have hy0 := fun o1 o2 => pw_cell_below (below_alloc (below_alloc (Below.refl w.heap.size w) o1) o2) hx0
  have HX0 := Aside0.mk hx0
  have HX1 := Aside0.mk hx1
  have HX2 := Aside0.mk hx2
  have HX3 := Aside0.mk hx3
  have HV := Aside0.mk hl
  have HV2 := Aside0.mk (show ((v) : V).cs.length = 16 from hl)
  have h18 : (mL v z 0 false false).toArray[18]? = some (.int .i64 z) := by rw [getA]; exact mL_tail hl 0
  obtain ⟨Cs, hCs⟩ : ∃ Cs, (mL v z 0 false false).toArray = Cs := ⟨_, rfl⟩
  rw [hCs] at h18 ⊢
  have HCS := Aside0.mk hCs
  have hz4 : wrap64 (z + 1) = z + 1 := w64 _ (by omega) (by omega)
  have hd : decide (z < 0) = false := decide_eq_false (by omega)
  have hd2 : decide ((l.length : Int) ≤ z) = false := decide_eq_false (by omega)
  have HK := Aside0.mk (show ∀ W, Calls Try.prog 45 #[.int .i64 53] W fun e w' => e = .returned (.bool true) ∧ Drawn0 W w' from fun W => known_c 53 W)
  have HH := Aside0.mk (fun W => doorwardref11_holds.calls 3 v.a a3 true W hh)
  have HLE := Aside0.mk (fun W => hm ▸ least_same a1 W)
  clear hh hm
  clear hCs hl hC hi hx0 hx1 hx2 hx3
  go_enter Try.func121, Try.ntmps121
  go_wp2_with (first | (go_at_call 45; refine (HK.out _).mono ?_; rintro e w1 ⟨rfl, hb0⟩; have hb := hb0.below; have HS := Aside0.mk (s0_new' HV.out HCS.out hb); clear hb hb0; have hlt := HS.out.M.lt; have k0 := HS.out.M.cA; have k1 := HS.out.M.cX; have k18 := HS.out.M.cAt; have k19 := HS.out.M.cOut; have k20 := HS.out.M.cDone; have k21 := HS.out.M.cWrong; have f0 := HS.out.M.free 0; have f18 := HS.out.M.free 18; have f19 := HS.out.M.free 19; have f20 := HS.out.M.free 20; have f21 := HS.out.M.free 21; have hx0 := pw_cell_below HS.out.B HX0.out; have hx1 := pw_cell_below HS.out.B HX1.out; have hx2 := pw_cell_below HS.out.B HX2.out; have hx3 := pw_cell_below HS.out.B HX3.out; have HMF := Aside0.mk ((HS.out.M.setAt (z + 1)).alloc (.cells #[.int .i64 53, .int .i64 a1, .int .i64 a2, .int .u32 a3] 28)); have HZF := Aside0.mk (blk_alloc (zfar HS.out.Z 18 (.int .i64 (z + 1))) (.cells #[.int .i64 53, .int .i64 a1, .int .i64 a2, .int .u32 a3] 28)); have HBF := Aside0.mk (below_alloc (HS.out.B.setCell (p := ⟨w.heap.size, 18, none⟩) (Nat.le_refl _) (.int .i64 (z + 1))) (.cells #[.int .i64 53, .int .i64 a1, .int .i64 a2, .int .u32 a3] 28)); have HI := Aside0.mk (alloc_set w1 ⟨w.heap.size, 18, none⟩ (.int .i64 (z + 1)) (.cells #[.int .i64 53, .int .i64 a1, .int .i64 a2, .int .u32 a3] 28)); clear h18 hy0) | (go_at_call 145; refine (HH.out _).mono ?_; rintro e w2 ⟨rfl, hb0⟩; have hb := hb0.below; have HMF := Aside0.mk (HMF.out.below hb); have HZF := Aside0.mk (blk_below HZF.out hb); have HBF := Aside0.mk (below_step HBF.out hb); have HI := Aside0.mk (blk_below HI.out hb); clear hb hb0))
  have u18 := HMF.out.cAt
  have uI : w2.cell? ⟨w1.heap.size, 1, none⟩ = some (.int .i64 a1) := blk_cell HI.out 1
  go_still_tail 7, (by kernel_rfl)
  still_call (HLE.out w2.drew)
  repeat still_step
  refine wpStill_nil ?_
  change wpList _ _ _ _ _ w2.drew
  generalize hw3 : w2.drew = w3
  have HM3 := Aside0.mk (show Mb w3 w.heap.size v (z + 1) 0 false false from by rw [← hw3]; exact HMF.out.drew)
  have HZ3 := Aside0.mk (show w3.heap[w.heap.size + 1]? = some (.cells (mL z0 0 0 false false).toArray 159 (0, 0)) from by rw [← hw3]; exact HZF.out)
  have HB3 := Aside0.mk (show Below w.heap.size w w3 from by rw [← hw3]; exact below_drew HBF.out)
  have HI3 := Aside0.mk (show w3.heap[w1.heap.size]? = some (.cells #[.int .i64 53, .int .i64 a1, .int .i64 a2, .int .u32 a3] 28 (0, 0)) from by rw [← hw3]; exact HI.out)
  have q18 := HM3.out.cAt
  clear HMF HZF HBF HI hw3
  have pf18 := HM3.out.free 18
  have HMF := Aside0.mk (HM3.out.setAt (wrap64 (z + 1 + m)))
  have HZF := Aside0.mk (zfar HZ3.out 18 (.int .i64 (wrap64 (z + 1 + m))))
  have HBF := Aside0.mk (HB3.out.setCell (p := ⟨w.heap.size, 18, none⟩) (Nat.le_refl _) (.int .i64 (wrap64 (z + 1 + m))))
  go_upto_region 32 with fail
  go_wp2_with (first | ((with_reducible refine gate_dst (N := 131) rfl ?_); refine wpList_load_row rfl 159 (.tmp 3) rfl w.heap.size rfl 159 _ (0, 0) _ HMF.out.hW Try.underlying159 rfl (mL_size HV2.out _ _ _ _) ?_) | (refine wpList_store_row rfl 159 (.tmp 6) (.tmp 131) rfl (w.heap.size + 1) _ rfl rfl 159 _ HZF.out (mL_size HV2.out _ _ _ _) (by simp [mL_len (v := v) HV2.out, mL_len (v := z0) z_len]) (mL_one _ _ _ _ _) ?_))
  refine bodyPost_ret (v := .agg (mL (v) (wrap64 (z + 1 + m)) (0) false false).toArray) (results_cell_row (p := 6) (by kernel_rfl) _ _ (w.heap.size + 1) 159 _ (0, 0) _ rfl (setRow_heap _ _ _ _ _ _ HZF.out) Try.underlying159 rfl (mL_size HV2.out _ _ _ _)) rfl ?_
  exact ⟨v, wrap64 (z + 1 + m), 0, false, false, rfl, HV2.out, below_setRow HBF.out (by omega) _, ⟨rfl, rfl, rfl, rfl, by show wrap64 (z + 1 + m) = wrap64 (z + 1 + ((m.toNat : Nat) : Int)); rw [show ((m.toNat : Nat) : Int) = m by omega]⟩⟩
set_option maxHeartbeats 4000000 in
theorem st_jmp53n {w : World} {rec : ByteArray} {v : V} {l : List S28} {A0 : Option Addr} {c0 : Nat} (hl : v.cs.length = 16) (z : Int) (hC : Kd.C k28 w A0 l.length l) (hz0 : 0 ≤ z) (hz1 : z < (l.length : Int)) (hz2 : z < 1000000) (a1 a2 a3 : Int) (hk : 0 ≤ a3 ∧ a3 < 4294967296) (hi : rd_T28 l z = ⟨53, a1, a2, a3⟩)  (hh : doorwardref11_holds.f 3 v.a a3 = some false) (m : Int) (hm : (if a2 < 0 then 0 else a2) = m) (hm0 : 0 ≤ m) :
    Calls Try.prog 121 #[.agg (mL v z 0 false false).toArray, .slice A0 l.length c0, .string rec] w (StPost w z (.next v m.toNat)) := by
  have hu159 := Try.underlying159
  have hu28 := Try.underlying28
  have hu97 := Try.underlying97
  obtain ⟨ad, eA, hx0, hx1, hx2, hx3⟩ := at_T28 hC z hz0 hz1
  subst eA
  rw [hi] at hx0 hx1 hx2 hx3
  simp only at hx0 hx1 hx2 hx3
  have hy0 := fun o1 o2 => pw_cell_below (below_alloc (below_alloc (Below.refl w.heap.size w) o1) o2) hx0
  have HX0 := Aside0.mk hx0
  have HX1 := Aside0.mk hx1
  have HX2 := Aside0.mk hx2
  have HX3 := Aside0.mk hx3
  have HV := Aside0.mk hl
  have HV2 := Aside0.mk (show ((v) : V).cs.length = 16 from hl)
  have h18 : (mL v z 0 false false).toArray[18]? = some (.int .i64 z) := by rw [getA]; exact mL_tail hl 0
  obtain ⟨Cs, hCs⟩ : ∃ Cs, (mL v z 0 false false).toArray = Cs := ⟨_, rfl⟩
  rw [hCs] at h18 ⊢
  have HCS := Aside0.mk hCs
  have hz4 : wrap64 (z + 1) = z + 1 := w64 _ (by omega) (by omega)
  have hd : decide (z < 0) = false := decide_eq_false (by omega)
  have hd2 : decide ((l.length : Int) ≤ z) = false := decide_eq_false (by omega)
  have HK := Aside0.mk (show ∀ W, Calls Try.prog 45 #[.int .i64 53] W fun e w' => e = .returned (.bool true) ∧ Drawn0 W w' from fun W => known_c 53 W)
  have HH := Aside0.mk (fun W => doorwardref11_holds.calls 3 v.a a3 false W hh)
  have HLE := Aside0.mk (fun W => hm ▸ least_same a2 W)
  clear hh hm
  clear hCs hl hC hi hx0 hx1 hx2 hx3
  go_enter Try.func121, Try.ntmps121
  go_wp2_with (first | (go_at_call 45; refine (HK.out _).mono ?_; rintro e w1 ⟨rfl, hb0⟩; have hb := hb0.below; have HS := Aside0.mk (s0_new' HV.out HCS.out hb); clear hb hb0; have hlt := HS.out.M.lt; have k0 := HS.out.M.cA; have k1 := HS.out.M.cX; have k18 := HS.out.M.cAt; have k19 := HS.out.M.cOut; have k20 := HS.out.M.cDone; have k21 := HS.out.M.cWrong; have f0 := HS.out.M.free 0; have f18 := HS.out.M.free 18; have f19 := HS.out.M.free 19; have f20 := HS.out.M.free 20; have f21 := HS.out.M.free 21; have hx0 := pw_cell_below HS.out.B HX0.out; have hx1 := pw_cell_below HS.out.B HX1.out; have hx2 := pw_cell_below HS.out.B HX2.out; have hx3 := pw_cell_below HS.out.B HX3.out; have HMF := Aside0.mk ((HS.out.M.setAt (z + 1)).alloc (.cells #[.int .i64 53, .int .i64 a1, .int .i64 a2, .int .u32 a3] 28)); have HZF := Aside0.mk (blk_alloc (zfar HS.out.Z 18 (.int .i64 (z + 1))) (.cells #[.int .i64 53, .int .i64 a1, .int .i64 a2, .int .u32 a3] 28)); have HBF := Aside0.mk (below_alloc (HS.out.B.setCell (p := ⟨w.heap.size, 18, none⟩) (Nat.le_refl _) (.int .i64 (z + 1))) (.cells #[.int .i64 53, .int .i64 a1, .int .i64 a2, .int .u32 a3] 28)); have HI := Aside0.mk (alloc_set w1 ⟨w.heap.size, 18, none⟩ (.int .i64 (z + 1)) (.cells #[.int .i64 53, .int .i64 a1, .int .i64 a2, .int .u32 a3] 28)); clear h18 hy0) | (go_at_call 145; refine (HH.out _).mono ?_; rintro e w2 ⟨rfl, hb0⟩; have hb := hb0.below; have HMF := Aside0.mk (HMF.out.below hb); have HZF := Aside0.mk (blk_below HZF.out hb); have HBF := Aside0.mk (below_step HBF.out hb); have HI := Aside0.mk (blk_below HI.out hb); clear hb hb0))
  have u18 := HMF.out.cAt
  have uI : w2.cell? ⟨w1.heap.size, 2, none⟩ = some (.int .i64 a2) := blk_cell HI.out 2
  go_still_tail 7, (by kernel_rfl)
  still_call (HLE.out w2.drew)
  repeat still_step
  refine wpStill_nil ?_
  change wpList _ _ _ _ _ w2.drew
  generalize hw3 : w2.drew = w3
  have HM3 := Aside0.mk (show Mb w3 w.heap.size v (z + 1) 0 false false from by rw [← hw3]; exact HMF.out.drew)
  have HZ3 := Aside0.mk (show w3.heap[w.heap.size + 1]? = some (.cells (mL z0 0 0 false false).toArray 159 (0, 0)) from by rw [← hw3]; exact HZF.out)
  have HB3 := Aside0.mk (show Below w.heap.size w w3 from by rw [← hw3]; exact below_drew HBF.out)
  have HI3 := Aside0.mk (show w3.heap[w1.heap.size]? = some (.cells #[.int .i64 53, .int .i64 a1, .int .i64 a2, .int .u32 a3] 28 (0, 0)) from by rw [← hw3]; exact HI.out)
  have q18 := HM3.out.cAt
  clear HMF HZF HBF HI hw3
  have pf18 := HM3.out.free 18
  have HMF := Aside0.mk (HM3.out.setAt (wrap64 (z + 1 + m)))
  have HZF := Aside0.mk (zfar HZ3.out 18 (.int .i64 (wrap64 (z + 1 + m))))
  have HBF := Aside0.mk (HB3.out.setCell (p := ⟨w.heap.size, 18, none⟩) (Nat.le_refl _) (.int .i64 (wrap64 (z + 1 + m))))
  go_upto_region 32 with fail
  go_wp2_with (first | ((with_reducible refine gate_dst (N := 131) rfl ?_); refine wpList_load_row rfl 159 (.tmp 3) rfl w.heap.size rfl 159 _ (0, 0) _ HMF.out.hW Try.underlying159 rfl (mL_size HV2.out _ _ _ _) ?_) | (refine wpList_store_row rfl 159 (.tmp 6) (.tmp 131) rfl (w.heap.size + 1) _ rfl rfl 159 _ HZF.out (mL_size HV2.out _ _ _ _) (by simp [mL_len (v := v) HV2.out, mL_len (v := z0) z_len]) (mL_one _ _ _ _ _) ?_))
  refine bodyPost_ret (v := .agg (mL (v) (wrap64 (z + 1 + m)) (0) false false).toArray) (results_cell_row (p := 6) (by kernel_rfl) _ _ (w.heap.size + 1) 159 _ (0, 0) _ rfl (setRow_heap _ _ _ _ _ _ HZF.out) Try.underlying159 rfl (mL_size HV2.out _ _ _ _)) rfl ?_
  exact ⟨v, wrap64 (z + 1 + m), 0, false, false, rfl, HV2.out, below_setRow HBF.out (by omega) _, ⟨rfl, rfl, rfl, rfl, by show wrap64 (z + 1 + m) = wrap64 (z + 1 + ((m.toNat : Nat) : Int)); rw [show ((m.toNat : Nat) : Int) = m by omega]⟩⟩
end Go.Proofs.Ytefkhcijgiagdaa.HMr
end
