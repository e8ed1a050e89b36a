/- MeanNots: a condition and the one that says it is not so: not both hold, one does. -/
import Derived.Test.YtoeklekjhaigoaaZMeanNots1
section
namespace Go.Proofs.Ytoeklekjhaigoaa.HNots
open Go.Proofs.Ytoeklekjhaigoaa.Al Go.RowKit Go.Proofs.YtoeklekjhaigoaaW.PrintWords Go.Proofs.YtoeklekjhaigoaaW.PrintLast Go.Proofs.YtoeklekjhaigoaaW.PrintMore Go.Proofs.Ytoeklekjhaigoaa.M0 Go.Proofs.Ytoeklekjhaigoaa.M1 Go.Proofs.Ytoeklekjhaigoaa.M2 Go.Proofs.Ytoeklekjhaigoaa.QCond Go.Proofs.Ytoeklekjhaigoaa.QMean Go.Proofs.Ytoeklekjhaigoaa.QOne Go.Proofs.Ytoeklekjhaigoaa.HMany Go.Proofs.Ytoeklekjhaigoaa.HCount Go.Proofs.Ytoeklekjhaigoaa.HMean Go.Proofs.Ytoeklekjhaigoaa.QHolds Go.Proofs.Ytoeklekjhaigoaa.HKit Go.Proofs.Ytoeklekjhaigoaa.HNot Go.Proofs.Ytoeklekjhaigoaa.K49
set_option linter.unusedVariables false
set_option linter.unusedSimpArgs false
set_option maxRecDepth 100000
attribute [local go_sem] max2_int min2_int max_two min_two
set_option maxHeartbeats 16000000 in
theorem nots_f (c : S46) (x : S49) (A : Option Addr) (n : Nat) (w : World) (hC : Kd.C k46 w A c.f1.length c.f1) (hn : c.f1.length ≤ n) (hcb : ¬ 40 < nodes c) (hr : rightB c = true) (hp : semB x c = false) (h1 : c.f0 ≠ 1) (h2 : c.f0 ≠ 2) :
    Calls Try.prog 9 #[.agg #[.int .i64 c.f0, .slice A c.f1.length n, .int .i64 c.f2, .int .u64 c.f3, .string c.f4, .int .u64 c.f5], .agg #[.int .u32 x.f0, .int .u32 x.f1, .int .u64 x.f2, .int .u64 x.f3.f0, .int .u64 x.f3.f1, .int .u64 x.f3.f2, .int .u64 x.f3.f3, .int .u64 x.f3.f4, .int .u64 x.f3.f5]] w fun e w' => e = .returned (.bool true) ∧ Below w.heap.size w w' := by
  have hu46 := Try.underlying46
  have hu49 := Try.underlying49
  have s1 : (w.alloc (.cells #[.int .i64 c.f0, .slice A c.f1.length n, .int .i64 c.f2, .int .u64 c.f3, .string c.f4, .int .u64 c.f5] 46)).heap.size = w.heap.size + 1 := by simp
  have HC := amk ((Bx.new w hC hn).alloc (.cells #[.int .u32 x.f0, .int .u32 x.f1, .int .u64 x.f2, .int .u64 x.f3.f0, .int .u64 x.f3.f1, .int .u64 x.f3.f2, .int .u64 x.f3.f3, .int .u64 x.f3.f4, .int .u64 x.f3.f5] 49))
  have HX0 := Xx.new (w.alloc (.cells #[.int .i64 c.f0, .slice A c.f1.length n, .int .i64 c.f2, .int .u64 c.f3, .string c.f4, .int .u64 c.f5] 46)) x
  rw [s1] at HX0
  have HX := amk HX0
  have HB := amk (bal (bal (Below.refl w.heap.size w) (.cells #[.int .i64 c.f0, .slice A c.f1.length n, .int .i64 c.f2, .int .u64 c.f3, .string c.f4, .int .u64 c.f5] 46)) (.cells #[.int .u32 x.f0, .int .u32 x.f1, .int .u64 x.f2, .int .u64 x.f3.f0, .int .u64 x.f3.f1, .int .u64 x.f3.f2, .int .u64 x.f3.f3, .int .u64 x.f3.f4, .int .u64 x.f3.f5] 49))
  have HM := amk (fun (W : World) (h : Kd.C k46 W A c.f1.length c.f1) => many_w h hn 40 (by omega) (by omega))
  have HR := amk (fun (W : World) (h : Kd.C k46 W A c.f1.length c.f1) => right_w h hn)
  have HA := amk alive_w
  have nc : decide (40 < ((min (nodes c) ((40 : Int).toNat + 1) : Nat) : Int)) = decide (40 < nodes c) := decide_eq_decide.2 (by simp only [Int.reduceToNat]; omega)
  simp only [hr] at HR
  have hfc := (right_fits hr).1
  have HH0 := amk (fun (W : World) (h : Kd.C k46 W A c.f1.length c.f1) => by have h2 := holds_w x h hn; rw [holds_right hr, hp] at h2; exact h2)
  have HH1 := amk (fun (W : World) (A1 : Option Addr) (n1 : Nat) (h : Kd.C k46 W A1 1 [c]) (g : 1 ≤ n1) => by have h2 := hold1_w x h g; rw [holds_not1 hfc (by omega), hp] at h2; exact h2)
  have HH2 := amk (fun (W : World) (A1 : Option Addr) (n1 : Nat) (h : Kd.C k46 W A1 1 [notC c]) (g : 1 ≤ n1) => by have h2 := hold1_w x h g; rw [holds_not2 hfc (by omega), hp] at h2; exact h2)
  have HN0 := amk (fun (W : World) (h : Kd.C k46 W A c.f1.length c.f1) => not_w h hn)
  have HN1 := amk (fun (W : World) (A1 : Option Addr) (n1 : Nat) (h : Kd.C k46 W A1 1 [c]) (g : 1 ≤ n1) => not2_w h g)
  simp only [Bool.not_true, Bool.not_false] at HH1
  have HS := amk (fun (W' : World) (h : Bx W' w.heap.size c A n) (k : Xx W' (w.heap.size + 1) x) => s15 h k)
  clear s1 HX0 hC
  go_enter Try.func9, Try.ntmps9
  go_upto_region 1 with (fail)
  generalize (w.alloc (.cells #[.int .i64 c.f0, .slice A c.f1.length n, .int .i64 c.f2, .int .u64 c.f3, .string c.f4, .int .u64 c.f5] 46)).alloc (.cells #[.int .u32 x.f0, .int .u32 x.f1, .int .u64 x.f2, .int .u64 x.f3.f0, .int .u64 x.f3.f1, .int .u64 x.f3.f2, .int .u64 x.f3.f3, .int .u64 x.f3.f4, .int .u64 x.f3.f5] 49) = W at *
  obtain ⟨k0, k1, k2, k3, k4, k5⟩ := HC.out.six
  generalize ((min (nodes c) ((40 : Int).toNat + 1) : Nat) : Int) = mc at *
  have e1 : decide (40 < mc) = false := nc.trans (decide_eq_false hcb)
  clear nc hfc hp hr
  go_upto_region 4 with (first | (go_at_call 43; (with_reducible refine (HM.out _ HC.out.C).mono ?_); rintro e w1 ⟨rfl, hb1⟩; have HC := amk (HC.out.below hb1); have HX := amk (HX.out.below hb1); have HB := amk (below_step HB.out hb1); obtain ⟨k0, k1, k2, k3, k4, k5⟩ := HC.out.six; clear hb1) | (go_at_call 47; (with_reducible refine (HR.out _ HC.out.C).mono ?_); rintro e w1 ⟨rfl, hb1⟩; have HC := amk (HC.out.below hb1); have HX := amk (HX.out.below hb1); have HB := amk (below_step HB.out hb1); obtain ⟨k0, k1, k2, k3, k4, k5⟩ := HC.out.six; clear hb1) | (go_at_call 44; (with_reducible refine (HA.out _).mono ?_); rintro e w1 ⟨rfl, hb1⟩; have HC := amk (HC.out.below hb1); have HX := amk (HX.out.below hb1); have HB := amk (below_step HB.out hb1); obtain ⟨k0, k1, k2, k3, k4, k5⟩ := HC.out.six; clear hb1))
  have HC := amk HC.out.drew
  have HX := amk HX.out.drew
  have HB := amk (below_drew HB.out)
  clear k0 k1 k2 k3 k4 k5
  first | (go_region_held3 (fun W' : World => W'.cell? ⟨w.heap.size, 0, none⟩ = some (.int .i64 c.f0) ∧ W'.cell? ⟨w.heap.size, 1, none⟩ = some (.slice A c.f1.length n) ∧ W'.cell? ⟨w.heap.size, 2, none⟩ = some (.int .i64 c.f2) ∧ W'.cell? ⟨w.heap.size, 3, none⟩ = some (.int .u64 c.f3) ∧ W'.cell? ⟨w.heap.size, 4, none⟩ = some (.string c.f4) ∧ W'.cell? ⟨w.heap.size, 5, none⟩ = some (.int .u64 c.f5) ∧ W'.cell? ⟨w.heap.size + 1, 0, none⟩ = some (.int .u32 x.f0) ∧ W'.cell? ⟨w.heap.size + 1, 1, none⟩ = some (.int .u32 x.f1) ∧ W'.cell? ⟨w.heap.size + 1, 2, none⟩ = some (.int .u64 x.f2) ∧ W'.cell? ⟨w.heap.size + 1, 3, none⟩ = some (.int .u64 x.f3.f0) ∧ W'.cell? ⟨w.heap.size + 1, 4, none⟩ = some (.int .u64 x.f3.f1) ∧ W'.cell? ⟨w.heap.size + 1, 5, none⟩ = some (.int .u64 x.f3.f2) ∧ W'.cell? ⟨w.heap.size + 1, 6, none⟩ = some (.int .u64 x.f3.f3) ∧ W'.cell? ⟨w.heap.size + 1, 7, none⟩ = some (.int .u64 x.f3.f4) ∧ W'.cell? ⟨w.heap.size + 1, 8, none⟩ = some (.int .u64 x.f3.f5)) (exact HS.out _ HC.out HX.out) (first | (go_at_call 44; (with_reducible refine (HA.out _).mono ?_); rintro e w1 ⟨rfl, hb1⟩; have HC := amk (HC.out.below hb1); have HX := amk (HX.out.below hb1); have HB := amk (below_step HB.out hb1); clear hb1) | (go_at_call 45; (with_reducible refine (HH0.out _ HC.out.C).mono ?_); rintro e w1 ⟨rfl, hb1⟩; have HC := amk (HC.out.below hb1); have HX := amk (HX.out.below hb1); have HB := amk (below_step HB.out hb1); clear hb1) | (go_at_call 45; (with_reducible refine (HH1.out _ _ _ HK1.out HK1n.out).mono ?_); rintro e w1 ⟨rfl, hb1⟩; have HC := amk (HC.out.below hb1); have HX := amk (HX.out.below hb1); have HB := amk (below_step HB.out hb1); clear hb1) | (go_at_call 45; (with_reducible refine (HH2.out _ _ _ HK2.out HK2n.out).mono ?_); rintro e w1 ⟨rfl, hb1⟩; have HC := amk (HC.out.below hb1); have HX := amk (HX.out.below hb1); have HB := amk (below_step HB.out hb1); clear hb1) | (go_at_call 48; (with_reducible refine (HN0.out _ HC.out.C).mono ?_); rintro e w1 ⟨A1, n1, rfl, hC1, hn1, hb1⟩; have HC := amk (HC.out.below hb1); have HX := amk (HX.out.below hb1); have HB := amk (below_step HB.out hb1); have HK1 := amk hC1; have HK1n := amk hn1; clear hC1 hn1; clear hb1) | (go_at_call 48; (with_reducible refine (HN1.out _ _ _ HK1.out HK1n.out).mono ?_); rintro e w1 ⟨A1, n1, rfl, hC1, hn1, hb1⟩; have HC := amk (HC.out.below hb1); have HX := amk (HX.out.below hb1); have HB := amk (below_step HB.out hb1); have HK2 := amk hC1; have HK2n := amk hn1; clear hC1 hn1; clear hb1))) | fail
  rename_i hHz
  clear hHz HM HR HN1 HK1 HK2 HK1n HK2n
  obtain ⟨k0, k1, k2, k3, k4, k5⟩ := HC.out.six
  have b1 : (c.f0 != 1) = true := by simpa [bne_iff_ne] using h1
  have b2 : (c.f0 != 2) = true := by simpa [bne_iff_ne] using h2
  clear h1 h2
  go_wp2
  go_ret
  exact ⟨rfl, HB.out⟩
end Go.Proofs.Ytoeklekjhaigoaa.HNots
end
section
namespace Go.Proofs.Ytoeklekjhaigoaa.HNots
open Go.Proofs.Ytoeklekjhaigoaa.Al Go.RowKit Go.Proofs.YtoeklekjhaigoaaW.PrintWords Go.Proofs.YtoeklekjhaigoaaW.PrintLast Go.Proofs.YtoeklekjhaigoaaW.PrintMore Go.Proofs.Ytoeklekjhaigoaa.M0 Go.Proofs.Ytoeklekjhaigoaa.M1 Go.Proofs.Ytoeklekjhaigoaa.M2 Go.Proofs.Ytoeklekjhaigoaa.QCond Go.Proofs.Ytoeklekjhaigoaa.QMean Go.Proofs.Ytoeklekjhaigoaa.QOne Go.Proofs.Ytoeklekjhaigoaa.HMany Go.Proofs.Ytoeklekjhaigoaa.HCount Go.Proofs.Ytoeklekjhaigoaa.HMean Go.Proofs.Ytoeklekjhaigoaa.QHolds Go.Proofs.Ytoeklekjhaigoaa.HKit Go.Proofs.Ytoeklekjhaigoaa.HNot Go.Proofs.Ytoeklekjhaigoaa.K49
set_option linter.unusedVariables false
set_option linter.unusedSimpArgs false
set_option maxRecDepth 100000
attribute [local go_sem] max2_int min2_int max_two min_two
set_option maxHeartbeats 16000000 in
theorem nots_t1 (c : S46) (x : S49) (A : Option Addr) (n : Nat) (w : World) (hC : Kd.C k46 w A c.f1.length c.f1) (hn : c.f1.length ≤ n) (hcb : ¬ 40 < nodes c) (hr : rightB c = true) (hp : semB x c = true) (h1 : c.f0 = 1) :
    Calls Try.prog 9 #[.agg #[.int .i64 c.f0, .slice A c.f1.length n, .int .i64 c.f2, .int .u64 c.f3, .string c.f4, .int .u64 c.f5], .agg #[.int .u32 x.f0, .int .u32 x.f1, .int .u64 x.f2, .int .u64 x.f3.f0, .int .u64 x.f3.f1, .int .u64 x.f3.f2, .int .u64 x.f3.f3, .int .u64 x.f3.f4, .int .u64 x.f3.f5]] w fun e w' => e = .returned (.bool true) ∧ Below w.heap.size w w' := by
  have hu46 := Try.underlying46
  have hu49 := Try.underlying49
  have s1 : (w.alloc (.cells #[.int .i64 c.f0, .slice A c.f1.length n, .int .i64 c.f2, .int .u64 c.f3, .string c.f4, .int .u64 c.f5] 46)).heap.size = w.heap.size + 1 := by simp
  have HC := amk ((Bx.new w hC hn).alloc (.cells #[.int .u32 x.f0, .int .u32 x.f1, .int .u64 x.f2, .int .u64 x.f3.f0, .int .u64 x.f3.f1, .int .u64 x.f3.f2, .int .u64 x.f3.f3, .int .u64 x.f3.f4, .int .u64 x.f3.f5] 49))
  have HX0 := Xx.new (w.alloc (.cells #[.int .i64 c.f0, .slice A c.f1.length n, .int .i64 c.f2, .int .u64 c.f3, .string c.f4, .int .u64 c.f5] 46)) x
  rw [s1] at HX0
  have HX := amk HX0
  have HB := amk (bal (bal (Below.refl w.heap.size w) (.cells #[.int .i64 c.f0, .slice A c.f1.length n, .int .i64 c.f2, .int .u64 c.f3, .string c.f4, .int .u64 c.f5] 46)) (.cells #[.int .u32 x.f0, .int .u32 x.f1, .int .u64 x.f2, .int .u64 x.f3.f0, .int .u64 x.f3.f1, .int .u64 x.f3.f2, .int .u64 x.f3.f3, .int .u64 x.f3.f4, .int .u64 x.f3.f5] 49))
  have HM := amk (fun (W : World) (h : Kd.C k46 W A c.f1.length c.f1) => many_w h hn 40 (by omega) (by omega))
  have HR := amk (fun (W : World) (h : Kd.C k46 W A c.f1.length c.f1) => right_w h hn)
  have HA := amk alive_w
  have nc : decide (40 < ((min (nodes c) ((40 : Int).toNat + 1) : Nat) : Int)) = decide (40 < nodes c) := decide_eq_decide.2 (by simp only [Int.reduceToNat]; omega)
  simp only [hr] at HR
  have hfc := (right_fits hr).1
  have HH0 := amk (fun (W : World) (h : Kd.C k46 W A c.f1.length c.f1) => by have h2 := holds_w x h hn; rw [holds_right hr, hp] at h2; exact h2)
  have HH1 := amk (fun (W : World) (A1 : Option Addr) (n1 : Nat) (h : Kd.C k46 W A1 1 [c]) (g : 1 ≤ n1) => by have h2 := hold1_w x h g; rw [holds_not1 hfc (by omega), hp] at h2; exact h2)
  have HH2 := amk (fun (W : World) (A1 : Option Addr) (n1 : Nat) (h : Kd.C k46 W A1 1 [notC c]) (g : 1 ≤ n1) => by have h2 := hold1_w x h g; rw [holds_not2 hfc (by omega), hp] at h2; exact h2)
  have HN0 := amk (fun (W : World) (h : Kd.C k46 W A c.f1.length c.f1) => not_w h hn)
  have HN1 := amk (fun (W : World) (A1 : Option Addr) (n1 : Nat) (h : Kd.C k46 W A1 1 [c]) (g : 1 ≤ n1) => not2_w h g)
  simp only [Bool.not_true, Bool.not_false] at HH1
  have HS := amk (fun (W' : World) (h : Bx W' w.heap.size c A n) (k : Xx W' (w.heap.size + 1) x) => s15 h k)
  have HMO := amk (show holdsB x (manyC 2 (c.f1.map notC)) = false from by have hm := holds_morgan (x := x) hfc (Or.inl h1) (by omega); rw [h1, hp] at hm; exact hm)
  have H1 := amk h1
  have HC0 := amk hC
  have HLK := amk (show c.f1.length ≤ 40 from by have e := nodes_eq c; have e2 := len_nodes c.f1; omega)
  clear h1
  clear s1 HX0 hC
  go_enter Try.func9, Try.ntmps9
  go_upto_region 1 with (fail)
  generalize (w.alloc (.cells #[.int .i64 c.f0, .slice A c.f1.length n, .int .i64 c.f2, .int .u64 c.f3, .string c.f4, .int .u64 c.f5] 46)).alloc (.cells #[.int .u32 x.f0, .int .u32 x.f1, .int .u64 x.f2, .int .u64 x.f3.f0, .int .u64 x.f3.f1, .int .u64 x.f3.f2, .int .u64 x.f3.f3, .int .u64 x.f3.f4, .int .u64 x.f3.f5] 49) = W at *
  obtain ⟨k0, k1, k2, k3, k4, k5⟩ := HC.out.six
  generalize ((min (nodes c) ((40 : Int).toNat + 1) : Nat) : Int) = mc at *
  have e1 : decide (40 < mc) = false := nc.trans (decide_eq_false hcb)
  clear nc hfc hp hr
  go_upto_region 4 with (first | (go_at_call 43; (with_reducible refine (HM.out _ HC.out.C).mono ?_); rintro e w1 ⟨rfl, hb1⟩; have HC := amk (HC.out.below hb1); have HX := amk (HX.out.below hb1); have HB := amk (below_step HB.out hb1); obtain ⟨k0, k1, k2, k3, k4, k5⟩ := HC.out.six; clear hb1) | (go_at_call 47; (with_reducible refine (HR.out _ HC.out.C).mono ?_); rintro e w1 ⟨rfl, hb1⟩; have HC := amk (HC.out.below hb1); have HX := amk (HX.out.below hb1); have HB := amk (below_step HB.out hb1); obtain ⟨k0, k1, k2, k3, k4, k5⟩ := HC.out.six; clear hb1) | (go_at_call 44; (with_reducible refine (HA.out _).mono ?_); rintro e w1 ⟨rfl, hb1⟩; have HC := amk (HC.out.below hb1); have HX := amk (HX.out.below hb1); have HB := amk (below_step HB.out hb1); obtain ⟨k0, k1, k2, k3, k4, k5⟩ := HC.out.six; clear hb1))
  have HC := amk HC.out.drew
  have HX := amk HX.out.drew
  have HB := amk (below_drew HB.out)
  clear k0 k1 k2 k3 k4 k5
  first | (go_region_held3 (fun W' : World => W'.cell? ⟨w.heap.size, 0, none⟩ = some (.int .i64 c.f0) ∧ W'.cell? ⟨w.heap.size, 1, none⟩ = some (.slice A c.f1.length n) ∧ W'.cell? ⟨w.heap.size, 2, none⟩ = some (.int .i64 c.f2) ∧ W'.cell? ⟨w.heap.size, 3, none⟩ = some (.int .u64 c.f3) ∧ W'.cell? ⟨w.heap.size, 4, none⟩ = some (.string c.f4) ∧ W'.cell? ⟨w.heap.size, 5, none⟩ = some (.int .u64 c.f5) ∧ W'.cell? ⟨w.heap.size + 1, 0, none⟩ = some (.int .u32 x.f0) ∧ W'.cell? ⟨w.heap.size + 1, 1, none⟩ = some (.int .u32 x.f1) ∧ W'.cell? ⟨w.heap.size + 1, 2, none⟩ = some (.int .u64 x.f2) ∧ W'.cell? ⟨w.heap.size + 1, 3, none⟩ = some (.int .u64 x.f3.f0) ∧ W'.cell? ⟨w.heap.size + 1, 4, none⟩ = some (.int .u64 x.f3.f1) ∧ W'.cell? ⟨w.heap.size + 1, 5, none⟩ = some (.int .u64 x.f3.f2) ∧ W'.cell? ⟨w.heap.size + 1, 6, none⟩ = some (.int .u64 x.f3.f3) ∧ W'.cell? ⟨w.heap.size + 1, 7, none⟩ = some (.int .u64 x.f3.f4) ∧ W'.cell? ⟨w.heap.size + 1, 8, none⟩ = some (.int .u64 x.f3.f5)) (exact HS.out _ HC.out HX.out) (first | (go_at_call 44; (with_reducible refine (HA.out _).mono ?_); rintro e w1 ⟨rfl, hb1⟩; have HC := amk (HC.out.below hb1); have HX := amk (HX.out.below hb1); have HB := amk (below_step HB.out hb1); clear hb1) | (go_at_call 45; (with_reducible refine (HH0.out _ HC.out.C).mono ?_); rintro e w1 ⟨rfl, hb1⟩; have HC := amk (HC.out.below hb1); have HX := amk (HX.out.below hb1); have HB := amk (below_step HB.out hb1); clear hb1) | (go_at_call 45; (with_reducible refine (HH1.out _ _ _ HK1.out HK1n.out).mono ?_); rintro e w1 ⟨rfl, hb1⟩; have HC := amk (HC.out.below hb1); have HX := amk (HX.out.below hb1); have HB := amk (below_step HB.out hb1); clear hb1) | (go_at_call 45; (with_reducible refine (HH2.out _ _ _ HK2.out HK2n.out).mono ?_); rintro e w1 ⟨rfl, hb1⟩; have HC := amk (HC.out.below hb1); have HX := amk (HX.out.below hb1); have HB := amk (below_step HB.out hb1); clear hb1) | (go_at_call 48; (with_reducible refine (HN0.out _ HC.out.C).mono ?_); rintro e w1 ⟨A1, n1, rfl, hC1, hn1, hb1⟩; have HC := amk (HC.out.below hb1); have HX := amk (HX.out.below hb1); have HB := amk (below_step HB.out hb1); have HK1 := amk hC1; have HK1n := amk hn1; clear hC1 hn1; clear hb1) | (go_at_call 48; (with_reducible refine (HN1.out _ _ _ HK1.out HK1n.out).mono ?_); rintro e w1 ⟨A1, n1, rfl, hC1, hn1, hb1⟩; have HC := amk (HC.out.below hb1); have HX := amk (HX.out.below hb1); have HB := amk (below_step HB.out hb1); have HK2 := amk hC1; have HK2n := amk hn1; clear hC1 hn1; clear hb1))) | fail
  rename_i hHz
  clear hHz HM HR HN1 HK1 HK2 HK1n HK2n
  obtain ⟨k0, k1, k2, k3, k4, k5⟩ := HC.out.six
  rw [H1.out] at k0
  go_upto_region 9 with (fail)
  have HW := amk (Nw.start HC.out HX.out HB.out HC0.out 2)
  generalize w1.alloc (.cells #[.int .i64 2, .slice none 0 0, .int .i64 0, .int .u64 0, .string ⟨#[]⟩, .int .u64 0] 46) = W5 at *
  generalize w1.heap.size = db at *
  clear k0 k1 k2 k3 k4 k5 HC HX HB
  obtain ⟨k0, k1, k2, k3, k4, k5⟩ := HW.out.hc.six
  rw [H1.out] at k0
  go_wp2
  go_loopw [59] (fun j wr => ∃ (k : Nat) (v : Value), k ≤ c.f1.length ∧ j = .int .i64 k ∧ Aside0 (Nw w wr c x A n db 2 v k)) (fun j _ => c.f1.length - (intOf j).toNat)
  case atStart => exact ⟨0, _, Nat.zero_le _, rfl, HW⟩
  case round =>
    clear HW k0 k1 k2 k3 k4 k5
    obtain ⟨k, v, hk, rfl, hs⟩ := hrel
    by_cases hkl : k < c.f1.length
    · have e2 : decide ((k : Int) < (c.f1.length : Int)) = true := decide_eq_true (by omega)
      obtain ⟨ad, Aq, nq, rfl, hx0, hx1, hx2, hx3, hx4, hx5, hnq, hFK⟩ := atF46 hs.out.F (k : Int) (by omega) (by omega)
      simp only [Int.toNat_natCast] at hx0 hx1 hx2 hx3 hx4 hx5
      have j0 : (0 : Int) ≤ (k : Int) := by omega
      have j1 : (k : Int) < (c.f1.length : Int) := by omega
      have hln : c.f1.length ≤ 40 := HLK.out
      have HST := amk (fun (W : World) (h : Nw w W c x (some ad) n db 2 v k) {v1 : Value} {W1 : World} => h.step hkl (v1 := v1) (W1 := W1))
      have HEQ := amk (show rd_T46 c.f1 ((k : Nat) : Int) = rd_T46 c.f1 (k : Int) from rfl)
      have HLN := amk (show (((c.f1.take k).map notC).length + 1) * 72 ≤ 140737488355328 from by rw [List.length_map, List.length_take]; have := HLK.out; omega)
      have HYE := amk (fun (W : World) (h : Nw w W c x (some ad) n db 2 v k) => h.N)
      generalize rd_T46 c.f1 (k : Int) = q at *
      generalize (c.f1.take k).map notC = ys at *
      obtain ⟨Av, cv, rfl⟩ := Kd.N_slice (HYE.out _ hs.out)
      have HS0 := amk (hs.out.alloc (.cells #[.int .i64 q.f0, .slice Aq q.f1.length nq, .int .i64 q.f2, .int .u64 q.f3, .string q.f4, .int .u64 q.f5] 46))
      have HFK0 := amk (Kd.FK_below hFK (bal (Below.refl _ _) (.cells #[.int .i64 q.f0, .slice Aq q.f1.length nq, .int .i64 q.f2, .int .u64 q.f3, .string q.f4, .int .u64 q.f5] 46)))
      have HK0 := amk (show Kx (wr.alloc (.cells #[.int .i64 q.f0, .slice Aq q.f1.length nq, .int .i64 q.f2, .int .u64 q.f3, .string q.f4, .int .u64 q.f5] 46)) wr.heap.size q Aq nq from heap_alloc_new _ _)
      have HNE := amk (show some wr.heap.size ≠ (Value.slice Av ys.length cv).ownBlock from fun e => by have := hs.out.own_lt e.symm; omega)
      have HDK := amk (show wr.heap.size ≠ db from by have := blk_lt hs.out.hd; omega)
      clear hFK
      go_upto_region 12 with (fail)
      generalize wr.alloc (.cells #[.int .i64 q.f0, .slice Aq q.f1.length nq, .int .i64 q.f2, .int .u64 q.f3, .string q.f4, .int .u64 q.f5] 46) = W5b at *
      generalize wr.heap.size = kb at *
      clear hs hx0 hx1 hx2 hx3 hx4 hx5
      have HS := amk HS0.out.drew
      have HFK := amk (show Kd.FK k46 W5b.drew _ q (cells46 q Aq nq) from Kd.FK_below HFK0.out (below_drew (Below.refl _ _)))
      have HK := amk (show Kx W5b.drew kb q Aq nq from HK0.out)
      have HOK := amk HS.out.okp
      clear HS0 HFK0 HK0
      have d1 : W5b.drew.cell? ⟨db, 1, none⟩ = some (.slice Av ys.length cv) := blk_cell HS.out.hd 1
      refine wp_region_held_drew (S := fun W' : World => W'.cell? ⟨kb, 0, none⟩ = some (.int .i64 q.f0) ∧ W'.cell? ⟨kb, 1, none⟩ = some (.slice Aq q.f1.length nq) ∧ W'.cell? ⟨kb, 2, none⟩ = some (.int .i64 q.f2) ∧ W'.cell? ⟨kb, 3, none⟩ = some (.int .u64 q.f3) ∧ W'.cell? ⟨kb, 4, none⟩ = some (.string q.f4) ∧ W'.cell? ⟨kb, 5, none⟩ = some (.int .u64 q.f5)) (by kernel_rfl) ?hS0 (fun hH => ?rest0)
      case hS0 => exact HK.out.six
      refine wpAnyH_take (i := 0) (oi := { dst := some 63, op := Go.Op.fieldAddr 46 (Go.Operand.tmp 6) 1, type := 0, pos := "law.go:50", after := #[], guard := none }) (v := ?v1) rfl (by kernel_rfl) (by kernel_rfl) (by kernel_rfl) (fun _ _ _ h => h) (Or.inl ⟨by rfl, ?hy1⟩) (by assumption) ?rest1
      case hy1 => (intro w hSw; (try dsimp only at hSw); go_simp <;> with_reducible rfl)
      try simp only [Act.put, List.setIfInBounds_toArray, List.set_cons_zero, List.set_cons_succ]
      refine wpAnyH_take (i := 2) (oi := { dst := some 65, op := Go.Op.move (Go.Operand.tmp 5), type := 53, pos := "law.go:50", after := #[], guard := none }) (v := ?v2) rfl (by kernel_rfl) (by kernel_rfl) (by kernel_rfl) (fun _ _ _ h => h) (Or.inl ⟨by rfl, ?hy2⟩) (by assumption) ?rest2
      case hy2 => (intro w hSw; (try dsimp only at hSw); go_simp <;> with_reducible rfl)
      try simp only [Act.put, List.setIfInBounds_toArray, List.set_cons_zero, List.set_cons_succ]
      refine wpAnyH_take (i := 3) (oi := { dst := some 66, op := Go.Op.load 46 (Go.Operand.tmp 8), type := 46, pos := "law.go:50", after := #[], guard := none }) (v := ?v3) rfl (by kernel_rfl) (by kernel_rfl) (by kernel_rfl) (fun _ _ _ h => h) (Or.inl ⟨by rfl, ?hy3⟩) (by assumption) ?rest3
      case hy3 => (intro w hSw; (try dsimp only at hSw); go_simp <;> with_reducible rfl)
      try simp only [Act.put, List.setIfInBounds_toArray, List.set_cons_zero, List.set_cons_succ]
      refine wpAnyH_ready (rs := [1, 4]) (by kernel_rfl) (by simp) ?_
      refine AllReadyH.cons (o := { dst := some 64, op := Go.Op.load 44 (Go.Operand.tmp 63), type := 44, pos := "law.go:50", after := #[{ on := 0, ground := Go.Ground.data }], guard := none }) rfl (fun K hK => ?_) (AllReadyH.cons (o := { dst := some 67, op := Go.Op.call { callee := Go.Callee.value (Go.Operand.tmp 65), args := #[Go.Operand.tmp 66], argTypes := #[46] }, type := 46, pos := "law.go:50", after := #[{ on := 2, ground := Go.Ground.data }, { on := 3, ground := Go.Ground.data }], guard := none }) rfl (fun K hK => ?_) AllReadyH.nil)
      · go_simp
        refine hK.out _ _ ?hS4 (fun hH2 => ?rest4)
        case hS4 => exact HK.out.six
        clear hK K hH
        have hH := hH2
        clear hH2
        try simp only [Act.put, List.setIfInBounds_toArray, List.set_cons_zero, List.set_cons_succ]
        refine wpAnyH_ready (rs := [4]) (by kernel_rfl) (by simp) ?_
        refine AllReadyH.cons (o := { dst := some 67, op := Go.Op.call { callee := Go.Callee.value (Go.Operand.tmp 65), args := #[Go.Operand.tmp 66], argTypes := #[46] }, type := 46, pos := "law.go:50", after := #[{ on := 2, ground := Go.Ground.data }, { on := 3, ground := Go.Ground.data }], guard := none }) rfl (fun K hK => ?_) AllReadyH.nil
        go_simp
        go_at_call 48
        refine (not_f HFK.out).mono ?_
        rintro e w7 ⟨A1, n1, rfl, hF1, hn1, hb1⟩
        have HS := amk (HS.out.below hb1)
        have HK := amk (HK.out.below hb1)
        have HF1 := amk (show Kd.FK k46 w7 (fun b => b < w.heap.size ∨ W5b.drew.heap.size ≤ b) (notC q) [.int .i64 3, .slice A1 1 n1, .int .i64 0, .int .u64 0, .string ⟨#[]⟩, .int .u64 0] from k46_mkF w7 _ (notC q) hn1 hF1)
        have HSZ := amk hb1.size
        have d1 : w7.cell? ⟨db, 1, none⟩ = some (.slice Av ys.length cv) := blk_cell HS.out.hd 1
        clear hF1 hn1 hb1
        try go_simp
        refine hK.out _ _ ?hS5 (fun hH2 => ?rest5)
        case hS5 => exact HK.out.six
        clear hK K hH
        have hH := hH2
        clear hH2
        try simp only [Act.put, List.setIfInBounds_toArray, List.set_cons_zero, List.set_cons_succ]
        refine wpAnyH_ready (rs := [5]) (by kernel_rfl) (by simp) ?_
        refine AllReadyH.cons (o := { dst := some 68, op := Go.Op.buildSlice 44 1 #[(0, Go.Operand.tmp 67)], type := 44, pos := "law.go:50", after := #[{ on := 4, ground := Go.Ground.data }], guard := none }) rfl (fun K hK => ?_) AllReadyH.nil
        go_simp
        have HS8 := amk (HS.out.alloc (.cells #[.int .i64 3, .slice A1 1 n1, .int .i64 0, .int .u64 0, .string ⟨#[]⟩, .int .u64 0] 46))
        have HK8 := amk (HK.out.below (bal (Below.refl _ _) (.cells #[.int .i64 3, .slice A1 1 n1, .int .i64 0, .int .u64 0, .string ⟨#[]⟩, .int .u64 0] 46)))
        have d1 : (w7.alloc (.cells #[.int .i64 3, .slice A1 1 n1, .int .i64 0, .int .u64 0, .string ⟨#[]⟩, .int .u64 0] 46)).cell? ⟨db, 1, none⟩ = some (.slice Av ys.length cv) := blk_cell HS8.out.hd 1
        refine hK.out _ _ ?hS6 (fun hH2 => ?rest6)
        case hS6 => exact HK8.out.six
        clear hK K hH
        have hH := hH2
        clear hH2
        try simp only [Act.put, List.setIfInBounds_toArray, List.set_cons_zero, List.set_cons_succ]
        refine wpAnyH_ready (rs := [6]) (by kernel_rfl) (by simp) ?_
        refine AllReadyH.cons (o := { dst := some 69, op := Go.Op.call { callee := Go.Callee.builtin Go.Builtin.append, args := #[Go.Operand.tmp 64, Go.Operand.tmp 68], argTypes := #[44, 44] }, type := 44, pos := "law.go:50", after := #[{ on := 1, ground := Go.Ground.data }, { on := 5, ground := Go.Ground.data }, { on := 4, ground := Go.Ground.chain }], guard := none }) rfl (fun K hK => ?_) AllReadyH.nil
        refine Kd.N_append_step k46 (w0 := w) w.heap.size (by rfl) (.tmp 64) (.tmp 68) 44 46 _ 72 rfl Try.underlying44 hInfo46 rfl (by decide) (by decide) (.slice Av ys.length cv) ys (notC q) [.int .i64 3, .slice A1 1 n1, .int .i64 0, .int .u64 0, .string ⟨#[]⟩, .int .u64 0] (fun b => b ≠ db) (fun b => b < w.heap.size ∨ W5b.drew.heap.size ≤ b) rfl (by simp [Act.eval, Act.put]) HF1.out HOK.out (fun b hb => by have h1 := blk_lt HS.out.hd; have h2 : w7.heap.size ≤ b := hb; omega) (HYE.out _ HS.out) HS.out.B HS.out.B.size (by have := HLN.out; omega) ?_
        intro v1 w9 hN9 hb9 hg9 hat9
        obtain ⟨A9, c9, rfl⟩ := Kd.N_slice hN9
        rw [List.length_append, List.length_singleton] at hN9 hat9
        have HT := amk (HST.out _ HS.out hN9 hb9 hg9 hat9)
        have hh := (hg9.block db (blk_lt HS.out.hd) (HS.out.ne (Nat.le_refl _))).trans HS.out.hd
        have d1 := blk_cell hh 1
        have f1 := blk_frozen hh 1
        have HK9 := amk (show Kx w9 kb q Aq nq from (hg9.block kb (blk_lt HK.out) HNE.out).trans HK.out)
        have HK10 := amk (show Kx (w9.setCell ⟨db, 1, none⟩ (.slice A9 (ys.length + 1) c9)) kb q Aq nq from (Below.heap_setCell _ _ _ _ HDK.out).trans HK9.out)
        clear hh hN9 hb9 hg9 hat9
        refine hK.out _ _ ?hS7 (fun hH2 => ?rest7)
        case hS7 => exact HK9.out.six
        clear hK K hH
        have hH := hH2
        clear hH2
        try simp only [Act.put, List.setIfInBounds_toArray, List.set_cons_zero, List.set_cons_succ]
        refine wpAnyH_take (i := 7) (oi := { dst := some 70, op := Go.Op.fieldAddr 46 (Go.Operand.tmp 6) 1, type := 0, pos := "law.go:50", after := #[{ on := 0, ground := Go.Ground.phase }, { on := 1, ground := Go.Ground.phase }, { on := 2, ground := Go.Ground.phase }, { on := 3, ground := Go.Ground.phase }, { on := 4, ground := Go.Ground.phase }, { on := 5, ground := Go.Ground.phase }, { on := 6, ground := Go.Ground.phase }], guard := none }) (v := ?v8) rfl (by kernel_rfl) (by kernel_rfl) (by kernel_rfl) (fun _ _ _ h => h) (Or.inl ⟨by rfl, ?hy8⟩) (by assumption) ?rest8
        case hy8 => (intro w hSw; (try dsimp only at hSw); go_simp <;> with_reducible rfl)
        try simp only [Act.put, List.setIfInBounds_toArray, List.set_cons_zero, List.set_cons_succ]
        refine wpAnyH_ready (rs := [8]) (by kernel_rfl) (by simp) ?_
        refine AllReadyH.cons (o := { dst := none, op := Go.Op.store 44 (Go.Operand.tmp 70) (Go.Operand.tmp 69), type := 0, pos := "law.go:50", after := #[{ on := 7, ground := Go.Ground.data }, { on := 6, ground := Go.Ground.data }, { on := 6, ground := Go.Ground.chain }, { on := 0, ground := Go.Ground.phase }, { on := 1, ground := Go.Ground.phase }, { on := 2, ground := Go.Ground.phase }, { on := 3, ground := Go.Ground.phase }, { on := 4, ground := Go.Ground.phase }, { on := 5, ground := Go.Ground.phase }, { on := 6, ground := Go.Ground.phase }], guard := none }) rfl (fun K hK => ?_) AllReadyH.nil
        go_simp
        refine hK.out _ _ ?hS9 (fun hH2 => ?rest9)
        case hS9 => exact HK10.out.six
        clear hK K hH
        have hH := hH2
        clear hH2
        try simp only [Act.put, List.setIfInBounds_toArray, List.set_cons_zero, List.set_cons_succ]
        refine wpAnyH_done (by kernel_rfl) ?_ _
        clear hH HK
        go_wp2
        refine ⟨⟨k + 1, _, by omega, by rfl, HT⟩, ?_⟩
        simp [intOf]; omega
      · go_simp
        go_at_call 48
        refine (not_f HFK.out).mono ?_
        rintro e w7 ⟨A1, n1, rfl, hF1, hn1, hb1⟩
        have HS := amk (HS.out.below hb1)
        have HK := amk (HK.out.below hb1)
        have HF1 := amk (show Kd.FK k46 w7 (fun b => b < w.heap.size ∨ W5b.drew.heap.size ≤ b) (notC q) [.int .i64 3, .slice A1 1 n1, .int .i64 0, .int .u64 0, .string ⟨#[]⟩, .int .u64 0] from k46_mkF w7 _ (notC q) hn1 hF1)
        have HSZ := amk hb1.size
        have d1 : w7.cell? ⟨db, 1, none⟩ = some (.slice Av ys.length cv) := blk_cell HS.out.hd 1
        clear hF1 hn1 hb1
        try go_simp
        refine hK.out _ _ ?hS10 (fun hH2 => ?rest10)
        case hS10 => exact HK.out.six
        clear hK K hH
        have hH := hH2
        clear hH2
        try simp only [Act.put, List.setIfInBounds_toArray, List.set_cons_zero, List.set_cons_succ]
        refine wpAnyH_ready (rs := [1, 5]) (by kernel_rfl) (by simp) ?_
        refine AllReadyH.cons (o := { dst := some 64, op := Go.Op.load 44 (Go.Operand.tmp 63), type := 44, pos := "law.go:50", after := #[{ on := 0, ground := Go.Ground.data }], guard := none }) rfl (fun K hK => ?_) (AllReadyH.cons (o := { dst := some 68, op := Go.Op.buildSlice 44 1 #[(0, Go.Operand.tmp 67)], type := 44, pos := "law.go:50", after := #[{ on := 4, ground := Go.Ground.data }], guard := none }) rfl (fun K hK => ?_) AllReadyH.nil)
        · go_simp
          refine hK.out _ _ ?hS11 (fun hH2 => ?rest11)
          case hS11 => exact HK.out.six
          clear hK K hH
          have hH := hH2
          clear hH2
          try simp only [Act.put, List.setIfInBounds_toArray, List.set_cons_zero, List.set_cons_succ]
          refine wpAnyH_ready (rs := [5]) (by kernel_rfl) (by simp) ?_
          refine AllReadyH.cons (o := { dst := some 68, op := Go.Op.buildSlice 44 1 #[(0, Go.Operand.tmp 67)], type := 44, pos := "law.go:50", after := #[{ on := 4, ground := Go.Ground.data }], guard := none }) rfl (fun K hK => ?_) AllReadyH.nil
          go_simp
          have HS8 := amk (HS.out.alloc (.cells #[.int .i64 3, .slice A1 1 n1, .int .i64 0, .int .u64 0, .string ⟨#[]⟩, .int .u64 0] 46))
          have HK8 := amk (HK.out.below (bal (Below.refl _ _) (.cells #[.int .i64 3, .slice A1 1 n1, .int .i64 0, .int .u64 0, .string ⟨#[]⟩, .int .u64 0] 46)))
          have d1 : (w7.alloc (.cells #[.int .i64 3, .slice A1 1 n1, .int .i64 0, .int .u64 0, .string ⟨#[]⟩, .int .u64 0] 46)).cell? ⟨db, 1, none⟩ = some (.slice Av ys.length cv) := blk_cell HS8.out.hd 1
          refine hK.out _ _ ?hS12 (fun hH2 => ?rest12)
          case hS12 => exact HK8.out.six
          clear hK K hH
          have hH := hH2
          clear hH2
          try simp only [Act.put, List.setIfInBounds_toArray, List.set_cons_zero, List.set_cons_succ]
          refine wpAnyH_ready (rs := [6]) (by kernel_rfl) (by simp) ?_
          refine AllReadyH.cons (o := { dst := some 69, op := Go.Op.call { callee := Go.Callee.builtin Go.Builtin.append, args := #[Go.Operand.tmp 64, Go.Operand.tmp 68], argTypes := #[44, 44] }, type := 44, pos := "law.go:50", after := #[{ on := 1, ground := Go.Ground.data }, { on := 5, ground := Go.Ground.data }, { on := 4, ground := Go.Ground.chain }], guard := none }) rfl (fun K hK => ?_) AllReadyH.nil
          refine Kd.N_append_step k46 (w0 := w) w.heap.size (by rfl) (.tmp 64) (.tmp 68) 44 46 _ 72 rfl Try.underlying44 hInfo46 rfl (by decide) (by decide) (.slice Av ys.length cv) ys (notC q) [.int .i64 3, .slice A1 1 n1, .int .i64 0, .int .u64 0, .string ⟨#[]⟩, .int .u64 0] (fun b => b ≠ db) (fun b => b < w.heap.size ∨ W5b.drew.heap.size ≤ b) rfl (by simp [Act.eval, Act.put]) HF1.out HOK.out (fun b hb => by have h1 := blk_lt HS.out.hd; have h2 : w7.heap.size ≤ b := hb; omega) (HYE.out _ HS.out) HS.out.B HS.out.B.size (by have := HLN.out; omega) ?_
          intro v1 w9 hN9 hb9 hg9 hat9
          obtain ⟨A9, c9, rfl⟩ := Kd.N_slice hN9
          rw [List.length_append, List.length_singleton] at hN9 hat9
          have HT := amk (HST.out _ HS.out hN9 hb9 hg9 hat9)
          have hh := (hg9.block db (blk_lt HS.out.hd) (HS.out.ne (Nat.le_refl _))).trans HS.out.hd
          have d1 := blk_cell hh 1
          have f1 := blk_frozen hh 1
          have HK9 := amk (show Kx w9 kb q Aq nq from (hg9.block kb (blk_lt HK.out) HNE.out).trans HK.out)
          have HK10 := amk (show Kx (w9.setCell ⟨db, 1, none⟩ (.slice A9 (ys.length + 1) c9)) kb q Aq nq from (Below.heap_setCell _ _ _ _ HDK.out).trans HK9.out)
          clear hh hN9 hb9 hg9 hat9
          refine hK.out _ _ ?hS13 (fun hH2 => ?rest13)
          case hS13 => exact HK9.out.six
          clear hK K hH
          have hH := hH2
          clear hH2
          try simp only [Act.put, List.setIfInBounds_toArray, List.set_cons_zero, List.set_cons_succ]
          refine wpAnyH_take (i := 7) (oi := { dst := some 70, op := Go.Op.fieldAddr 46 (Go.Operand.tmp 6) 1, type := 0, pos := "law.go:50", after := #[{ on := 0, ground := Go.Ground.phase }, { on := 1, ground := Go.Ground.phase }, { on := 2, ground := Go.Ground.phase }, { on := 3, ground := Go.Ground.phase }, { on := 4, ground := Go.Ground.phase }, { on := 5, ground := Go.Ground.phase }, { on := 6, ground := Go.Ground.phase }], guard := none }) (v := ?v14) rfl (by kernel_rfl) (by kernel_rfl) (by kernel_rfl) (fun _ _ _ h => h) (Or.inl ⟨by rfl, ?hy14⟩) (by assumption) ?rest14
          case hy14 => (intro w hSw; (try dsimp only at hSw); go_simp <;> with_reducible rfl)
          try simp only [Act.put, List.setIfInBounds_toArray, List.set_cons_zero, List.set_cons_succ]
          refine wpAnyH_ready (rs := [8]) (by kernel_rfl) (by simp) ?_
          refine AllReadyH.cons (o := { dst := none, op := Go.Op.store 44 (Go.Operand.tmp 70) (Go.Operand.tmp 69), type := 0, pos := "law.go:50", after := #[{ on := 7, ground := Go.Ground.data }, { on := 6, ground := Go.Ground.data }, { on := 6, ground := Go.Ground.chain }, { on := 0, ground := Go.Ground.phase }, { on := 1, ground := Go.Ground.phase }, { on := 2, ground := Go.Ground.phase }, { on := 3, ground := Go.Ground.phase }, { on := 4, ground := Go.Ground.phase }, { on := 5, ground := Go.Ground.phase }, { on := 6, ground := Go.Ground.phase }], guard := none }) rfl (fun K hK => ?_) AllReadyH.nil
          go_simp
          refine hK.out _ _ ?hS15 (fun hH2 => ?rest15)
          case hS15 => exact HK10.out.six
          clear hK K hH
          have hH := hH2
          clear hH2
          try simp only [Act.put, List.setIfInBounds_toArray, List.set_cons_zero, List.set_cons_succ]
          refine wpAnyH_done (by kernel_rfl) ?_ _
          clear hH HK
          go_wp2
          refine ⟨⟨k + 1, _, by omega, by rfl, HT⟩, ?_⟩
          simp [intOf]; omega
        · go_simp
          have HS8 := amk (HS.out.alloc (.cells #[.int .i64 3, .slice A1 1 n1, .int .i64 0, .int .u64 0, .string ⟨#[]⟩, .int .u64 0] 46))
          have HK8 := amk (HK.out.below (bal (Below.refl _ _) (.cells #[.int .i64 3, .slice A1 1 n1, .int .i64 0, .int .u64 0, .string ⟨#[]⟩, .int .u64 0] 46)))
          have d1 : (w7.alloc (.cells #[.int .i64 3, .slice A1 1 n1, .int .i64 0, .int .u64 0, .string ⟨#[]⟩, .int .u64 0] 46)).cell? ⟨db, 1, none⟩ = some (.slice Av ys.length cv) := blk_cell HS8.out.hd 1
          refine hK.out _ _ ?hS16 (fun hH2 => ?rest16)
          case hS16 => exact HK8.out.six
          clear hK K hH
          have hH := hH2
          clear hH2
          try simp only [Act.put, List.setIfInBounds_toArray, List.set_cons_zero, List.set_cons_succ]
          refine wpAnyH_ready (rs := [1]) (by kernel_rfl) (by simp) ?_
          refine AllReadyH.cons (o := { dst := some 64, op := Go.Op.load 44 (Go.Operand.tmp 63), type := 44, pos := "law.go:50", after := #[{ on := 0, ground := Go.Ground.data }], guard := none }) rfl (fun K hK => ?_) AllReadyH.nil
          go_simp
          refine hK.out _ _ ?hS17 (fun hH2 => ?rest17)
          case hS17 => exact HK8.out.six
          clear hK K hH
          have hH := hH2
          clear hH2
          try simp only [Act.put, List.setIfInBounds_toArray, List.set_cons_zero, List.set_cons_succ]
          refine wpAnyH_ready (rs := [6]) (by kernel_rfl) (by simp) ?_
          refine AllReadyH.cons (o := { dst := some 69, op := Go.Op.call { callee := Go.Callee.builtin Go.Builtin.append, args := #[Go.Operand.tmp 64, Go.Operand.tmp 68], argTypes := #[44, 44] }, type := 44, pos := "law.go:50", after := #[{ on := 1, ground := Go.Ground.data }, { on := 5, ground := Go.Ground.data }, { on := 4, ground := Go.Ground.chain }], guard := none }) rfl (fun K hK => ?_) AllReadyH.nil
          refine Kd.N_append_step k46 (w0 := w) w.heap.size (by rfl) (.tmp 64) (.tmp 68) 44 46 _ 72 rfl Try.underlying44 hInfo46 rfl (by decide) (by decide) (.slice Av ys.length cv) ys (notC q) [.int .i64 3, .slice A1 1 n1, .int .i64 0, .int .u64 0, .string ⟨#[]⟩, .int .u64 0] (fun b => b ≠ db) (fun b => b < w.heap.size ∨ W5b.drew.heap.size ≤ b) rfl (by simp [Act.eval, Act.put]) HF1.out HOK.out (fun b hb => by have h1 := blk_lt HS.out.hd; have h2 : w7.heap.size ≤ b := hb; omega) (HYE.out _ HS.out) HS.out.B HS.out.B.size (by have := HLN.out; omega) ?_
          intro v1 w9 hN9 hb9 hg9 hat9
          obtain ⟨A9, c9, rfl⟩ := Kd.N_slice hN9
          rw [List.length_append, List.length_singleton] at hN9 hat9
          have HT := amk (HST.out _ HS.out hN9 hb9 hg9 hat9)
          have hh := (hg9.block db (blk_lt HS.out.hd) (HS.out.ne (Nat.le_refl _))).trans HS.out.hd
          have d1 := blk_cell hh 1
          have f1 := blk_frozen hh 1
          have HK9 := amk (show Kx w9 kb q Aq nq from (hg9.block kb (blk_lt HK.out) HNE.out).trans HK.out)
          have HK10 := amk (show Kx (w9.setCell ⟨db, 1, none⟩ (.slice A9 (ys.length + 1) c9)) kb q Aq nq from (Below.heap_setCell _ _ _ _ HDK.out).trans HK9.out)
          clear hh hN9 hb9 hg9 hat9
          refine hK.out _ _ ?hS18 (fun hH2 => ?rest18)
          case hS18 => exact HK9.out.six
          clear hK K hH
          have hH := hH2
          clear hH2
          try simp only [Act.put, List.setIfInBounds_toArray, List.set_cons_zero, List.set_cons_succ]
          refine wpAnyH_take (i := 7) (oi := { dst := some 70, op := Go.Op.fieldAddr 46 (Go.Operand.tmp 6) 1, type := 0, pos := "law.go:50", after := #[{ on := 0, ground := Go.Ground.phase }, { on := 1, ground := Go.Ground.phase }, { on := 2, ground := Go.Ground.phase }, { on := 3, ground := Go.Ground.phase }, { on := 4, ground := Go.Ground.phase }, { on := 5, ground := Go.Ground.phase }, { on := 6, ground := Go.Ground.phase }], guard := none }) (v := ?v19) rfl (by kernel_rfl) (by kernel_rfl) (by kernel_rfl) (fun _ _ _ h => h) (Or.inl ⟨by rfl, ?hy19⟩) (by assumption) ?rest19
          case hy19 => (intro w hSw; (try dsimp only at hSw); go_simp <;> with_reducible rfl)
          try simp only [Act.put, List.setIfInBounds_toArray, List.set_cons_zero, List.set_cons_succ]
          refine wpAnyH_ready (rs := [8]) (by kernel_rfl) (by simp) ?_
          refine AllReadyH.cons (o := { dst := none, op := Go.Op.store 44 (Go.Operand.tmp 70) (Go.Operand.tmp 69), type := 0, pos := "law.go:50", after := #[{ on := 7, ground := Go.Ground.data }, { on := 6, ground := Go.Ground.data }, { on := 6, ground := Go.Ground.chain }, { on := 0, ground := Go.Ground.phase }, { on := 1, ground := Go.Ground.phase }, { on := 2, ground := Go.Ground.phase }, { on := 3, ground := Go.Ground.phase }, { on := 4, ground := Go.Ground.phase }, { on := 5, ground := Go.Ground.phase }, { on := 6, ground := Go.Ground.phase }], guard := none }) rfl (fun K hK => ?_) AllReadyH.nil
          go_simp
          refine hK.out _ _ ?hS20 (fun hH2 => ?rest20)
          case hS20 => exact HK10.out.six
          clear hK K hH
          have hH := hH2
          clear hH2
          try simp only [Act.put, List.setIfInBounds_toArray, List.set_cons_zero, List.set_cons_succ]
          refine wpAnyH_done (by kernel_rfl) ?_ _
          clear hH HK
          go_wp2
          refine ⟨⟨k + 1, _, by omega, by rfl, HT⟩, ?_⟩
          simp [intOf]; omega
    · obtain rfl : k = c.f1.length := by omega
      have e2 : decide ((c.f1.length : Int) < (c.f1.length : Int)) = false := decide_eq_false (by omega)
      have hN := hs.out.N
      have hd := hs.out.hd
      obtain ⟨Av, cv, rfl⟩ := Kd.N_slice hN
      have hr := (Kd.N_reads' hN).2
      rw [List.take_length] at hd hr
      have HC := amk hs.out.hc.drew
      have HX := amk hs.out.hx.drew
      have HB := amk (below_drew hs.out.B)
      have HD := amk (Bx.drew (show Bx wr db (manyC 2 (c.f1.map notC)) Av cv from ⟨hd, hr.2, hr.1⟩))
      have HHD := amk (fun (W : World) (h : Bx W db (manyC 2 (c.f1.map notC)) Av cv) => show Calls Try.prog 45 #[.agg #[.int .i64 2, .slice Av (c.f1.map notC).length cv, .int .i64 0, .int .u64 0, .string ⟨#[]⟩, .int .u64 0], .agg #[.int .u32 x.f0, .int .u32 x.f1, .int .u64 x.f2, .int .u64 x.f3.f0, .int .u64 x.f3.f1, .int .u64 x.f3.f2, .int .u64 x.f3.f3, .int .u64 x.f3.f4, .int .u64 x.f3.f5]] W fun e w' => e = .returned (.bool false) ∧ Below W.heap.size W w' from by have h2 := holds_w x h.C h.L; rw [HMO.out] at h2; exact h2)
      clear hs hN hd hr HMO H1
      generalize c.f1.map notC = zs at *
      go_upto_region 14 with (fail)
      first | go_region_held3 (fun W' : World => W'.cell? ⟨w.heap.size, 0, none⟩ = some (.int .i64 c.f0) ∧ W'.cell? ⟨w.heap.size, 1, none⟩ = some (.slice A c.f1.length n) ∧ W'.cell? ⟨w.heap.size, 2, none⟩ = some (.int .i64 c.f2) ∧ W'.cell? ⟨w.heap.size, 3, none⟩ = some (.int .u64 c.f3) ∧ W'.cell? ⟨w.heap.size, 4, none⟩ = some (.string c.f4) ∧ W'.cell? ⟨w.heap.size, 5, none⟩ = some (.int .u64 c.f5) ∧ W'.cell? ⟨db, 0, none⟩ = some (.int .i64 2) ∧ W'.cell? ⟨db, 1, none⟩ = some (.slice Av zs.length cv) ∧ W'.cell? ⟨db, 2, none⟩ = some (.int .i64 0) ∧ W'.cell? ⟨db, 3, none⟩ = some (.int .u64 0) ∧ W'.cell? ⟨db, 4, none⟩ = some (.string ⟨#[]⟩) ∧ W'.cell? ⟨db, 5, none⟩ = some (.int .u64 0) ∧ W'.cell? ⟨w.heap.size + 1, 0, none⟩ = some (.int .u32 x.f0) ∧ W'.cell? ⟨w.heap.size + 1, 1, none⟩ = some (.int .u32 x.f1) ∧ W'.cell? ⟨w.heap.size + 1, 2, none⟩ = some (.int .u64 x.f2) ∧ W'.cell? ⟨w.heap.size + 1, 3, none⟩ = some (.int .u64 x.f3.f0) ∧ W'.cell? ⟨w.heap.size + 1, 4, none⟩ = some (.int .u64 x.f3.f1) ∧ W'.cell? ⟨w.heap.size + 1, 5, none⟩ = some (.int .u64 x.f3.f2) ∧ W'.cell? ⟨w.heap.size + 1, 6, none⟩ = some (.int .u64 x.f3.f3) ∧ W'.cell? ⟨w.heap.size + 1, 7, none⟩ = some (.int .u64 x.f3.f4) ∧ W'.cell? ⟨w.heap.size + 1, 8, none⟩ = some (.int .u64 x.f3.f5)) (exact ⟨HC.out.six.1, HC.out.six.2.1, HC.out.six.2.2.1, HC.out.six.2.2.2.1, HC.out.six.2.2.2.2.1, HC.out.six.2.2.2.2.2, HD.out.six.1, HD.out.six.2.1, HD.out.six.2.2.1, HD.out.six.2.2.2.1, HD.out.six.2.2.2.2.1, HD.out.six.2.2.2.2.2, HX.out.nine⟩) (first | (go_at_call 48; (with_reducible refine (HN0.out _ HC.out.C).mono ?_); rintro e w1 ⟨A1, n1, rfl, hC1, hn1, hb1⟩; have HC := amk (HC.out.below hb1); have HX := amk (HX.out.below hb1); have HD := amk (HD.out.below hb1); have HB := amk (below_step HB.out hb1); have HK1 := amk hC1; have HK1n := amk hn1; clear hC1 hn1; clear hb1) | (go_at_call 45; (with_reducible refine (HH1.out _ _ _ HK1.out HK1n.out).mono ?_); rintro e w1 ⟨rfl, hb1⟩; have HC := amk (HC.out.below hb1); have HX := amk (HX.out.below hb1); have HD := amk (HD.out.below hb1); have HB := amk (below_step HB.out hb1); clear hb1) | (go_at_call 45; (with_reducible refine (HHD.out _ HD.out).mono ?_); rintro e w1 ⟨rfl, hb1⟩; have HC := amk (HC.out.below hb1); have HX := amk (HX.out.below hb1); have HD := amk (HD.out.below hb1); have HB := amk (below_step HB.out hb1); clear hb1)) | fail
      go_wp2
      go_ret
      exact ⟨rfl, HB.out⟩
end Go.Proofs.Ytoeklekjhaigoaa.HNots
end
section
namespace Go.Proofs.Ytoeklekjhaigoaa.HNots
open Go.Proofs.Ytoeklekjhaigoaa.Al Go.RowKit Go.Proofs.YtoeklekjhaigoaaW.PrintWords Go.Proofs.YtoeklekjhaigoaaW.PrintLast Go.Proofs.YtoeklekjhaigoaaW.PrintMore Go.Proofs.Ytoeklekjhaigoaa.M0 Go.Proofs.Ytoeklekjhaigoaa.M1 Go.Proofs.Ytoeklekjhaigoaa.M2 Go.Proofs.Ytoeklekjhaigoaa.QCond Go.Proofs.Ytoeklekjhaigoaa.QMean Go.Proofs.Ytoeklekjhaigoaa.QOne Go.Proofs.Ytoeklekjhaigoaa.HMany Go.Proofs.Ytoeklekjhaigoaa.HCount Go.Proofs.Ytoeklekjhaigoaa.HMean Go.Proofs.Ytoeklekjhaigoaa.QHolds Go.Proofs.Ytoeklekjhaigoaa.HKit Go.Proofs.Ytoeklekjhaigoaa.HNot Go.Proofs.Ytoeklekjhaigoaa.K49
set_option linter.unusedVariables false
set_option linter.unusedSimpArgs false
set_option maxRecDepth 100000
attribute [local go_sem] max2_int min2_int max_two min_two
set_option maxHeartbeats 16000000 in
theorem nots_t2 (c : S46) (x : S49) (A : Option Addr) (n : Nat) (w : World) (hC : Kd.C k46 w A c.f1.length c.f1) (hn : c.f1.length ≤ n) (hcb : ¬ 40 < nodes c) (hr : rightB c = true) (hp : semB x c = true) (h1 : c.f0 = 2) :
    Calls Try.prog 9 #[.agg #[.int .i64 c.f0, .slice A c.f1.length n, .int .i64 c.f2, .int .u64 c.f3, .string c.f4, .int .u64 c.f5], .agg #[.int .u32 x.f0, .int .u32 x.f1, .int .u64 x.f2, .int .u64 x.f3.f0, .int .u64 x.f3.f1, .int .u64 x.f3.f2, .int .u64 x.f3.f3, .int .u64 x.f3.f4, .int .u64 x.f3.f5]] w fun e w' => e = .returned (.bool true) ∧ Below w.heap.size w w' := by
  have hu46 := Try.underlying46
  have hu49 := Try.underlying49
  have s1 : (w.alloc (.cells #[.int .i64 c.f0, .slice A c.f1.length n, .int .i64 c.f2, .int .u64 c.f3, .string c.f4, .int .u64 c.f5] 46)).heap.size = w.heap.size + 1 := by simp
  have HC := amk ((Bx.new w hC hn).alloc (.cells #[.int .u32 x.f0, .int .u32 x.f1, .int .u64 x.f2, .int .u64 x.f3.f0, .int .u64 x.f3.f1, .int .u64 x.f3.f2, .int .u64 x.f3.f3, .int .u64 x.f3.f4, .int .u64 x.f3.f5] 49))
  have HX0 := Xx.new (w.alloc (.cells #[.int .i64 c.f0, .slice A c.f1.length n, .int .i64 c.f2, .int .u64 c.f3, .string c.f4, .int .u64 c.f5] 46)) x
  rw [s1] at HX0
  have HX := amk HX0
  have HB := amk (bal (bal (Below.refl w.heap.size w) (.cells #[.int .i64 c.f0, .slice A c.f1.length n, .int .i64 c.f2, .int .u64 c.f3, .string c.f4, .int .u64 c.f5] 46)) (.cells #[.int .u32 x.f0, .int .u32 x.f1, .int .u64 x.f2, .int .u64 x.f3.f0, .int .u64 x.f3.f1, .int .u64 x.f3.f2, .int .u64 x.f3.f3, .int .u64 x.f3.f4, .int .u64 x.f3.f5] 49))
  have HM := amk (fun (W : World) (h : Kd.C k46 W A c.f1.length c.f1) => many_w h hn 40 (by omega) (by omega))
  have HR := amk (fun (W : World) (h : Kd.C k46 W A c.f1.length c.f1) => right_w h hn)
  have HA := amk alive_w
  have nc : decide (40 < ((min (nodes c) ((40 : Int).toNat + 1) : Nat) : Int)) = decide (40 < nodes c) := decide_eq_decide.2 (by simp only [Int.reduceToNat]; omega)
  simp only [hr] at HR
  have hfc := (right_fits hr).1
  have HH0 := amk (fun (W : World) (h : Kd.C k46 W A c.f1.length c.f1) => by have h2 := holds_w x h hn; rw [holds_right hr, hp] at h2; exact h2)
  have HH1 := amk (fun (W : World) (A1 : Option Addr) (n1 : Nat) (h : Kd.C k46 W A1 1 [c]) (g : 1 ≤ n1) => by have h2 := hold1_w x h g; rw [holds_not1 hfc (by omega), hp] at h2; exact h2)
  have HH2 := amk (fun (W : World) (A1 : Option Addr) (n1 : Nat) (h : Kd.C k46 W A1 1 [notC c]) (g : 1 ≤ n1) => by have h2 := hold1_w x h g; rw [holds_not2 hfc (by omega), hp] at h2; exact h2)
  have HN0 := amk (fun (W : World) (h : Kd.C k46 W A c.f1.length c.f1) => not_w h hn)
  have HN1 := amk (fun (W : World) (A1 : Option Addr) (n1 : Nat) (h : Kd.C k46 W A1 1 [c]) (g : 1 ≤ n1) => not2_w h g)
  simp only [Bool.not_true, Bool.not_false] at HH1
  have HS := amk (fun (W' : World) (h : Bx W' w.heap.size c A n) (k : Xx W' (w.heap.size + 1) x) => s15 h k)
  have HMO := amk (show holdsB x (manyC 1 (c.f1.map notC)) = false from by have hm := holds_morgan (x := x) hfc (Or.inr h1) (by omega); rw [h1, hp] at hm; exact hm)
  have H1 := amk h1
  have HC0 := amk hC
  have HLK := amk (show c.f1.length ≤ 40 from by have e := nodes_eq c; have e2 := len_nodes c.f1; omega)
  clear h1
  clear s1 HX0 hC
  go_enter Try.func9, Try.ntmps9
  go_upto_region 1 with (fail)
  generalize (w.alloc (.cells #[.int .i64 c.f0, .slice A c.f1.length n, .int .i64 c.f2, .int .u64 c.f3, .string c.f4, .int .u64 c.f5] 46)).alloc (.cells #[.int .u32 x.f0, .int .u32 x.f1, .int .u64 x.f2, .int .u64 x.f3.f0, .int .u64 x.f3.f1, .int .u64 x.f3.f2, .int .u64 x.f3.f3, .int .u64 x.f3.f4, .int .u64 x.f3.f5] 49) = W at *
  obtain ⟨k0, k1, k2, k3, k4, k5⟩ := HC.out.six
  generalize ((min (nodes c) ((40 : Int).toNat + 1) : Nat) : Int) = mc at *
  have e1 : decide (40 < mc) = false := nc.trans (decide_eq_false hcb)
  clear nc hfc hp hr
  go_upto_region 4 with (first | (go_at_call 43; (with_reducible refine (HM.out _ HC.out.C).mono ?_); rintro e w1 ⟨rfl, hb1⟩; have HC := amk (HC.out.below hb1); have HX := amk (HX.out.below hb1); have HB := amk (below_step HB.out hb1); obtain ⟨k0, k1, k2, k3, k4, k5⟩ := HC.out.six; clear hb1) | (go_at_call 47; (with_reducible refine (HR.out _ HC.out.C).mono ?_); rintro e w1 ⟨rfl, hb1⟩; have HC := amk (HC.out.below hb1); have HX := amk (HX.out.below hb1); have HB := amk (below_step HB.out hb1); obtain ⟨k0, k1, k2, k3, k4, k5⟩ := HC.out.six; clear hb1) | (go_at_call 44; (with_reducible refine (HA.out _).mono ?_); rintro e w1 ⟨rfl, hb1⟩; have HC := amk (HC.out.below hb1); have HX := amk (HX.out.below hb1); have HB := amk (below_step HB.out hb1); obtain ⟨k0, k1, k2, k3, k4, k5⟩ := HC.out.six; clear hb1))
  have HC := amk HC.out.drew
  have HX := amk HX.out.drew
  have HB := amk (below_drew HB.out)
  clear k0 k1 k2 k3 k4 k5
  first | (go_region_held3 (fun W' : World => W'.cell? ⟨w.heap.size, 0, none⟩ = some (.int .i64 c.f0) ∧ W'.cell? ⟨w.heap.size, 1, none⟩ = some (.slice A c.f1.length n) ∧ W'.cell? ⟨w.heap.size, 2, none⟩ = some (.int .i64 c.f2) ∧ W'.cell? ⟨w.heap.size, 3, none⟩ = some (.int .u64 c.f3) ∧ W'.cell? ⟨w.heap.size, 4, none⟩ = some (.string c.f4) ∧ W'.cell? ⟨w.heap.size, 5, none⟩ = some (.int .u64 c.f5) ∧ W'.cell? ⟨w.heap.size + 1, 0, none⟩ = some (.int .u32 x.f0) ∧ W'.cell? ⟨w.heap.size + 1, 1, none⟩ = some (.int .u32 x.f1) ∧ W'.cell? ⟨w.heap.size + 1, 2, none⟩ = some (.int .u64 x.f2) ∧ W'.cell? ⟨w.heap.size + 1, 3, none⟩ = some (.int .u64 x.f3.f0) ∧ W'.cell? ⟨w.heap.size + 1, 4, none⟩ = some (.int .u64 x.f3.f1) ∧ W'.cell? ⟨w.heap.size + 1, 5, none⟩ = some (.int .u64 x.f3.f2) ∧ W'.cell? ⟨w.heap.size + 1, 6, none⟩ = some (.int .u64 x.f3.f3) ∧ W'.cell? ⟨w.heap.size + 1, 7, none⟩ = some (.int .u64 x.f3.f4) ∧ W'.cell? ⟨w.heap.size + 1, 8, none⟩ = some (.int .u64 x.f3.f5)) (exact HS.out _ HC.out HX.out) (first | (go_at_call 44; (with_reducible refine (HA.out _).mono ?_); rintro e w1 ⟨rfl, hb1⟩; have HC := amk (HC.out.below hb1); have HX := amk (HX.out.below hb1); have HB := amk (below_step HB.out hb1); clear hb1) | (go_at_call 45; (with_reducible refine (HH0.out _ HC.out.C).mono ?_); rintro e w1 ⟨rfl, hb1⟩; have HC := amk (HC.out.below hb1); have HX := amk (HX.out.below hb1); have HB := amk (below_step HB.out hb1); clear hb1) | (go_at_call 45; (with_reducible refine (HH1.out _ _ _ HK1.out HK1n.out).mono ?_); rintro e w1 ⟨rfl, hb1⟩; have HC := amk (HC.out.below hb1); have HX := amk (HX.out.below hb1); have HB := amk (below_step HB.out hb1); clear hb1) | (go_at_call 45; (with_reducible refine (HH2.out _ _ _ HK2.out HK2n.out).mono ?_); rintro e w1 ⟨rfl, hb1⟩; have HC := amk (HC.out.below hb1); have HX := amk (HX.out.below hb1); have HB := amk (below_step HB.out hb1); clear hb1) | (go_at_call 48; (with_reducible refine (HN0.out _ HC.out.C).mono ?_); rintro e w1 ⟨A1, n1, rfl, hC1, hn1, hb1⟩; have HC := amk (HC.out.below hb1); have HX := amk (HX.out.below hb1); have HB := amk (below_step HB.out hb1); have HK1 := amk hC1; have HK1n := amk hn1; clear hC1 hn1; clear hb1) | (go_at_call 48; (with_reducible refine (HN1.out _ _ _ HK1.out HK1n.out).mono ?_); rintro e w1 ⟨A1, n1, rfl, hC1, hn1, hb1⟩; have HC := amk (HC.out.below hb1); have HX := amk (HX.out.below hb1); have HB := amk (below_step HB.out hb1); have HK2 := amk hC1; have HK2n := amk hn1; clear hC1 hn1; clear hb1))) | fail
  rename_i hHz
  clear hHz HM HR HN1 HK1 HK2 HK1n HK2n
  obtain ⟨k0, k1, k2, k3, k4, k5⟩ := HC.out.six
  rw [H1.out] at k0
  go_upto_region 9 with (fail)
  have HW := amk (Nw.start HC.out HX.out HB.out HC0.out 1)
  generalize w1.alloc (.cells #[.int .i64 1, .slice none 0 0, .int .i64 0, .int .u64 0, .string ⟨#[]⟩, .int .u64 0] 46) = W5 at *
  generalize w1.heap.size = db at *
  clear k0 k1 k2 k3 k4 k5 HC HX HB
  obtain ⟨k0, k1, k2, k3, k4, k5⟩ := HW.out.hc.six
  rw [H1.out] at k0
  go_wp2
  go_loopw [59] (fun j wr => ∃ (k : Nat) (v : Value), k ≤ c.f1.length ∧ j = .int .i64 k ∧ Aside0 (Nw w wr c x A n db 1 v k)) (fun j _ => c.f1.length - (intOf j).toNat)
  case atStart => exact ⟨0, _, Nat.zero_le _, rfl, HW⟩
  case round =>
    clear HW k0 k1 k2 k3 k4 k5
    obtain ⟨k, v, hk, rfl, hs⟩ := hrel
    by_cases hkl : k < c.f1.length
    · have e2 : decide ((k : Int) < (c.f1.length : Int)) = true := decide_eq_true (by omega)
      obtain ⟨ad, Aq, nq, rfl, hx0, hx1, hx2, hx3, hx4, hx5, hnq, hFK⟩ := atF46 hs.out.F (k : Int) (by omega) (by omega)
      simp only [Int.toNat_natCast] at hx0 hx1 hx2 hx3 hx4 hx5
      have j0 : (0 : Int) ≤ (k : Int) := by omega
      have j1 : (k : Int) < (c.f1.length : Int) := by omega
      have hln : c.f1.length ≤ 40 := HLK.out
      have HST := amk (fun (W : World) (h : Nw w W c x (some ad) n db 1 v k) {v1 : Value} {W1 : World} => h.step hkl (v1 := v1) (W1 := W1))
      have HEQ := amk (show rd_T46 c.f1 ((k : Nat) : Int) = rd_T46 c.f1 (k : Int) from rfl)
      have HLN := amk (show (((c.f1.take k).map notC).length + 1) * 72 ≤ 140737488355328 from by rw [List.length_map, List.length_take]; have := HLK.out; omega)
      have HYE := amk (fun (W : World) (h : Nw w W c x (some ad) n db 1 v k) => h.N)
      generalize rd_T46 c.f1 (k : Int) = q at *
      generalize (c.f1.take k).map notC = ys at *
      obtain ⟨Av, cv, rfl⟩ := Kd.N_slice (HYE.out _ hs.out)
      have HS0 := amk (hs.out.alloc (.cells #[.int .i64 q.f0, .slice Aq q.f1.length nq, .int .i64 q.f2, .int .u64 q.f3, .string q.f4, .int .u64 q.f5] 46))
      have HFK0 := amk (Kd.FK_below hFK (bal (Below.refl _ _) (.cells #[.int .i64 q.f0, .slice Aq q.f1.length nq, .int .i64 q.f2, .int .u64 q.f3, .string q.f4, .int .u64 q.f5] 46)))
      have HK0 := amk (show Kx (wr.alloc (.cells #[.int .i64 q.f0, .slice Aq q.f1.length nq, .int .i64 q.f2, .int .u64 q.f3, .string q.f4, .int .u64 q.f5] 46)) wr.heap.size q Aq nq from heap_alloc_new _ _)
      have HNE := amk (show some wr.heap.size ≠ (Value.slice Av ys.length cv).ownBlock from fun e => by have := hs.out.own_lt e.symm; omega)
      have HDK := amk (show wr.heap.size ≠ db from by have := blk_lt hs.out.hd; omega)
      clear hFK
      go_upto_region 12 with (fail)
      generalize wr.alloc (.cells #[.int .i64 q.f0, .slice Aq q.f1.length nq, .int .i64 q.f2, .int .u64 q.f3, .string q.f4, .int .u64 q.f5] 46) = W5b at *
      generalize wr.heap.size = kb at *
      clear hs hx0 hx1 hx2 hx3 hx4 hx5
      have HS := amk HS0.out.drew
      have HFK := amk (show Kd.FK k46 W5b.drew _ q (cells46 q Aq nq) from Kd.FK_below HFK0.out (below_drew (Below.refl _ _)))
      have HK := amk (show Kx W5b.drew kb q Aq nq from HK0.out)
      have HOK := amk HS.out.okp
      clear HS0 HFK0 HK0
      have d1 : W5b.drew.cell? ⟨db, 1, none⟩ = some (.slice Av ys.length cv) := blk_cell HS.out.hd 1
      refine wp_region_held_drew (S := fun W' : World => W'.cell? ⟨kb, 0, none⟩ = some (.int .i64 q.f0) ∧ W'.cell? ⟨kb, 1, none⟩ = some (.slice Aq q.f1.length nq) ∧ W'.cell? ⟨kb, 2, none⟩ = some (.int .i64 q.f2) ∧ W'.cell? ⟨kb, 3, none⟩ = some (.int .u64 q.f3) ∧ W'.cell? ⟨kb, 4, none⟩ = some (.string q.f4) ∧ W'.cell? ⟨kb, 5, none⟩ = some (.int .u64 q.f5)) (by kernel_rfl) ?hS0 (fun hH => ?rest0)
      case hS0 => exact HK.out.six
      refine wpAnyH_take (i := 0) (oi := { dst := some 63, op := Go.Op.fieldAddr 46 (Go.Operand.tmp 6) 1, type := 0, pos := "law.go:50", after := #[], guard := none }) (v := ?v21) rfl (by kernel_rfl) (by kernel_rfl) (by kernel_rfl) (fun _ _ _ h => h) (Or.inl ⟨by rfl, ?hy21⟩) (by assumption) ?rest21
      case hy21 => (intro w hSw; (try dsimp only at hSw); go_simp <;> with_reducible rfl)
      try simp only [Act.put, List.setIfInBounds_toArray, List.set_cons_zero, List.set_cons_succ]
      refine wpAnyH_take (i := 2) (oi := { dst := some 65, op := Go.Op.move (Go.Operand.tmp 5), type := 53, pos := "law.go:50", after := #[], guard := none }) (v := ?v22) rfl (by kernel_rfl) (by kernel_rfl) (by kernel_rfl) (fun _ _ _ h => h) (Or.inl ⟨by rfl, ?hy22⟩) (by assumption) ?rest22
      case hy22 => (intro w hSw; (try dsimp only at hSw); go_simp <;> with_reducible rfl)
      try simp only [Act.put, List.setIfInBounds_toArray, List.set_cons_zero, List.set_cons_succ]
      refine wpAnyH_take (i := 3) (oi := { dst := some 66, op := Go.Op.load 46 (Go.Operand.tmp 8), type := 46, pos := "law.go:50", after := #[], guard := none }) (v := ?v23) rfl (by kernel_rfl) (by kernel_rfl) (by kernel_rfl) (fun _ _ _ h => h) (Or.inl ⟨by rfl, ?hy23⟩) (by assumption) ?rest23
      case hy23 => (intro w hSw; (try dsimp only at hSw); go_simp <;> with_reducible rfl)
      try simp only [Act.put, List.setIfInBounds_toArray, List.set_cons_zero, List.set_cons_succ]
      refine wpAnyH_ready (rs := [1, 4]) (by kernel_rfl) (by simp) ?_
      refine AllReadyH.cons (o := { dst := some 64, op := Go.Op.load 44 (Go.Operand.tmp 63), type := 44, pos := "law.go:50", after := #[{ on := 0, ground := Go.Ground.data }], guard := none }) rfl (fun K hK => ?_) (AllReadyH.cons (o := { dst := some 67, op := Go.Op.call { callee := Go.Callee.value (Go.Operand.tmp 65), args := #[Go.Operand.tmp 66], argTypes := #[46] }, type := 46, pos := "law.go:50", after := #[{ on := 2, ground := Go.Ground.data }, { on := 3, ground := Go.Ground.data }], guard := none }) rfl (fun K hK => ?_) AllReadyH.nil)
      · go_simp
        refine hK.out _ _ ?hS24 (fun hH2 => ?rest24)
        case hS24 => exact HK.out.six
        clear hK K hH
        have hH := hH2
        clear hH2
        try simp only [Act.put, List.setIfInBounds_toArray, List.set_cons_zero, List.set_cons_succ]
        refine wpAnyH_ready (rs := [4]) (by kernel_rfl) (by simp) ?_
        refine AllReadyH.cons (o := { dst := some 67, op := Go.Op.call { callee := Go.Callee.value (Go.Operand.tmp 65), args := #[Go.Operand.tmp 66], argTypes := #[46] }, type := 46, pos := "law.go:50", after := #[{ on := 2, ground := Go.Ground.data }, { on := 3, ground := Go.Ground.data }], guard := none }) rfl (fun K hK => ?_) AllReadyH.nil
        go_simp
        go_at_call 48
        refine (not_f HFK.out).mono ?_
        rintro e w7 ⟨A1, n1, rfl, hF1, hn1, hb1⟩
        have HS := amk (HS.out.below hb1)
        have HK := amk (HK.out.below hb1)
        have HF1 := amk (show Kd.FK k46 w7 (fun b => b < w.heap.size ∨ W5b.drew.heap.size ≤ b) (notC q) [.int .i64 3, .slice A1 1 n1, .int .i64 0, .int .u64 0, .string ⟨#[]⟩, .int .u64 0] from k46_mkF w7 _ (notC q) hn1 hF1)
        have HSZ := amk hb1.size
        have d1 : w7.cell? ⟨db, 1, none⟩ = some (.slice Av ys.length cv) := blk_cell HS.out.hd 1
        clear hF1 hn1 hb1
        try go_simp
        refine hK.out _ _ ?hS25 (fun hH2 => ?rest25)
        case hS25 => exact HK.out.six
        clear hK K hH
        have hH := hH2
        clear hH2
        try simp only [Act.put, List.setIfInBounds_toArray, List.set_cons_zero, List.set_cons_succ]
        refine wpAnyH_ready (rs := [5]) (by kernel_rfl) (by simp) ?_
        refine AllReadyH.cons (o := { dst := some 68, op := Go.Op.buildSlice 44 1 #[(0, Go.Operand.tmp 67)], type := 44, pos := "law.go:50", after := #[{ on := 4, ground := Go.Ground.data }], guard := none }) rfl (fun K hK => ?_) AllReadyH.nil
        go_simp
        have HS8 := amk (HS.out.alloc (.cells #[.int .i64 3, .slice A1 1 n1, .int .i64 0, .int .u64 0, .string ⟨#[]⟩, .int .u64 0] 46))
        have HK8 := amk (HK.out.below (bal (Below.refl _ _) (.cells #[.int .i64 3, .slice A1 1 n1, .int .i64 0, .int .u64 0, .string ⟨#[]⟩, .int .u64 0] 46)))
        have d1 : (w7.alloc (.cells #[.int .i64 3, .slice A1 1 n1, .int .i64 0, .int .u64 0, .string ⟨#[]⟩, .int .u64 0] 46)).cell? ⟨db, 1, none⟩ = some (.slice Av ys.length cv) := blk_cell HS8.out.hd 1
        refine hK.out _ _ ?hS26 (fun hH2 => ?rest26)
        case hS26 => exact HK8.out.six
        clear hK K hH
        have hH := hH2
        clear hH2
        try simp only [Act.put, List.setIfInBounds_toArray, List.set_cons_zero, List.set_cons_succ]
        refine wpAnyH_ready (rs := [6]) (by kernel_rfl) (by simp) ?_
        refine AllReadyH.cons (o := { dst := some 69, op := Go.Op.call { callee := Go.Callee.builtin Go.Builtin.append, args := #[Go.Operand.tmp 64, Go.Operand.tmp 68], argTypes := #[44, 44] }, type := 44, pos := "law.go:50", after := #[{ on := 1, ground := Go.Ground.data }, { on := 5, ground := Go.Ground.data }, { on := 4, ground := Go.Ground.chain }], guard := none }) rfl (fun K hK => ?_) AllReadyH.nil
        refine Kd.N_append_step k46 (w0 := w) w.heap.size (by rfl) (.tmp 64) (.tmp 68) 44 46 _ 72 rfl Try.underlying44 hInfo46 rfl (by decide) (by decide) (.slice Av ys.length cv) ys (notC q) [.int .i64 3, .slice A1 1 n1, .int .i64 0, .int .u64 0, .string ⟨#[]⟩, .int .u64 0] (fun b => b ≠ db) (fun b => b < w.heap.size ∨ W5b.drew.heap.size ≤ b) rfl (by simp [Act.eval, Act.put]) HF1.out HOK.out (fun b hb => by have h1 := blk_lt HS.out.hd; have h2 : w7.heap.size ≤ b := hb; omega) (HYE.out _ HS.out) HS.out.B HS.out.B.size (by have := HLN.out; omega) ?_
        intro v1 w9 hN9 hb9 hg9 hat9
        obtain ⟨A9, c9, rfl⟩ := Kd.N_slice hN9
        rw [List.length_append, List.length_singleton] at hN9 hat9
        have HT := amk (HST.out _ HS.out hN9 hb9 hg9 hat9)
        have hh := (hg9.block db (blk_lt HS.out.hd) (HS.out.ne (Nat.le_refl _))).trans HS.out.hd
        have d1 := blk_cell hh 1
        have f1 := blk_frozen hh 1
        have HK9 := amk (show Kx w9 kb q Aq nq from (hg9.block kb (blk_lt HK.out) HNE.out).trans HK.out)
        have HK10 := amk (show Kx (w9.setCell ⟨db, 1, none⟩ (.slice A9 (ys.length + 1) c9)) kb q Aq nq from (Below.heap_setCell _ _ _ _ HDK.out).trans HK9.out)
        clear hh hN9 hb9 hg9 hat9
        refine hK.out _ _ ?hS27 (fun hH2 => ?rest27)
        case hS27 => exact HK9.out.six
        clear hK K hH
        have hH := hH2
        clear hH2
        try simp only [Act.put, List.setIfInBounds_toArray, List.set_cons_zero, List.set_cons_succ]
        refine wpAnyH_take (i := 7) (oi := { dst := some 70, op := Go.Op.fieldAddr 46 (Go.Operand.tmp 6) 1, type := 0, pos := "law.go:50", after := #[{ on := 0, ground := Go.Ground.phase }, { on := 1, ground := Go.Ground.phase }, { on := 2, ground := Go.Ground.phase }, { on := 3, ground := Go.Ground.phase }, { on := 4, ground := Go.Ground.phase }, { on := 5, ground := Go.Ground.phase }, { on := 6, ground := Go.Ground.phase }], guard := none }) (v := ?v28) rfl (by kernel_rfl) (by kernel_rfl) (by kernel_rfl) (fun _ _ _ h => h) (Or.inl ⟨by rfl, ?hy28⟩) (by assumption) ?rest28
        case hy28 => (intro w hSw; (try dsimp only at hSw); go_simp <;> with_reducible rfl)
        try simp only [Act.put, List.setIfInBounds_toArray, List.set_cons_zero, List.set_cons_succ]
        refine wpAnyH_ready (rs := [8]) (by kernel_rfl) (by simp) ?_
        refine AllReadyH.cons (o := { dst := none, op := Go.Op.store 44 (Go.Operand.tmp 70) (Go.Operand.tmp 69), type := 0, pos := "law.go:50", after := #[{ on := 7, ground := Go.Ground.data }, { on := 6, ground := Go.Ground.data }, { on := 6, ground := Go.Ground.chain }, { on := 0, ground := Go.Ground.phase }, { on := 1, ground := Go.Ground.phase }, { on := 2, ground := Go.Ground.phase }, { on := 3, ground := Go.Ground.phase }, { on := 4, ground := Go.Ground.phase }, { on := 5, ground := Go.Ground.phase }, { on := 6, ground := Go.Ground.phase }], guard := none }) rfl (fun K hK => ?_) AllReadyH.nil
        go_simp
        refine hK.out _ _ ?hS29 (fun hH2 => ?rest29)
        case hS29 => exact HK10.out.six
        clear hK K hH
        have hH := hH2
        clear hH2
        try simp only [Act.put, List.setIfInBounds_toArray, List.set_cons_zero, List.set_cons_succ]
        refine wpAnyH_done (by kernel_rfl) ?_ _
        clear hH HK
        go_wp2
        refine ⟨⟨k + 1, _, by omega, by rfl, HT⟩, ?_⟩
        simp [intOf]; omega
      · go_simp
        go_at_call 48
        refine (not_f HFK.out).mono ?_
        rintro e w7 ⟨A1, n1, rfl, hF1, hn1, hb1⟩
        have HS := amk (HS.out.below hb1)
        have HK := amk (HK.out.below hb1)
        have HF1 := amk (show Kd.FK k46 w7 (fun b => b < w.heap.size ∨ W5b.drew.heap.size ≤ b) (notC q) [.int .i64 3, .slice A1 1 n1, .int .i64 0, .int .u64 0, .string ⟨#[]⟩, .int .u64 0] from k46_mkF w7 _ (notC q) hn1 hF1)
        have HSZ := amk hb1.size
        have d1 : w7.cell? ⟨db, 1, none⟩ = some (.slice Av ys.length cv) := blk_cell HS.out.hd 1
        clear hF1 hn1 hb1
        try go_simp
        refine hK.out _ _ ?hS30 (fun hH2 => ?rest30)
        case hS30 => exact HK.out.six
        clear hK K hH
        have hH := hH2
        clear hH2
        try simp only [Act.put, List.setIfInBounds_toArray, List.set_cons_zero, List.set_cons_succ]
        refine wpAnyH_ready (rs := [1, 5]) (by kernel_rfl) (by simp) ?_
        refine AllReadyH.cons (o := { dst := some 64, op := Go.Op.load 44 (Go.Operand.tmp 63), type := 44, pos := "law.go:50", after := #[{ on := 0, ground := Go.Ground.data }], guard := none }) rfl (fun K hK => ?_) (AllReadyH.cons (o := { dst := some 68, op := Go.Op.buildSlice 44 1 #[(0, Go.Operand.tmp 67)], type := 44, pos := "law.go:50", after := #[{ on := 4, ground := Go.Ground.data }], guard := none }) rfl (fun K hK => ?_) AllReadyH.nil)
        · go_simp
          refine hK.out _ _ ?hS31 (fun hH2 => ?rest31)
          case hS31 => exact HK.out.six
          clear hK K hH
          have hH := hH2
          clear hH2
          try simp only [Act.put, List.setIfInBounds_toArray, List.set_cons_zero, List.set_cons_succ]
          refine wpAnyH_ready (rs := [5]) (by kernel_rfl) (by simp) ?_
          refine AllReadyH.cons (o := { dst := some 68, op := Go.Op.buildSlice 44 1 #[(0, Go.Operand.tmp 67)], type := 44, pos := "law.go:50", after := #[{ on := 4, ground := Go.Ground.data }], guard := none }) rfl (fun K hK => ?_) AllReadyH.nil
          go_simp
          have HS8 := amk (HS.out.alloc (.cells #[.int .i64 3, .slice A1 1 n1, .int .i64 0, .int .u64 0, .string ⟨#[]⟩, .int .u64 0] 46))
          have HK8 := amk (HK.out.below (bal (Below.refl _ _) (.cells #[.int .i64 3, .slice A1 1 n1, .int .i64 0, .int .u64 0, .string ⟨#[]⟩, .int .u64 0] 46)))
          have d1 : (w7.alloc (.cells #[.int .i64 3, .slice A1 1 n1, .int .i64 0, .int .u64 0, .string ⟨#[]⟩, .int .u64 0] 46)).cell? ⟨db, 1, none⟩ = some (.slice Av ys.length cv) := blk_cell HS8.out.hd 1
          refine hK.out _ _ ?hS32 (fun hH2 => ?rest32)
          case hS32 => exact HK8.out.six
          clear hK K hH
          have hH := hH2
          clear hH2
          try simp only [Act.put, List.setIfInBounds_toArray, List.set_cons_zero, List.set_cons_succ]
          refine wpAnyH_ready (rs := [6]) (by kernel_rfl) (by simp) ?_
          refine AllReadyH.cons (o := { dst := some 69, op := Go.Op.call { callee := Go.Callee.builtin Go.Builtin.append, args := #[Go.Operand.tmp 64, Go.Operand.tmp 68], argTypes := #[44, 44] }, type := 44, pos := "law.go:50", after := #[{ on := 1, ground := Go.Ground.data }, { on := 5, ground := Go.Ground.data }, { on := 4, ground := Go.Ground.chain }], guard := none }) rfl (fun K hK => ?_) AllReadyH.nil
          refine Kd.N_append_step k46 (w0 := w) w.heap.size (by rfl) (.tmp 64) (.tmp 68) 44 46 _ 72 rfl Try.underlying44 hInfo46 rfl (by decide) (by decide) (.slice Av ys.length cv) ys (notC q) [.int .i64 3, .slice A1 1 n1, .int .i64 0, .int .u64 0, .string ⟨#[]⟩, .int .u64 0] (fun b => b ≠ db) (fun b => b < w.heap.size ∨ W5b.drew.heap.size ≤ b) rfl (by simp [Act.eval, Act.put]) HF1.out HOK.out (fun b hb => by have h1 := blk_lt HS.out.hd; have h2 : w7.heap.size ≤ b := hb; omega) (HYE.out _ HS.out) HS.out.B HS.out.B.size (by have := HLN.out; omega) ?_
          intro v1 w9 hN9 hb9 hg9 hat9
          obtain ⟨A9, c9, rfl⟩ := Kd.N_slice hN9
          rw [List.length_append, List.length_singleton] at hN9 hat9
          have HT := amk (HST.out _ HS.out hN9 hb9 hg9 hat9)
          have hh := (hg9.block db (blk_lt HS.out.hd) (HS.out.ne (Nat.le_refl _))).trans HS.out.hd
          have d1 := blk_cell hh 1
          have f1 := blk_frozen hh 1
          have HK9 := amk (show Kx w9 kb q Aq nq from (hg9.block kb (blk_lt HK.out) HNE.out).trans HK.out)
          have HK10 := amk (show Kx (w9.setCell ⟨db, 1, none⟩ (.slice A9 (ys.length + 1) c9)) kb q Aq nq from (Below.heap_setCell _ _ _ _ HDK.out).trans HK9.out)
          clear hh hN9 hb9 hg9 hat9
          refine hK.out _ _ ?hS33 (fun hH2 => ?rest33)
          case hS33 => exact HK9.out.six
          clear hK K hH
          have hH := hH2
          clear hH2
          try simp only [Act.put, List.setIfInBounds_toArray, List.set_cons_zero, List.set_cons_succ]
          refine wpAnyH_take (i := 7) (oi := { dst := some 70, op := Go.Op.fieldAddr 46 (Go.Operand.tmp 6) 1, type := 0, pos := "law.go:50", after := #[{ on := 0, ground := Go.Ground.phase }, { on := 1, ground := Go.Ground.phase }, { on := 2, ground := Go.Ground.phase }, { on := 3, ground := Go.Ground.phase }, { on := 4, ground := Go.Ground.phase }, { on := 5, ground := Go.Ground.phase }, { on := 6, ground := Go.Ground.phase }], guard := none }) (v := ?v34) rfl (by kernel_rfl) (by kernel_rfl) (by kernel_rfl) (fun _ _ _ h => h) (Or.inl ⟨by rfl, ?hy34⟩) (by assumption) ?rest34
          case hy34 => (intro w hSw; (try dsimp only at hSw); go_simp <;> with_reducible rfl)
          try simp only [Act.put, List.setIfInBounds_toArray, List.set_cons_zero, List.set_cons_succ]
          refine wpAnyH_ready (rs := [8]) (by kernel_rfl) (by simp) ?_
          refine AllReadyH.cons (o := { dst := none, op := Go.Op.store 44 (Go.Operand.tmp 70) (Go.Operand.tmp 69), type := 0, pos := "law.go:50", after := #[{ on := 7, ground := Go.Ground.data }, { on := 6, ground := Go.Ground.data }, { on := 6, ground := Go.Ground.chain }, { on := 0, ground := Go.Ground.phase }, { on := 1, ground := Go.Ground.phase }, { on := 2, ground := Go.Ground.phase }, { on := 3, ground := Go.Ground.phase }, { on := 4, ground := Go.Ground.phase }, { on := 5, ground := Go.Ground.phase }, { on := 6, ground := Go.Ground.phase }], guard := none }) rfl (fun K hK => ?_) AllReadyH.nil
          go_simp
          refine hK.out _ _ ?hS35 (fun hH2 => ?rest35)
          case hS35 => exact HK10.out.six
          clear hK K hH
          have hH := hH2
          clear hH2
          try simp only [Act.put, List.setIfInBounds_toArray, List.set_cons_zero, List.set_cons_succ]
          refine wpAnyH_done (by kernel_rfl) ?_ _
          clear hH HK
          go_wp2
          refine ⟨⟨k + 1, _, by omega, by rfl, HT⟩, ?_⟩
          simp [intOf]; omega
        · go_simp
          have HS8 := amk (HS.out.alloc (.cells #[.int .i64 3, .slice A1 1 n1, .int .i64 0, .int .u64 0, .string ⟨#[]⟩, .int .u64 0] 46))
          have HK8 := amk (HK.out.below (bal (Below.refl _ _) (.cells #[.int .i64 3, .slice A1 1 n1, .int .i64 0, .int .u64 0, .string ⟨#[]⟩, .int .u64 0] 46)))
          have d1 : (w7.alloc (.cells #[.int .i64 3, .slice A1 1 n1, .int .i64 0, .int .u64 0, .string ⟨#[]⟩, .int .u64 0] 46)).cell? ⟨db, 1, none⟩ = some (.slice Av ys.length cv) := blk_cell HS8.out.hd 1
          refine hK.out _ _ ?hS36 (fun hH2 => ?rest36)
          case hS36 => exact HK8.out.six
          clear hK K hH
          have hH := hH2
          clear hH2
          try simp only [Act.put, List.setIfInBounds_toArray, List.set_cons_zero, List.set_cons_succ]
          refine wpAnyH_ready (rs := [1]) (by kernel_rfl) (by simp) ?_
          refine AllReadyH.cons (o := { dst := some 64, op := Go.Op.load 44 (Go.Operand.tmp 63), type := 44, pos := "law.go:50", after := #[{ on := 0, ground := Go.Ground.data }], guard := none }) rfl (fun K hK => ?_) AllReadyH.nil
          go_simp
          refine hK.out _ _ ?hS37 (fun hH2 => ?rest37)
          case hS37 => exact HK8.out.six
          clear hK K hH
          have hH := hH2
          clear hH2
          try simp only [Act.put, List.setIfInBounds_toArray, List.set_cons_zero, List.set_cons_succ]
          refine wpAnyH_ready (rs := [6]) (by kernel_rfl) (by simp) ?_
          refine AllReadyH.cons (o := { dst := some 69, op := Go.Op.call { callee := Go.Callee.builtin Go.Builtin.append, args := #[Go.Operand.tmp 64, Go.Operand.tmp 68], argTypes := #[44, 44] }, type := 44, pos := "law.go:50", after := #[{ on := 1, ground := Go.Ground.data }, { on := 5, ground := Go.Ground.data }, { on := 4, ground := Go.Ground.chain }], guard := none }) rfl (fun K hK => ?_) AllReadyH.nil
          refine Kd.N_append_step k46 (w0 := w) w.heap.size (by rfl) (.tmp 64) (.tmp 68) 44 46 _ 72 rfl Try.underlying44 hInfo46 rfl (by decide) (by decide) (.slice Av ys.length cv) ys (notC q) [.int .i64 3, .slice A1 1 n1, .int .i64 0, .int .u64 0, .string ⟨#[]⟩, .int .u64 0] (fun b => b ≠ db) (fun b => b < w.heap.size ∨ W5b.drew.heap.size ≤ b) rfl (by simp [Act.eval, Act.put]) HF1.out HOK.out (fun b hb => by have h1 := blk_lt HS.out.hd; have h2 : w7.heap.size ≤ b := hb; omega) (HYE.out _ HS.out) HS.out.B HS.out.B.size (by have := HLN.out; omega) ?_
          intro v1 w9 hN9 hb9 hg9 hat9
          obtain ⟨A9, c9, rfl⟩ := Kd.N_slice hN9
          rw [List.length_append, List.length_singleton] at hN9 hat9
          have HT := amk (HST.out _ HS.out hN9 hb9 hg9 hat9)
          have hh := (hg9.block db (blk_lt HS.out.hd) (HS.out.ne (Nat.le_refl _))).trans HS.out.hd
          have d1 := blk_cell hh 1
          have f1 := blk_frozen hh 1
          have HK9 := amk (show Kx w9 kb q Aq nq from (hg9.block kb (blk_lt HK.out) HNE.out).trans HK.out)
          have HK10 := amk (show Kx (w9.setCell ⟨db, 1, none⟩ (.slice A9 (ys.length + 1) c9)) kb q Aq nq from (Below.heap_setCell _ _ _ _ HDK.out).trans HK9.out)
          clear hh hN9 hb9 hg9 hat9
          refine hK.out _ _ ?hS38 (fun hH2 => ?rest38)
          case hS38 => exact HK9.out.six
          clear hK K hH
          have hH := hH2
          clear hH2
          try simp only [Act.put, List.setIfInBounds_toArray, List.set_cons_zero, List.set_cons_succ]
          refine wpAnyH_take (i := 7) (oi := { dst := some 70, op := Go.Op.fieldAddr 46 (Go.Operand.tmp 6) 1, type := 0, pos := "law.go:50", after := #[{ on := 0, ground := Go.Ground.phase }, { on := 1, ground := Go.Ground.phase }, { on := 2, ground := Go.Ground.phase }, { on := 3, ground := Go.Ground.phase }, { on := 4, ground := Go.Ground.phase }, { on := 5, ground := Go.Ground.phase }, { on := 6, ground := Go.Ground.phase }], guard := none }) (v := ?v39) rfl (by kernel_rfl) (by kernel_rfl) (by kernel_rfl) (fun _ _ _ h => h) (Or.inl ⟨by rfl, ?hy39⟩) (by assumption) ?rest39
          case hy39 => (intro w hSw; (try dsimp only at hSw); go_simp <;> with_reducible rfl)
          try simp only [Act.put, List.setIfInBounds_toArray, List.set_cons_zero, List.set_cons_succ]
          refine wpAnyH_ready (rs := [8]) (by kernel_rfl) (by simp) ?_
          refine AllReadyH.cons (o := { dst := none, op := Go.Op.store 44 (Go.Operand.tmp 70) (Go.Operand.tmp 69), type := 0, pos := "law.go:50", after := #[{ on := 7, ground := Go.Ground.data }, { on := 6, ground := Go.Ground.data }, { on := 6, ground := Go.Ground.chain }, { on := 0, ground := Go.Ground.phase }, { on := 1, ground := Go.Ground.phase }, { on := 2, ground := Go.Ground.phase }, { on := 3, ground := Go.Ground.phase }, { on := 4, ground := Go.Ground.phase }, { on := 5, ground := Go.Ground.phase }, { on := 6, ground := Go.Ground.phase }], guard := none }) rfl (fun K hK => ?_) AllReadyH.nil
          go_simp
          refine hK.out _ _ ?hS40 (fun hH2 => ?rest40)
          case hS40 => exact HK10.out.six
          clear hK K hH
          have hH := hH2
          clear hH2
          try simp only [Act.put, List.setIfInBounds_toArray, List.set_cons_zero, List.set_cons_succ]
          refine wpAnyH_done (by kernel_rfl) ?_ _
          clear hH HK
          go_wp2
          refine ⟨⟨k + 1, _, by omega, by rfl, HT⟩, ?_⟩
          simp [intOf]; omega
    · obtain rfl : k = c.f1.length := by omega
      have e2 : decide ((c.f1.length : Int) < (c.f1.length : Int)) = false := decide_eq_false (by omega)
      have hN := hs.out.N
      have hd := hs.out.hd
      obtain ⟨Av, cv, rfl⟩ := Kd.N_slice hN
      have hr := (Kd.N_reads' hN).2
      rw [List.take_length] at hd hr
      have HC := amk hs.out.hc.drew
      have HX := amk hs.out.hx.drew
      have HB := amk (below_drew hs.out.B)
      have HD := amk (Bx.drew (show Bx wr db (manyC 1 (c.f1.map notC)) Av cv from ⟨hd, hr.2, hr.1⟩))
      have HHD := amk (fun (W : World) (h : Bx W db (manyC 1 (c.f1.map notC)) Av cv) => show Calls Try.prog 45 #[.agg #[.int .i64 1, .slice Av (c.f1.map notC).length cv, .int .i64 0, .int .u64 0, .string ⟨#[]⟩, .int .u64 0], .agg #[.int .u32 x.f0, .int .u32 x.f1, .int .u64 x.f2, .int .u64 x.f3.f0, .int .u64 x.f3.f1, .int .u64 x.f3.f2, .int .u64 x.f3.f3, .int .u64 x.f3.f4, .int .u64 x.f3.f5]] W fun e w' => e = .returned (.bool false) ∧ Below W.heap.size W w' from by have h2 := holds_w x h.C h.L; rw [HMO.out] at h2; exact h2)
      clear hs hN hd hr HMO H1
      generalize c.f1.map notC = zs at *
      go_upto_region 14 with (fail)
      first | go_region_held3 (fun W' : World => W'.cell? ⟨w.heap.size, 0, none⟩ = some (.int .i64 c.f0) ∧ W'.cell? ⟨w.heap.size, 1, none⟩ = some (.slice A c.f1.length n) ∧ W'.cell? ⟨w.heap.size, 2, none⟩ = some (.int .i64 c.f2) ∧ W'.cell? ⟨w.heap.size, 3, none⟩ = some (.int .u64 c.f3) ∧ W'.cell? ⟨w.heap.size, 4, none⟩ = some (.string c.f4) ∧ W'.cell? ⟨w.heap.size, 5, none⟩ = some (.int .u64 c.f5) ∧ W'.cell? ⟨db, 0, none⟩ = some (.int .i64 1) ∧ W'.cell? ⟨db, 1, none⟩ = some (.slice Av zs.length cv) ∧ W'.cell? ⟨db, 2, none⟩ = some (.int .i64 0) ∧ W'.cell? ⟨db, 3, none⟩ = some (.int .u64 0) ∧ W'.cell? ⟨db, 4, none⟩ = some (.string ⟨#[]⟩) ∧ W'.cell? ⟨db, 5, none⟩ = some (.int .u64 0) ∧ W'.cell? ⟨w.heap.size + 1, 0, none⟩ = some (.int .u32 x.f0) ∧ W'.cell? ⟨w.heap.size + 1, 1, none⟩ = some (.int .u32 x.f1) ∧ W'.cell? ⟨w.heap.size + 1, 2, none⟩ = some (.int .u64 x.f2) ∧ W'.cell? ⟨w.heap.size + 1, 3, none⟩ = some (.int .u64 x.f3.f0) ∧ W'.cell? ⟨w.heap.size + 1, 4, none⟩ = some (.int .u64 x.f3.f1) ∧ W'.cell? ⟨w.heap.size + 1, 5, none⟩ = some (.int .u64 x.f3.f2) ∧ W'.cell? ⟨w.heap.size + 1, 6, none⟩ = some (.int .u64 x.f3.f3) ∧ W'.cell? ⟨w.heap.size + 1, 7, none⟩ = some (.int .u64 x.f3.f4) ∧ W'.cell? ⟨w.heap.size + 1, 8, none⟩ = some (.int .u64 x.f3.f5)) (exact ⟨HC.out.six.1, HC.out.six.2.1, HC.out.six.2.2.1, HC.out.six.2.2.2.1, HC.out.six.2.2.2.2.1, HC.out.six.2.2.2.2.2, HD.out.six.1, HD.out.six.2.1, HD.out.six.2.2.1, HD.out.six.2.2.2.1, HD.out.six.2.2.2.2.1, HD.out.six.2.2.2.2.2, HX.out.nine⟩) (first | (go_at_call 48; (with_reducible refine (HN0.out _ HC.out.C).mono ?_); rintro e w1 ⟨A1, n1, rfl, hC1, hn1, hb1⟩; have HC := amk (HC.out.below hb1); have HX := amk (HX.out.below hb1); have HD := amk (HD.out.below hb1); have HB := amk (below_step HB.out hb1); have HK1 := amk hC1; have HK1n := amk hn1; clear hC1 hn1; clear hb1) | (go_at_call 45; (with_reducible refine (HH1.out _ _ _ HK1.out HK1n.out).mono ?_); rintro e w1 ⟨rfl, hb1⟩; have HC := amk (HC.out.below hb1); have HX := amk (HX.out.below hb1); have HD := amk (HD.out.below hb1); have HB := amk (below_step HB.out hb1); clear hb1) | (go_at_call 45; (with_reducible refine (HHD.out _ HD.out).mono ?_); rintro e w1 ⟨rfl, hb1⟩; have HC := amk (HC.out.below hb1); have HX := amk (HX.out.below hb1); have HD := amk (HD.out.below hb1); have HB := amk (below_step HB.out hb1); clear hb1)) | fail
      go_wp2
      go_ret
      exact ⟨rfl, HB.out⟩
end Go.Proofs.Ytoeklekjhaigoaa.HNots
end
section
namespace Go.Proofs.Ytoeklekjhaigoaa.HNots
open Go.Proofs.Ytoeklekjhaigoaa.Al Go.RowKit Go.Proofs.YtoeklekjhaigoaaW.PrintWords Go.Proofs.YtoeklekjhaigoaaW.PrintLast Go.Proofs.YtoeklekjhaigoaaW.PrintMore Go.Proofs.Ytoeklekjhaigoaa.M0 Go.Proofs.Ytoeklekjhaigoaa.M1 Go.Proofs.Ytoeklekjhaigoaa.M2 Go.Proofs.Ytoeklekjhaigoaa.QCond Go.Proofs.Ytoeklekjhaigoaa.QMean Go.Proofs.Ytoeklekjhaigoaa.QOne Go.Proofs.Ytoeklekjhaigoaa.HMany Go.Proofs.Ytoeklekjhaigoaa.HCount Go.Proofs.Ytoeklekjhaigoaa.HMean Go.Proofs.Ytoeklekjhaigoaa.QHolds Go.Proofs.Ytoeklekjhaigoaa.HKit Go.Proofs.Ytoeklekjhaigoaa.HNot Go.Proofs.Ytoeklekjhaigoaa.K49
set_option linter.unusedVariables false
set_option linter.unusedSimpArgs false
set_option maxRecDepth 100000
attribute [local go_sem] max2_int min2_int max_two min_two
set_option maxHeartbeats 16000000 in
theorem nots_f1 (c : S46) (x : S49) (A : Option Addr) (n : Nat) (w : World) (hC : Kd.C k46 w A c.f1.length c.f1) (hn : c.f1.length ≤ n) (hcb : ¬ 40 < nodes c) (hr : rightB c = true) (hp : semB x c = false) (h1 : c.f0 = 1) :
    Calls Try.prog 9 #[.agg #[.int .i64 c.f0, .slice A c.f1.length n, .int .i64 c.f2, .int .u64 c.f3, .string c.f4, .int .u64 c.f5], .agg #[.int .u32 x.f0, .int .u32 x.f1, .int .u64 x.f2, .int .u64 x.f3.f0, .int .u64 x.f3.f1, .int .u64 x.f3.f2, .int .u64 x.f3.f3, .int .u64 x.f3.f4, .int .u64 x.f3.f5]] w fun e w' => e = .returned (.bool true) ∧ Below w.heap.size w w' := by
  have hu46 := Try.underlying46
  have hu49 := Try.underlying49
  have s1 : (w.alloc (.cells #[.int .i64 c.f0, .slice A c.f1.length n, .int .i64 c.f2, .int .u64 c.f3, .string c.f4, .int .u64 c.f5] 46)).heap.size = w.heap.size + 1 := by simp
  have HC := amk ((Bx.new w hC hn).alloc (.cells #[.int .u32 x.f0, .int .u32 x.f1, .int .u64 x.f2, .int .u64 x.f3.f0, .int .u64 x.f3.f1, .int .u64 x.f3.f2, .int .u64 x.f3.f3, .int .u64 x.f3.f4, .int .u64 x.f3.f5] 49))
  have HX0 := Xx.new (w.alloc (.cells #[.int .i64 c.f0, .slice A c.f1.length n, .int .i64 c.f2, .int .u64 c.f3, .string c.f4, .int .u64 c.f5] 46)) x
  rw [s1] at HX0
  have HX := amk HX0
  have HB := amk (bal (bal (Below.refl w.heap.size w) (.cells #[.int .i64 c.f0, .slice A c.f1.length n, .int .i64 c.f2, .int .u64 c.f3, .string c.f4, .int .u64 c.f5] 46)) (.cells #[.int .u32 x.f0, .int .u32 x.f1, .int .u64 x.f2, .int .u64 x.f3.f0, .int .u64 x.f3.f1, .int .u64 x.f3.f2, .int .u64 x.f3.f3, .int .u64 x.f3.f4, .int .u64 x.f3.f5] 49))
  have HM := amk (fun (W : World) (h : Kd.C k46 W A c.f1.length c.f1) => many_w h hn 40 (by omega) (by omega))
  have HR := amk (fun (W : World) (h : Kd.C k46 W A c.f1.length c.f1) => right_w h hn)
  have HA := amk alive_w
  have nc : decide (40 < ((min (nodes c) ((40 : Int).toNat + 1) : Nat) : Int)) = decide (40 < nodes c) := decide_eq_decide.2 (by simp only [Int.reduceToNat]; omega)
  simp only [hr] at HR
  have hfc := (right_fits hr).1
  have HH0 := amk (fun (W : World) (h : Kd.C k46 W A c.f1.length c.f1) => by have h2 := holds_w x h hn; rw [holds_right hr, hp] at h2; exact h2)
  have HH1 := amk (fun (W : World) (A1 : Option Addr) (n1 : Nat) (h : Kd.C k46 W A1 1 [c]) (g : 1 ≤ n1) => by have h2 := hold1_w x h g; rw [holds_not1 hfc (by omega), hp] at h2; exact h2)
  have HH2 := amk (fun (W : World) (A1 : Option Addr) (n1 : Nat) (h : Kd.C k46 W A1 1 [notC c]) (g : 1 ≤ n1) => by have h2 := hold1_w x h g; rw [holds_not2 hfc (by omega), hp] at h2; exact h2)
  have HN0 := amk (fun (W : World) (h : Kd.C k46 W A c.f1.length c.f1) => not_w h hn)
  have HN1 := amk (fun (W : World) (A1 : Option Addr) (n1 : Nat) (h : Kd.C k46 W A1 1 [c]) (g : 1 ≤ n1) => not2_w h g)
  simp only [Bool.not_true, Bool.not_false] at HH1
  have HS := amk (fun (W' : World) (h : Bx W' w.heap.size c A n) (k : Xx W' (w.heap.size + 1) x) => s15 h k)
  have HMO := amk (show holdsB x (manyC 2 (c.f1.map notC)) = true from by have hm := holds_morgan (x := x) hfc (Or.inl h1) (by omega); rw [h1, hp] at hm; exact hm)
  have H1 := amk h1
  have HC0 := amk hC
  have HLK := amk (show c.f1.length ≤ 40 from by have e := nodes_eq c; have e2 := len_nodes c.f1; omega)
  clear h1
  clear s1 HX0 hC
  go_enter Try.func9, Try.ntmps9
  go_upto_region 1 with (fail)
  generalize (w.alloc (.cells #[.int .i64 c.f0, .slice A c.f1.length n, .int .i64 c.f2, .int .u64 c.f3, .string c.f4, .int .u64 c.f5] 46)).alloc (.cells #[.int .u32 x.f0, .int .u32 x.f1, .int .u64 x.f2, .int .u64 x.f3.f0, .int .u64 x.f3.f1, .int .u64 x.f3.f2, .int .u64 x.f3.f3, .int .u64 x.f3.f4, .int .u64 x.f3.f5] 49) = W at *
  obtain ⟨k0, k1, k2, k3, k4, k5⟩ := HC.out.six
  generalize ((min (nodes c) ((40 : Int).toNat + 1) : Nat) : Int) = mc at *
  have e1 : decide (40 < mc) = false := nc.trans (decide_eq_false hcb)
  clear nc hfc hp hr
  go_upto_region 4 with (first | (go_at_call 43; (with_reducible refine (HM.out _ HC.out.C).mono ?_); rintro e w1 ⟨rfl, hb1⟩; have HC := amk (HC.out.below hb1); have HX := amk (HX.out.below hb1); have HB := amk (below_step HB.out hb1); obtain ⟨k0, k1, k2, k3, k4, k5⟩ := HC.out.six; clear hb1) | (go_at_call 47; (with_reducible refine (HR.out _ HC.out.C).mono ?_); rintro e w1 ⟨rfl, hb1⟩; have HC := amk (HC.out.below hb1); have HX := amk (HX.out.below hb1); have HB := amk (below_step HB.out hb1); obtain ⟨k0, k1, k2, k3, k4, k5⟩ := HC.out.six; clear hb1) | (go_at_call 44; (with_reducible refine (HA.out _).mono ?_); rintro e w1 ⟨rfl, hb1⟩; have HC := amk (HC.out.below hb1); have HX := amk (HX.out.below hb1); have HB := amk (below_step HB.out hb1); obtain ⟨k0, k1, k2, k3, k4, k5⟩ := HC.out.six; clear hb1))
  have HC := amk HC.out.drew
  have HX := amk HX.out.drew
  have HB := amk (below_drew HB.out)
  clear k0 k1 k2 k3 k4 k5
  first | (go_region_held3 (fun W' : World => W'.cell? ⟨w.heap.size, 0, none⟩ = some (.int .i64 c.f0) ∧ W'.cell? ⟨w.heap.size, 1, none⟩ = some (.slice A c.f1.length n) ∧ W'.cell? ⟨w.heap.size, 2, none⟩ = some (.int .i64 c.f2) ∧ W'.cell? ⟨w.heap.size, 3, none⟩ = some (.int .u64 c.f3) ∧ W'.cell? ⟨w.heap.size, 4, none⟩ = some (.string c.f4) ∧ W'.cell? ⟨w.heap.size, 5, none⟩ = some (.int .u64 c.f5) ∧ W'.cell? ⟨w.heap.size + 1, 0, none⟩ = some (.int .u32 x.f0) ∧ W'.cell? ⟨w.heap.size + 1, 1, none⟩ = some (.int .u32 x.f1) ∧ W'.cell? ⟨w.heap.size + 1, 2, none⟩ = some (.int .u64 x.f2) ∧ W'.cell? ⟨w.heap.size + 1, 3, none⟩ = some (.int .u64 x.f3.f0) ∧ W'.cell? ⟨w.heap.size + 1, 4, none⟩ = some (.int .u64 x.f3.f1) ∧ W'.cell? ⟨w.heap.size + 1, 5, none⟩ = some (.int .u64 x.f3.f2) ∧ W'.cell? ⟨w.heap.size + 1, 6, none⟩ = some (.int .u64 x.f3.f3) ∧ W'.cell? ⟨w.heap.size + 1, 7, none⟩ = some (.int .u64 x.f3.f4) ∧ W'.cell? ⟨w.heap.size + 1, 8, none⟩ = some (.int .u64 x.f3.f5)) (exact HS.out _ HC.out HX.out) (first | (go_at_call 44; (with_reducible refine (HA.out _).mono ?_); rintro e w1 ⟨rfl, hb1⟩; have HC := amk (HC.out.below hb1); have HX := amk (HX.out.below hb1); have HB := amk (below_step HB.out hb1); clear hb1) | (go_at_call 45; (with_reducible refine (HH0.out _ HC.out.C).mono ?_); rintro e w1 ⟨rfl, hb1⟩; have HC := amk (HC.out.below hb1); have HX := amk (HX.out.below hb1); have HB := amk (below_step HB.out hb1); clear hb1) | (go_at_call 45; (with_reducible refine (HH1.out _ _ _ HK1.out HK1n.out).mono ?_); rintro e w1 ⟨rfl, hb1⟩; have HC := amk (HC.out.below hb1); have HX := amk (HX.out.below hb1); have HB := amk (below_step HB.out hb1); clear hb1) | (go_at_call 45; (with_reducible refine (HH2.out _ _ _ HK2.out HK2n.out).mono ?_); rintro e w1 ⟨rfl, hb1⟩; have HC := amk (HC.out.below hb1); have HX := amk (HX.out.below hb1); have HB := amk (below_step HB.out hb1); clear hb1) | (go_at_call 48; (with_reducible refine (HN0.out _ HC.out.C).mono ?_); rintro e w1 ⟨A1, n1, rfl, hC1, hn1, hb1⟩; have HC := amk (HC.out.below hb1); have HX := amk (HX.out.below hb1); have HB := amk (below_step HB.out hb1); have HK1 := amk hC1; have HK1n := amk hn1; clear hC1 hn1; clear hb1) | (go_at_call 48; (with_reducible refine (HN1.out _ _ _ HK1.out HK1n.out).mono ?_); rintro e w1 ⟨A1, n1, rfl, hC1, hn1, hb1⟩; have HC := amk (HC.out.below hb1); have HX := amk (HX.out.below hb1); have HB := amk (below_step HB.out hb1); have HK2 := amk hC1; have HK2n := amk hn1; clear hC1 hn1; clear hb1))) | fail
  rename_i hHz
  clear hHz HM HR HN1 HK1 HK2 HK1n HK2n
  obtain ⟨k0, k1, k2, k3, k4, k5⟩ := HC.out.six
  rw [H1.out] at k0
  go_upto_region 9 with (fail)
  have HW := amk (Nw.start HC.out HX.out HB.out HC0.out 2)
  generalize w1.alloc (.cells #[.int .i64 2, .slice none 0 0, .int .i64 0, .int .u64 0, .string ⟨#[]⟩, .int .u64 0] 46) = W5 at *
  generalize w1.heap.size = db at *
  clear k0 k1 k2 k3 k4 k5 HC HX HB
  obtain ⟨k0, k1, k2, k3, k4, k5⟩ := HW.out.hc.six
  rw [H1.out] at k0
  go_wp2
  go_loopw [59] (fun j wr => ∃ (k : Nat) (v : Value), k ≤ c.f1.length ∧ j = .int .i64 k ∧ Aside0 (Nw w wr c x A n db 2 v k)) (fun j _ => c.f1.length - (intOf j).toNat)
  case atStart => exact ⟨0, _, Nat.zero_le _, rfl, HW⟩
  case round =>
    clear HW k0 k1 k2 k3 k4 k5
    obtain ⟨k, v, hk, rfl, hs⟩ := hrel
    by_cases hkl : k < c.f1.length
    · have e2 : decide ((k : Int) < (c.f1.length : Int)) = true := decide_eq_true (by omega)
      obtain ⟨ad, Aq, nq, rfl, hx0, hx1, hx2, hx3, hx4, hx5, hnq, hFK⟩ := atF46 hs.out.F (k : Int) (by omega) (by omega)
      simp only [Int.toNat_natCast] at hx0 hx1 hx2 hx3 hx4 hx5
      have j0 : (0 : Int) ≤ (k : Int) := by omega
      have j1 : (k : Int) < (c.f1.length : Int) := by omega
      have hln : c.f1.length ≤ 40 := HLK.out
      have HST := amk (fun (W : World) (h : Nw w W c x (some ad) n db 2 v k) {v1 : Value} {W1 : World} => h.step hkl (v1 := v1) (W1 := W1))
      have HEQ := amk (show rd_T46 c.f1 ((k : Nat) : Int) = rd_T46 c.f1 (k : Int) from rfl)
      have HLN := amk (show (((c.f1.take k).map notC).length + 1) * 72 ≤ 140737488355328 from by rw [List.length_map, List.length_take]; have := HLK.out; omega)
      have HYE := amk (fun (W : World) (h : Nw w W c x (some ad) n db 2 v k) => h.N)
      generalize rd_T46 c.f1 (k : Int) = q at *
      generalize (c.f1.take k).map notC = ys at *
      obtain ⟨Av, cv, rfl⟩ := Kd.N_slice (HYE.out _ hs.out)
      have HS0 := amk (hs.out.alloc (.cells #[.int .i64 q.f0, .slice Aq q.f1.length nq, .int .i64 q.f2, .int .u64 q.f3, .string q.f4, .int .u64 q.f5] 46))
      have HFK0 := amk (Kd.FK_below hFK (bal (Below.refl _ _) (.cells #[.int .i64 q.f0, .slice Aq q.f1.length nq, .int .i64 q.f2, .int .u64 q.f3, .string q.f4, .int .u64 q.f5] 46)))
      have HK0 := amk (show Kx (wr.alloc (.cells #[.int .i64 q.f0, .slice Aq q.f1.length nq, .int .i64 q.f2, .int .u64 q.f3, .string q.f4, .int .u64 q.f5] 46)) wr.heap.size q Aq nq from heap_alloc_new _ _)
      have HNE := amk (show some wr.heap.size ≠ (Value.slice Av ys.length cv).ownBlock from fun e => by have := hs.out.own_lt e.symm; omega)
      have HDK := amk (show wr.heap.size ≠ db from by have := blk_lt hs.out.hd; omega)
      clear hFK
      go_upto_region 12 with (fail)
      generalize wr.alloc (.cells #[.int .i64 q.f0, .slice Aq q.f1.length nq, .int .i64 q.f2, .int .u64 q.f3, .string q.f4, .int .u64 q.f5] 46) = W5b at *
      generalize wr.heap.size = kb at *
      clear hs hx0 hx1 hx2 hx3 hx4 hx5
      have HS := amk HS0.out.drew
      have HFK := amk (show Kd.FK k46 W5b.drew _ q (cells46 q Aq nq) from Kd.FK_below HFK0.out (below_drew (Below.refl _ _)))
      have HK := amk (show Kx W5b.drew kb q Aq nq from HK0.out)
      have HOK := amk HS.out.okp
      clear HS0 HFK0 HK0
      have d1 : W5b.drew.cell? ⟨db, 1, none⟩ = some (.slice Av ys.length cv) := blk_cell HS.out.hd 1
      refine wp_region_held_drew (S := fun W' : World => W'.cell? ⟨kb, 0, none⟩ = some (.int .i64 q.f0) ∧ W'.cell? ⟨kb, 1, none⟩ = some (.slice Aq q.f1.length nq) ∧ W'.cell? ⟨kb, 2, none⟩ = some (.int .i64 q.f2) ∧ W'.cell? ⟨kb, 3, none⟩ = some (.int .u64 q.f3) ∧ W'.cell? ⟨kb, 4, none⟩ = some (.string q.f4) ∧ W'.cell? ⟨kb, 5, none⟩ = some (.int .u64 q.f5)) (by kernel_rfl) ?hS0 (fun hH => ?rest0)
      case hS0 => exact HK.out.six
      refine wpAnyH_take (i := 0) (oi := { dst := some 63, op := Go.Op.fieldAddr 46 (Go.Operand.tmp 6) 1, type := 0, pos := "law.go:50", after := #[], guard := none }) (v := ?v41) rfl (by kernel_rfl) (by kernel_rfl) (by kernel_rfl) (fun _ _ _ h => h) (Or.inl ⟨by rfl, ?hy41⟩) (by assumption) ?rest41
      case hy41 => (intro w hSw; (try dsimp only at hSw); go_simp <;> with_reducible rfl)
      try simp only [Act.put, List.setIfInBounds_toArray, List.set_cons_zero, List.set_cons_succ]
      refine wpAnyH_take (i := 2) (oi := { dst := some 65, op := Go.Op.move (Go.Operand.tmp 5), type := 53, pos := "law.go:50", after := #[], guard := none }) (v := ?v42) rfl (by kernel_rfl) (by kernel_rfl) (by kernel_rfl) (fun _ _ _ h => h) (Or.inl ⟨by rfl, ?hy42⟩) (by assumption) ?rest42
      case hy42 => (intro w hSw; (try dsimp only at hSw); go_simp <;> with_reducible rfl)
      try simp only [Act.put, List.setIfInBounds_toArray, List.set_cons_zero, List.set_cons_succ]
      refine wpAnyH_take (i := 3) (oi := { dst := some 66, op := Go.Op.load 46 (Go.Operand.tmp 8), type := 46, pos := "law.go:50", after := #[], guard := none }) (v := ?v43) rfl (by kernel_rfl) (by kernel_rfl) (by kernel_rfl) (fun _ _ _ h => h) (Or.inl ⟨by rfl, ?hy43⟩) (by assumption) ?rest43
      case hy43 => (intro w hSw; (try dsimp only at hSw); go_simp <;> with_reducible rfl)
      try simp only [Act.put, List.setIfInBounds_toArray, List.set_cons_zero, List.set_cons_succ]
      refine wpAnyH_ready (rs := [1, 4]) (by kernel_rfl) (by simp) ?_
      refine AllReadyH.cons (o := { dst := some 64, op := Go.Op.load 44 (Go.Operand.tmp 63), type := 44, pos := "law.go:50", after := #[{ on := 0, ground := Go.Ground.data }], guard := none }) rfl (fun K hK => ?_) (AllReadyH.cons (o := { dst := some 67, op := Go.Op.call { callee := Go.Callee.value (Go.Operand.tmp 65), args := #[Go.Operand.tmp 66], argTypes := #[46] }, type := 46, pos := "law.go:50", after := #[{ on := 2, ground := Go.Ground.data }, { on := 3, ground := Go.Ground.data }], guard := none }) rfl (fun K hK => ?_) AllReadyH.nil)
      · go_simp
        refine hK.out _ _ ?hS44 (fun hH2 => ?rest44)
        case hS44 => exact HK.out.six
        clear hK K hH
        have hH := hH2
        clear hH2
        try simp only [Act.put, List.setIfInBounds_toArray, List.set_cons_zero, List.set_cons_succ]
        refine wpAnyH_ready (rs := [4]) (by kernel_rfl) (by simp) ?_
        refine AllReadyH.cons (o := { dst := some 67, op := Go.Op.call { callee := Go.Callee.value (Go.Operand.tmp 65), args := #[Go.Operand.tmp 66], argTypes := #[46] }, type := 46, pos := "law.go:50", after := #[{ on := 2, ground := Go.Ground.data }, { on := 3, ground := Go.Ground.data }], guard := none }) rfl (fun K hK => ?_) AllReadyH.nil
        go_simp
        go_at_call 48
        refine (not_f HFK.out).mono ?_
        rintro e w7 ⟨A1, n1, rfl, hF1, hn1, hb1⟩
        have HS := amk (HS.out.below hb1)
        have HK := amk (HK.out.below hb1)
        have HF1 := amk (show Kd.FK k46 w7 (fun b => b < w.heap.size ∨ W5b.drew.heap.size ≤ b) (notC q) [.int .i64 3, .slice A1 1 n1, .int .i64 0, .int .u64 0, .string ⟨#[]⟩, .int .u64 0] from k46_mkF w7 _ (notC q) hn1 hF1)
        have HSZ := amk hb1.size
        have d1 : w7.cell? ⟨db, 1, none⟩ = some (.slice Av ys.length cv) := blk_cell HS.out.hd 1
        clear hF1 hn1 hb1
        try go_simp
        refine hK.out _ _ ?hS45 (fun hH2 => ?rest45)
        case hS45 => exact HK.out.six
        clear hK K hH
        have hH := hH2
        clear hH2
        try simp only [Act.put, List.setIfInBounds_toArray, List.set_cons_zero, List.set_cons_succ]
        refine wpAnyH_ready (rs := [5]) (by kernel_rfl) (by simp) ?_
        refine AllReadyH.cons (o := { dst := some 68, op := Go.Op.buildSlice 44 1 #[(0, Go.Operand.tmp 67)], type := 44, pos := "law.go:50", after := #[{ on := 4, ground := Go.Ground.data }], guard := none }) rfl (fun K hK => ?_) AllReadyH.nil
        go_simp
        have HS8 := amk (HS.out.alloc (.cells #[.int .i64 3, .slice A1 1 n1, .int .i64 0, .int .u64 0, .string ⟨#[]⟩, .int .u64 0] 46))
        have HK8 := amk (HK.out.below (bal (Below.refl _ _) (.cells #[.int .i64 3, .slice A1 1 n1, .int .i64 0, .int .u64 0, .string ⟨#[]⟩, .int .u64 0] 46)))
        have d1 : (w7.alloc (.cells #[.int .i64 3, .slice A1 1 n1, .int .i64 0, .int .u64 0, .string ⟨#[]⟩, .int .u64 0] 46)).cell? ⟨db, 1, none⟩ = some (.slice Av ys.length cv) := blk_cell HS8.out.hd 1
        refine hK.out _ _ ?hS46 (fun hH2 => ?rest46)
        case hS46 => exact HK8.out.six
        clear hK K hH
        have hH := hH2
        clear hH2
        try simp only [Act.put, List.setIfInBounds_toArray, List.set_cons_zero, List.set_cons_succ]
        refine wpAnyH_ready (rs := [6]) (by kernel_rfl) (by simp) ?_
        refine AllReadyH.cons (o := { dst := some 69, op := Go.Op.call { callee := Go.Callee.builtin Go.Builtin.append, args := #[Go.Operand.tmp 64, Go.Operand.tmp 68], argTypes := #[44, 44] }, type := 44, pos := "law.go:50", after := #[{ on := 1, ground := Go.Ground.data }, { on := 5, ground := Go.Ground.data }, { on := 4, ground := Go.Ground.chain }], guard := none }) rfl (fun K hK => ?_) AllReadyH.nil
        refine Kd.N_append_step k46 (w0 := w) w.heap.size (by rfl) (.tmp 64) (.tmp 68) 44 46 _ 72 rfl Try.underlying44 hInfo46 rfl (by decide) (by decide) (.slice Av ys.length cv) ys (notC q) [.int .i64 3, .slice A1 1 n1, .int .i64 0, .int .u64 0, .string ⟨#[]⟩, .int .u64 0] (fun b => b ≠ db) (fun b => b < w.heap.size ∨ W5b.drew.heap.size ≤ b) rfl (by simp [Act.eval, Act.put]) HF1.out HOK.out (fun b hb => by have h1 := blk_lt HS.out.hd; have h2 : w7.heap.size ≤ b := hb; omega) (HYE.out _ HS.out) HS.out.B HS.out.B.size (by have := HLN.out; omega) ?_
        intro v1 w9 hN9 hb9 hg9 hat9
        obtain ⟨A9, c9, rfl⟩ := Kd.N_slice hN9
        rw [List.length_append, List.length_singleton] at hN9 hat9
        have HT := amk (HST.out _ HS.out hN9 hb9 hg9 hat9)
        have hh := (hg9.block db (blk_lt HS.out.hd) (HS.out.ne (Nat.le_refl _))).trans HS.out.hd
        have d1 := blk_cell hh 1
        have f1 := blk_frozen hh 1
        have HK9 := amk (show Kx w9 kb q Aq nq from (hg9.block kb (blk_lt HK.out) HNE.out).trans HK.out)
        have HK10 := amk (show Kx (w9.setCell ⟨db, 1, none⟩ (.slice A9 (ys.length + 1) c9)) kb q Aq nq from (Below.heap_setCell _ _ _ _ HDK.out).trans HK9.out)
        clear hh hN9 hb9 hg9 hat9
        refine hK.out _ _ ?hS47 (fun hH2 => ?rest47)
        case hS47 => exact HK9.out.six
        clear hK K hH
        have hH := hH2
        clear hH2
        try simp only [Act.put, List.setIfInBounds_toArray, List.set_cons_zero, List.set_cons_succ]
        refine wpAnyH_take (i := 7) (oi := { dst := some 70, op := Go.Op.fieldAddr 46 (Go.Operand.tmp 6) 1, type := 0, pos := "law.go:50", after := #[{ on := 0, ground := Go.Ground.phase }, { on := 1, ground := Go.Ground.phase }, { on := 2, ground := Go.Ground.phase }, { on := 3, ground := Go.Ground.phase }, { on := 4, ground := Go.Ground.phase }, { on := 5, ground := Go.Ground.phase }, { on := 6, ground := Go.Ground.phase }], guard := none }) (v := ?v48) rfl (by kernel_rfl) (by kernel_rfl) (by kernel_rfl) (fun _ _ _ h => h) (Or.inl ⟨by rfl, ?hy48⟩) (by assumption) ?rest48
        case hy48 => (intro w hSw; (try dsimp only at hSw); go_simp <;> with_reducible rfl)
        try simp only [Act.put, List.setIfInBounds_toArray, List.set_cons_zero, List.set_cons_succ]
        refine wpAnyH_ready (rs := [8]) (by kernel_rfl) (by simp) ?_
        refine AllReadyH.cons (o := { dst := none, op := Go.Op.store 44 (Go.Operand.tmp 70) (Go.Operand.tmp 69), type := 0, pos := "law.go:50", after := #[{ on := 7, ground := Go.Ground.data }, { on := 6, ground := Go.Ground.data }, { on := 6, ground := Go.Ground.chain }, { on := 0, ground := Go.Ground.phase }, { on := 1, ground := Go.Ground.phase }, { on := 2, ground := Go.Ground.phase }, { on := 3, ground := Go.Ground.phase }, { on := 4, ground := Go.Ground.phase }, { on := 5, ground := Go.Ground.phase }, { on := 6, ground := Go.Ground.phase }], guard := none }) rfl (fun K hK => ?_) AllReadyH.nil
        go_simp
        refine hK.out _ _ ?hS49 (fun hH2 => ?rest49)
        case hS49 => exact HK10.out.six
        clear hK K hH
        have hH := hH2
        clear hH2
        try simp only [Act.put, List.setIfInBounds_toArray, List.set_cons_zero, List.set_cons_succ]
        refine wpAnyH_done (by kernel_rfl) ?_ _
        clear hH HK
        go_wp2
        refine ⟨⟨k + 1, _, by omega, by rfl, HT⟩, ?_⟩
        simp [intOf]; omega
      · go_simp
        go_at_call 48
        refine (not_f HFK.out).mono ?_
        rintro e w7 ⟨A1, n1, rfl, hF1, hn1, hb1⟩
        have HS := amk (HS.out.below hb1)
        have HK := amk (HK.out.below hb1)
        have HF1 := amk (show Kd.FK k46 w7 (fun b => b < w.heap.size ∨ W5b.drew.heap.size ≤ b) (notC q) [.int .i64 3, .slice A1 1 n1, .int .i64 0, .int .u64 0, .string ⟨#[]⟩, .int .u64 0] from k46_mkF w7 _ (notC q) hn1 hF1)
        have HSZ := amk hb1.size
        have d1 : w7.cell? ⟨db, 1, none⟩ = some (.slice Av ys.length cv) := blk_cell HS.out.hd 1
        clear hF1 hn1 hb1
        try go_simp
        refine hK.out _ _ ?hS50 (fun hH2 => ?rest50)
        case hS50 => exact HK.out.six
        clear hK K hH
        have hH := hH2
        clear hH2
        try simp only [Act.put, List.setIfInBounds_toArray, List.set_cons_zero, List.set_cons_succ]
        refine wpAnyH_ready (rs := [1, 5]) (by kernel_rfl) (by simp) ?_
        refine AllReadyH.cons (o := { dst := some 64, op := Go.Op.load 44 (Go.Operand.tmp 63), type := 44, pos := "law.go:50", after := #[{ on := 0, ground := Go.Ground.data }], guard := none }) rfl (fun K hK => ?_) (AllReadyH.cons (o := { dst := some 68, op := Go.Op.buildSlice 44 1 #[(0, Go.Operand.tmp 67)], type := 44, pos := "law.go:50", after := #[{ on := 4, ground := Go.Ground.data }], guard := none }) rfl (fun K hK => ?_) AllReadyH.nil)
        · go_simp
          refine hK.out _ _ ?hS51 (fun hH2 => ?rest51)
          case hS51 => exact HK.out.six
          clear hK K hH
          have hH := hH2
          clear hH2
          try simp only [Act.put, List.setIfInBounds_toArray, List.set_cons_zero, List.set_cons_succ]
          refine wpAnyH_ready (rs := [5]) (by kernel_rfl) (by simp) ?_
          refine AllReadyH.cons (o := { dst := some 68, op := Go.Op.buildSlice 44 1 #[(0, Go.Operand.tmp 67)], type := 44, pos := "law.go:50", after := #[{ on := 4, ground := Go.Ground.data }], guard := none }) rfl (fun K hK => ?_) AllReadyH.nil
          go_simp
          have HS8 := amk (HS.out.alloc (.cells #[.int .i64 3, .slice A1 1 n1, .int .i64 0, .int .u64 0, .string ⟨#[]⟩, .int .u64 0] 46))
          have HK8 := amk (HK.out.below (bal (Below.refl _ _) (.cells #[.int .i64 3, .slice A1 1 n1, .int .i64 0, .int .u64 0, .string ⟨#[]⟩, .int .u64 0] 46)))
          have d1 : (w7.alloc (.cells #[.int .i64 3, .slice A1 1 n1, .int .i64 0, .int .u64 0, .string ⟨#[]⟩, .int .u64 0] 46)).cell? ⟨db, 1, none⟩ = some (.slice Av ys.length cv) := blk_cell HS8.out.hd 1
          refine hK.out _ _ ?hS52 (fun hH2 => ?rest52)
          case hS52 => exact HK8.out.six
          clear hK K hH
          have hH := hH2
          clear hH2
          try simp only [Act.put, List.setIfInBounds_toArray, List.set_cons_zero, List.set_cons_succ]
          refine wpAnyH_ready (rs := [6]) (by kernel_rfl) (by simp) ?_
          refine AllReadyH.cons (o := { dst := some 69, op := Go.Op.call { callee := Go.Callee.builtin Go.Builtin.append, args := #[Go.Operand.tmp 64, Go.Operand.tmp 68], argTypes := #[44, 44] }, type := 44, pos := "law.go:50", after := #[{ on := 1, ground := Go.Ground.data }, { on := 5, ground := Go.Ground.data }, { on := 4, ground := Go.Ground.chain }], guard := none }) rfl (fun K hK => ?_) AllReadyH.nil
          refine Kd.N_append_step k46 (w0 := w) w.heap.size (by rfl) (.tmp 64) (.tmp 68) 44 46 _ 72 rfl Try.underlying44 hInfo46 rfl (by decide) (by decide) (.slice Av ys.length cv) ys (notC q) [.int .i64 3, .slice A1 1 n1, .int .i64 0, .int .u64 0, .string ⟨#[]⟩, .int .u64 0] (fun b => b ≠ db) (fun b => b < w.heap.size ∨ W5b.drew.heap.size ≤ b) rfl (by simp [Act.eval, Act.put]) HF1.out HOK.out (fun b hb => by have h1 := blk_lt HS.out.hd; have h2 : w7.heap.size ≤ b := hb; omega) (HYE.out _ HS.out) HS.out.B HS.out.B.size (by have := HLN.out; omega) ?_
          intro v1 w9 hN9 hb9 hg9 hat9
          obtain ⟨A9, c9, rfl⟩ := Kd.N_slice hN9
          rw [List.length_append, List.length_singleton] at hN9 hat9
          have HT := amk (HST.out _ HS.out hN9 hb9 hg9 hat9)
          have hh := (hg9.block db (blk_lt HS.out.hd) (HS.out.ne (Nat.le_refl _))).trans HS.out.hd
          have d1 := blk_cell hh 1
          have f1 := blk_frozen hh 1
          have HK9 := amk (show Kx w9 kb q Aq nq from (hg9.block kb (blk_lt HK.out) HNE.out).trans HK.out)
          have HK10 := amk (show Kx (w9.setCell ⟨db, 1, none⟩ (.slice A9 (ys.length + 1) c9)) kb q Aq nq from (Below.heap_setCell _ _ _ _ HDK.out).trans HK9.out)
          clear hh hN9 hb9 hg9 hat9
          refine hK.out _ _ ?hS53 (fun hH2 => ?rest53)
          case hS53 => exact HK9.out.six
          clear hK K hH
          have hH := hH2
          clear hH2
          try simp only [Act.put, List.setIfInBounds_toArray, List.set_cons_zero, List.set_cons_succ]
          refine wpAnyH_take (i := 7) (oi := { dst := some 70, op := Go.Op.fieldAddr 46 (Go.Operand.tmp 6) 1, type := 0, pos := "law.go:50", after := #[{ on := 0, ground := Go.Ground.phase }, { on := 1, ground := Go.Ground.phase }, { on := 2, ground := Go.Ground.phase }, { on := 3, ground := Go.Ground.phase }, { on := 4, ground := Go.Ground.phase }, { on := 5, ground := Go.Ground.phase }, { on := 6, ground := Go.Ground.phase }], guard := none }) (v := ?v54) rfl (by kernel_rfl) (by kernel_rfl) (by kernel_rfl) (fun _ _ _ h => h) (Or.inl ⟨by rfl, ?hy54⟩) (by assumption) ?rest54
          case hy54 => (intro w hSw; (try dsimp only at hSw); go_simp <;> with_reducible rfl)
          try simp only [Act.put, List.setIfInBounds_toArray, List.set_cons_zero, List.set_cons_succ]
          refine wpAnyH_ready (rs := [8]) (by kernel_rfl) (by simp) ?_
          refine AllReadyH.cons (o := { dst := none, op := Go.Op.store 44 (Go.Operand.tmp 70) (Go.Operand.tmp 69), type := 0, pos := "law.go:50", after := #[{ on := 7, ground := Go.Ground.data }, { on := 6, ground := Go.Ground.data }, { on := 6, ground := Go.Ground.chain }, { on := 0, ground := Go.Ground.phase }, { on := 1, ground := Go.Ground.phase }, { on := 2, ground := Go.Ground.phase }, { on := 3, ground := Go.Ground.phase }, { on := 4, ground := Go.Ground.phase }, { on := 5, ground := Go.Ground.phase }, { on := 6, ground := Go.Ground.phase }], guard := none }) rfl (fun K hK => ?_) AllReadyH.nil
          go_simp
          refine hK.out _ _ ?hS55 (fun hH2 => ?rest55)
          case hS55 => exact HK10.out.six
          clear hK K hH
          have hH := hH2
          clear hH2
          try simp only [Act.put, List.setIfInBounds_toArray, List.set_cons_zero, List.set_cons_succ]
          refine wpAnyH_done (by kernel_rfl) ?_ _
          clear hH HK
          go_wp2
          refine ⟨⟨k + 1, _, by omega, by rfl, HT⟩, ?_⟩
          simp [intOf]; omega
        · go_simp
          have HS8 := amk (HS.out.alloc (.cells #[.int .i64 3, .slice A1 1 n1, .int .i64 0, .int .u64 0, .string ⟨#[]⟩, .int .u64 0] 46))
          have HK8 := amk (HK.out.below (bal (Below.refl _ _) (.cells #[.int .i64 3, .slice A1 1 n1, .int .i64 0, .int .u64 0, .string ⟨#[]⟩, .int .u64 0] 46)))
          have d1 : (w7.alloc (.cells #[.int .i64 3, .slice A1 1 n1, .int .i64 0, .int .u64 0, .string ⟨#[]⟩, .int .u64 0] 46)).cell? ⟨db, 1, none⟩ = some (.slice Av ys.length cv) := blk_cell HS8.out.hd 1
          refine hK.out _ _ ?hS56 (fun hH2 => ?rest56)
          case hS56 => exact HK8.out.six
          clear hK K hH
          have hH := hH2
          clear hH2
          try simp only [Act.put, List.setIfInBounds_toArray, List.set_cons_zero, List.set_cons_succ]
          refine wpAnyH_ready (rs := [1]) (by kernel_rfl) (by simp) ?_
          refine AllReadyH.cons (o := { dst := some 64, op := Go.Op.load 44 (Go.Operand.tmp 63), type := 44, pos := "law.go:50", after := #[{ on := 0, ground := Go.Ground.data }], guard := none }) rfl (fun K hK => ?_) AllReadyH.nil
          go_simp
          refine hK.out _ _ ?hS57 (fun hH2 => ?rest57)
          case hS57 => exact HK8.out.six
          clear hK K hH
          have hH := hH2
          clear hH2
          try simp only [Act.put, List.setIfInBounds_toArray, List.set_cons_zero, List.set_cons_succ]
          refine wpAnyH_ready (rs := [6]) (by kernel_rfl) (by simp) ?_
          refine AllReadyH.cons (o := { dst := some 69, op := Go.Op.call { callee := Go.Callee.builtin Go.Builtin.append, args := #[Go.Operand.tmp 64, Go.Operand.tmp 68], argTypes := #[44, 44] }, type := 44, pos := "law.go:50", after := #[{ on := 1, ground := Go.Ground.data }, { on := 5, ground := Go.Ground.data }, { on := 4, ground := Go.Ground.chain }], guard := none }) rfl (fun K hK => ?_) AllReadyH.nil
          refine Kd.N_append_step k46 (w0 := w) w.heap.size (by rfl) (.tmp 64) (.tmp 68) 44 46 _ 72 rfl Try.underlying44 hInfo46 rfl (by decide) (by decide) (.slice Av ys.length cv) ys (notC q) [.int .i64 3, .slice A1 1 n1, .int .i64 0, .int .u64 0, .string ⟨#[]⟩, .int .u64 0] (fun b => b ≠ db) (fun b => b < w.heap.size ∨ W5b.drew.heap.size ≤ b) rfl (by simp [Act.eval, Act.put]) HF1.out HOK.out (fun b hb => by have h1 := blk_lt HS.out.hd; have h2 : w7.heap.size ≤ b := hb; omega) (HYE.out _ HS.out) HS.out.B HS.out.B.size (by have := HLN.out; omega) ?_
          intro v1 w9 hN9 hb9 hg9 hat9
          obtain ⟨A9, c9, rfl⟩ := Kd.N_slice hN9
          rw [List.length_append, List.length_singleton] at hN9 hat9
          have HT := amk (HST.out _ HS.out hN9 hb9 hg9 hat9)
          have hh := (hg9.block db (blk_lt HS.out.hd) (HS.out.ne (Nat.le_refl _))).trans HS.out.hd
          have d1 := blk_cell hh 1
          have f1 := blk_frozen hh 1
          have HK9 := amk (show Kx w9 kb q Aq nq from (hg9.block kb (blk_lt HK.out) HNE.out).trans HK.out)
          have HK10 := amk (show Kx (w9.setCell ⟨db, 1, none⟩ (.slice A9 (ys.length + 1) c9)) kb q Aq nq from (Below.heap_setCell _ _ _ _ HDK.out).trans HK9.out)
          clear hh hN9 hb9 hg9 hat9
          refine hK.out _ _ ?hS58 (fun hH2 => ?rest58)
          case hS58 => exact HK9.out.six
          clear hK K hH
          have hH := hH2
          clear hH2
          try simp only [Act.put, List.setIfInBounds_toArray, List.set_cons_zero, List.set_cons_succ]
          refine wpAnyH_take (i := 7) (oi := { dst := some 70, op := Go.Op.fieldAddr 46 (Go.Operand.tmp 6) 1, type := 0, pos := "law.go:50", after := #[{ on := 0, ground := Go.Ground.phase }, { on := 1, ground := Go.Ground.phase }, { on := 2, ground := Go.Ground.phase }, { on := 3, ground := Go.Ground.phase }, { on := 4, ground := Go.Ground.phase }, { on := 5, ground := Go.Ground.phase }, { on := 6, ground := Go.Ground.phase }], guard := none }) (v := ?v59) rfl (by kernel_rfl) (by kernel_rfl) (by kernel_rfl) (fun _ _ _ h => h) (Or.inl ⟨by rfl, ?hy59⟩) (by assumption) ?rest59
          case hy59 => (intro w hSw; (try dsimp only at hSw); go_simp <;> with_reducible rfl)
          try simp only [Act.put, List.setIfInBounds_toArray, List.set_cons_zero, List.set_cons_succ]
          refine wpAnyH_ready (rs := [8]) (by kernel_rfl) (by simp) ?_
          refine AllReadyH.cons (o := { dst := none, op := Go.Op.store 44 (Go.Operand.tmp 70) (Go.Operand.tmp 69), type := 0, pos := "law.go:50", after := #[{ on := 7, ground := Go.Ground.data }, { on := 6, ground := Go.Ground.data }, { on := 6, ground := Go.Ground.chain }, { on := 0, ground := Go.Ground.phase }, { on := 1, ground := Go.Ground.phase }, { on := 2, ground := Go.Ground.phase }, { on := 3, ground := Go.Ground.phase }, { on := 4, ground := Go.Ground.phase }, { on := 5, ground := Go.Ground.phase }, { on := 6, ground := Go.Ground.phase }], guard := none }) rfl (fun K hK => ?_) AllReadyH.nil
          go_simp
          refine hK.out _ _ ?hS60 (fun hH2 => ?rest60)
          case hS60 => exact HK10.out.six
          clear hK K hH
          have hH := hH2
          clear hH2
          try simp only [Act.put, List.setIfInBounds_toArray, List.set_cons_zero, List.set_cons_succ]
          refine wpAnyH_done (by kernel_rfl) ?_ _
          clear hH HK
          go_wp2
          refine ⟨⟨k + 1, _, by omega, by rfl, HT⟩, ?_⟩
          simp [intOf]; omega
    · obtain rfl : k = c.f1.length := by omega
      have e2 : decide ((c.f1.length : Int) < (c.f1.length : Int)) = false := decide_eq_false (by omega)
      have hN := hs.out.N
      have hd := hs.out.hd
      obtain ⟨Av, cv, rfl⟩ := Kd.N_slice hN
      have hr := (Kd.N_reads' hN).2
      rw [List.take_length] at hd hr
      have HC := amk hs.out.hc.drew
      have HX := amk hs.out.hx.drew
      have HB := amk (below_drew hs.out.B)
      have HD := amk (Bx.drew (show Bx wr db (manyC 2 (c.f1.map notC)) Av cv from ⟨hd, hr.2, hr.1⟩))
      have HHD := amk (fun (W : World) (h : Bx W db (manyC 2 (c.f1.map notC)) Av cv) => show Calls Try.prog 45 #[.agg #[.int .i64 2, .slice Av (c.f1.map notC).length cv, .int .i64 0, .int .u64 0, .string ⟨#[]⟩, .int .u64 0], .agg #[.int .u32 x.f0, .int .u32 x.f1, .int .u64 x.f2, .int .u64 x.f3.f0, .int .u64 x.f3.f1, .int .u64 x.f3.f2, .int .u64 x.f3.f3, .int .u64 x.f3.f4, .int .u64 x.f3.f5]] W fun e w' => e = .returned (.bool true) ∧ Below W.heap.size W w' from by have h2 := holds_w x h.C h.L; rw [HMO.out] at h2; exact h2)
      clear hs hN hd hr HMO H1
      generalize c.f1.map notC = zs at *
      go_upto_region 14 with (fail)
      first | go_region_held3 (fun W' : World => W'.cell? ⟨w.heap.size, 0, none⟩ = some (.int .i64 c.f0) ∧ W'.cell? ⟨w.heap.size, 1, none⟩ = some (.slice A c.f1.length n) ∧ W'.cell? ⟨w.heap.size, 2, none⟩ = some (.int .i64 c.f2) ∧ W'.cell? ⟨w.heap.size, 3, none⟩ = some (.int .u64 c.f3) ∧ W'.cell? ⟨w.heap.size, 4, none⟩ = some (.string c.f4) ∧ W'.cell? ⟨w.heap.size, 5, none⟩ = some (.int .u64 c.f5) ∧ W'.cell? ⟨db, 0, none⟩ = some (.int .i64 2) ∧ W'.cell? ⟨db, 1, none⟩ = some (.slice Av zs.length cv) ∧ W'.cell? ⟨db, 2, none⟩ = some (.int .i64 0) ∧ W'.cell? ⟨db, 3, none⟩ = some (.int .u64 0) ∧ W'.cell? ⟨db, 4, none⟩ = some (.string ⟨#[]⟩) ∧ W'.cell? ⟨db, 5, none⟩ = some (.int .u64 0) ∧ W'.cell? ⟨w.heap.size + 1, 0, none⟩ = some (.int .u32 x.f0) ∧ W'.cell? ⟨w.heap.size + 1, 1, none⟩ = some (.int .u32 x.f1) ∧ W'.cell? ⟨w.heap.size + 1, 2, none⟩ = some (.int .u64 x.f2) ∧ W'.cell? ⟨w.heap.size + 1, 3, none⟩ = some (.int .u64 x.f3.f0) ∧ W'.cell? ⟨w.heap.size + 1, 4, none⟩ = some (.int .u64 x.f3.f1) ∧ W'.cell? ⟨w.heap.size + 1, 5, none⟩ = some (.int .u64 x.f3.f2) ∧ W'.cell? ⟨w.heap.size + 1, 6, none⟩ = some (.int .u64 x.f3.f3) ∧ W'.cell? ⟨w.heap.size + 1, 7, none⟩ = some (.int .u64 x.f3.f4) ∧ W'.cell? ⟨w.heap.size + 1, 8, none⟩ = some (.int .u64 x.f3.f5)) (exact ⟨HC.out.six.1, HC.out.six.2.1, HC.out.six.2.2.1, HC.out.six.2.2.2.1, HC.out.six.2.2.2.2.1, HC.out.six.2.2.2.2.2, HD.out.six.1, HD.out.six.2.1, HD.out.six.2.2.1, HD.out.six.2.2.2.1, HD.out.six.2.2.2.2.1, HD.out.six.2.2.2.2.2, HX.out.nine⟩) (first | (go_at_call 48; (with_reducible refine (HN0.out _ HC.out.C).mono ?_); rintro e w1 ⟨A1, n1, rfl, hC1, hn1, hb1⟩; have HC := amk (HC.out.below hb1); have HX := amk (HX.out.below hb1); have HD := amk (HD.out.below hb1); have HB := amk (below_step HB.out hb1); have HK1 := amk hC1; have HK1n := amk hn1; clear hC1 hn1; clear hb1) | (go_at_call 45; (with_reducible refine (HH1.out _ _ _ HK1.out HK1n.out).mono ?_); rintro e w1 ⟨rfl, hb1⟩; have HC := amk (HC.out.below hb1); have HX := amk (HX.out.below hb1); have HD := amk (HD.out.below hb1); have HB := amk (below_step HB.out hb1); clear hb1) | (go_at_call 45; (with_reducible refine (HHD.out _ HD.out).mono ?_); rintro e w1 ⟨rfl, hb1⟩; have HC := amk (HC.out.below hb1); have HX := amk (HX.out.below hb1); have HD := amk (HD.out.below hb1); have HB := amk (below_step HB.out hb1); clear hb1)) | fail
      go_wp2
      go_ret
      exact ⟨rfl, HB.out⟩
end Go.Proofs.Ytoeklekjhaigoaa.HNots
end
section
namespace Go.Proofs.Ytoeklekjhaigoaa.HNots
open Go.Proofs.Ytoeklekjhaigoaa.Al Go.RowKit Go.Proofs.YtoeklekjhaigoaaW.PrintWords Go.Proofs.YtoeklekjhaigoaaW.PrintLast Go.Proofs.YtoeklekjhaigoaaW.PrintMore Go.Proofs.Ytoeklekjhaigoaa.M0 Go.Proofs.Ytoeklekjhaigoaa.M1 Go.Proofs.Ytoeklekjhaigoaa.M2 Go.Proofs.Ytoeklekjhaigoaa.QCond Go.Proofs.Ytoeklekjhaigoaa.QMean Go.Proofs.Ytoeklekjhaigoaa.QOne Go.Proofs.Ytoeklekjhaigoaa.HMany Go.Proofs.Ytoeklekjhaigoaa.HCount Go.Proofs.Ytoeklekjhaigoaa.HMean Go.Proofs.Ytoeklekjhaigoaa.QHolds Go.Proofs.Ytoeklekjhaigoaa.HKit Go.Proofs.Ytoeklekjhaigoaa.HNot Go.Proofs.Ytoeklekjhaigoaa.K49
set_option linter.unusedVariables false
set_option linter.unusedSimpArgs false
set_option maxRecDepth 100000
attribute [local go_sem] max2_int min2_int max_two min_two
set_option maxHeartbeats 16000000 in
theorem nots_f2 (c : S46) (x : S49) (A : Option Addr) (n : Nat) (w : World) (hC : Kd.C k46 w A c.f1.length c.f1) (hn : c.f1.length ≤ n) (hcb : ¬ 40 < nodes c) (hr : rightB c = true) (hp : semB x c = false) (h1 : c.f0 = 2) :
    Calls Try.prog 9 #[.agg #[.int .i64 c.f0, .slice A c.f1.length n, .int .i64 c.f2, .int .u64 c.f3, .string c.f4, .int .u64 c.f5], .agg #[.int .u32 x.f0, .int .u32 x.f1, .int .u64 x.f2, .int .u64 x.f3.f0, .int .u64 x.f3.f1, .int .u64 x.f3.f2, .int .u64 x.f3.f3, .int .u64 x.f3.f4, .int .u64 x.f3.f5]] w fun e w' => e = .returned (.bool true) ∧ Below w.heap.size w w' := by
  have hu46 := Try.underlying46
  have hu49 := Try.underlying49
  have s1 : (w.alloc (.cells #[.int .i64 c.f0, .slice A c.f1.length n, .int .i64 c.f2, .int .u64 c.f3, .string c.f4, .int .u64 c.f5] 46)).heap.size = w.heap.size + 1 := by simp
  have HC := amk ((Bx.new w hC hn).alloc (.cells #[.int .u32 x.f0, .int .u32 x.f1, .int .u64 x.f2, .int .u64 x.f3.f0, .int .u64 x.f3.f1, .int .u64 x.f3.f2, .int .u64 x.f3.f3, .int .u64 x.f3.f4, .int .u64 x.f3.f5] 49))
  have HX0 := Xx.new (w.alloc (.cells #[.int .i64 c.f0, .slice A c.f1.length n, .int .i64 c.f2, .int .u64 c.f3, .string c.f4, .int .u64 c.f5] 46)) x
  rw [s1] at HX0
  have HX := amk HX0
  have HB := amk (bal (bal (Below.refl w.heap.size w) (.cells #[.int .i64 c.f0, .slice A c.f1.length n, .int .i64 c.f2, .int .u64 c.f3, .string c.f4, .int .u64 c.f5] 46)) (.cells #[.int .u32 x.f0, .int .u32 x.f1, .int .u64 x.f2, .int .u64 x.f3.f0, .int .u64 x.f3.f1, .int .u64 x.f3.f2, .int .u64 x.f3.f3, .int .u64 x.f3.f4, .int .u64 x.f3.f5] 49))
  have HM := amk (fun (W : World) (h : Kd.C k46 W A c.f1.length c.f1) => many_w h hn 40 (by omega) (by omega))
  have HR := amk (fun (W : World) (h : Kd.C k46 W A c.f1.length c.f1) => right_w h hn)
  have HA := amk alive_w
  have nc : decide (40 < ((min (nodes c) ((40 : Int).toNat + 1) : Nat) : Int)) = decide (40 < nodes c) := decide_eq_decide.2 (by simp only [Int.reduceToNat]; omega)
  simp only [hr] at HR
  have hfc := (right_fits hr).1
  have HH0 := amk (fun (W : World) (h : Kd.C k46 W A c.f1.length c.f1) => by have h2 := holds_w x h hn; rw [holds_right hr, hp] at h2; exact h2)
  have HH1 := amk (fun (W : World) (A1 : Option Addr) (n1 : Nat) (h : Kd.C k46 W A1 1 [c]) (g : 1 ≤ n1) => by have h2 := hold1_w x h g; rw [holds_not1 hfc (by omega), hp] at h2; exact h2)
  have HH2 := amk (fun (W : World) (A1 : Option Addr) (n1 : Nat) (h : Kd.C k46 W A1 1 [notC c]) (g : 1 ≤ n1) => by have h2 := hold1_w x h g; rw [holds_not2 hfc (by omega), hp] at h2; exact h2)
  have HN0 := amk (fun (W : World) (h : Kd.C k46 W A c.f1.length c.f1) => not_w h hn)
  have HN1 := amk (fun (W : World) (A1 : Option Addr) (n1 : Nat) (h : Kd.C k46 W A1 1 [c]) (g : 1 ≤ n1) => not2_w h g)
  simp only [Bool.not_true, Bool.not_false] at HH1
  have HS := amk (fun (W' : World) (h : Bx W' w.heap.size c A n) (k : Xx W' (w.heap.size + 1) x) => s15 h k)
  have HMO := amk (show holdsB x (manyC 1 (c.f1.map notC)) = true from by have hm := holds_morgan (x := x) hfc (Or.inr h1) (by omega); rw [h1, hp] at hm; exact hm)
  have H1 := amk h1
  have HC0 := amk hC
  have HLK := amk (show c.f1.length ≤ 40 from by have e := nodes_eq c; have e2 := len_nodes c.f1; omega)
  clear h1
  clear s1 HX0 hC
  go_enter Try.func9, Try.ntmps9
  go_upto_region 1 with (fail)
  generalize (w.alloc (.cells #[.int .i64 c.f0, .slice A c.f1.length n, .int .i64 c.f2, .int .u64 c.f3, .string c.f4, .int .u64 c.f5] 46)).alloc (.cells #[.int .u32 x.f0, .int .u32 x.f1, .int .u64 x.f2, .int .u64 x.f3.f0, .int .u64 x.f3.f1, .int .u64 x.f3.f2, .int .u64 x.f3.f3, .int .u64 x.f3.f4, .int .u64 x.f3.f5] 49) = W at *
  obtain ⟨k0, k1, k2, k3, k4, k5⟩ := HC.out.six
  generalize ((min (nodes c) ((40 : Int).toNat + 1) : Nat) : Int) = mc at *
  have e1 : decide (40 < mc) = false := nc.trans (decide_eq_false hcb)
  clear nc hfc hp hr
  go_upto_region 4 with (first | (go_at_call 43; (with_reducible refine (HM.out _ HC.out.C).mono ?_); rintro e w1 ⟨rfl, hb1⟩; have HC := amk (HC.out.below hb1); have HX := amk (HX.out.below hb1); have HB := amk (below_step HB.out hb1); obtain ⟨k0, k1, k2, k3, k4, k5⟩ := HC.out.six; clear hb1) | (go_at_call 47; (with_reducible refine (HR.out _ HC.out.C).mono ?_); rintro e w1 ⟨rfl, hb1⟩; have HC := amk (HC.out.below hb1); have HX := amk (HX.out.below hb1); have HB := amk (below_step HB.out hb1); obtain ⟨k0, k1, k2, k3, k4, k5⟩ := HC.out.six; clear hb1) | (go_at_call 44; (with_reducible refine (HA.out _).mono ?_); rintro e w1 ⟨rfl, hb1⟩; have HC := amk (HC.out.below hb1); have HX := amk (HX.out.below hb1); have HB := amk (below_step HB.out hb1); obtain ⟨k0, k1, k2, k3, k4, k5⟩ := HC.out.six; clear hb1))
  have HC := amk HC.out.drew
  have HX := amk HX.out.drew
  have HB := amk (below_drew HB.out)
  clear k0 k1 k2 k3 k4 k5
  first | (go_region_held3 (fun W' : World => W'.cell? ⟨w.heap.size, 0, none⟩ = some (.int .i64 c.f0) ∧ W'.cell? ⟨w.heap.size, 1, none⟩ = some (.slice A c.f1.length n) ∧ W'.cell? ⟨w.heap.size, 2, none⟩ = some (.int .i64 c.f2) ∧ W'.cell? ⟨w.heap.size, 3, none⟩ = some (.int .u64 c.f3) ∧ W'.cell? ⟨w.heap.size, 4, none⟩ = some (.string c.f4) ∧ W'.cell? ⟨w.heap.size, 5, none⟩ = some (.int .u64 c.f5) ∧ W'.cell? ⟨w.heap.size + 1, 0, none⟩ = some (.int .u32 x.f0) ∧ W'.cell? ⟨w.heap.size + 1, 1, none⟩ = some (.int .u32 x.f1) ∧ W'.cell? ⟨w.heap.size + 1, 2, none⟩ = some (.int .u64 x.f2) ∧ W'.cell? ⟨w.heap.size + 1, 3, none⟩ = some (.int .u64 x.f3.f0) ∧ W'.cell? ⟨w.heap.size + 1, 4, none⟩ = some (.int .u64 x.f3.f1) ∧ W'.cell? ⟨w.heap.size + 1, 5, none⟩ = some (.int .u64 x.f3.f2) ∧ W'.cell? ⟨w.heap.size + 1, 6, none⟩ = some (.int .u64 x.f3.f3) ∧ W'.cell? ⟨w.heap.size + 1, 7, none⟩ = some (.int .u64 x.f3.f4) ∧ W'.cell? ⟨w.heap.size + 1, 8, none⟩ = some (.int .u64 x.f3.f5)) (exact HS.out _ HC.out HX.out) (first | (go_at_call 44; (with_reducible refine (HA.out _).mono ?_); rintro e w1 ⟨rfl, hb1⟩; have HC := amk (HC.out.below hb1); have HX := amk (HX.out.below hb1); have HB := amk (below_step HB.out hb1); clear hb1) | (go_at_call 45; (with_reducible refine (HH0.out _ HC.out.C).mono ?_); rintro e w1 ⟨rfl, hb1⟩; have HC := amk (HC.out.below hb1); have HX := amk (HX.out.below hb1); have HB := amk (below_step HB.out hb1); clear hb1) | (go_at_call 45; (with_reducible refine (HH1.out _ _ _ HK1.out HK1n.out).mono ?_); rintro e w1 ⟨rfl, hb1⟩; have HC := amk (HC.out.below hb1); have HX := amk (HX.out.below hb1); have HB := amk (below_step HB.out hb1); clear hb1) | (go_at_call 45; (with_reducible refine (HH2.out _ _ _ HK2.out HK2n.out).mono ?_); rintro e w1 ⟨rfl, hb1⟩; have HC := amk (HC.out.below hb1); have HX := amk (HX.out.below hb1); have HB := amk (below_step HB.out hb1); clear hb1) | (go_at_call 48; (with_reducible refine (HN0.out _ HC.out.C).mono ?_); rintro e w1 ⟨A1, n1, rfl, hC1, hn1, hb1⟩; have HC := amk (HC.out.below hb1); have HX := amk (HX.out.below hb1); have HB := amk (below_step HB.out hb1); have HK1 := amk hC1; have HK1n := amk hn1; clear hC1 hn1; clear hb1) | (go_at_call 48; (with_reducible refine (HN1.out _ _ _ HK1.out HK1n.out).mono ?_); rintro e w1 ⟨A1, n1, rfl, hC1, hn1, hb1⟩; have HC := amk (HC.out.below hb1); have HX := amk (HX.out.below hb1); have HB := amk (below_step HB.out hb1); have HK2 := amk hC1; have HK2n := amk hn1; clear hC1 hn1; clear hb1))) | fail
  rename_i hHz
  clear hHz HM HR HN1 HK1 HK2 HK1n HK2n
  obtain ⟨k0, k1, k2, k3, k4, k5⟩ := HC.out.six
  rw [H1.out] at k0
  go_upto_region 9 with (fail)
  have HW := amk (Nw.start HC.out HX.out HB.out HC0.out 1)
  generalize w1.alloc (.cells #[.int .i64 1, .slice none 0 0, .int .i64 0, .int .u64 0, .string ⟨#[]⟩, .int .u64 0] 46) = W5 at *
  generalize w1.heap.size = db at *
  clear k0 k1 k2 k3 k4 k5 HC HX HB
  obtain ⟨k0, k1, k2, k3, k4, k5⟩ := HW.out.hc.six
  rw [H1.out] at k0
  go_wp2
  go_loopw [59] (fun j wr => ∃ (k : Nat) (v : Value), k ≤ c.f1.length ∧ j = .int .i64 k ∧ Aside0 (Nw w wr c x A n db 1 v k)) (fun j _ => c.f1.length - (intOf j).toNat)
  case atStart => exact ⟨0, _, Nat.zero_le _, rfl, HW⟩
  case round =>
    clear HW k0 k1 k2 k3 k4 k5
    obtain ⟨k, v, hk, rfl, hs⟩ := hrel
    by_cases hkl : k < c.f1.length
    · have e2 : decide ((k : Int) < (c.f1.length : Int)) = true := decide_eq_true (by omega)
      obtain ⟨ad, Aq, nq, rfl, hx0, hx1, hx2, hx3, hx4, hx5, hnq, hFK⟩ := atF46 hs.out.F (k : Int) (by omega) (by omega)
      simp only [Int.toNat_natCast] at hx0 hx1 hx2 hx3 hx4 hx5
      have j0 : (0 : Int) ≤ (k : Int) := by omega
      have j1 : (k : Int) < (c.f1.length : Int) := by omega
      have hln : c.f1.length ≤ 40 := HLK.out
      have HST := amk (fun (W : World) (h : Nw w W c x (some ad) n db 1 v k) {v1 : Value} {W1 : World} => h.step hkl (v1 := v1) (W1 := W1))
      have HEQ := amk (show rd_T46 c.f1 ((k : Nat) : Int) = rd_T46 c.f1 (k : Int) from rfl)
      have HLN := amk (show (((c.f1.take k).map notC).length + 1) * 72 ≤ 140737488355328 from by rw [List.length_map, List.length_take]; have := HLK.out; omega)
      have HYE := amk (fun (W : World) (h : Nw w W c x (some ad) n db 1 v k) => h.N)
      generalize rd_T46 c.f1 (k : Int) = q at *
      generalize (c.f1.take k).map notC = ys at *
      obtain ⟨Av, cv, rfl⟩ := Kd.N_slice (HYE.out _ hs.out)
      have HS0 := amk (hs.out.alloc (.cells #[.int .i64 q.f0, .slice Aq q.f1.length nq, .int .i64 q.f2, .int .u64 q.f3, .string q.f4, .int .u64 q.f5] 46))
      have HFK0 := amk (Kd.FK_below hFK (bal (Below.refl _ _) (.cells #[.int .i64 q.f0, .slice Aq q.f1.length nq, .int .i64 q.f2, .int .u64 q.f3, .string q.f4, .int .u64 q.f5] 46)))
      have HK0 := amk (show Kx (wr.alloc (.cells #[.int .i64 q.f0, .slice Aq q.f1.length nq, .int .i64 q.f2, .int .u64 q.f3, .string q.f4, .int .u64 q.f5] 46)) wr.heap.size q Aq nq from heap_alloc_new _ _)
      have HNE := amk (show some wr.heap.size ≠ (Value.slice Av ys.length cv).ownBlock from fun e => by have := hs.out.own_lt e.symm; omega)
      have HDK := amk (show wr.heap.size ≠ db from by have := blk_lt hs.out.hd; omega)
      clear hFK
      go_upto_region 12 with (fail)
      generalize wr.alloc (.cells #[.int .i64 q.f0, .slice Aq q.f1.length nq, .int .i64 q.f2, .int .u64 q.f3, .string q.f4, .int .u64 q.f5] 46) = W5b at *
      generalize wr.heap.size = kb at *
      clear hs hx0 hx1 hx2 hx3 hx4 hx5
      have HS := amk HS0.out.drew
      have HFK := amk (show Kd.FK k46 W5b.drew _ q (cells46 q Aq nq) from Kd.FK_below HFK0.out (below_drew (Below.refl _ _)))
      have HK := amk (show Kx W5b.drew kb q Aq nq from HK0.out)
      have HOK := amk HS.out.okp
      clear HS0 HFK0 HK0
      have d1 : W5b.drew.cell? ⟨db, 1, none⟩ = some (.slice Av ys.length cv) := blk_cell HS.out.hd 1
      refine wp_region_held_drew (S := fun W' : World => W'.cell? ⟨kb, 0, none⟩ = some (.int .i64 q.f0) ∧ W'.cell? ⟨kb, 1, none⟩ = some (.slice Aq q.f1.length nq) ∧ W'.cell? ⟨kb, 2, none⟩ = some (.int .i64 q.f2) ∧ W'.cell? ⟨kb, 3, none⟩ = some (.int .u64 q.f3) ∧ W'.cell? ⟨kb, 4, none⟩ = some (.string q.f4) ∧ W'.cell? ⟨kb, 5, none⟩ = some (.int .u64 q.f5)) (by kernel_rfl) ?hS0 (fun hH => ?rest0)
      case hS0 => exact HK.out.six
      refine wpAnyH_take (i := 0) (oi := { dst := some 63, op := Go.Op.fieldAddr 46 (Go.Operand.tmp 6) 1, type := 0, pos := "law.go:50", after := #[], guard := none }) (v := ?v61) rfl (by kernel_rfl) (by kernel_rfl) (by kernel_rfl) (fun _ _ _ h => h) (Or.inl ⟨by rfl, ?hy61⟩) (by assumption) ?rest61
      case hy61 => (intro w hSw; (try dsimp only at hSw); go_simp <;> with_reducible rfl)
      try simp only [Act.put, List.setIfInBounds_toArray, List.set_cons_zero, List.set_cons_succ]
      refine wpAnyH_take (i := 2) (oi := { dst := some 65, op := Go.Op.move (Go.Operand.tmp 5), type := 53, pos := "law.go:50", after := #[], guard := none }) (v := ?v62) rfl (by kernel_rfl) (by kernel_rfl) (by kernel_rfl) (fun _ _ _ h => h) (Or.inl ⟨by rfl, ?hy62⟩) (by assumption) ?rest62
      case hy62 => (intro w hSw; (try dsimp only at hSw); go_simp <;> with_reducible rfl)
      try simp only [Act.put, List.setIfInBounds_toArray, List.set_cons_zero, List.set_cons_succ]
      refine wpAnyH_take (i := 3) (oi := { dst := some 66, op := Go.Op.load 46 (Go.Operand.tmp 8), type := 46, pos := "law.go:50", after := #[], guard := none }) (v := ?v63) rfl (by kernel_rfl) (by kernel_rfl) (by kernel_rfl) (fun _ _ _ h => h) (Or.inl ⟨by rfl, ?hy63⟩) (by assumption) ?rest63
      case hy63 => (intro w hSw; (try dsimp only at hSw); go_simp <;> with_reducible rfl)
      try simp only [Act.put, List.setIfInBounds_toArray, List.set_cons_zero, List.set_cons_succ]
      refine wpAnyH_ready (rs := [1, 4]) (by kernel_rfl) (by simp) ?_
      refine AllReadyH.cons (o := { dst := some 64, op := Go.Op.load 44 (Go.Operand.tmp 63), type := 44, pos := "law.go:50", after := #[{ on := 0, ground := Go.Ground.data }], guard := none }) rfl (fun K hK => ?_) (AllReadyH.cons (o := { dst := some 67, op := Go.Op.call { callee := Go.Callee.value (Go.Operand.tmp 65), args := #[Go.Operand.tmp 66], argTypes := #[46] }, type := 46, pos := "law.go:50", after := #[{ on := 2, ground := Go.Ground.data }, { on := 3, ground := Go.Ground.data }], guard := none }) rfl (fun K hK => ?_) AllReadyH.nil)
      · go_simp
        refine hK.out _ _ ?hS64 (fun hH2 => ?rest64)
        case hS64 => exact HK.out.six
        clear hK K hH
        have hH := hH2
        clear hH2
        try simp only [Act.put, List.setIfInBounds_toArray, List.set_cons_zero, List.set_cons_succ]
        refine wpAnyH_ready (rs := [4]) (by kernel_rfl) (by simp) ?_
        refine AllReadyH.cons (o := { dst := some 67, op := Go.Op.call { callee := Go.Callee.value (Go.Operand.tmp 65), args := #[Go.Operand.tmp 66], argTypes := #[46] }, type := 46, pos := "law.go:50", after := #[{ on := 2, ground := Go.Ground.data }, { on := 3, ground := Go.Ground.data }], guard := none }) rfl (fun K hK => ?_) AllReadyH.nil
        go_simp
        go_at_call 48
        refine (not_f HFK.out).mono ?_
        rintro e w7 ⟨A1, n1, rfl, hF1, hn1, hb1⟩
        have HS := amk (HS.out.below hb1)
        have HK := amk (HK.out.below hb1)
        have HF1 := amk (show Kd.FK k46 w7 (fun b => b < w.heap.size ∨ W5b.drew.heap.size ≤ b) (notC q) [.int .i64 3, .slice A1 1 n1, .int .i64 0, .int .u64 0, .string ⟨#[]⟩, .int .u64 0] from k46_mkF w7 _ (notC q) hn1 hF1)
        have HSZ := amk hb1.size
        have d1 : w7.cell? ⟨db, 1, none⟩ = some (.slice Av ys.length cv) := blk_cell HS.out.hd 1
        clear hF1 hn1 hb1
        try go_simp
        refine hK.out _ _ ?hS65 (fun hH2 => ?rest65)
        case hS65 => exact HK.out.six
        clear hK K hH
        have hH := hH2
        clear hH2
        try simp only [Act.put, List.setIfInBounds_toArray, List.set_cons_zero, List.set_cons_succ]
        refine wpAnyH_ready (rs := [5]) (by kernel_rfl) (by simp) ?_
        refine AllReadyH.cons (o := { dst := some 68, op := Go.Op.buildSlice 44 1 #[(0, Go.Operand.tmp 67)], type := 44, pos := "law.go:50", after := #[{ on := 4, ground := Go.Ground.data }], guard := none }) rfl (fun K hK => ?_) AllReadyH.nil
        go_simp
        have HS8 := amk (HS.out.alloc (.cells #[.int .i64 3, .slice A1 1 n1, .int .i64 0, .int .u64 0, .string ⟨#[]⟩, .int .u64 0] 46))
        have HK8 := amk (HK.out.below (bal (Below.refl _ _) (.cells #[.int .i64 3, .slice A1 1 n1, .int .i64 0, .int .u64 0, .string ⟨#[]⟩, .int .u64 0] 46)))
        have d1 : (w7.alloc (.cells #[.int .i64 3, .slice A1 1 n1, .int .i64 0, .int .u64 0, .string ⟨#[]⟩, .int .u64 0] 46)).cell? ⟨db, 1, none⟩ = some (.slice Av ys.length cv) := blk_cell HS8.out.hd 1
        refine hK.out _ _ ?hS66 (fun hH2 => ?rest66)
        case hS66 => exact HK8.out.six
        clear hK K hH
        have hH := hH2
        clear hH2
        try simp only [Act.put, List.setIfInBounds_toArray, List.set_cons_zero, List.set_cons_succ]
        refine wpAnyH_ready (rs := [6]) (by kernel_rfl) (by simp) ?_
        refine AllReadyH.cons (o := { dst := some 69, op := Go.Op.call { callee := Go.Callee.builtin Go.Builtin.append, args := #[Go.Operand.tmp 64, Go.Operand.tmp 68], argTypes := #[44, 44] }, type := 44, pos := "law.go:50", after := #[{ on := 1, ground := Go.Ground.data }, { on := 5, ground := Go.Ground.data }, { on := 4, ground := Go.Ground.chain }], guard := none }) rfl (fun K hK => ?_) AllReadyH.nil
        refine Kd.N_append_step k46 (w0 := w) w.heap.size (by rfl) (.tmp 64) (.tmp 68) 44 46 _ 72 rfl Try.underlying44 hInfo46 rfl (by decide) (by decide) (.slice Av ys.length cv) ys (notC q) [.int .i64 3, .slice A1 1 n1, .int .i64 0, .int .u64 0, .string ⟨#[]⟩, .int .u64 0] (fun b => b ≠ db) (fun b => b < w.heap.size ∨ W5b.drew.heap.size ≤ b) rfl (by simp [Act.eval, Act.put]) HF1.out HOK.out (fun b hb => by have h1 := blk_lt HS.out.hd; have h2 : w7.heap.size ≤ b := hb; omega) (HYE.out _ HS.out) HS.out.B HS.out.B.size (by have := HLN.out; omega) ?_
        intro v1 w9 hN9 hb9 hg9 hat9
        obtain ⟨A9, c9, rfl⟩ := Kd.N_slice hN9
        rw [List.length_append, List.length_singleton] at hN9 hat9
        have HT := amk (HST.out _ HS.out hN9 hb9 hg9 hat9)
        have hh := (hg9.block db (blk_lt HS.out.hd) (HS.out.ne (Nat.le_refl _))).trans HS.out.hd
        have d1 := blk_cell hh 1
        have f1 := blk_frozen hh 1
        have HK9 := amk (show Kx w9 kb q Aq nq from (hg9.block kb (blk_lt HK.out) HNE.out).trans HK.out)
        have HK10 := amk (show Kx (w9.setCell ⟨db, 1, none⟩ (.slice A9 (ys.length + 1) c9)) kb q Aq nq from (Below.heap_setCell _ _ _ _ HDK.out).trans HK9.out)
        clear hh hN9 hb9 hg9 hat9
        refine hK.out _ _ ?hS67 (fun hH2 => ?rest67)
        case hS67 => exact HK9.out.six
        clear hK K hH
        have hH := hH2
        clear hH2
        try simp only [Act.put, List.setIfInBounds_toArray, List.set_cons_zero, List.set_cons_succ]
        refine wpAnyH_take (i := 7) (oi := { dst := some 70, op := Go.Op.fieldAddr 46 (Go.Operand.tmp 6) 1, type := 0, pos := "law.go:50", after := #[{ on := 0, ground := Go.Ground.phase }, { on := 1, ground := Go.Ground.phase }, { on := 2, ground := Go.Ground.phase }, { on := 3, ground := Go.Ground.phase }, { on := 4, ground := Go.Ground.phase }, { on := 5, ground := Go.Ground.phase }, { on := 6, ground := Go.Ground.phase }], guard := none }) (v := ?v68) rfl (by kernel_rfl) (by kernel_rfl) (by kernel_rfl) (fun _ _ _ h => h) (Or.inl ⟨by rfl, ?hy68⟩) (by assumption) ?rest68
        case hy68 => (intro w hSw; (try dsimp only at hSw); go_simp <;> with_reducible rfl)
        try simp only [Act.put, List.setIfInBounds_toArray, List.set_cons_zero, List.set_cons_succ]
        refine wpAnyH_ready (rs := [8]) (by kernel_rfl) (by simp) ?_
        refine AllReadyH.cons (o := { dst := none, op := Go.Op.store 44 (Go.Operand.tmp 70) (Go.Operand.tmp 69), type := 0, pos := "law.go:50", after := #[{ on := 7, ground := Go.Ground.data }, { on := 6, ground := Go.Ground.data }, { on := 6, ground := Go.Ground.chain }, { on := 0, ground := Go.Ground.phase }, { on := 1, ground := Go.Ground.phase }, { on := 2, ground := Go.Ground.phase }, { on := 3, ground := Go.Ground.phase }, { on := 4, ground := Go.Ground.phase }, { on := 5, ground := Go.Ground.phase }, { on := 6, ground := Go.Ground.phase }], guard := none }) rfl (fun K hK => ?_) AllReadyH.nil
        go_simp
        refine hK.out _ _ ?hS69 (fun hH2 => ?rest69)
        case hS69 => exact HK10.out.six
        clear hK K hH
        have hH := hH2
        clear hH2
        try simp only [Act.put, List.setIfInBounds_toArray, List.set_cons_zero, List.set_cons_succ]
        refine wpAnyH_done (by kernel_rfl) ?_ _
        clear hH HK
        go_wp2
        refine ⟨⟨k + 1, _, by omega, by rfl, HT⟩, ?_⟩
        simp [intOf]; omega
      · go_simp
        go_at_call 48
        refine (not_f HFK.out).mono ?_
        rintro e w7 ⟨A1, n1, rfl, hF1, hn1, hb1⟩
        have HS := amk (HS.out.below hb1)
        have HK := amk (HK.out.below hb1)
        have HF1 := amk (show Kd.FK k46 w7 (fun b => b < w.heap.size ∨ W5b.drew.heap.size ≤ b) (notC q) [.int .i64 3, .slice A1 1 n1, .int .i64 0, .int .u64 0, .string ⟨#[]⟩, .int .u64 0] from k46_mkF w7 _ (notC q) hn1 hF1)
        have HSZ := amk hb1.size
        have d1 : w7.cell? ⟨db, 1, none⟩ = some (.slice Av ys.length cv) := blk_cell HS.out.hd 1
        clear hF1 hn1 hb1
        try go_simp
        refine hK.out _ _ ?hS70 (fun hH2 => ?rest70)
        case hS70 => exact HK.out.six
        clear hK K hH
        have hH := hH2
        clear hH2
        try simp only [Act.put, List.setIfInBounds_toArray, List.set_cons_zero, List.set_cons_succ]
        refine wpAnyH_ready (rs := [1, 5]) (by kernel_rfl) (by simp) ?_
        refine AllReadyH.cons (o := { dst := some 64, op := Go.Op.load 44 (Go.Operand.tmp 63), type := 44, pos := "law.go:50", after := #[{ on := 0, ground := Go.Ground.data }], guard := none }) rfl (fun K hK => ?_) (AllReadyH.cons (o := { dst := some 68, op := Go.Op.buildSlice 44 1 #[(0, Go.Operand.tmp 67)], type := 44, pos := "law.go:50", after := #[{ on := 4, ground := Go.Ground.data }], guard := none }) rfl (fun K hK => ?_) AllReadyH.nil)
        · go_simp
          refine hK.out _ _ ?hS71 (fun hH2 => ?rest71)
          case hS71 => exact HK.out.six
          clear hK K hH
          have hH := hH2
          clear hH2
          try simp only [Act.put, List.setIfInBounds_toArray, List.set_cons_zero, List.set_cons_succ]
          refine wpAnyH_ready (rs := [5]) (by kernel_rfl) (by simp) ?_
          refine AllReadyH.cons (o := { dst := some 68, op := Go.Op.buildSlice 44 1 #[(0, Go.Operand.tmp 67)], type := 44, pos := "law.go:50", after := #[{ on := 4, ground := Go.Ground.data }], guard := none }) rfl (fun K hK => ?_) AllReadyH.nil
          go_simp
          have HS8 := amk (HS.out.alloc (.cells #[.int .i64 3, .slice A1 1 n1, .int .i64 0, .int .u64 0, .string ⟨#[]⟩, .int .u64 0] 46))
          have HK8 := amk (HK.out.below (bal (Below.refl _ _) (.cells #[.int .i64 3, .slice A1 1 n1, .int .i64 0, .int .u64 0, .string ⟨#[]⟩, .int .u64 0] 46)))
          have d1 : (w7.alloc (.cells #[.int .i64 3, .slice A1 1 n1, .int .i64 0, .int .u64 0, .string ⟨#[]⟩, .int .u64 0] 46)).cell? ⟨db, 1, none⟩ = some (.slice Av ys.length cv) := blk_cell HS8.out.hd 1
          refine hK.out _ _ ?hS72 (fun hH2 => ?rest72)
          case hS72 => exact HK8.out.six
          clear hK K hH
          have hH := hH2
          clear hH2
          try simp only [Act.put, List.setIfInBounds_toArray, List.set_cons_zero, List.set_cons_succ]
          refine wpAnyH_ready (rs := [6]) (by kernel_rfl) (by simp) ?_
          refine AllReadyH.cons (o := { dst := some 69, op := Go.Op.call { callee := Go.Callee.builtin Go.Builtin.append, args := #[Go.Operand.tmp 64, Go.Operand.tmp 68], argTypes := #[44, 44] }, type := 44, pos := "law.go:50", after := #[{ on := 1, ground := Go.Ground.data }, { on := 5, ground := Go.Ground.data }, { on := 4, ground := Go.Ground.chain }], guard := none }) rfl (fun K hK => ?_) AllReadyH.nil
          refine Kd.N_append_step k46 (w0 := w) w.heap.size (by rfl) (.tmp 64) (.tmp 68) 44 46 _ 72 rfl Try.underlying44 hInfo46 rfl (by decide) (by decide) (.slice Av ys.length cv) ys (notC q) [.int .i64 3, .slice A1 1 n1, .int .i64 0, .int .u64 0, .string ⟨#[]⟩, .int .u64 0] (fun b => b ≠ db) (fun b => b < w.heap.size ∨ W5b.drew.heap.size ≤ b) rfl (by simp [Act.eval, Act.put]) HF1.out HOK.out (fun b hb => by have h1 := blk_lt HS.out.hd; have h2 : w7.heap.size ≤ b := hb; omega) (HYE.out _ HS.out) HS.out.B HS.out.B.size (by have := HLN.out; omega) ?_
          intro v1 w9 hN9 hb9 hg9 hat9
          obtain ⟨A9, c9, rfl⟩ := Kd.N_slice hN9
          rw [List.length_append, List.length_singleton] at hN9 hat9
          have HT := amk (HST.out _ HS.out hN9 hb9 hg9 hat9)
          have hh := (hg9.block db (blk_lt HS.out.hd) (HS.out.ne (Nat.le_refl _))).trans HS.out.hd
          have d1 := blk_cell hh 1
          have f1 := blk_frozen hh 1
          have HK9 := amk (show Kx w9 kb q Aq nq from (hg9.block kb (blk_lt HK.out) HNE.out).trans HK.out)
          have HK10 := amk (show Kx (w9.setCell ⟨db, 1, none⟩ (.slice A9 (ys.length + 1) c9)) kb q Aq nq from (Below.heap_setCell _ _ _ _ HDK.out).trans HK9.out)
          clear hh hN9 hb9 hg9 hat9
          refine hK.out _ _ ?hS73 (fun hH2 => ?rest73)
          case hS73 => exact HK9.out.six
          clear hK K hH
          have hH := hH2
          clear hH2
          try simp only [Act.put, List.setIfInBounds_toArray, List.set_cons_zero, List.set_cons_succ]
          refine wpAnyH_take (i := 7) (oi := { dst := some 70, op := Go.Op.fieldAddr 46 (Go.Operand.tmp 6) 1, type := 0, pos := "law.go:50", after := #[{ on := 0, ground := Go.Ground.phase }, { on := 1, ground := Go.Ground.phase }, { on := 2, ground := Go.Ground.phase }, { on := 3, ground := Go.Ground.phase }, { on := 4, ground := Go.Ground.phase }, { on := 5, ground := Go.Ground.phase }, { on := 6, ground := Go.Ground.phase }], guard := none }) (v := ?v74) rfl (by kernel_rfl) (by kernel_rfl) (by kernel_rfl) (fun _ _ _ h => h) (Or.inl ⟨by rfl, ?hy74⟩) (by assumption) ?rest74
          case hy74 => (intro w hSw; (try dsimp only at hSw); go_simp <;> with_reducible rfl)
          try simp only [Act.put, List.setIfInBounds_toArray, List.set_cons_zero, List.set_cons_succ]
          refine wpAnyH_ready (rs := [8]) (by kernel_rfl) (by simp) ?_
          refine AllReadyH.cons (o := { dst := none, op := Go.Op.store 44 (Go.Operand.tmp 70) (Go.Operand.tmp 69), type := 0, pos := "law.go:50", after := #[{ on := 7, ground := Go.Ground.data }, { on := 6, ground := Go.Ground.data }, { on := 6, ground := Go.Ground.chain }, { on := 0, ground := Go.Ground.phase }, { on := 1, ground := Go.Ground.phase }, { on := 2, ground := Go.Ground.phase }, { on := 3, ground := Go.Ground.phase }, { on := 4, ground := Go.Ground.phase }, { on := 5, ground := Go.Ground.phase }, { on := 6, ground := Go.Ground.phase }], guard := none }) rfl (fun K hK => ?_) AllReadyH.nil
          go_simp
          refine hK.out _ _ ?hS75 (fun hH2 => ?rest75)
          case hS75 => exact HK10.out.six
          clear hK K hH
          have hH := hH2
          clear hH2
          try simp only [Act.put, List.setIfInBounds_toArray, List.set_cons_zero, List.set_cons_succ]
          refine wpAnyH_done (by kernel_rfl) ?_ _
          clear hH HK
          go_wp2
          refine ⟨⟨k + 1, _, by omega, by rfl, HT⟩, ?_⟩
          simp [intOf]; omega
        · go_simp
          have HS8 := amk (HS.out.alloc (.cells #[.int .i64 3, .slice A1 1 n1, .int .i64 0, .int .u64 0, .string ⟨#[]⟩, .int .u64 0] 46))
          have HK8 := amk (HK.out.below (bal (Below.refl _ _) (.cells #[.int .i64 3, .slice A1 1 n1, .int .i64 0, .int .u64 0, .string ⟨#[]⟩, .int .u64 0] 46)))
          have d1 : (w7.alloc (.cells #[.int .i64 3, .slice A1 1 n1, .int .i64 0, .int .u64 0, .string ⟨#[]⟩, .int .u64 0] 46)).cell? ⟨db, 1, none⟩ = some (.slice Av ys.length cv) := blk_cell HS8.out.hd 1
          refine hK.out _ _ ?hS76 (fun hH2 => ?rest76)
          case hS76 => exact HK8.out.six
          clear hK K hH
          have hH := hH2
          clear hH2
          try simp only [Act.put, List.setIfInBounds_toArray, List.set_cons_zero, List.set_cons_succ]
          refine wpAnyH_ready (rs := [1]) (by kernel_rfl) (by simp) ?_
          refine AllReadyH.cons (o := { dst := some 64, op := Go.Op.load 44 (Go.Operand.tmp 63), type := 44, pos := "law.go:50", after := #[{ on := 0, ground := Go.Ground.data }], guard := none }) rfl (fun K hK => ?_) AllReadyH.nil
          go_simp
          refine hK.out _ _ ?hS77 (fun hH2 => ?rest77)
          case hS77 => exact HK8.out.six
          clear hK K hH
          have hH := hH2
          clear hH2
          try simp only [Act.put, List.setIfInBounds_toArray, List.set_cons_zero, List.set_cons_succ]
          refine wpAnyH_ready (rs := [6]) (by kernel_rfl) (by simp) ?_
          refine AllReadyH.cons (o := { dst := some 69, op := Go.Op.call { callee := Go.Callee.builtin Go.Builtin.append, args := #[Go.Operand.tmp 64, Go.Operand.tmp 68], argTypes := #[44, 44] }, type := 44, pos := "law.go:50", after := #[{ on := 1, ground := Go.Ground.data }, { on := 5, ground := Go.Ground.data }, { on := 4, ground := Go.Ground.chain }], guard := none }) rfl (fun K hK => ?_) AllReadyH.nil
          refine Kd.N_append_step k46 (w0 := w) w.heap.size (by rfl) (.tmp 64) (.tmp 68) 44 46 _ 72 rfl Try.underlying44 hInfo46 rfl (by decide) (by decide) (.slice Av ys.length cv) ys (notC q) [.int .i64 3, .slice A1 1 n1, .int .i64 0, .int .u64 0, .string ⟨#[]⟩, .int .u64 0] (fun b => b ≠ db) (fun b => b < w.heap.size ∨ W5b.drew.heap.size ≤ b) rfl (by simp [Act.eval, Act.put]) HF1.out HOK.out (fun b hb => by have h1 := blk_lt HS.out.hd; have h2 : w7.heap.size ≤ b := hb; omega) (HYE.out _ HS.out) HS.out.B HS.out.B.size (by have := HLN.out; omega) ?_
          intro v1 w9 hN9 hb9 hg9 hat9
          obtain ⟨A9, c9, rfl⟩ := Kd.N_slice hN9
          rw [List.length_append, List.length_singleton] at hN9 hat9
          have HT := amk (HST.out _ HS.out hN9 hb9 hg9 hat9)
          have hh := (hg9.block db (blk_lt HS.out.hd) (HS.out.ne (Nat.le_refl _))).trans HS.out.hd
          have d1 := blk_cell hh 1
          have f1 := blk_frozen hh 1
          have HK9 := amk (show Kx w9 kb q Aq nq from (hg9.block kb (blk_lt HK.out) HNE.out).trans HK.out)
          have HK10 := amk (show Kx (w9.setCell ⟨db, 1, none⟩ (.slice A9 (ys.length + 1) c9)) kb q Aq nq from (Below.heap_setCell _ _ _ _ HDK.out).trans HK9.out)
          clear hh hN9 hb9 hg9 hat9
          refine hK.out _ _ ?hS78 (fun hH2 => ?rest78)
          case hS78 => exact HK9.out.six
          clear hK K hH
          have hH := hH2
          clear hH2
          try simp only [Act.put, List.setIfInBounds_toArray, List.set_cons_zero, List.set_cons_succ]
          refine wpAnyH_take (i := 7) (oi := { dst := some 70, op := Go.Op.fieldAddr 46 (Go.Operand.tmp 6) 1, type := 0, pos := "law.go:50", after := #[{ on := 0, ground := Go.Ground.phase }, { on := 1, ground := Go.Ground.phase }, { on := 2, ground := Go.Ground.phase }, { on := 3, ground := Go.Ground.phase }, { on := 4, ground := Go.Ground.phase }, { on := 5, ground := Go.Ground.phase }, { on := 6, ground := Go.Ground.phase }], guard := none }) (v := ?v79) rfl (by kernel_rfl) (by kernel_rfl) (by kernel_rfl) (fun _ _ _ h => h) (Or.inl ⟨by rfl, ?hy79⟩) (by assumption) ?rest79
          case hy79 => (intro w hSw; (try dsimp only at hSw); go_simp <;> with_reducible rfl)
          try simp only [Act.put, List.setIfInBounds_toArray, List.set_cons_zero, List.set_cons_succ]
          refine wpAnyH_ready (rs := [8]) (by kernel_rfl) (by simp) ?_
          refine AllReadyH.cons (o := { dst := none, op := Go.Op.store 44 (Go.Operand.tmp 70) (Go.Operand.tmp 69), type := 0, pos := "law.go:50", after := #[{ on := 7, ground := Go.Ground.data }, { on := 6, ground := Go.Ground.data }, { on := 6, ground := Go.Ground.chain }, { on := 0, ground := Go.Ground.phase }, { on := 1, ground := Go.Ground.phase }, { on := 2, ground := Go.Ground.phase }, { on := 3, ground := Go.Ground.phase }, { on := 4, ground := Go.Ground.phase }, { on := 5, ground := Go.Ground.phase }, { on := 6, ground := Go.Ground.phase }], guard := none }) rfl (fun K hK => ?_) AllReadyH.nil
          go_simp
          refine hK.out _ _ ?hS80 (fun hH2 => ?rest80)
          case hS80 => exact HK10.out.six
          clear hK K hH
          have hH := hH2
          clear hH2
          try simp only [Act.put, List.setIfInBounds_toArray, List.set_cons_zero, List.set_cons_succ]
          refine wpAnyH_done (by kernel_rfl) ?_ _
          clear hH HK
          go_wp2
          refine ⟨⟨k + 1, _, by omega, by rfl, HT⟩, ?_⟩
          simp [intOf]; omega
    · obtain rfl : k = c.f1.length := by omega
      have e2 : decide ((c.f1.length : Int) < (c.f1.length : Int)) = false := decide_eq_false (by omega)
      have hN := hs.out.N
      have hd := hs.out.hd
      obtain ⟨Av, cv, rfl⟩ := Kd.N_slice hN
      have hr := (Kd.N_reads' hN).2
      rw [List.take_length] at hd hr
      have HC := amk hs.out.hc.drew
      have HX := amk hs.out.hx.drew
      have HB := amk (below_drew hs.out.B)
      have HD := amk (Bx.drew (show Bx wr db (manyC 1 (c.f1.map notC)) Av cv from ⟨hd, hr.2, hr.1⟩))
      have HHD := amk (fun (W : World) (h : Bx W db (manyC 1 (c.f1.map notC)) Av cv) => show Calls Try.prog 45 #[.agg #[.int .i64 1, .slice Av (c.f1.map notC).length cv, .int .i64 0, .int .u64 0, .string ⟨#[]⟩, .int .u64 0], .agg #[.int .u32 x.f0, .int .u32 x.f1, .int .u64 x.f2, .int .u64 x.f3.f0, .int .u64 x.f3.f1, .int .u64 x.f3.f2, .int .u64 x.f3.f3, .int .u64 x.f3.f4, .int .u64 x.f3.f5]] W fun e w' => e = .returned (.bool true) ∧ Below W.heap.size W w' from by have h2 := holds_w x h.C h.L; rw [HMO.out] at h2; exact h2)
      clear hs hN hd hr HMO H1
      generalize c.f1.map notC = zs at *
      go_upto_region 14 with (fail)
      first | go_region_held3 (fun W' : World => W'.cell? ⟨w.heap.size, 0, none⟩ = some (.int .i64 c.f0) ∧ W'.cell? ⟨w.heap.size, 1, none⟩ = some (.slice A c.f1.length n) ∧ W'.cell? ⟨w.heap.size, 2, none⟩ = some (.int .i64 c.f2) ∧ W'.cell? ⟨w.heap.size, 3, none⟩ = some (.int .u64 c.f3) ∧ W'.cell? ⟨w.heap.size, 4, none⟩ = some (.string c.f4) ∧ W'.cell? ⟨w.heap.size, 5, none⟩ = some (.int .u64 c.f5) ∧ W'.cell? ⟨db, 0, none⟩ = some (.int .i64 1) ∧ W'.cell? ⟨db, 1, none⟩ = some (.slice Av zs.length cv) ∧ W'.cell? ⟨db, 2, none⟩ = some (.int .i64 0) ∧ W'.cell? ⟨db, 3, none⟩ = some (.int .u64 0) ∧ W'.cell? ⟨db, 4, none⟩ = some (.string ⟨#[]⟩) ∧ W'.cell? ⟨db, 5, none⟩ = some (.int .u64 0) ∧ W'.cell? ⟨w.heap.size + 1, 0, none⟩ = some (.int .u32 x.f0) ∧ W'.cell? ⟨w.heap.size + 1, 1, none⟩ = some (.int .u32 x.f1) ∧ W'.cell? ⟨w.heap.size + 1, 2, none⟩ = some (.int .u64 x.f2) ∧ W'.cell? ⟨w.heap.size + 1, 3, none⟩ = some (.int .u64 x.f3.f0) ∧ W'.cell? ⟨w.heap.size + 1, 4, none⟩ = some (.int .u64 x.f3.f1) ∧ W'.cell? ⟨w.heap.size + 1, 5, none⟩ = some (.int .u64 x.f3.f2) ∧ W'.cell? ⟨w.heap.size + 1, 6, none⟩ = some (.int .u64 x.f3.f3) ∧ W'.cell? ⟨w.heap.size + 1, 7, none⟩ = some (.int .u64 x.f3.f4) ∧ W'.cell? ⟨w.heap.size + 1, 8, none⟩ = some (.int .u64 x.f3.f5)) (exact ⟨HC.out.six.1, HC.out.six.2.1, HC.out.six.2.2.1, HC.out.six.2.2.2.1, HC.out.six.2.2.2.2.1, HC.out.six.2.2.2.2.2, HD.out.six.1, HD.out.six.2.1, HD.out.six.2.2.1, HD.out.six.2.2.2.1, HD.out.six.2.2.2.2.1, HD.out.six.2.2.2.2.2, HX.out.nine⟩) (first | (go_at_call 48; (with_reducible refine (HN0.out _ HC.out.C).mono ?_); rintro e w1 ⟨A1, n1, rfl, hC1, hn1, hb1⟩; have HC := amk (HC.out.below hb1); have HX := amk (HX.out.below hb1); have HD := amk (HD.out.below hb1); have HB := amk (below_step HB.out hb1); have HK1 := amk hC1; have HK1n := amk hn1; clear hC1 hn1; clear hb1) | (go_at_call 45; (with_reducible refine (HH1.out _ _ _ HK1.out HK1n.out).mono ?_); rintro e w1 ⟨rfl, hb1⟩; have HC := amk (HC.out.below hb1); have HX := amk (HX.out.below hb1); have HD := amk (HD.out.below hb1); have HB := amk (below_step HB.out hb1); clear hb1) | (go_at_call 45; (with_reducible refine (HHD.out _ HD.out).mono ?_); rintro e w1 ⟨rfl, hb1⟩; have HC := amk (HC.out.below hb1); have HX := amk (HX.out.below hb1); have HD := amk (HD.out.below hb1); have HB := amk (below_step HB.out hb1); clear hb1)) | fail
      go_wp2
      go_ret
      exact ⟨rfl, HB.out⟩
end Go.Proofs.Ytoeklekjhaigoaa.HNots
end
section
namespace Go.Proofs.Ytoeklekjhaigoaa.PMeanNots
open Go.Proofs.Ytoeklekjhaigoaa.Al Go.RowKit Go.Proofs.YtoeklekjhaigoaaW.PrintWords Go.Proofs.YtoeklekjhaigoaaW.PrintLast Go.Proofs.YtoeklekjhaigoaaW.PrintMore Go.Proofs.Ytoeklekjhaigoaa.M0 Go.Proofs.Ytoeklekjhaigoaa.M1 Go.Proofs.Ytoeklekjhaigoaa.M2 Go.Proofs.Ytoeklekjhaigoaa.QCond Go.Proofs.Ytoeklekjhaigoaa.QMean Go.Proofs.Ytoeklekjhaigoaa.QOne Go.Proofs.Ytoeklekjhaigoaa.HMany Go.Proofs.Ytoeklekjhaigoaa.HCount Go.Proofs.Ytoeklekjhaigoaa.HMean Go.Proofs.Ytoeklekjhaigoaa.QHolds Go.Proofs.Ytoeklekjhaigoaa.HKit Go.Proofs.Ytoeklekjhaigoaa.HNot Go.Proofs.Ytoeklekjhaigoaa.HNots0 Go.Proofs.Ytoeklekjhaigoaa.HNots Go.Proofs.Ytoeklekjhaigoaa.K49
set_option linter.unusedVariables false
set_option linter.unusedSimpArgs false
set_option maxRecDepth 100000
theorem nots_any (c : S46) (x : S49) (A : Option Addr) (n : Nat) (w : World) (hC : Kd.C k46 w A c.f1.length c.f1) (hn : c.f1.length ≤ n) :
    Calls Try.prog 9 #[.agg #[.int .i64 c.f0, .slice A c.f1.length n, .int .i64 c.f2, .int .u64 c.f3, .string c.f4, .int .u64 c.f5], .agg #[.int .u32 x.f0, .int .u32 x.f1, .int .u64 x.f2, .int .u64 x.f3.f0, .int .u64 x.f3.f1, .int .u64 x.f3.f2, .int .u64 x.f3.f3, .int .u64 x.f3.f4, .int .u64 x.f3.f5]] w fun e w' => e = .returned (.bool true) ∧ Below w.heap.size w w' := by
  by_cases hcb : 40 < nodes c
  · exact nots_many c x A n w hC hn hcb
  · cases hr : rightB c with
    | false => exact nots_wrong c x A n w hC hn hcb hr
    | true =>
      cases hp : semB x c with
      | true =>
        by_cases h1 : c.f0 = 1
        · exact nots_t1 c x A n w hC hn hcb hr hp h1
        · by_cases h2 : c.f0 = 2
          · exact nots_t2 c x A n w hC hn hcb hr hp h2
          · exact nots_t c x A n w hC hn hcb hr hp h1 h2
      | false =>
        by_cases h1 : c.f0 = 1
        · exact nots_f1 c x A n w hC hn hcb hr hp h1
        · by_cases h2 : c.f0 = 2
          · exact nots_f2 c x A n w hC hn hcb hr hp h2
          · exact nots_f c x A n w hC hn hcb hr hp h1 h2
def doorwardlaw18_MeanNots.f (a0_0 : Int) (l0_1 : List (S46)) (a0_2 : Int) (a0_3 : Int) (a0_4 : ByteArray) (a0_5 : Int) (a1_0 : Int) (a1_1 : Int) (a1_2 : Int) (a1_3 : Int) (a1_4 : Int) (a1_5 : Int) (a1_6 : Int) (a1_7 : Int) (a1_8 : Int) : Option (Bool) := some true
theorem doorwardlaw18_MeanNots.calls (a0_0 : Int) (A0_1 : Option Addr) (c0_1 : Nat) (l0_1 : List (S46)) (a0_2 : Int) (a0_3 : Int) (a0_4 : ByteArray) (a0_5 : Int) (a1_0 : Int) (a1_1 : Int) (a1_2 : Int) (a1_3 : Int) (a1_4 : Int) (a1_5 : Int) (a1_6 : Int) (a1_7 : Int) (a1_8 : Int) (r : Bool) (w : World) (hr0_1 : Kd.C k46 w A0_1 l0_1.length l0_1) (hc0_1 : l0_1.length ≤ c0_1) (h : doorwardlaw18_MeanNots.f a0_0 l0_1 a0_2 a0_3 a0_4 a0_5 a1_0 a1_1 a1_2 a1_3 a1_4 a1_5 a1_6 a1_7 a1_8 = some r) :
    Calls Try.prog 9 #[.agg #[.int .i64 a0_0, .slice A0_1 l0_1.length c0_1, .int .i64 a0_2, .int .u64 a0_3, .string a0_4, .int .u64 a0_5], .agg #[.int .u32 a1_0, .int .u32 a1_1, .int .u64 a1_2, .int .u64 a1_3, .int .u64 a1_4, .int .u64 a1_5, .int .u64 a1_6, .int .u64 a1_7, .int .u64 a1_8]] w fun e w' => e = .returned (.bool r) ∧ Below w.heap.size w w' := by
  have h2 := nots_any ⟨a0_0, l0_1, a0_2, a0_3, a0_4, a0_5⟩ ⟨a1_0, a1_1, a1_2, ⟨a1_3, a1_4, a1_5, a1_6, a1_7, a1_8⟩⟩ A0_1 c0_1 w hr0_1 hc0_1
  rw [← Option.some.inj h]
  exact h2
end Go.Proofs.Ytoeklekjhaigoaa.PMeanNots
end
section
namespace Go.Proofs.Ytoeklekjhaigoaa.Open
open Go.Proofs.Ytoeklekjhaigoaa.Al Go.RowKit Go.Proofs.YtoeklekjhaigoaaW.PrintWords
set_option linter.unusedVariables false
set_option linter.unusedSimpArgs false
variable {α β : Type}
/-- A reading (of so much fuel at most) of cells at type t tells a value of kind d, of which Q. -/
def OpensN (P : Program) (fuel : Nat) (d : Kd α) (t : TypeId) (Q : α → Prop) : Prop :=
  P.cellsOf t = d.sz ∧ ∀ (H : Type) (enc : TypeId × Value → H) (W : World) (cs : List Value) (x : DataW H × List MemPlace),
    DataW.trod enc P W 0 (fun _ => true) true fuel t cs = some x → ∃ y, d.K W y cs ∧ Q y
def Opens (P : Program) (d : Kd α) (t : TypeId) (Q : α → Prop) : Prop := ∀ fuel, OpensN P fuel d t Q
section
variable {P : Program} {t e : TypeId} {d : Kd α} {Q : α → Prop} {fuel : Nat}
theorem OpensN.none (h : P.cellsOf t = d.sz) : OpensN P 0 d t Q := ⟨h, fun H enc W cs x hx => by simp [DataW.trod] at hx⟩
theorem one_cell {H : Type} {enc : TypeId × Value → H} {W : World} {cs : List Value} {x : DataW H × List MemPlace} {u : TypeDesc} (hu : P.underlying t = some u) (h1 : (match u with | .struct _ | .array _ _ => true | _ => false) = false)
    (hx : DataW.trod enc P W 0 (fun _ => true) true (fuel + 1) t cs = some x) : ∃ c, cs = [c] := by
  unfold DataW.trod at hx
  rcases cs with _ | ⟨c, _ | ⟨c2, r⟩⟩
  · cases u <;> simp [hu] at hx h1
  · exact ⟨c, rfl⟩
  · cases u <;> simp [hu] at hx h1
theorem Opens.int (k : IntKind) (hu : P.underlying t = some (.int k)) (hc : P.cellsOf t = 1) : Opens P (Kd.int k) t (fun x => (Lit.int k x).wf = true) := by
  intro fuel
  cases fuel with
  | zero => exact OpensN.none hc
  | succ fuel =>
    refine ⟨hc, fun H enc W cs x hx => ?_⟩
    obtain ⟨c, rfl⟩ := one_cell hu rfl hx
    unfold DataW.trod at hx
    cases c <;> simp [hu] at hx
    rename_i k' n
    obtain ⟨⟨rfl, hw⟩, _⟩ := hx
    exact ⟨n, rfl, hw⟩
theorem Opens.bool (hu : P.underlying t = some .bool) (hc : P.cellsOf t = 1) : Opens P Kd.bool t (fun _ => True) := by
  intro fuel
  cases fuel with
  | zero => exact OpensN.none hc
  | succ fuel =>
    refine ⟨hc, fun H enc W cs x hx => ?_⟩
    obtain ⟨c, rfl⟩ := one_cell hu rfl hx
    unfold DataW.trod at hx
    cases c <;> simp [hu] at hx
    rename_i b
    exact ⟨b, rfl, trivial⟩
theorem Opens.string (hu : P.underlying t = some .string) (hc : P.cellsOf t = 1) : Opens P Kd.string t (fun s => s.size ≤ maxLen) := by
  intro fuel
  cases fuel with
  | zero => exact OpensN.none hc
  | succ fuel =>
    refine ⟨hc, fun H enc W cs x hx => ?_⟩
    obtain ⟨c, rfl⟩ := one_cell hu rfl hx
    unfold DataW.trod at hx
    cases c <;> simp [hu] at hx
    rename_i s
    exact ⟨s, rfl, hx.1⟩
/-- The cells of a slice. -/
theorem slice_cell {H : Type} {enc : TypeId × Value → H} {W : World} {cs : List Value} {x : DataW H × List MemPlace} (hu : P.underlying t = some (.slice e)) (hx : DataW.trod enc P W 0 (fun _ => true) true (fuel + 1) t cs = some x) :
    cs = [.slice none 0 0] ∨ ∃ a len cap, cs = [.slice (some a) len cap] ∧ len ≤ cap ∧ cap ≤ maxLen ∧
      ∃ els rest, (List.range len).mapM (fun i => (W.cells? 0 (a.add (i * P.cellsOf e)) (P.cellsOf e)).bind (DataW.trod enc P W 0 (fun _ => true) true fuel e)) = some els ∧ x.1 = .slice (els.map (·.1)) rest := by
  obtain ⟨c, rfl⟩ := one_cell hu rfl hx
  unfold DataW.trod at hx
  cases c <;> try (simp [hu] at hx; done)
  rename_i A len cap
  cases A with
  | none =>
    by_cases h0 : len = 0 ∧ cap = 0
    · obtain ⟨rfl, rfl⟩ := h0
      exact .inl rfl
    · exfalso
      rcases len with _ | len <;> rcases cap with _ | cap <;> simp [hu] at hx h0
  | some a =>
    right
    simp only [hu] at hx
    split at hx
    · rename_i hcnd
      rw [Option.bind_eq_some_iff] at hx
      obtain ⟨els, hels, hx⟩ := hx
      rw [Option.map_eq_some_iff] at hx
      obtain ⟨rest, _, hx⟩ := hx
      exact ⟨a, len, cap, rfl, hcnd.2.1, hcnd.2.2, els, rest.map (·.1), hels, by rw [← hx]⟩
    · simp at hx
theorem OpensN.slice (hu : P.underlying t = some (.slice e)) (hc : P.cellsOf t = 1) (h : OpensN P fuel d e Q) : OpensN P (fuel + 1) (Kd.slice e d) t (fun xs => xs.length ≤ maxLen ∧ ∀ x ∈ xs, Q x) := by
  obtain ⟨hsz, h⟩ := h
  refine ⟨hc, fun H enc W cs x hx => ?_⟩
  rcases slice_cell hu hx with rfl | ⟨a, len, cap, rfl, hlc, hcm, els, rest, hels, _⟩
  · refine ⟨[], ⟨Option.none, 0, rfl, Nat.le_refl _, ?_⟩, by simp, by simp⟩
    exact ⟨rfl, by simp, fun h => absurd h (by simp)⟩
  · skip
    · skip
      have hlen : els.length = len := by simpa using mapM_some_length hels
      have hget := fun i (hi : i < len) => mapM_some_get hels i i (by simp [hi])
      have hall : ∀ i, i < len → ∃ (y : α) (c : List Value), d.K W y c ∧ Q y ∧ c.length = d.sz ∧ ∀ j u, c[j]? = some u → W.cell? (a.add (i * d.sz + j)) = some u := by
        intro i hi
        have hi2 := hget i hi
        rw [List.getElem?_eq_getElem (by omega : i < els.length), Option.bind_eq_some_iff] at hi2
        obtain ⟨c, hcs, hr⟩ := hi2
        obtain ⟨y, hy, hq⟩ := h H enc W c _ hr
        obtain ⟨_, hcl, hcell⟩ := World.cells?_some hcs
        refine ⟨y, c, hy, hq, d.K_len hy, fun j u hj => ?_⟩
        have hjl : j < P.cellsOf e := by
          have : j < c.length := by
            rcases Nat.lt_or_ge j c.length with hlt | hge
            · exact hlt
            · rw [List.getElem?_eq_none hge] at hj; simp at hj
          omega
        have := hcell j hjl
        rw [hj, hsz, Addr.add_add] at this
        exact this
      obtain ⟨ys, hys⟩ : ∃ ys : List α, ys.length = len ∧ ∀ i (hi : i < ys.length), (∃ c : List Value, d.K W ys[i] c ∧ Q ys[i] ∧ c.length = d.sz ∧ ∀ j u, c[j]? = some u → W.cell? (a.add (i * d.sz + j)) = some u) := by
        clear hels hget hlen hlc hcm hx
        induction len with
        | zero => exact ⟨[], rfl, fun i hi => absurd hi (by simp)⟩
        | succ n ih =>
          obtain ⟨ys, hl, hy⟩ := ih (fun i hi => hall i (by omega))
          obtain ⟨y, c, hk, hq, hcl, hcc⟩ := hall n (by omega)
          refine ⟨ys ++ [y], by simp [hl], fun i hi => ?_⟩
          by_cases hin : i < ys.length
          · have := hy i hin
            rw [List.getElem_append_left hin]
            exact this
          · have hie : i = n := by simp at hi; omega
            subst hie
            rw [List.getElem_append_right (by omega)]
            simp only [hl, Nat.sub_self, List.getElem_cons_zero]
            exact ⟨c, hk, hq, hcl, hcc⟩
      obtain ⟨hyl, hy⟩ := hys
      refine ⟨ys, ⟨some a, cap, by rw [hyl], by omega, ?_⟩, by omega, ?_⟩
      · refine ⟨rfl, by rw [hyl]; exact Nat.le_trans hlc hcm, fun _ => ⟨a, rfl, fun j p hj => ?_⟩⟩
        have hjl : j < ys.length := by
          rcases Nat.lt_or_ge j ys.length with hlt | hge
          · exact hlt
          · rw [List.getElem?_eq_none hge] at hj; simp at hj
        obtain ⟨c, hk, hq, hcl, hcc⟩ := hy j hjl
        rw [List.getElem?_eq_getElem hjl] at hj
        obtain rfl := Option.some.inj hj
        exact ⟨c, hcl, hk, hcc⟩
      · intro x hx
        obtain ⟨i, hi, rfl⟩ := List.getElem_of_mem hx
        obtain ⟨c, hk, hq, _⟩ := hy i hi
        exact hq
theorem Opens.slice (hu : P.underlying t = some (.slice e)) (hc : P.cellsOf t = 1) (h : Opens P d e Q) : Opens P (Kd.slice e d) t (fun xs => xs.length ≤ maxLen ∧ ∀ x ∈ xs, Q x) := by
  intro fuel
  cases fuel with
  | zero => exact OpensN.none hc
  | succ fuel => exact OpensN.slice hu hc (h fuel)
end
/-- The fields from one on, read one by one, tell a value of kind d out of the cells from o on. -/
def OpensF (P : Program) (fuel : Nat) (fs : List Field) (o : Nat) (d : Kd α) (Q : α → Prop) : Prop :=
  ∀ (H : Type) (enc : TypeId × Value → H) (W : World) (cs : List Value) (xs : List (DataW H × List MemPlace)),
    (fs.mapM fun f => DataW.trod enc P W 0 (fun _ => true) true fuel f.type ((cs.drop f.offset).take (P.cellsOf f.type))) = some xs → cs.length = o + d.sz → ∃ y, d.K W y (cs.drop o) ∧ Q y
section
variable {P : Program} {t : TypeId} {a : Kd α} {b : Kd β} {Q : α → Prop} {R : β → Prop} {fuel o : Nat} {f : Field} {fs : List Field}
theorem OpensF.last (ho : f.offset = o) (h : OpensN P fuel a f.type Q) : OpensF P fuel [f] o a Q := by
  intro H enc W cs xs hx hl
  simp only [List.mapM_cons, List.mapM_nil] at hx
  rw [Option.bind_eq_bind, Option.bind_eq_some_iff] at hx
  obtain ⟨y, hy, _⟩ := hx
  rw [ho, h.1, List.take_of_length_le (by rw [List.length_drop]; omega)] at hy
  exact h.2 H enc W _ _ hy
theorem OpensF.cons (ho : f.offset = o) (h : OpensN P fuel a f.type Q) (hs : OpensF P fuel fs (o + a.sz) b R) : OpensF P fuel (f :: fs) o (Kd.pair a b) (fun x => Q x.1 ∧ R x.2) := by
  intro H enc W cs xs hx hl
  simp only [List.mapM_cons] at hx
  rw [Option.bind_eq_bind, Option.bind_eq_some_iff] at hx
  obtain ⟨y, hy, hx⟩ := hx
  rw [Option.bind_eq_bind, Option.bind_eq_some_iff] at hx
  obtain ⟨ys, hys, _⟩ := hx
  rw [ho, h.1] at hy
  obtain ⟨u, hu, hq⟩ := h.2 H enc W _ _ hy
  obtain ⟨v, hv, hr⟩ := hs H enc W cs ys hys (by have : (Kd.pair a b).sz = a.sz + b.sz := rfl; omega)
  refine ⟨(u, v), ⟨(cs.drop o).take a.sz, (cs.drop o).drop a.sz, (List.take_append_drop _ _).symm, hu, ?_⟩, hq, hr⟩
  rw [List.drop_drop]
  exact hv
theorem OpensF.iso {γ : Type} (g : γ → α) (inv : α → γ) (hg : ∀ x, g (inv x) = x) (h : OpensF P fuel fs o a Q) : OpensF P fuel fs o (Kd.iso a g) (fun x => Q (g x)) := by
  intro H enc W cs xs hx hl
  obtain ⟨y, hy, hq⟩ := h H enc W cs xs hx hl
  exact ⟨inv y, by show a.K W (g (inv y)) _; rw [hg]; exact hy, by show Q (g (inv y)); rw [hg]; exact hq⟩
theorem OpensN.struct {gs : Array Field} (hu : P.underlying t = some (.struct gs)) (hc : P.cellsOf t = a.sz) (h : OpensF P fuel gs.toList 0 a Q) : OpensN P (fuel + 1) a t Q := by
  refine ⟨hc, fun H enc W cs x hx => ?_⟩
  have hx2 : (if cs.length = P.cellsOf t then (gs.toList.mapM fun f => DataW.trod enc P W 0 (fun _ => true) true fuel f.type ((cs.drop f.offset).take (P.cellsOf f.type))).map fun xs => (DataW.agg (xs.map (·.1)), xs.flatMap (·.2)) else Option.none) = some x := by
    rw [← hx]
    conv => rhs; unfold DataW.trod
    simp only [hu]
  split at hx2
  · rename_i hl
    rw [Option.map_eq_some_iff] at hx2
    obtain ⟨xs, hxs, _⟩ := hx2
    have := h H enc W cs xs hxs (by omega)
    simpa using this
  · simp at hx2
/-- The places of an array, read one by one. -/
def OpensA (P : Program) (fuel : Nat) (e : TypeId) (is : List Nat) (o : Nat) (d : Kd α) (Q : α → Prop) : Prop :=
  ∀ (H : Type) (enc : TypeId × Value → H) (W : World) (cs : List Value) (xs : List (DataW H × List MemPlace)),
    (is.mapM fun i => DataW.trod enc P W 0 (fun _ => true) true fuel e ((cs.drop (i * P.cellsOf e)).take (P.cellsOf e))) = some xs → cs.length = o + d.sz → ∃ y, d.K W y (cs.drop o) ∧ Q y
theorem OpensA.last {e : TypeId} {i : Nat} (ho : i * P.cellsOf e = o) (h : OpensN P fuel a e Q) : OpensA P fuel e [i] o a Q := by
  intro H enc W cs xs hx hl
  simp only [List.mapM_cons, List.mapM_nil] at hx
  rw [Option.bind_eq_bind, Option.bind_eq_some_iff] at hx
  obtain ⟨y, hy, _⟩ := hx
  rw [ho, h.1, List.take_of_length_le (by rw [List.length_drop]; omega)] at hy
  exact h.2 H enc W _ _ hy
theorem OpensA.cons {e : TypeId} {i : Nat} {is : List Nat} (ho : i * P.cellsOf e = o) (h : OpensN P fuel a e Q) (hs : OpensA P fuel e is (o + a.sz) b R) : OpensA P fuel e (i :: is) o (Kd.pair a b) (fun x => Q x.1 ∧ R x.2) := by
  intro H enc W cs xs hx hl
  simp only [List.mapM_cons] at hx
  rw [Option.bind_eq_bind, Option.bind_eq_some_iff] at hx
  obtain ⟨y, hy, hx⟩ := hx
  rw [Option.bind_eq_bind, Option.bind_eq_some_iff] at hx
  obtain ⟨ys, hys, _⟩ := hx
  rw [ho, h.1] at hy
  obtain ⟨u, hu, hq⟩ := h.2 H enc W _ _ hy
  obtain ⟨v, hv, hr⟩ := hs H enc W cs ys hys (by have : (Kd.pair a b).sz = a.sz + b.sz := rfl; omega)
  refine ⟨(u, v), ⟨(cs.drop o).take a.sz, (cs.drop o).drop a.sz, (List.take_append_drop _ _).symm, hu, ?_⟩, hq, hr⟩
  rw [List.drop_drop]
  exact hv
theorem OpensA.iso {γ : Type} {e : TypeId} {is : List Nat} (g : γ → α) (inv : α → γ) (hg : ∀ x, g (inv x) = x) (h : OpensA P fuel e is o a Q) : OpensA P fuel e is o (Kd.iso a g) (fun x => Q (g x)) := by
  intro H enc W cs xs hx hl
  obtain ⟨y, hy, hq⟩ := h H enc W cs xs hx hl
  exact ⟨inv y, by show a.K W (g (inv y)) _; rw [hg]; exact hy, by show Q (g (inv y)); rw [hg]; exact hq⟩
theorem OpensN.array {n : Nat} {e : TypeId} (hu : P.underlying t = some (.array n e)) (hc : P.cellsOf t = a.sz) (h : OpensA P fuel e (List.range n) 0 a Q) : OpensN P (fuel + 1) a t Q := by
  refine ⟨hc, fun H enc W cs x hx => ?_⟩
  have hx2 : (if cs.length = P.cellsOf t then ((List.range n).mapM fun i => DataW.trod enc P W 0 (fun _ => true) true fuel e ((cs.drop (i * P.cellsOf e)).take (P.cellsOf e))).map fun xs => (DataW.agg (xs.map (·.1)), xs.flatMap (·.2)) else Option.none) = some x := by
    rw [← hx]
    conv => rhs; unfold DataW.trod
    simp only [hu]
  split at hx2
  · rename_i hl
    rw [Option.map_eq_some_iff] at hx2
    obtain ⟨xs, hxs, _⟩ := hx2
    have := h H enc W cs xs hxs (by omega)
    simpa using this
  · simp at hx2
end
section
variable {P : Program} {t e : TypeId} {d : Kd α} {Q : α → Prop} {H : Type} {enc : TypeId × Value → H} {W : World} {D : DataW H} {p : List MemPlace} {v : Value}
/-- A struct that came in by value. -/
theorem agg_of {r : Reach} {base : Nat} {fs : Array Field} (hu : P.underlying t = some (.struct fs)) (hv : Value.okWide P W r base t v) (ho : Opens P d t Q) (h : DataW.Trod enc P W 0 (fun _ => true) true t v D p) : ∃ cs x, v = .agg cs ∧ d.K W x cs.toList ∧ Q x := by
  obtain ⟨cs, rfl, _⟩ := Go.WideShapes.okWide_struct hu hv
  obtain ⟨fuel, hf⟩ := h
  obtain ⟨x, hx, hq⟩ := (ho fuel).2 H enc W _ _ hf
  exact ⟨cs, x, rfl, hx, hq⟩
end
end Go.Proofs.Ytoeklekjhaigoaa.Open
end
section
namespace Go.Proofs.Ytoeklekjhaigoaa.WCond
open Go.Proofs.Ytoeklekjhaigoaa.Al Go.RowKit Go.Proofs.YtoeklekjhaigoaaW.PrintWords Go.Proofs.Ytoeklekjhaigoaa.Open Go.Proofs.Ytoeklekjhaigoaa.M0
set_option linter.unusedVariables false
set_option maxRecDepth 100000
inductive Q46 : S46 → Prop where
  | mk (x : S46) (h0 : (Lit.int .i64 x.f0).wf = true) (h1 : x.f1.length ≤ maxLen) (hk : ∀ y ∈ x.f1, Q46 y) (h2 : (Lit.int .i64 x.f2).wf = true) (h3 : (Lit.int .u64 x.f3).wf = true) (h4 : x.f4.size ≤ maxLen) (h5 : (Lit.int .u64 x.f5).wf = true) : Q46 x
theorem opens46_ : ∀ n fuel, fuel ≤ n → OpensN Try.prog fuel k46 46 Q46 := by
  intro n
  induction n with
  | zero =>
    intro fuel hf
    obtain rfl : fuel = 0 := by omega
    exact OpensN.none (by kernel_rfl)
  | succ n ih =>
    intro fuel hf
    cases fuel with
    | zero => exact OpensN.none (by kernel_rfl)
    | succ fuel =>
      have hs : OpensN Try.prog fuel (Kd.slice 46 k46) 44 (fun xs => xs.length ≤ maxLen ∧ ∀ x ∈ xs, Q46 x) := by
        cases fuel with
        | zero => exact OpensN.none (by kernel_rfl)
        | succ f => exact OpensN.slice Try.underlying44 (by kernel_rfl) (ih f (by omega))
      have h := OpensN.struct (t := 46) Try.underlying46 (by kernel_rfl) (OpensF.iso (fun x : S46 => (x.f0, x.f1, x.f2, x.f3, x.f4, x.f5)) (fun p => ⟨p.1, p.2.1, p.2.2.1, p.2.2.2.1, p.2.2.2.2.1, p.2.2.2.2.2⟩) (fun _ => rfl) (OpensF.cons (by kernel_rfl) (Opens.int .i64 Try.underlying3 (by kernel_rfl) fuel) (OpensF.cons (by kernel_rfl) hs (OpensF.cons (by kernel_rfl) (Opens.int .i64 Try.underlying3 (by kernel_rfl) fuel) (OpensF.cons (by kernel_rfl) (Opens.int .u64 Try.underlying30 (by kernel_rfl) fuel) (OpensF.cons (by kernel_rfl) (Opens.string Try.underlying9 (by kernel_rfl) fuel) (OpensF.last (by kernel_rfl) (Opens.int .u64 Try.underlying30 (by kernel_rfl) fuel))))))))
      refine ⟨h.1, fun H enc W cs x hx => ?_⟩
      obtain ⟨y, hy, h0, ⟨h1, hk⟩, h2, h3, h4, h5⟩ := h.2 H enc W cs x hx
      refine ⟨y, ?_, .mk y h0 h1 hk h2 h3 h4 h5⟩
      obtain ⟨_, _, rfl, e0, _, _, rfl, ⟨A1, c1, rfl, l1, g1⟩, _, _, rfl, e2, _, _, rfl, e3, _, _, rfl, e4, e5⟩ := hy
      have e0 : _ = [_] := e0
      have e2 : _ = [_] := e2
      have e3 : _ = [_] := e3
      have e4 : _ = [_] := e4
      have e5 : _ = [_] := e5
      subst e0 e2 e3 e4 e5
      exact k46_mk W y l1 g1
theorem opens46 : Opens Try.prog k46 46 Q46 := fun fuel => opens46_ fuel fuel (Nat.le_refl _)
end Go.Proofs.Ytoeklekjhaigoaa.WCond
end
section
namespace Go.Proofs.Ytoeklekjhaigoaa.StatMeanNots
open Go.Proofs.Ytoeklekjhaigoaa.Al Go.RowKit Go.Proofs.YtoeklekjhaigoaaW.PrintWords Go.Proofs.Ytoeklekjhaigoaa.Open Go.Proofs.Ytoeklekjhaigoaa.PMeanNots Go.Proofs.Ytoeklekjhaigoaa.Le Go.Proofs.Ytoeklekjhaigoaa.C1 Go.Proofs.Ytoeklekjhaigoaa.C2 Go.Proofs.Ytoeklekjhaigoaa.HAct Go.Proofs.Ytoeklekjhaigoaa.W0 Go.Proofs.Ytoeklekjhaigoaa.HFrom Go.Proofs.Ytoeklekjhaigoaa.W1 Go.Proofs.Ytoeklekjhaigoaa.R01 Go.Proofs.Ytoeklekjhaigoaa.HPack Go.Proofs.Ytoeklekjhaigoaa.HUnpack Go.Proofs.Ytoeklekjhaigoaa.HRefPack Go.Proofs.Ytoeklekjhaigoaa.M0 Go.Proofs.Ytoeklekjhaigoaa.HMany Go.Proofs.Ytoeklekjhaigoaa.HCount Go.Proofs.Ytoeklekjhaigoaa.M1 Go.Proofs.Ytoeklekjhaigoaa.HMean Go.Proofs.Ytoeklekjhaigoaa.M2 Go.Proofs.Ytoeklekjhaigoaa.K49 Go.Proofs.Ytoeklekjhaigoaa.WCond
set_option maxRecDepth 100000
def Q22 (x : Int) : Prop := (Lit.int .u32 x).wf = true
theorem opens22 : Opens Try.prog (Kd.int .u32) 22 Q22 := Opens.int .u32 Try.underlying22 (by kernel_rfl)
def Q30 (x : Int) : Prop := (Lit.int .u64 x).wf = true
theorem opens30 : Opens Try.prog (Kd.int .u64) 30 Q30 := Opens.int .u64 Try.underlying30 (by kernel_rfl)
def Q47 (x : S47) : Prop := Q30 x.f0 ∧ Q30 x.f1 ∧ Q30 x.f2 ∧ Q30 x.f3 ∧ Q30 x.f4 ∧ Q30 x.f5
theorem opens47 : Opens Try.prog k47 47 Q47 := by
  intro fuel
  cases fuel with
  | zero => exact OpensN.none (by kernel_rfl)
  | succ fuel => exact OpensN.array Try.underlying47 (by kernel_rfl) (OpensA.iso (fun x : S47 => (x.f0, x.f1, x.f2, x.f3, x.f4, x.f5)) (fun p => ⟨p.1, p.2.1, p.2.2.1, p.2.2.2.1, p.2.2.2.2.1, p.2.2.2.2.2⟩) (fun _ => rfl) (OpensA.cons (by kernel_rfl) (opens30 fuel) (OpensA.cons (by kernel_rfl) (opens30 fuel) (OpensA.cons (by kernel_rfl) (opens30 fuel) (OpensA.cons (by kernel_rfl) (opens30 fuel) (OpensA.cons (by kernel_rfl) (opens30 fuel) (OpensA.last (by kernel_rfl) (opens30 fuel))))))))
def Q49 (x : S49) : Prop := Q22 x.f0 ∧ Q22 x.f1 ∧ Q30 x.f2 ∧ Q47 x.f3
theorem opens49 : Opens Try.prog k49 49 Q49 := by
  intro fuel
  cases fuel with
  | zero => exact OpensN.none (by kernel_rfl)
  | succ fuel => exact OpensN.struct Try.underlying49 (by kernel_rfl) (OpensF.iso (fun x : S49 => (x.f0, x.f1, x.f2, x.f3)) (fun p => ⟨p.1, p.2.1, p.2.2.1, p.2.2.2⟩) (fun _ => rfl) (OpensF.cons (by kernel_rfl) (opens22 fuel) (OpensF.cons (by kernel_rfl) (opens22 fuel) (OpensF.cons (by kernel_rfl) (opens30 fuel) (OpensF.last (by kernel_rfl) (opens47 fuel))))))
def Stat : Prop := ∀ (a0 : S46) (a1 : S49), Q46 a0 → Q49 a1 → doorwardlaw18_MeanNots.f a0.f0 a0.f1 a0.f2 a0.f3 a0.f4 a0.f5 a1.f0 a1.f1 a1.f2 a1.f3.f0 a1.f3.f1 a1.f3.f2 a1.f3.f3 a1.f3.f4 a1.f3.f5 = some true
end Go.Proofs.Ytoeklekjhaigoaa.StatMeanNots
end
section
namespace Go.Proofs.Ytoeklekjhaigoaa.Pure
open Go.Proofs.Ytoeklekjhaigoaa.Al Go.RowKit Go.Proofs.Ytoeklekjhaigoaa.StatMeanNots Go.Proofs.YtoeklekjhaigoaaW.PrintWords Go.Proofs.YtoeklekjhaigoaaW.PrintLast Go.Proofs.YtoeklekjhaigoaaW.PrintMore Go.Proofs.Ytoeklekjhaigoaa.PMeanNots Go.Proofs.Ytoeklekjhaigoaa.Le Go.Proofs.Ytoeklekjhaigoaa.C1 Go.Proofs.Ytoeklekjhaigoaa.C2 Go.Proofs.Ytoeklekjhaigoaa.HAct Go.Proofs.Ytoeklekjhaigoaa.W0 Go.Proofs.Ytoeklekjhaigoaa.HFrom Go.Proofs.Ytoeklekjhaigoaa.W1 Go.Proofs.Ytoeklekjhaigoaa.R01 Go.Proofs.Ytoeklekjhaigoaa.HPack Go.Proofs.Ytoeklekjhaigoaa.HUnpack Go.Proofs.Ytoeklekjhaigoaa.HRefPack Go.Proofs.Ytoeklekjhaigoaa.M0 Go.Proofs.Ytoeklekjhaigoaa.HMany Go.Proofs.Ytoeklekjhaigoaa.HCount Go.Proofs.Ytoeklekjhaigoaa.M1 Go.Proofs.Ytoeklekjhaigoaa.HMean Go.Proofs.Ytoeklekjhaigoaa.M2 Go.Proofs.Ytoeklekjhaigoaa.K49 Go.Proofs.Ytoeklekjhaigoaa.WCond
set_option linter.unusedVariables false
theorem MeanNots : StatMeanNots.Stat := by
  intro c x _ _
  rfl
end Go.Proofs.Ytoeklekjhaigoaa.Pure
end
section
namespace Go.Proofs.Ytoeklekjhaigoaa.meanNots
open Go.ChangeShapes Go.WideShapes Go.ChangeAt Go.RowKit Go.Proofs.Ytoeklekjhaigoaa.Open Go.Proofs.Ytoeklekjhaigoaa.StatMeanNots Go.Proofs.YtoeklekjhaigoaaW.PrintWords Go.Proofs.Ytoeklekjhaigoaa.PMeanNots Go.Proofs.Ytoeklekjhaigoaa.Le Go.Proofs.Ytoeklekjhaigoaa.C1 Go.Proofs.Ytoeklekjhaigoaa.C2 Go.Proofs.Ytoeklekjhaigoaa.HAct Go.Proofs.Ytoeklekjhaigoaa.W0 Go.Proofs.Ytoeklekjhaigoaa.HFrom Go.Proofs.Ytoeklekjhaigoaa.W1 Go.Proofs.Ytoeklekjhaigoaa.R01 Go.Proofs.Ytoeklekjhaigoaa.HPack Go.Proofs.Ytoeklekjhaigoaa.HUnpack Go.Proofs.Ytoeklekjhaigoaa.HRefPack Go.Proofs.Ytoeklekjhaigoaa.M0 Go.Proofs.Ytoeklekjhaigoaa.HMany Go.Proofs.Ytoeklekjhaigoaa.HCount Go.Proofs.Ytoeklekjhaigoaa.M1 Go.Proofs.Ytoeklekjhaigoaa.HMean Go.Proofs.Ytoeklekjhaigoaa.M2 Go.Proofs.Ytoeklekjhaigoaa.K49 Go.Proofs.Ytoeklekjhaigoaa.WCond
open Go.ChangeMaps (open_string shut_string)
set_option linter.unusedVariables false
open Go.Proofs.Ytoeklekjhaigoaa.Order (own laidOut)
open Go.Proofs.Ytoeklekjhaigoaa
set_option maxRecDepth 100000 in
set_option maxHeartbeats 1000000 in
theorem lifted (os : Os) (started : os.Started) (H : Type) (enc : TypeId × Value → H) :
    ReturnsInHanded {} Try.checked os 9 .any (Rows.meanNotsSpec.pre6 enc Try.prog Try.f9 Rows.meanNotsRow.domain false) (Rows.meanNotsSpec.post enc Try.prog Try.f9 false true false false) := by
  refine returnsInHanded_of_change_sized (C := Try.checked) own started (by kernel_rfl) Try.func9
    (ChangeSpec.witness6 (enc := enc) (C := Try.checked) false ⟨#[], #[.agg #[(.int .i64 0), (.slice none 0 0), (.int .i64 0), (.int .u64 0), (.string ByteArray.empty), (.int .u64 0)], .agg #[(.int .u32 0), (.int .u32 0), (.int .u64 0), (.int .u64 0), (.int .u64 0), (.int .u64 0), (.int .u64 0), (.int .u64 0), (.int .u64 0)]], []⟩ 20 (by kernel_rfl) (by kernel_rfl) (by kernel_rfl) (by kernel_rfl)) ?_
  intro W base args ds gs before hval0 hW hcnd hsz0 _
  have hsz : (DataW.weightsEach Try.prog (Try.f9.params.toList ++ Rows.meanNotsSpec.plain.varTypes Try.prog) (ds ++ gs)).all (· ≤ reachBytes) = true := hsz0
  have hval : ∀ (j : Nat) t v, Try.f9.params[j]? = some t → args[j]? = some v → Value.okWide Try.prog W .any base t v := hval0
  have hW' := hW
  obtain ⟨p, q, hA0, hV, rfl, hfz, hnd⟩ := hW
  have hA : DataW.TrodAll enc Try.prog W 0 (fun _ => true) true Try.f9.params.toList args.toList ds p := hA0
  rw [Try.params9] at hA hval hsz
  obtain ⟨v0, vs0, d0, ds0, p0, q0, hargs, rfl, rfl, h0, r0⟩ := trodAll_cons hA
  obtain ⟨v1, vs1, d1, ds1, p1, q1, rfl, rfl, rfl, h1, r1⟩ := trodAll_cons r0
  obtain ⟨rfl, rfl, rfl⟩ := trodAll_nil r1
  obtain rfl : args = #[v0, v1] := by cases args; simp_all
  obtain ⟨rfl, rfl⟩ := trodVars_none hV
  have k0_ := h0
  have lt0 : ∀ x ∈ p0, x.block < W.heap.size := by obtain ⟨m, hm⟩ := k0_; exact DataW.trod_lt m _ _ _ hm
  obtain ⟨cs0, x0, rfl, hx0, hq0⟩ := agg_of Try.underlying46 (hval 0 46 v0 rfl rfl) opens46 h0
  obtain ⟨A0_1, c0_1, ho0, hl0_1, hg0_1⟩ := k46_open hx0
  obtain rfl : cs0 = #[.int .i64 x0.f0, .slice A0_1 x0.f1.length c0_1, .int .i64 x0.f2, .int .u64 x0.f3, .string x0.f4, .int .u64 x0.f5] := Array.ext' ho0
  have k1_ := h1
  have lt1 : ∀ x ∈ p1, x.block < W.heap.size := by obtain ⟨m, hm⟩ := k1_; exact DataW.trod_lt m _ _ _ hm
  obtain ⟨cs1, x1, rfl, hx1, hq1⟩ := agg_of Try.underlying49 (hval 1 49 v1 rfl rfl) opens49 h1
  obtain ho1 := k49_open hx1
  obtain rfl : cs1 = #[.int .u32 x1.f0, .int .u32 x1.f1, .int .u64 x1.f2, .int .u64 x1.f3.f0, .int .u64 x1.f3.f1, .int .u64 x1.f3.f2, .int .u64 x1.f3.f3, .int .u64 x1.f3.f4, .int .u64 x1.f3.f5] := Array.ext' ho1
  clear hA0 hval0 hsz0 hsz
  have hk := Pure.MeanNots x0 x1 hq0 hq1
  refine (doorwardlaw18_MeanNots.calls (hr0_1 := hg0_1) (hc0_1 := hl0_1) (r := true) (w := W) (h := hk)).mono ?_
  rintro e W' ⟨rfl, bel0⟩
  have bel := bel0
  exact ⟨_, rfl, _, _, _, [], _, [], hW', trodAll_mk1 (shut_bool Try.underlying4 _), (trodAll_cons_mk (Below.trod laidOut (by kernel_rfl) (of_decide_eq_true (by kernel_rfl)) k0_ bel lt0) (trodAll_cons_mk (Below.trod laidOut (by kernel_rfl) (of_decide_eq_true (by kernel_rfl)) k1_ bel lt1) trodAll_mk0)), rfl, bel.frame _, fun h => by cases h⟩
set_option maxHeartbeats 4000000 in
theorem facts : joinedFacts Try.prog 9 Try.f9 Rows.meanNotsSpec Rows.meanNotsRow = true := by
  unfold joinedFacts
  repeat' (with_reducible refine (Bool.and_eq_true_iff).mpr ⟨?_, ?_⟩)
  all_goals first | (with_reducible exact Order.laidOut) | (with_reducible exact Order.mapsRowed) | (with_reducible exact Order.noStops) | (with_reducible exact Order.noKnobs) | (with_reducible exact Order.enter) | (with_reducible exact Order.heard) | (rw [Order.makes]; rfl) | (rw [Order.lifts]; rfl) | (as_aux_lemma => kernel_rfl)
theorem named : Try.prog.funcNamed "doorward/doorwardlaw18.MeanNots" = some 9 := by kernel_rfl
theorem inst : Try.f9.isInstance Try.prog Rows.meanNotsRow.origin Rows.meanNotsRow.targs := of_decide_eq_true (by kernel_rfl)
theorem wrap : Try.f9.isWrapper Try.prog Rows.meanNotsRow.wrapper Rows.meanNotsRow.mainSum := by unfold Func.isWrapper; first | (rw [if_pos (by decide +kernel)]; kernel_rfl) | (rw [if_neg (by decide +kernel)]; exact ⟨rfl, rfl⟩)
theorem over : Rows.meanNotsRow.holds Try.pinned (OpenSpec.ofChange Rows.meanNotsSpec) :=
  OpenClaim.holds_of_wide 9 Try.f9 rfl rfl rfl rfl rfl rfl rfl ⟨rfl, rfl, rfl, rfl, rfl⟩ rfl rfl rfl rfl rfl named Try.func9 facts inst wrap
    (fun os started H enc _ => lifted os started H enc)
theorem proved : Rows.MeanNotsSaid := over
#print axioms proved
end Go.Proofs.Ytoeklekjhaigoaa.meanNots
namespace Go.Proofs.Ytoeklekjhaigoaa
/-- The row, under a short name, for the claim. -/
theorem meanNots_holds : Rows.MeanNotsSaid := meanNots.proved
end Go.Proofs.Ytoeklekjhaigoaa
end
