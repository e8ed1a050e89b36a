/- MeanAll: a condition of several holds, by its kind, if all do, or if one does; of one that is told twice as of one. -/
import Derived.Test.YtoeklekjhaigoaaZMeanAll1
section
namespace Go.Proofs.Ytoeklekjhaigoaa.HAll
open Go.Proofs.Ytoeklekjhaigoaa.Al Go.RowKit Go.Proofs.YtoeklekjhaigoaaW.PrintWords Go.Proofs.YtoeklekjhaigoaaW.PrintLast Go.Proofs.YtoeklekjhaigoaaW.PrintMore Go.Proofs.Ytoeklekjhaigoaa.M0 Go.Proofs.Ytoeklekjhaigoaa.M1 Go.Proofs.Ytoeklekjhaigoaa.M2 Go.Proofs.Ytoeklekjhaigoaa.QCond Go.Proofs.Ytoeklekjhaigoaa.QMean Go.Proofs.Ytoeklekjhaigoaa.QOne Go.Proofs.Ytoeklekjhaigoaa.HMany Go.Proofs.Ytoeklekjhaigoaa.HCount Go.Proofs.Ytoeklekjhaigoaa.HMean Go.Proofs.Ytoeklekjhaigoaa.QHolds Go.Proofs.Ytoeklekjhaigoaa.HKit Go.Proofs.Ytoeklekjhaigoaa.K49
set_option linter.unusedVariables false
set_option linter.unusedSimpArgs false
set_option maxRecDepth 100000
attribute [local go_sem] max2_int min2_int max_two min_two
set_option maxHeartbeats 16000000 in
theorem all_tt (c d : S46) (x : S49) (A A2 : Option Addr) (n n2 : Nat) (w : World) (hC : Kd.C k46 w A c.f1.length c.f1) (hn : c.f1.length ≤ n) (hD : Kd.C k46 w A2 d.f1.length d.f1) (hn2 : d.f1.length ≤ n2) (hrc : rightB c = true) (hrd : rightB d = true) (hcb : ¬ 30 < nodes c) (hdb : ¬ 30 < nodes d) (hp : semB x c = true) (hq : semB x d = true) :
    Calls Try.prog 12 #[.agg #[.int .i64 c.f0, .slice A c.f1.length n, .int .i64 c.f2, .int .u64 c.f3, .string c.f4, .int .u64 c.f5], .agg #[.int .i64 d.f0, .slice A2 d.f1.length n2, .int .i64 d.f2, .int .u64 d.f3, .string d.f4, .int .u64 d.f5], .agg #[.int .u32 x.f0, .int .u32 x.f1, .int .u64 x.f2, .int .u64 x.f3.f0, .int .u64 x.f3.f1, .int .u64 x.f3.f2, .int .u64 x.f3.f3, .int .u64 x.f3.f4, .int .u64 x.f3.f5]] w fun e w' => e = .returned (.bool true) ∧ Below w.heap.size w w' := by
  have hu46 := Try.underlying46
  have hu49 := Try.underlying49
  have hmf : ∀ (fn : Fn) (first cap : Array Value) (w : World), (Instr.makeFunc fn first cap).run Try.prog w = .ok (.func fn first cap) w := fun _ _ _ _ => rfl
  have s1 : (w.alloc (.cells #[.int .i64 c.f0, .slice A c.f1.length n, .int .i64 c.f2, .int .u64 c.f3, .string c.f4, .int .u64 c.f5] 46)).heap.size = w.heap.size + 1 := by simp
  have s2 : ((w.alloc (.cells #[.int .i64 c.f0, .slice A c.f1.length n, .int .i64 c.f2, .int .u64 c.f3, .string c.f4, .int .u64 c.f5] 46)).alloc (.cells #[.int .i64 d.f0, .slice A2 d.f1.length n2, .int .i64 d.f2, .int .u64 d.f3, .string d.f4, .int .u64 d.f5] 46)).heap.size = w.heap.size + 1 + 1 := by simp
  have HC := amk (((Bx.new w hC hn).alloc (.cells #[.int .i64 d.f0, .slice A2 d.f1.length n2, .int .i64 d.f2, .int .u64 d.f3, .string d.f4, .int .u64 d.f5] 46)).alloc (.cells #[.int .u32 x.f0, .int .u32 x.f1, .int .u64 x.f2, .int .u64 x.f3.f0, .int .u64 x.f3.f1, .int .u64 x.f3.f2, .int .u64 x.f3.f3, .int .u64 x.f3.f4, .int .u64 x.f3.f5] 49))
  have HD0 := (Bx.new (w.alloc (.cells #[.int .i64 c.f0, .slice A c.f1.length n, .int .i64 c.f2, .int .u64 c.f3, .string c.f4, .int .u64 c.f5] 46)) (Kd.C_below hD (bal (Below.refl _ _) _)) hn2).alloc (.cells #[.int .u32 x.f0, .int .u32 x.f1, .int .u64 x.f2, .int .u64 x.f3.f0, .int .u64 x.f3.f1, .int .u64 x.f3.f2, .int .u64 x.f3.f3, .int .u64 x.f3.f4, .int .u64 x.f3.f5] 49)
  rw [s1] at HD0
  have HD := amk HD0
  have HX0 := Xx.new ((w.alloc (.cells #[.int .i64 c.f0, .slice A c.f1.length n, .int .i64 c.f2, .int .u64 c.f3, .string c.f4, .int .u64 c.f5] 46)).alloc (.cells #[.int .i64 d.f0, .slice A2 d.f1.length n2, .int .i64 d.f2, .int .u64 d.f3, .string d.f4, .int .u64 d.f5] 46)) x
  rw [s2] at HX0
  have HX := amk HX0
  have HB := amk (bal (bal (bal (Below.refl w.heap.size w) (.cells #[.int .i64 c.f0, .slice A c.f1.length n, .int .i64 c.f2, .int .u64 c.f3, .string c.f4, .int .u64 c.f5] 46)) (.cells #[.int .i64 d.f0, .slice A2 d.f1.length n2, .int .i64 d.f2, .int .u64 d.f3, .string d.f4, .int .u64 d.f5] 46)) (.cells #[.int .u32 x.f0, .int .u32 x.f1, .int .u64 x.f2, .int .u64 x.f3.f0, .int .u64 x.f3.f1, .int .u64 x.f3.f2, .int .u64 x.f3.f3, .int .u64 x.f3.f4, .int .u64 x.f3.f5] 49))
  have HBIG := amk (show ∀ c : S46, rightB c = false ∨ 30 < nodes c ∨ (rightB c = true ∧ fitsB c = true ∧ nodes c ≤ 30) from fun c => by
    by_cases h : rightB c = true
    · by_cases g : nodes c ≤ 30
      · exact Or.inr (Or.inr ⟨h, (right_fits h).1, g⟩)
      · exact Or.inr (Or.inl (by omega))
    · exact Or.inl (by simpa using h))
  have HS := amk (fun (W' : World) (h : Bx W' w.heap.size c A n) (g : Bx W' (w.heap.size + 1) d A2 n2) (k : Xx W' (w.heap.size + 1 + 1) x) => s21 h g k)
  have HS12 := amk (fun (W' : World) (h : Bx W' w.heap.size c A n) (g : Bx W' (w.heap.size + 1) d A2 n2) => s12 h g)
  have HM1 := amk (fun (W : World) (h : Kd.C k46 W A c.f1.length c.f1) => many_w h hn 30 (by omega) (by omega))
  have HM2 := amk (fun (W : World) (h : Kd.C k46 W A2 d.f1.length d.f1) => many_w h hn2 30 (by omega) (by omega))
  have HR1 := amk (fun (W : World) (h : Kd.C k46 W A c.f1.length c.f1) => right_w h hn)
  have HR2 := amk (fun (W : World) (h : Kd.C k46 W A2 d.f1.length d.f1) => right_w h hn2)
  have HA := amk alive_w
  clear s1 s2 HD0 HX0 hC hD
  go_enter Try.func12, Try.ntmps12
  go_upto_region 1 with (fail)
  generalize ((w.alloc (.cells #[.int .i64 c.f0, .slice A c.f1.length n, .int .i64 c.f2, .int .u64 c.f3, .string c.f4, .int .u64 c.f5] 46)).alloc (.cells #[.int .i64 d.f0, .slice A2 d.f1.length n2, .int .i64 d.f2, .int .u64 d.f3, .string d.f4, .int .u64 d.f5] 46)).alloc (.cells #[.int .u32 x.f0, .int .u32 x.f1, .int .u64 x.f2, .int .u64 x.f3.f0, .int .u64 x.f3.f1, .int .u64 x.f3.f2, .int .u64 x.f3.f3, .int .u64 x.f3.f4, .int .u64 x.f3.f5] 49) = W at *
  obtain ⟨k0, k1, k2, k3, k4, k5⟩ := HC.out.six
  obtain ⟨q0, q1, q2, q3, q4, q5⟩ := HD.out.six
  have nc : decide (30 < ((min (nodes c) ((30 : Int).toNat + 1) : Nat) : Int)) = decide (30 < nodes c) := decide_eq_decide.2 (by simp only [Int.reduceToNat]; omega)
  have nd : decide (30 < ((min (nodes d) ((30 : Int).toNat + 1) : Nat) : Int)) = decide (30 < nodes d) := decide_eq_decide.2 (by simp only [Int.reduceToNat]; omega)
  generalize ((min (nodes c) ((30 : Int).toNat + 1) : Nat) : Int) = mc at *
  generalize ((min (nodes d) ((30 : Int).toNat + 1) : Nat) : Int) = md at *
  have e1 : decide (30 < mc) = false := nc.trans (decide_eq_false hcb)
  have e2 : decide (30 < md) = false := nd.trans (decide_eq_false hdb)
  simp only [hrc] at HR1
  simp only [hrd] at HR2
  have hfc := (right_fits hrc).1
  have hfd := (right_fits hrd).1
  have HH1 := amk (fun (W : World) (h : Kd.C k46 W A c.f1.length c.f1) => by have h2 := holds_w x h hn; rw [holds_right hrc] at h2; exact h2)
  have HH2 := amk (fun (W : World) (h : Kd.C k46 W A2 d.f1.length d.f1) => by have h2 := holds_w x h hn2; rw [holds_right hrd] at h2; exact h2)
  have HT := amk (fun (W : World) (h : Bx W w.heap.size c A n) (g : Bx W (w.heap.size + 1) d A2 n2) (k : Xx W (w.heap.size + 1 + 1) x) => by have h2 := two_w 1 h.C hn g.C hn2 k; rw [two_sem (Or.inl rfl) hfc hfd (by omega), if_pos rfl] at h2; exact h2)
  have HT2 := amk (fun (W : World) (h : Bx W w.heap.size c A n) (g : Bx W (w.heap.size + 1) d A2 n2) (k : Xx W (w.heap.size + 1 + 1) x) => by have h2 := two_w 2 h.C hn g.C hn2 k; rw [two_sem (Or.inr rfl) hfc hfd (by omega), if_neg (show ¬ (2 : Int) = 1 by decide)] at h2; exact h2)
  have HT3 := amk (fun (W : World) (h : Bx W w.heap.size c A n) (g : Bx W (w.heap.size + 1) d A2 n2) (k : Xx W (w.heap.size + 1 + 1) x) => by have h2 := two_w 1 h.C hn h.C hn k; rw [two_sem (Or.inl rfl) hfc hfc (by omega), if_pos rfl] at h2; exact h2)
  have HT4 := amk (fun (W : World) (h : Bx W w.heap.size c A n) (g : Bx W (w.heap.size + 1) d A2 n2) (k : Xx W (w.heap.size + 1 + 1) x) => by have h2 := two_w 2 g.C hn2 g.C hn2 k; rw [two_sem (Or.inr rfl) hfd hfd (by omega), if_neg (show ¬ (2 : Int) = 1 by decide)] at h2; exact h2)
  have HT5 := amk (fun (W : World) (h : Bx W w.heap.size c A n) (g : Bx W (w.heap.size + 1) d A2 n2) (k : Xx W (w.heap.size + 1 + 1) x) => by have h2 := two_w 1 g.C hn2 h.C hn k; rw [two_sem (Or.inl rfl) hfd hfc (by omega), if_pos rfl] at h2; exact h2)
  simp only [hp, hq, Bool.and_true, Bool.and_false, Bool.or_true, Bool.or_false] at HH1 HH2 HT HT2 HT3 HT4 HT5
  clear nc nd hcb hdb hrc hrd hfc hfd HBIG hp hq
  go_upto_region 4 with (first | (go_at_call 43; (first | (with_reducible refine (HM1.out _ HC.out.C).mono ?_) | (with_reducible refine (HM2.out _ HD.out.C).mono ?_)); rintro e w1 ⟨rfl, hb1⟩; have HC := amk (HC.out.below hb1); have HD := amk (HD.out.below hb1); have HX := amk (HX.out.below hb1); have HB := amk (below_step HB.out hb1); obtain ⟨k0, k1, k2, k3, k4, k5⟩ := HC.out.six; obtain ⟨q0, q1, q2, q3, q4, q5⟩ := HD.out.six; clear hb1) | (go_at_call 47; (first | (with_reducible refine (HR1.out _ HC.out.C).mono ?_) | (with_reducible refine (HR2.out _ HD.out.C).mono ?_)); rintro e w1 ⟨rfl, hb1⟩; have HC := amk (HC.out.below hb1); have HD := amk (HD.out.below hb1); have HX := amk (HX.out.below hb1); have HB := amk (below_step HB.out hb1); obtain ⟨k0, k1, k2, k3, k4, k5⟩ := HC.out.six; obtain ⟨q0, q1, q2, q3, q4, q5⟩ := HD.out.six; clear hb1))
  have HC := amk HC.out.drew
  have HD := amk HD.out.drew
  have HX := amk HX.out.drew
  have HB := amk (below_drew HB.out)
  go_region_held3 (fun W' : World => W'.cell? ⟨w.heap.size, 0, none⟩ = some (.int .i64 c.f0) ∧ W'.cell? ⟨w.heap.size, 1, none⟩ = some (.slice A c.f1.length n) ∧ W'.cell? ⟨w.heap.size, 2, none⟩ = some (.int .i64 c.f2) ∧ W'.cell? ⟨w.heap.size, 3, none⟩ = some (.int .u64 c.f3) ∧ W'.cell? ⟨w.heap.size, 4, none⟩ = some (.string c.f4) ∧ W'.cell? ⟨w.heap.size, 5, none⟩ = some (.int .u64 c.f5) ∧ W'.cell? ⟨(w.heap.size + 1), 0, none⟩ = some (.int .i64 d.f0) ∧ W'.cell? ⟨(w.heap.size + 1), 1, none⟩ = some (.slice A2 d.f1.length n2) ∧ W'.cell? ⟨(w.heap.size + 1), 2, none⟩ = some (.int .i64 d.f2) ∧ W'.cell? ⟨(w.heap.size + 1), 3, none⟩ = some (.int .u64 d.f3) ∧ W'.cell? ⟨(w.heap.size + 1), 4, none⟩ = some (.string d.f4) ∧ W'.cell? ⟨(w.heap.size + 1), 5, none⟩ = some (.int .u64 d.f5) ∧ W'.cell? ⟨(w.heap.size + 1 + 1), 0, none⟩ = some (.int .u32 x.f0) ∧ W'.cell? ⟨(w.heap.size + 1 + 1), 1, none⟩ = some (.int .u32 x.f1) ∧ W'.cell? ⟨(w.heap.size + 1 + 1), 2, none⟩ = some (.int .u64 x.f2) ∧ W'.cell? ⟨(w.heap.size + 1 + 1), 3, none⟩ = some (.int .u64 x.f3.f0) ∧ W'.cell? ⟨(w.heap.size + 1 + 1), 4, none⟩ = some (.int .u64 x.f3.f1) ∧ W'.cell? ⟨(w.heap.size + 1 + 1), 5, none⟩ = some (.int .u64 x.f3.f2) ∧ W'.cell? ⟨(w.heap.size + 1 + 1), 6, none⟩ = some (.int .u64 x.f3.f3) ∧ W'.cell? ⟨(w.heap.size + 1 + 1), 7, none⟩ = some (.int .u64 x.f3.f4) ∧ W'.cell? ⟨(w.heap.size + 1 + 1), 8, none⟩ = some (.int .u64 x.f3.f5)) (exact HS.out _ HC.out HD.out HX.out) (first | (go_at_call 45; (first | (with_reducible refine (HH1.out _ HC.out.C).mono ?_) | (with_reducible refine (HH2.out _ HD.out.C).mono ?_)); rintro e w1 ⟨rfl, hb1⟩; have HC := amk (HC.out.below hb1); have HD := amk (HD.out.below hb1); have HX := amk (HX.out.below hb1); have HB := amk (below_step HB.out hb1); clear hb1))
  all_goals clear HM1 HM2 HR1 HR2 HH1 HH2 hmf e1 e2 k0 k1 k2 k3 k4 k5 q0 q1 q2 q3 q4 q5
  all_goals go_upto_region 5 with (fail)
  all_goals have HC := amk HC.out.drew
  all_goals have HD := amk HD.out.drew
  all_goals have HX := amk HX.out.drew
  all_goals have HB := amk (below_drew HB.out)
  refine wp_region_held_drew (S := fun W' : World => W'.cell? ⟨w.heap.size, 0, none⟩ = some (.int .i64 c.f0) ∧ W'.cell? ⟨w.heap.size, 1, none⟩ = some (.slice A c.f1.length n) ∧ W'.cell? ⟨w.heap.size, 2, none⟩ = some (.int .i64 c.f2) ∧ W'.cell? ⟨w.heap.size, 3, none⟩ = some (.int .u64 c.f3) ∧ W'.cell? ⟨w.heap.size, 4, none⟩ = some (.string c.f4) ∧ W'.cell? ⟨w.heap.size, 5, none⟩ = some (.int .u64 c.f5) ∧ W'.cell? ⟨(w.heap.size + 1), 0, none⟩ = some (.int .i64 d.f0) ∧ W'.cell? ⟨(w.heap.size + 1), 1, none⟩ = some (.slice A2 d.f1.length n2) ∧ W'.cell? ⟨(w.heap.size + 1), 2, none⟩ = some (.int .i64 d.f2) ∧ W'.cell? ⟨(w.heap.size + 1), 3, none⟩ = some (.int .u64 d.f3) ∧ W'.cell? ⟨(w.heap.size + 1), 4, none⟩ = some (.string d.f4) ∧ W'.cell? ⟨(w.heap.size + 1), 5, none⟩ = some (.int .u64 d.f5)) (by kernel_rfl) ?hS0 (fun hH => ?rest0)
  case hS0 => exact HS12.out _ HC.out HD.out
  refine wpAnyH_ready (rs := [0]) (by kernel_rfl) (by simp) ?_
  refine AllReadyH.cons (o := { dst := some 36, op := Go.Op.call { callee := Go.Callee.value (Go.Operand.func 44), args := #[], argTypes := #[] }, type := 4, pos := "law.go:96", after := #[], guard := none }) rfl (fun K hK => ?_) AllReadyH.nil
  go_simp
  first | (go_at_call 44; (with_reducible refine (HA.out _).mono ?_); rintro e w1 ⟨rfl, hb1⟩; have HC := amk (HC.out.below hb1); have HD := amk (HD.out.below hb1); have HX := amk (HX.out.below hb1); have HB := amk (below_step HB.out hb1); clear hb1) | (go_at_call 52; (first | (with_reducible refine (HT.out _ HC.out HD.out HX.out).mono ?_) | (with_reducible refine (HT2.out _ HC.out HD.out HX.out).mono ?_) | (with_reducible refine (HT3.out _ HC.out HD.out HX.out).mono ?_) | (with_reducible refine (HT4.out _ HC.out HD.out HX.out).mono ?_) | (with_reducible refine (HT5.out _ HC.out HD.out HX.out).mono ?_)); rintro e w1 ⟨rfl, hb1⟩; have HC := amk (HC.out.below hb1); have HD := amk (HD.out.below hb1); have HX := amk (HX.out.below hb1); have HB := amk (below_step HB.out hb1); clear hb1)
  refine hK.out _ _ ?hS1 (fun hH2 => ?rest1)
  case hS1 => exact HS12.out _ HC.out HD.out
  clear hK K hH
  have hH := hH2
  clear hH2
  try simp only [Act.put, List.setIfInBounds_toArray, List.set_cons_zero, List.set_cons_succ]
  refine wpAnyH_take (i := 1) (oi := { dst := some 37, op := Go.Op.move (Go.Operand.tmp 36), type := 4, pos := "law.go:96", after := #[{ on := 0, ground := Go.Ground.data }, { on := 0, ground := Go.Ground.chain }], guard := none }) (v := ?v2) rfl (by kernel_rfl) (by kernel_rfl) (by kernel_rfl) (fun _ _ _ h => h) (Or.inl ⟨by rfl, ?hy2⟩) (by assumption) ?rest2
  case hy2 => (intro w hSw; (try dsimp only at hSw); go_simp <;> with_reducible rfl)
  try simp only [Act.put, List.setIfInBounds_toArray, List.set_cons_zero, List.set_cons_succ]
  refine wpAnyH_take (i := 2) (oi := { dst := some 38, op := Go.Op.move (Go.Operand.tmp 7), type := 66, pos := "law.go:96", after := #[{ on := 1, ground := Go.Ground.guard }], guard := some (1, true) }) (v := ?v3) rfl (by kernel_rfl) (by kernel_rfl) (by kernel_rfl) (fun _ _ _ h => h) (Or.inl ⟨by rfl, ?hy3⟩) (by assumption) ?rest3
  case hy3 => (intro w hSw; (try dsimp only at hSw); go_simp <;> with_reducible rfl)
  try simp only [Act.put, List.setIfInBounds_toArray, List.set_cons_zero, List.set_cons_succ]
  refine wpAnyH_take (i := 3) (oi := { dst := some 39, op := Go.Op.load 46 (Go.Operand.tmp 3), type := 46, pos := "law.go:96", after := #[{ on := 1, ground := Go.Ground.guard }], guard := some (1, true) }) (v := ?v4) rfl (by kernel_rfl) (by kernel_rfl) (by kernel_rfl) (fun _ _ _ h => h) (Or.inl ⟨by rfl, ?hy4⟩) (by assumption) ?rest4
  case hy4 => (intro w hSw; (try dsimp only at hSw); go_simp <;> with_reducible rfl)
  try simp only [Act.put, List.setIfInBounds_toArray, List.set_cons_zero, List.set_cons_succ]
  refine wpAnyH_take (i := 4) (oi := { dst := some 40, op := Go.Op.load 46 (Go.Operand.tmp 4), type := 46, pos := "law.go:96", after := #[{ on := 1, ground := Go.Ground.guard }], guard := some (1, true) }) (v := ?v5) rfl (by kernel_rfl) (by kernel_rfl) (by kernel_rfl) (fun _ _ _ h => h) (Or.inl ⟨by rfl, ?hy5⟩) (by assumption) ?rest5
  case hy5 => (intro w hSw; (try dsimp only at hSw); go_simp <;> with_reducible rfl)
  try simp only [Act.put, List.setIfInBounds_toArray, List.set_cons_zero, List.set_cons_succ]
  refine wpAnyH_take (i := 6) (oi := { dst := some 42, op := Go.Op.move (Go.Operand.tmp 8), type := 4, pos := "law.go:96", after := #[{ on := 1, ground := Go.Ground.guard }], guard := some (1, true) }) (v := ?v6) rfl (by kernel_rfl) (by kernel_rfl) (by kernel_rfl) (fun _ _ _ h => h) (Or.inl ⟨by rfl, ?hy6⟩) (by assumption) ?rest6
  case hy6 => (intro w hSw; (try dsimp only at hSw); go_simp <;> with_reducible rfl)
  try simp only [Act.put, List.setIfInBounds_toArray, List.set_cons_zero, List.set_cons_succ]
  refine wpAnyH_ready (rs := [5]) (by kernel_rfl) (by simp) ?_
  refine AllReadyH.cons (o := { dst := some 41, op := Go.Op.call { callee := Go.Callee.value (Go.Operand.tmp 38), args := #[Go.Operand.const (Go.Value.int Go.IntKind.i64 1), Go.Operand.tmp 39, Go.Operand.tmp 40], argTypes := #[3, 46, 46] }, type := 4, pos := "law.go:96", after := #[{ on := 2, ground := Go.Ground.data }, { on := 3, ground := Go.Ground.data }, { on := 4, ground := Go.Ground.data }, { on := 1, ground := Go.Ground.chain }, { on := 1, ground := Go.Ground.guard }], guard := some (1, true) }) rfl (fun K hK => ?_) AllReadyH.nil
  go_simp
  first | (go_at_call 44; (with_reducible refine (HA.out _).mono ?_); rintro e w1 ⟨rfl, hb1⟩; have HC := amk (HC.out.below hb1); have HD := amk (HD.out.below hb1); have HX := amk (HX.out.below hb1); have HB := amk (below_step HB.out hb1); clear hb1) | (go_at_call 52; (first | (with_reducible refine (HT.out _ HC.out HD.out HX.out).mono ?_) | (with_reducible refine (HT2.out _ HC.out HD.out HX.out).mono ?_) | (with_reducible refine (HT3.out _ HC.out HD.out HX.out).mono ?_) | (with_reducible refine (HT4.out _ HC.out HD.out HX.out).mono ?_) | (with_reducible refine (HT5.out _ HC.out HD.out HX.out).mono ?_)); rintro e w1 ⟨rfl, hb1⟩; have HC := amk (HC.out.below hb1); have HD := amk (HD.out.below hb1); have HX := amk (HX.out.below hb1); have HB := amk (below_step HB.out hb1); clear hb1)
  refine hK.out _ _ ?hS7 (fun hH2 => ?rest7)
  case hS7 => exact HS12.out _ HC.out HD.out
  clear hK K hH
  have hH := hH2
  clear hH2
  try simp only [Act.put, List.setIfInBounds_toArray, List.set_cons_zero, List.set_cons_succ]
  refine wpAnyH_take (i := 7) (oi := { dst := some 43, op := Go.Op.move (Go.Operand.tmp 42), type := 4, pos := "law.go:96", after := #[{ on := 6, ground := Go.Ground.data }, { on := 5, ground := Go.Ground.chain }, { on := 1, ground := Go.Ground.guard }], guard := some (1, true) }) (v := ?v8) rfl (by kernel_rfl) (by kernel_rfl) (by kernel_rfl) (fun _ _ _ h => h) (Or.inl ⟨by rfl, ?hy8⟩) (by assumption) ?rest8
  case hy8 => (intro w hSw; (try dsimp only at hSw); go_simp <;> with_reducible rfl)
  try simp only [Act.put, List.setIfInBounds_toArray, List.set_cons_zero, List.set_cons_succ]
  refine wpAnyH_take (i := 8) (oi := { dst := some 44, op := Go.Op.move (Go.Operand.tmp 9), type := 4, pos := "law.go:96", after := #[{ on := 7, ground := Go.Ground.guard }], guard := some (7, true) }) (v := ?v9) rfl (by kernel_rfl) (by kernel_rfl) (by kernel_rfl) (fun _ _ _ h => h) (Or.inl ⟨by rfl, ?hy9⟩) (by assumption) ?rest9
  case hy9 => (intro w hSw; (try dsimp only at hSw); go_simp <;> with_reducible rfl)
  try simp only [Act.put, List.setIfInBounds_toArray, List.set_cons_zero, List.set_cons_succ]
  refine wpAnyH_take (i := 9) (oi := { dst := some 45, op := Go.Op.pick (Go.Operand.tmp 43) (Go.Operand.tmp 44) (Go.Operand.const (Go.Value.bool false)), type := 4, pos := "law.go:96", after := #[{ on := 7, ground := Go.Ground.data }, { on := 8, ground := Go.Ground.data }, { on := 1, ground := Go.Ground.guard }], guard := some (1, true) }) (v := ?v10) rfl (by kernel_rfl) (by kernel_rfl) (by kernel_rfl) (fun _ _ _ h => h) (Or.inl ⟨by rfl, ?hy10⟩) (by assumption) ?rest10
  case hy10 => (intro w hSw; (try dsimp only at hSw); go_simp <;> with_reducible rfl)
  try simp only [Act.put, List.setIfInBounds_toArray, List.set_cons_zero, List.set_cons_succ]
  refine wpAnyH_take (i := 10) (oi := { dst := some 46, op := Go.Op.binOp Go.BinOp.eql 4 (Go.Operand.tmp 41) (Go.Operand.tmp 45) 4, type := 4, pos := "law.go:96", after := #[{ on := 5, ground := Go.Ground.data }, { on := 9, ground := Go.Ground.data }, { on := 1, ground := Go.Ground.guard }], guard := some (1, true) }) (v := ?v11) rfl (by kernel_rfl) (by kernel_rfl) (by kernel_rfl) (fun _ _ _ h => h) (Or.inl ⟨by rfl, ?hy11⟩) (by assumption) ?rest11
  case hy11 => (intro w hSw; (try dsimp only at hSw); go_simp <;> with_reducible rfl)
  try simp only [Act.put, List.setIfInBounds_toArray, List.set_cons_zero, List.set_cons_succ]
  refine wpAnyH_take (i := 11) (oi := { dst := some 47, op := Go.Op.pick (Go.Operand.tmp 37) (Go.Operand.tmp 46) (Go.Operand.const (Go.Value.bool false)), type := 4, pos := "law.go:96", after := #[{ on := 1, ground := Go.Ground.data }, { on := 10, ground := Go.Ground.data }], guard := none }) (v := ?v12) rfl (by kernel_rfl) (by kernel_rfl) (by kernel_rfl) (fun _ _ _ h => h) (Or.inl ⟨by rfl, ?hy12⟩) (by assumption) ?rest12
  case hy12 => (intro w hSw; (try dsimp only at hSw); go_simp <;> with_reducible rfl)
  try simp only [Act.put, List.setIfInBounds_toArray, List.set_cons_zero, List.set_cons_succ]
  refine wpAnyH_take (i := 12) (oi := { dst := some 48, op := Go.Op.move (Go.Operand.tmp 47), type := 4, pos := "law.go:96", after := #[{ on := 11, ground := Go.Ground.data }, { on := 7, ground := Go.Ground.chain }], guard := none }) (v := ?v13) rfl (by kernel_rfl) (by kernel_rfl) (by kernel_rfl) (fun _ _ _ h => h) (Or.inl ⟨by rfl, ?hy13⟩) (by assumption) ?rest13
  case hy13 => (intro w hSw; (try dsimp only at hSw); go_simp <;> with_reducible rfl)
  try simp only [Act.put, List.setIfInBounds_toArray, List.set_cons_zero, List.set_cons_succ]
  refine wpAnyH_take (i := 13) (oi := { dst := some 49, op := Go.Op.move (Go.Operand.tmp 7), type := 66, pos := "law.go:96", after := #[{ on := 12, ground := Go.Ground.guard }], guard := some (12, true) }) (v := ?v14) rfl (by kernel_rfl) (by kernel_rfl) (by kernel_rfl) (fun _ _ _ h => h) (Or.inl ⟨by rfl, ?hy14⟩) (by assumption) ?rest14
  case hy14 => (intro w hSw; (try dsimp only at hSw); go_simp <;> with_reducible rfl)
  try simp only [Act.put, List.setIfInBounds_toArray, List.set_cons_zero, List.set_cons_succ]
  refine wpAnyH_take (i := 14) (oi := { dst := some 50, op := Go.Op.load 46 (Go.Operand.tmp 3), type := 46, pos := "law.go:96", after := #[{ on := 12, ground := Go.Ground.guard }], guard := some (12, true) }) (v := ?v15) rfl (by kernel_rfl) (by kernel_rfl) (by kernel_rfl) (fun _ _ _ h => h) (Or.inl ⟨by rfl, ?hy15⟩) (by assumption) ?rest15
  case hy15 => (intro w hSw; (try dsimp only at hSw); go_simp <;> with_reducible rfl)
  try simp only [Act.put, List.setIfInBounds_toArray, List.set_cons_zero, List.set_cons_succ]
  refine wpAnyH_take (i := 15) (oi := { dst := some 51, op := Go.Op.load 46 (Go.Operand.tmp 4), type := 46, pos := "law.go:96", after := #[{ on := 12, ground := Go.Ground.guard }], guard := some (12, true) }) (v := ?v16) rfl (by kernel_rfl) (by kernel_rfl) (by kernel_rfl) (fun _ _ _ h => h) (Or.inl ⟨by rfl, ?hy16⟩) (by assumption) ?rest16
  case hy16 => (intro w hSw; (try dsimp only at hSw); go_simp <;> with_reducible rfl)
  try simp only [Act.put, List.setIfInBounds_toArray, List.set_cons_zero, List.set_cons_succ]
  refine wpAnyH_take (i := 17) (oi := { dst := some 53, op := Go.Op.move (Go.Operand.tmp 8), type := 4, pos := "law.go:96", after := #[{ on := 12, ground := Go.Ground.guard }], guard := some (12, true) }) (v := ?v17) rfl (by kernel_rfl) (by kernel_rfl) (by kernel_rfl) (fun _ _ _ h => h) (Or.inl ⟨by rfl, ?hy17⟩) (by assumption) ?rest17
  case hy17 => (intro w hSw; (try dsimp only at hSw); go_simp <;> with_reducible rfl)
  try simp only [Act.put, List.setIfInBounds_toArray, List.set_cons_zero, List.set_cons_succ]
  refine wpAnyH_ready (rs := [16]) (by kernel_rfl) (by simp) ?_
  refine AllReadyH.cons (o := { dst := some 52, op := Go.Op.call { callee := Go.Callee.value (Go.Operand.tmp 49), args := #[Go.Operand.const (Go.Value.int Go.IntKind.i64 2), Go.Operand.tmp 50, Go.Operand.tmp 51], argTypes := #[3, 46, 46] }, type := 4, pos := "law.go:96", after := #[{ on := 13, ground := Go.Ground.data }, { on := 14, ground := Go.Ground.data }, { on := 15, ground := Go.Ground.data }, { on := 12, ground := Go.Ground.chain }, { on := 12, ground := Go.Ground.guard }], guard := some (12, true) }) rfl (fun K hK => ?_) AllReadyH.nil
  go_simp
  first | (go_at_call 44; (with_reducible refine (HA.out _).mono ?_); rintro e w1 ⟨rfl, hb1⟩; have HC := amk (HC.out.below hb1); have HD := amk (HD.out.below hb1); have HX := amk (HX.out.below hb1); have HB := amk (below_step HB.out hb1); clear hb1) | (go_at_call 52; (first | (with_reducible refine (HT.out _ HC.out HD.out HX.out).mono ?_) | (with_reducible refine (HT2.out _ HC.out HD.out HX.out).mono ?_) | (with_reducible refine (HT3.out _ HC.out HD.out HX.out).mono ?_) | (with_reducible refine (HT4.out _ HC.out HD.out HX.out).mono ?_) | (with_reducible refine (HT5.out _ HC.out HD.out HX.out).mono ?_)); rintro e w1 ⟨rfl, hb1⟩; have HC := amk (HC.out.below hb1); have HD := amk (HD.out.below hb1); have HX := amk (HX.out.below hb1); have HB := amk (below_step HB.out hb1); clear hb1)
  refine hK.out _ _ ?hS18 (fun hH2 => ?rest18)
  case hS18 => exact HS12.out _ HC.out HD.out
  clear hK K hH
  have hH := hH2
  clear hH2
  try simp only [Act.put, List.setIfInBounds_toArray, List.set_cons_zero, List.set_cons_succ]
  refine wpAnyH_take (i := 18) (oi := { dst := some 54, op := Go.Op.move (Go.Operand.tmp 53), type := 4, pos := "law.go:96", after := #[{ on := 17, ground := Go.Ground.data }, { on := 16, ground := Go.Ground.chain }, { on := 12, ground := Go.Ground.guard }], guard := some (12, true) }) (v := ?v19) rfl (by kernel_rfl) (by kernel_rfl) (by kernel_rfl) (fun _ _ _ h => h) (Or.inl ⟨by rfl, ?hy19⟩) (by assumption) ?rest19
  case hy19 => (intro w hSw; (try dsimp only at hSw); go_simp <;> with_reducible rfl)
  try simp only [Act.put, List.setIfInBounds_toArray, List.set_cons_zero, List.set_cons_succ]
  refine wpAnyH_take (i := 19) (oi := { dst := some 55, op := Go.Op.move (Go.Operand.tmp 9), type := 4, pos := "law.go:96", after := #[{ on := 18, ground := Go.Ground.guard }], guard := some (18, false) }) (v := undef) rfl (by kernel_rfl) (by kernel_rfl) (by kernel_rfl) (fun _ _ _ h => h) (Or.inr ⟨by rfl, rfl⟩) (by assumption) ?_
  try simp only [Act.put, List.setIfInBounds_toArray, List.set_cons_zero, List.set_cons_succ]
  refine wpAnyH_take (i := 20) (oi := { dst := some 56, op := Go.Op.pick (Go.Operand.tmp 54) (Go.Operand.const (Go.Value.bool true)) (Go.Operand.tmp 55), type := 4, pos := "law.go:96", after := #[{ on := 18, ground := Go.Ground.data }, { on := 19, ground := Go.Ground.data }, { on := 12, ground := Go.Ground.guard }], guard := some (12, true) }) (v := ?v21) rfl (by kernel_rfl) (by kernel_rfl) (by kernel_rfl) (fun _ _ _ h => h) (Or.inl ⟨by rfl, ?hy21⟩) (by assumption) ?rest21
  case hy21 => (intro w hSw; (try dsimp only at hSw); go_simp <;> with_reducible rfl)
  try simp only [Act.put, List.setIfInBounds_toArray, List.set_cons_zero, List.set_cons_succ]
  refine wpAnyH_take (i := 21) (oi := { dst := some 57, op := Go.Op.binOp Go.BinOp.eql 4 (Go.Operand.tmp 52) (Go.Operand.tmp 56) 4, type := 4, pos := "law.go:96", after := #[{ on := 16, ground := Go.Ground.data }, { on := 20, ground := Go.Ground.data }, { on := 12, ground := Go.Ground.guard }], guard := some (12, true) }) (v := ?v22) rfl (by kernel_rfl) (by kernel_rfl) (by kernel_rfl) (fun _ _ _ h => h) (Or.inl ⟨by rfl, ?hy22⟩) (by assumption) ?rest22
  case hy22 => (intro w hSw; (try dsimp only at hSw); go_simp <;> with_reducible rfl)
  try simp only [Act.put, List.setIfInBounds_toArray, List.set_cons_zero, List.set_cons_succ]
  refine wpAnyH_take (i := 22) (oi := { dst := some 58, op := Go.Op.pick (Go.Operand.tmp 48) (Go.Operand.tmp 57) (Go.Operand.const (Go.Value.bool false)), type := 4, pos := "law.go:96", after := #[{ on := 12, ground := Go.Ground.data }, { on := 21, ground := Go.Ground.data }], guard := none }) (v := ?v23) rfl (by kernel_rfl) (by kernel_rfl) (by kernel_rfl) (fun _ _ _ h => h) (Or.inl ⟨by rfl, ?hy23⟩) (by assumption) ?rest23
  case hy23 => (intro w hSw; (try dsimp only at hSw); go_simp <;> with_reducible rfl)
  try simp only [Act.put, List.setIfInBounds_toArray, List.set_cons_zero, List.set_cons_succ]
  refine wpAnyH_take (i := 23) (oi := { dst := some 59, op := Go.Op.move (Go.Operand.tmp 58), type := 4, pos := "law.go:96", after := #[{ on := 22, ground := Go.Ground.data }, { on := 18, ground := Go.Ground.chain }], guard := none }) (v := ?v24) rfl (by kernel_rfl) (by kernel_rfl) (by kernel_rfl) (fun _ _ _ h => h) (Or.inl ⟨by rfl, ?hy24⟩) (by assumption) ?rest24
  case hy24 => (intro w hSw; (try dsimp only at hSw); go_simp <;> with_reducible rfl)
  try simp only [Act.put, List.setIfInBounds_toArray, List.set_cons_zero, List.set_cons_succ]
  refine wpAnyH_take (i := 24) (oi := { dst := some 60, op := Go.Op.move (Go.Operand.tmp 7), type := 66, pos := "law.go:96", after := #[{ on := 23, ground := Go.Ground.guard }], guard := some (23, true) }) (v := ?v25) rfl (by kernel_rfl) (by kernel_rfl) (by kernel_rfl) (fun _ _ _ h => h) (Or.inl ⟨by rfl, ?hy25⟩) (by assumption) ?rest25
  case hy25 => (intro w hSw; (try dsimp only at hSw); go_simp <;> with_reducible rfl)
  try simp only [Act.put, List.setIfInBounds_toArray, List.set_cons_zero, List.set_cons_succ]
  refine wpAnyH_take (i := 25) (oi := { dst := some 61, op := Go.Op.load 46 (Go.Operand.tmp 3), type := 46, pos := "law.go:96", after := #[{ on := 23, ground := Go.Ground.guard }], guard := some (23, true) }) (v := ?v26) rfl (by kernel_rfl) (by kernel_rfl) (by kernel_rfl) (fun _ _ _ h => h) (Or.inl ⟨by rfl, ?hy26⟩) (by assumption) ?rest26
  case hy26 => (intro w hSw; (try dsimp only at hSw); go_simp <;> with_reducible rfl)
  try simp only [Act.put, List.setIfInBounds_toArray, List.set_cons_zero, List.set_cons_succ]
  refine wpAnyH_take (i := 26) (oi := { dst := some 62, op := Go.Op.load 46 (Go.Operand.tmp 3), type := 46, pos := "law.go:96", after := #[{ on := 23, ground := Go.Ground.guard }], guard := some (23, true) }) (v := ?v27) rfl (by kernel_rfl) (by kernel_rfl) (by kernel_rfl) (fun _ _ _ h => h) (Or.inl ⟨by rfl, ?hy27⟩) (by assumption) ?rest27
  case hy27 => (intro w hSw; (try dsimp only at hSw); go_simp <;> with_reducible rfl)
  try simp only [Act.put, List.setIfInBounds_toArray, List.set_cons_zero, List.set_cons_succ]
  refine wpAnyH_take (i := 28) (oi := { dst := some 64, op := Go.Op.move (Go.Operand.tmp 8), type := 4, pos := "law.go:96", after := #[{ on := 23, ground := Go.Ground.guard }], guard := some (23, true) }) (v := ?v28) rfl (by kernel_rfl) (by kernel_rfl) (by kernel_rfl) (fun _ _ _ h => h) (Or.inl ⟨by rfl, ?hy28⟩) (by assumption) ?rest28
  case hy28 => (intro w hSw; (try dsimp only at hSw); go_simp <;> with_reducible rfl)
  try simp only [Act.put, List.setIfInBounds_toArray, List.set_cons_zero, List.set_cons_succ]
  refine wpAnyH_ready (rs := [27]) (by kernel_rfl) (by simp) ?_
  refine AllReadyH.cons (o := { dst := some 63, op := Go.Op.call { callee := Go.Callee.value (Go.Operand.tmp 60), args := #[Go.Operand.const (Go.Value.int Go.IntKind.i64 1), Go.Operand.tmp 61, Go.Operand.tmp 62], argTypes := #[3, 46, 46] }, type := 4, pos := "law.go:96", after := #[{ on := 24, ground := Go.Ground.data }, { on := 25, ground := Go.Ground.data }, { on := 26, ground := Go.Ground.data }, { on := 23, ground := Go.Ground.chain }, { on := 23, ground := Go.Ground.guard }], guard := some (23, true) }) rfl (fun K hK => ?_) AllReadyH.nil
  go_simp
  first | (go_at_call 44; (with_reducible refine (HA.out _).mono ?_); rintro e w1 ⟨rfl, hb1⟩; have HC := amk (HC.out.below hb1); have HD := amk (HD.out.below hb1); have HX := amk (HX.out.below hb1); have HB := amk (below_step HB.out hb1); clear hb1) | (go_at_call 52; (first | (with_reducible refine (HT.out _ HC.out HD.out HX.out).mono ?_) | (with_reducible refine (HT2.out _ HC.out HD.out HX.out).mono ?_) | (with_reducible refine (HT3.out _ HC.out HD.out HX.out).mono ?_) | (with_reducible refine (HT4.out _ HC.out HD.out HX.out).mono ?_) | (with_reducible refine (HT5.out _ HC.out HD.out HX.out).mono ?_)); rintro e w1 ⟨rfl, hb1⟩; have HC := amk (HC.out.below hb1); have HD := amk (HD.out.below hb1); have HX := amk (HX.out.below hb1); have HB := amk (below_step HB.out hb1); clear hb1)
  refine hK.out _ _ ?hS29 (fun hH2 => ?rest29)
  case hS29 => exact HS12.out _ HC.out HD.out
  clear hK K hH
  have hH := hH2
  clear hH2
  try simp only [Act.put, List.setIfInBounds_toArray, List.set_cons_zero, List.set_cons_succ]
  refine wpAnyH_take (i := 29) (oi := { dst := some 65, op := Go.Op.binOp Go.BinOp.eql 4 (Go.Operand.tmp 63) (Go.Operand.tmp 64) 4, type := 4, pos := "law.go:96", after := #[{ on := 27, ground := Go.Ground.data }, { on := 28, ground := Go.Ground.data }, { on := 23, ground := Go.Ground.guard }], guard := some (23, true) }) (v := ?v30) rfl (by kernel_rfl) (by kernel_rfl) (by kernel_rfl) (fun _ _ _ h => h) (Or.inl ⟨by rfl, ?hy30⟩) (by assumption) ?rest30
  case hy30 => (intro w hSw; (try dsimp only at hSw); go_simp <;> with_reducible rfl)
  try simp only [Act.put, List.setIfInBounds_toArray, List.set_cons_zero, List.set_cons_succ]
  refine wpAnyH_take (i := 30) (oi := { dst := some 66, op := Go.Op.pick (Go.Operand.tmp 59) (Go.Operand.tmp 65) (Go.Operand.const (Go.Value.bool false)), type := 4, pos := "law.go:96", after := #[{ on := 23, ground := Go.Ground.data }, { on := 29, ground := Go.Ground.data }], guard := none }) (v := ?v31) rfl (by kernel_rfl) (by kernel_rfl) (by kernel_rfl) (fun _ _ _ h => h) (Or.inl ⟨by rfl, ?hy31⟩) (by assumption) ?rest31
  case hy31 => (intro w hSw; (try dsimp only at hSw); go_simp <;> with_reducible rfl)
  try simp only [Act.put, List.setIfInBounds_toArray, List.set_cons_zero, List.set_cons_succ]
  refine wpAnyH_take (i := 31) (oi := { dst := some 67, op := Go.Op.move (Go.Operand.tmp 66), type := 4, pos := "law.go:96", after := #[{ on := 30, ground := Go.Ground.data }, { on := 27, ground := Go.Ground.chain }], guard := none }) (v := ?v32) rfl (by kernel_rfl) (by kernel_rfl) (by kernel_rfl) (fun _ _ _ h => h) (Or.inl ⟨by rfl, ?hy32⟩) (by assumption) ?rest32
  case hy32 => (intro w hSw; (try dsimp only at hSw); go_simp <;> with_reducible rfl)
  try simp only [Act.put, List.setIfInBounds_toArray, List.set_cons_zero, List.set_cons_succ]
  refine wpAnyH_take (i := 32) (oi := { dst := some 68, op := Go.Op.move (Go.Operand.tmp 7), type := 66, pos := "law.go:96", after := #[{ on := 31, ground := Go.Ground.guard }], guard := some (31, true) }) (v := ?v33) rfl (by kernel_rfl) (by kernel_rfl) (by kernel_rfl) (fun _ _ _ h => h) (Or.inl ⟨by rfl, ?hy33⟩) (by assumption) ?rest33
  case hy33 => (intro w hSw; (try dsimp only at hSw); go_simp <;> with_reducible rfl)
  try simp only [Act.put, List.setIfInBounds_toArray, List.set_cons_zero, List.set_cons_succ]
  refine wpAnyH_take (i := 33) (oi := { dst := some 69, op := Go.Op.load 46 (Go.Operand.tmp 4), type := 46, pos := "law.go:96", after := #[{ on := 31, ground := Go.Ground.guard }], guard := some (31, true) }) (v := ?v34) rfl (by kernel_rfl) (by kernel_rfl) (by kernel_rfl) (fun _ _ _ h => h) (Or.inl ⟨by rfl, ?hy34⟩) (by assumption) ?rest34
  case hy34 => (intro w hSw; (try dsimp only at hSw); go_simp <;> with_reducible rfl)
  try simp only [Act.put, List.setIfInBounds_toArray, List.set_cons_zero, List.set_cons_succ]
  refine wpAnyH_take (i := 34) (oi := { dst := some 70, op := Go.Op.load 46 (Go.Operand.tmp 4), type := 46, pos := "law.go:96", after := #[{ on := 31, ground := Go.Ground.guard }], guard := some (31, true) }) (v := ?v35) rfl (by kernel_rfl) (by kernel_rfl) (by kernel_rfl) (fun _ _ _ h => h) (Or.inl ⟨by rfl, ?hy35⟩) (by assumption) ?rest35
  case hy35 => (intro w hSw; (try dsimp only at hSw); go_simp <;> with_reducible rfl)
  try simp only [Act.put, List.setIfInBounds_toArray, List.set_cons_zero, List.set_cons_succ]
  refine wpAnyH_take (i := 36) (oi := { dst := some 72, op := Go.Op.move (Go.Operand.tmp 9), type := 4, pos := "law.go:96", after := #[{ on := 31, ground := Go.Ground.guard }], guard := some (31, true) }) (v := ?v36) rfl (by kernel_rfl) (by kernel_rfl) (by kernel_rfl) (fun _ _ _ h => h) (Or.inl ⟨by rfl, ?hy36⟩) (by assumption) ?rest36
  case hy36 => (intro w hSw; (try dsimp only at hSw); go_simp <;> with_reducible rfl)
  try simp only [Act.put, List.setIfInBounds_toArray, List.set_cons_zero, List.set_cons_succ]
  refine wpAnyH_ready (rs := [35]) (by kernel_rfl) (by simp) ?_
  refine AllReadyH.cons (o := { dst := some 71, op := Go.Op.call { callee := Go.Callee.value (Go.Operand.tmp 68), args := #[Go.Operand.const (Go.Value.int Go.IntKind.i64 2), Go.Operand.tmp 69, Go.Operand.tmp 70], argTypes := #[3, 46, 46] }, type := 4, pos := "law.go:96", after := #[{ on := 32, ground := Go.Ground.data }, { on := 33, ground := Go.Ground.data }, { on := 34, ground := Go.Ground.data }, { on := 31, ground := Go.Ground.chain }, { on := 31, ground := Go.Ground.guard }], guard := some (31, true) }) rfl (fun K hK => ?_) AllReadyH.nil
  go_simp
  first | (go_at_call 44; (with_reducible refine (HA.out _).mono ?_); rintro e w1 ⟨rfl, hb1⟩; have HC := amk (HC.out.below hb1); have HD := amk (HD.out.below hb1); have HX := amk (HX.out.below hb1); have HB := amk (below_step HB.out hb1); clear hb1) | (go_at_call 52; (first | (with_reducible refine (HT.out _ HC.out HD.out HX.out).mono ?_) | (with_reducible refine (HT2.out _ HC.out HD.out HX.out).mono ?_) | (with_reducible refine (HT3.out _ HC.out HD.out HX.out).mono ?_) | (with_reducible refine (HT4.out _ HC.out HD.out HX.out).mono ?_) | (with_reducible refine (HT5.out _ HC.out HD.out HX.out).mono ?_)); rintro e w1 ⟨rfl, hb1⟩; have HC := amk (HC.out.below hb1); have HD := amk (HD.out.below hb1); have HX := amk (HX.out.below hb1); have HB := amk (below_step HB.out hb1); clear hb1)
  refine hK.out _ _ ?hS37 (fun hH2 => ?rest37)
  case hS37 => exact HS12.out _ HC.out HD.out
  clear hK K hH
  have hH := hH2
  clear hH2
  try simp only [Act.put, List.setIfInBounds_toArray, List.set_cons_zero, List.set_cons_succ]
  refine wpAnyH_take (i := 37) (oi := { dst := some 73, op := Go.Op.binOp Go.BinOp.eql 4 (Go.Operand.tmp 71) (Go.Operand.tmp 72) 4, type := 4, pos := "law.go:96", after := #[{ on := 35, ground := Go.Ground.data }, { on := 36, ground := Go.Ground.data }, { on := 31, ground := Go.Ground.guard }], guard := some (31, true) }) (v := ?v38) rfl (by kernel_rfl) (by kernel_rfl) (by kernel_rfl) (fun _ _ _ h => h) (Or.inl ⟨by rfl, ?hy38⟩) (by assumption) ?rest38
  case hy38 => (intro w hSw; (try dsimp only at hSw); go_simp <;> with_reducible rfl)
  try simp only [Act.put, List.setIfInBounds_toArray, List.set_cons_zero, List.set_cons_succ]
  refine wpAnyH_take (i := 38) (oi := { dst := some 74, op := Go.Op.pick (Go.Operand.tmp 67) (Go.Operand.tmp 73) (Go.Operand.const (Go.Value.bool false)), type := 4, pos := "law.go:96", after := #[{ on := 31, ground := Go.Ground.data }, { on := 37, ground := Go.Ground.data }], guard := none }) (v := ?v39) rfl (by kernel_rfl) (by kernel_rfl) (by kernel_rfl) (fun _ _ _ h => h) (Or.inl ⟨by rfl, ?hy39⟩) (by assumption) ?rest39
  case hy39 => (intro w hSw; (try dsimp only at hSw); go_simp <;> with_reducible rfl)
  try simp only [Act.put, List.setIfInBounds_toArray, List.set_cons_zero, List.set_cons_succ]
  refine wpAnyH_take (i := 39) (oi := { dst := some 75, op := Go.Op.move (Go.Operand.tmp 74), type := 4, pos := "law.go:96", after := #[{ on := 38, ground := Go.Ground.data }, { on := 35, ground := Go.Ground.chain }], guard := none }) (v := ?v40) rfl (by kernel_rfl) (by kernel_rfl) (by kernel_rfl) (fun _ _ _ h => h) (Or.inl ⟨by rfl, ?hy40⟩) (by assumption) ?rest40
  case hy40 => (intro w hSw; (try dsimp only at hSw); go_simp <;> with_reducible rfl)
  try simp only [Act.put, List.setIfInBounds_toArray, List.set_cons_zero, List.set_cons_succ]
  refine wpAnyH_take (i := 40) (oi := { dst := some 76, op := Go.Op.move (Go.Operand.tmp 7), type := 66, pos := "law.go:96", after := #[{ on := 39, ground := Go.Ground.guard }], guard := some (39, true) }) (v := ?v41) rfl (by kernel_rfl) (by kernel_rfl) (by kernel_rfl) (fun _ _ _ h => h) (Or.inl ⟨by rfl, ?hy41⟩) (by assumption) ?rest41
  case hy41 => (intro w hSw; (try dsimp only at hSw); go_simp <;> with_reducible rfl)
  try simp only [Act.put, List.setIfInBounds_toArray, List.set_cons_zero, List.set_cons_succ]
  refine wpAnyH_take (i := 41) (oi := { dst := some 77, op := Go.Op.load 46 (Go.Operand.tmp 4), type := 46, pos := "law.go:96", after := #[{ on := 39, ground := Go.Ground.guard }], guard := some (39, true) }) (v := ?v42) rfl (by kernel_rfl) (by kernel_rfl) (by kernel_rfl) (fun _ _ _ h => h) (Or.inl ⟨by rfl, ?hy42⟩) (by assumption) ?rest42
  case hy42 => (intro w hSw; (try dsimp only at hSw); go_simp <;> with_reducible rfl)
  try simp only [Act.put, List.setIfInBounds_toArray, List.set_cons_zero, List.set_cons_succ]
  refine wpAnyH_take (i := 42) (oi := { dst := some 78, op := Go.Op.load 46 (Go.Operand.tmp 3), type := 46, pos := "law.go:96", after := #[{ on := 39, ground := Go.Ground.guard }], guard := some (39, true) }) (v := ?v43) rfl (by kernel_rfl) (by kernel_rfl) (by kernel_rfl) (fun _ _ _ h => h) (Or.inl ⟨by rfl, ?hy43⟩) (by assumption) ?rest43
  case hy43 => (intro w hSw; (try dsimp only at hSw); go_simp <;> with_reducible rfl)
  try simp only [Act.put, List.setIfInBounds_toArray, List.set_cons_zero, List.set_cons_succ]
  refine wpAnyH_take (i := 44) (oi := { dst := some 80, op := Go.Op.move (Go.Operand.tmp 7), type := 66, pos := "law.go:96", after := #[{ on := 39, ground := Go.Ground.guard }], guard := some (39, true) }) (v := ?v44) rfl (by kernel_rfl) (by kernel_rfl) (by kernel_rfl) (fun _ _ _ h => h) (Or.inl ⟨by rfl, ?hy44⟩) (by assumption) ?rest44
  case hy44 => (intro w hSw; (try dsimp only at hSw); go_simp <;> with_reducible rfl)
  try simp only [Act.put, List.setIfInBounds_toArray, List.set_cons_zero, List.set_cons_succ]
  refine wpAnyH_take (i := 45) (oi := { dst := some 81, op := Go.Op.load 46 (Go.Operand.tmp 3), type := 46, pos := "law.go:96", after := #[{ on := 39, ground := Go.Ground.guard }], guard := some (39, true) }) (v := ?v45) rfl (by kernel_rfl) (by kernel_rfl) (by kernel_rfl) (fun _ _ _ h => h) (Or.inl ⟨by rfl, ?hy45⟩) (by assumption) ?rest45
  case hy45 => (intro w hSw; (try dsimp only at hSw); go_simp <;> with_reducible rfl)
  try simp only [Act.put, List.setIfInBounds_toArray, List.set_cons_zero, List.set_cons_succ]
  refine wpAnyH_take (i := 46) (oi := { dst := some 82, op := Go.Op.load 46 (Go.Operand.tmp 4), type := 46, pos := "law.go:96", after := #[{ on := 39, ground := Go.Ground.guard }], guard := some (39, true) }) (v := ?v46) rfl (by kernel_rfl) (by kernel_rfl) (by kernel_rfl) (fun _ _ _ h => h) (Or.inl ⟨by rfl, ?hy46⟩) (by assumption) ?rest46
  case hy46 => (intro w hSw; (try dsimp only at hSw); go_simp <;> with_reducible rfl)
  try simp only [Act.put, List.setIfInBounds_toArray, List.set_cons_zero, List.set_cons_succ]
  refine wpAnyH_ready (rs := [43]) (by kernel_rfl) (by simp) ?_
  refine AllReadyH.cons (o := { dst := some 79, op := Go.Op.call { callee := Go.Callee.value (Go.Operand.tmp 76), args := #[Go.Operand.const (Go.Value.int Go.IntKind.i64 1), Go.Operand.tmp 77, Go.Operand.tmp 78], argTypes := #[3, 46, 46] }, type := 4, pos := "law.go:96", after := #[{ on := 40, ground := Go.Ground.data }, { on := 41, ground := Go.Ground.data }, { on := 42, ground := Go.Ground.data }, { on := 39, ground := Go.Ground.chain }, { on := 39, ground := Go.Ground.guard }], guard := some (39, true) }) rfl (fun K hK => ?_) AllReadyH.nil
  go_simp
  first | (go_at_call 44; (with_reducible refine (HA.out _).mono ?_); rintro e w1 ⟨rfl, hb1⟩; have HC := amk (HC.out.below hb1); have HD := amk (HD.out.below hb1); have HX := amk (HX.out.below hb1); have HB := amk (below_step HB.out hb1); clear hb1) | (go_at_call 52; (first | (with_reducible refine (HT.out _ HC.out HD.out HX.out).mono ?_) | (with_reducible refine (HT2.out _ HC.out HD.out HX.out).mono ?_) | (with_reducible refine (HT3.out _ HC.out HD.out HX.out).mono ?_) | (with_reducible refine (HT4.out _ HC.out HD.out HX.out).mono ?_) | (with_reducible refine (HT5.out _ HC.out HD.out HX.out).mono ?_)); rintro e w1 ⟨rfl, hb1⟩; have HC := amk (HC.out.below hb1); have HD := amk (HD.out.below hb1); have HX := amk (HX.out.below hb1); have HB := amk (below_step HB.out hb1); clear hb1)
  refine hK.out _ _ ?hS47 (fun hH2 => ?rest47)
  case hS47 => exact HS12.out _ HC.out HD.out
  clear hK K hH
  have hH := hH2
  clear hH2
  try simp only [Act.put, List.setIfInBounds_toArray, List.set_cons_zero, List.set_cons_succ]
  refine wpAnyH_ready (rs := [47]) (by kernel_rfl) (by simp) ?_
  refine AllReadyH.cons (o := { dst := some 83, op := Go.Op.call { callee := Go.Callee.value (Go.Operand.tmp 80), args := #[Go.Operand.const (Go.Value.int Go.IntKind.i64 1), Go.Operand.tmp 81, Go.Operand.tmp 82], argTypes := #[3, 46, 46] }, type := 4, pos := "law.go:96", after := #[{ on := 44, ground := Go.Ground.data }, { on := 45, ground := Go.Ground.data }, { on := 46, ground := Go.Ground.data }, { on := 43, ground := Go.Ground.chain }, { on := 39, ground := Go.Ground.guard }], guard := some (39, true) }) rfl (fun K hK => ?_) AllReadyH.nil
  go_simp
  first | (go_at_call 44; (with_reducible refine (HA.out _).mono ?_); rintro e w1 ⟨rfl, hb1⟩; have HC := amk (HC.out.below hb1); have HD := amk (HD.out.below hb1); have HX := amk (HX.out.below hb1); have HB := amk (below_step HB.out hb1); clear hb1) | (go_at_call 52; (first | (with_reducible refine (HT.out _ HC.out HD.out HX.out).mono ?_) | (with_reducible refine (HT2.out _ HC.out HD.out HX.out).mono ?_) | (with_reducible refine (HT3.out _ HC.out HD.out HX.out).mono ?_) | (with_reducible refine (HT4.out _ HC.out HD.out HX.out).mono ?_) | (with_reducible refine (HT5.out _ HC.out HD.out HX.out).mono ?_)); rintro e w1 ⟨rfl, hb1⟩; have HC := amk (HC.out.below hb1); have HD := amk (HD.out.below hb1); have HX := amk (HX.out.below hb1); have HB := amk (below_step HB.out hb1); clear hb1)
  refine hK.out _ _ ?hS48 (fun hH2 => ?rest48)
  case hS48 => exact HS12.out _ HC.out HD.out
  clear hK K hH
  have hH := hH2
  clear hH2
  try simp only [Act.put, List.setIfInBounds_toArray, List.set_cons_zero, List.set_cons_succ]
  refine wpAnyH_take (i := 48) (oi := { dst := some 84, op := Go.Op.binOp Go.BinOp.eql 4 (Go.Operand.tmp 79) (Go.Operand.tmp 83) 4, type := 4, pos := "law.go:96", after := #[{ on := 43, ground := Go.Ground.data }, { on := 47, ground := Go.Ground.data }, { on := 39, ground := Go.Ground.guard }], guard := some (39, true) }) (v := ?v49) rfl (by kernel_rfl) (by kernel_rfl) (by kernel_rfl) (fun _ _ _ h => h) (Or.inl ⟨by rfl, ?hy49⟩) (by assumption) ?rest49
  case hy49 => (intro w hSw; (try dsimp only at hSw); go_simp <;> with_reducible rfl)
  try simp only [Act.put, List.setIfInBounds_toArray, List.set_cons_zero, List.set_cons_succ]
  refine wpAnyH_take (i := 49) (oi := { dst := some 85, op := Go.Op.pick (Go.Operand.tmp 75) (Go.Operand.tmp 84) (Go.Operand.const (Go.Value.bool false)), type := 4, pos := "law.go:96", after := #[{ on := 39, ground := Go.Ground.data }, { on := 48, ground := Go.Ground.data }], guard := none }) (v := ?v50) rfl (by kernel_rfl) (by kernel_rfl) (by kernel_rfl) (fun _ _ _ h => h) (Or.inl ⟨by rfl, ?hy50⟩) (by assumption) ?rest50
  case hy50 => (intro w hSw; (try dsimp only at hSw); go_simp <;> with_reducible rfl)
  try simp only [Act.put, List.setIfInBounds_toArray, List.set_cons_zero, List.set_cons_succ]
  refine wpAnyH_take (i := 50) (oi := { dst := some 6, op := Go.Op.assign (Go.Operand.tmp 85), type := 4, pos := "law.go:96", after := #[{ on := 49, ground := Go.Ground.data }, { on := 47, ground := Go.Ground.chain }, { on := 0, ground := Go.Ground.phase }, { on := 1, ground := Go.Ground.phase }, { on := 2, ground := Go.Ground.phase }, { on := 3, ground := Go.Ground.phase }, { on := 4, ground := Go.Ground.phase }, { on := 5, ground := Go.Ground.phase }, { on := 6, ground := Go.Ground.phase }, { on := 7, ground := Go.Ground.phase }, { on := 8, ground := Go.Ground.phase }, { on := 9, ground := Go.Ground.phase }, { on := 10, ground := Go.Ground.phase }, { on := 11, ground := Go.Ground.phase }, { on := 12, ground := Go.Ground.phase }, { on := 13, ground := Go.Ground.phase }, { on := 14, ground := Go.Ground.phase }, { on := 15, ground := Go.Ground.phase }, { on := 16, ground := Go.Ground.phase }, { on := 17, ground := Go.Ground.phase }, { on := 18, ground := Go.Ground.phase }, { on := 19, ground := Go.Ground.phase }, { on := 20, ground := Go.Ground.phase }, { on := 21, ground := Go.Ground.phase }, { on := 22, ground := Go.Ground.phase }, { on := 23, ground := Go.Ground.phase }, { on := 24, ground := Go.Ground.phase }, { on := 25, ground := Go.Ground.phase }, { on := 26, ground := Go.Ground.phase }, { on := 27, ground := Go.Ground.phase }, { on := 28, ground := Go.Ground.phase }, { on := 29, ground := Go.Ground.phase }, { on := 30, ground := Go.Ground.phase }, { on := 31, ground := Go.Ground.phase }, { on := 32, ground := Go.Ground.phase }, { on := 33, ground := Go.Ground.phase }, { on := 34, ground := Go.Ground.phase }, { on := 35, ground := Go.Ground.phase }, { on := 36, ground := Go.Ground.phase }, { on := 37, ground := Go.Ground.phase }, { on := 38, ground := Go.Ground.phase }, { on := 39, ground := Go.Ground.phase }, { on := 40, ground := Go.Ground.phase }, { on := 41, ground := Go.Ground.phase }, { on := 42, ground := Go.Ground.phase }, { on := 43, ground := Go.Ground.phase }, { on := 44, ground := Go.Ground.phase }, { on := 45, ground := Go.Ground.phase }, { on := 46, ground := Go.Ground.phase }, { on := 47, ground := Go.Ground.phase }, { on := 48, ground := Go.Ground.phase }, { on := 49, ground := Go.Ground.phase }], guard := none }) (v := ?v51) rfl (by kernel_rfl) (by kernel_rfl) (by kernel_rfl) (fun _ _ _ h => h) (Or.inl ⟨by rfl, ?hy51⟩) (by assumption) ?rest51
  case hy51 => (intro w hSw; (try dsimp only at hSw); go_simp <;> with_reducible rfl)
  try simp only [Act.put, List.setIfInBounds_toArray, List.set_cons_zero, List.set_cons_succ]
  refine wpAnyH_done (by kernel_rfl) ?_ _
  all_goals go_wp2
  all_goals go_ret
  all_goals exact ⟨rfl, HB.out⟩
end Go.Proofs.Ytoeklekjhaigoaa.HAll
end
section
namespace Go.Proofs.Ytoeklekjhaigoaa.HAll
open Go.Proofs.Ytoeklekjhaigoaa.Al Go.RowKit Go.Proofs.YtoeklekjhaigoaaW.PrintWords Go.Proofs.YtoeklekjhaigoaaW.PrintLast Go.Proofs.YtoeklekjhaigoaaW.PrintMore Go.Proofs.Ytoeklekjhaigoaa.M0 Go.Proofs.Ytoeklekjhaigoaa.M1 Go.Proofs.Ytoeklekjhaigoaa.M2 Go.Proofs.Ytoeklekjhaigoaa.QCond Go.Proofs.Ytoeklekjhaigoaa.QMean Go.Proofs.Ytoeklekjhaigoaa.QOne Go.Proofs.Ytoeklekjhaigoaa.HMany Go.Proofs.Ytoeklekjhaigoaa.HCount Go.Proofs.Ytoeklekjhaigoaa.HMean Go.Proofs.Ytoeklekjhaigoaa.QHolds Go.Proofs.Ytoeklekjhaigoaa.HKit Go.Proofs.Ytoeklekjhaigoaa.K49
set_option linter.unusedVariables false
set_option linter.unusedSimpArgs false
set_option maxRecDepth 100000
attribute [local go_sem] max2_int min2_int max_two min_two
set_option maxHeartbeats 16000000 in
theorem all_tf (c d : S46) (x : S49) (A A2 : Option Addr) (n n2 : Nat) (w : World) (hC : Kd.C k46 w A c.f1.length c.f1) (hn : c.f1.length ≤ n) (hD : Kd.C k46 w A2 d.f1.length d.f1) (hn2 : d.f1.length ≤ n2) (hrc : rightB c = true) (hrd : rightB d = true) (hcb : ¬ 30 < nodes c) (hdb : ¬ 30 < nodes d) (hp : semB x c = true) (hq : semB x d = false) :
    Calls Try.prog 12 #[.agg #[.int .i64 c.f0, .slice A c.f1.length n, .int .i64 c.f2, .int .u64 c.f3, .string c.f4, .int .u64 c.f5], .agg #[.int .i64 d.f0, .slice A2 d.f1.length n2, .int .i64 d.f2, .int .u64 d.f3, .string d.f4, .int .u64 d.f5], .agg #[.int .u32 x.f0, .int .u32 x.f1, .int .u64 x.f2, .int .u64 x.f3.f0, .int .u64 x.f3.f1, .int .u64 x.f3.f2, .int .u64 x.f3.f3, .int .u64 x.f3.f4, .int .u64 x.f3.f5]] w fun e w' => e = .returned (.bool true) ∧ Below w.heap.size w w' := by
  have hu46 := Try.underlying46
  have hu49 := Try.underlying49
  have hmf : ∀ (fn : Fn) (first cap : Array Value) (w : World), (Instr.makeFunc fn first cap).run Try.prog w = .ok (.func fn first cap) w := fun _ _ _ _ => rfl
  have s1 : (w.alloc (.cells #[.int .i64 c.f0, .slice A c.f1.length n, .int .i64 c.f2, .int .u64 c.f3, .string c.f4, .int .u64 c.f5] 46)).heap.size = w.heap.size + 1 := by simp
  have s2 : ((w.alloc (.cells #[.int .i64 c.f0, .slice A c.f1.length n, .int .i64 c.f2, .int .u64 c.f3, .string c.f4, .int .u64 c.f5] 46)).alloc (.cells #[.int .i64 d.f0, .slice A2 d.f1.length n2, .int .i64 d.f2, .int .u64 d.f3, .string d.f4, .int .u64 d.f5] 46)).heap.size = w.heap.size + 1 + 1 := by simp
  have HC := amk (((Bx.new w hC hn).alloc (.cells #[.int .i64 d.f0, .slice A2 d.f1.length n2, .int .i64 d.f2, .int .u64 d.f3, .string d.f4, .int .u64 d.f5] 46)).alloc (.cells #[.int .u32 x.f0, .int .u32 x.f1, .int .u64 x.f2, .int .u64 x.f3.f0, .int .u64 x.f3.f1, .int .u64 x.f3.f2, .int .u64 x.f3.f3, .int .u64 x.f3.f4, .int .u64 x.f3.f5] 49))
  have HD0 := (Bx.new (w.alloc (.cells #[.int .i64 c.f0, .slice A c.f1.length n, .int .i64 c.f2, .int .u64 c.f3, .string c.f4, .int .u64 c.f5] 46)) (Kd.C_below hD (bal (Below.refl _ _) _)) hn2).alloc (.cells #[.int .u32 x.f0, .int .u32 x.f1, .int .u64 x.f2, .int .u64 x.f3.f0, .int .u64 x.f3.f1, .int .u64 x.f3.f2, .int .u64 x.f3.f3, .int .u64 x.f3.f4, .int .u64 x.f3.f5] 49)
  rw [s1] at HD0
  have HD := amk HD0
  have HX0 := Xx.new ((w.alloc (.cells #[.int .i64 c.f0, .slice A c.f1.length n, .int .i64 c.f2, .int .u64 c.f3, .string c.f4, .int .u64 c.f5] 46)).alloc (.cells #[.int .i64 d.f0, .slice A2 d.f1.length n2, .int .i64 d.f2, .int .u64 d.f3, .string d.f4, .int .u64 d.f5] 46)) x
  rw [s2] at HX0
  have HX := amk HX0
  have HB := amk (bal (bal (bal (Below.refl w.heap.size w) (.cells #[.int .i64 c.f0, .slice A c.f1.length n, .int .i64 c.f2, .int .u64 c.f3, .string c.f4, .int .u64 c.f5] 46)) (.cells #[.int .i64 d.f0, .slice A2 d.f1.length n2, .int .i64 d.f2, .int .u64 d.f3, .string d.f4, .int .u64 d.f5] 46)) (.cells #[.int .u32 x.f0, .int .u32 x.f1, .int .u64 x.f2, .int .u64 x.f3.f0, .int .u64 x.f3.f1, .int .u64 x.f3.f2, .int .u64 x.f3.f3, .int .u64 x.f3.f4, .int .u64 x.f3.f5] 49))
  have HBIG := amk (show ∀ c : S46, rightB c = false ∨ 30 < nodes c ∨ (rightB c = true ∧ fitsB c = true ∧ nodes c ≤ 30) from fun c => by
    by_cases h : rightB c = true
    · by_cases g : nodes c ≤ 30
      · exact Or.inr (Or.inr ⟨h, (right_fits h).1, g⟩)
      · exact Or.inr (Or.inl (by omega))
    · exact Or.inl (by simpa using h))
  have HS := amk (fun (W' : World) (h : Bx W' w.heap.size c A n) (g : Bx W' (w.heap.size + 1) d A2 n2) (k : Xx W' (w.heap.size + 1 + 1) x) => s21 h g k)
  have HS12 := amk (fun (W' : World) (h : Bx W' w.heap.size c A n) (g : Bx W' (w.heap.size + 1) d A2 n2) => s12 h g)
  have HM1 := amk (fun (W : World) (h : Kd.C k46 W A c.f1.length c.f1) => many_w h hn 30 (by omega) (by omega))
  have HM2 := amk (fun (W : World) (h : Kd.C k46 W A2 d.f1.length d.f1) => many_w h hn2 30 (by omega) (by omega))
  have HR1 := amk (fun (W : World) (h : Kd.C k46 W A c.f1.length c.f1) => right_w h hn)
  have HR2 := amk (fun (W : World) (h : Kd.C k46 W A2 d.f1.length d.f1) => right_w h hn2)
  have HA := amk alive_w
  clear s1 s2 HD0 HX0 hC hD
  go_enter Try.func12, Try.ntmps12
  go_upto_region 1 with (fail)
  generalize ((w.alloc (.cells #[.int .i64 c.f0, .slice A c.f1.length n, .int .i64 c.f2, .int .u64 c.f3, .string c.f4, .int .u64 c.f5] 46)).alloc (.cells #[.int .i64 d.f0, .slice A2 d.f1.length n2, .int .i64 d.f2, .int .u64 d.f3, .string d.f4, .int .u64 d.f5] 46)).alloc (.cells #[.int .u32 x.f0, .int .u32 x.f1, .int .u64 x.f2, .int .u64 x.f3.f0, .int .u64 x.f3.f1, .int .u64 x.f3.f2, .int .u64 x.f3.f3, .int .u64 x.f3.f4, .int .u64 x.f3.f5] 49) = W at *
  obtain ⟨k0, k1, k2, k3, k4, k5⟩ := HC.out.six
  obtain ⟨q0, q1, q2, q3, q4, q5⟩ := HD.out.six
  have nc : decide (30 < ((min (nodes c) ((30 : Int).toNat + 1) : Nat) : Int)) = decide (30 < nodes c) := decide_eq_decide.2 (by simp only [Int.reduceToNat]; omega)
  have nd : decide (30 < ((min (nodes d) ((30 : Int).toNat + 1) : Nat) : Int)) = decide (30 < nodes d) := decide_eq_decide.2 (by simp only [Int.reduceToNat]; omega)
  generalize ((min (nodes c) ((30 : Int).toNat + 1) : Nat) : Int) = mc at *
  generalize ((min (nodes d) ((30 : Int).toNat + 1) : Nat) : Int) = md at *
  have e1 : decide (30 < mc) = false := nc.trans (decide_eq_false hcb)
  have e2 : decide (30 < md) = false := nd.trans (decide_eq_false hdb)
  simp only [hrc] at HR1
  simp only [hrd] at HR2
  have hfc := (right_fits hrc).1
  have hfd := (right_fits hrd).1
  have HH1 := amk (fun (W : World) (h : Kd.C k46 W A c.f1.length c.f1) => by have h2 := holds_w x h hn; rw [holds_right hrc] at h2; exact h2)
  have HH2 := amk (fun (W : World) (h : Kd.C k46 W A2 d.f1.length d.f1) => by have h2 := holds_w x h hn2; rw [holds_right hrd] at h2; exact h2)
  have HT := amk (fun (W : World) (h : Bx W w.heap.size c A n) (g : Bx W (w.heap.size + 1) d A2 n2) (k : Xx W (w.heap.size + 1 + 1) x) => by have h2 := two_w 1 h.C hn g.C hn2 k; rw [two_sem (Or.inl rfl) hfc hfd (by omega), if_pos rfl] at h2; exact h2)
  have HT2 := amk (fun (W : World) (h : Bx W w.heap.size c A n) (g : Bx W (w.heap.size + 1) d A2 n2) (k : Xx W (w.heap.size + 1 + 1) x) => by have h2 := two_w 2 h.C hn g.C hn2 k; rw [two_sem (Or.inr rfl) hfc hfd (by omega), if_neg (show ¬ (2 : Int) = 1 by decide)] at h2; exact h2)
  have HT3 := amk (fun (W : World) (h : Bx W w.heap.size c A n) (g : Bx W (w.heap.size + 1) d A2 n2) (k : Xx W (w.heap.size + 1 + 1) x) => by have h2 := two_w 1 h.C hn h.C hn k; rw [two_sem (Or.inl rfl) hfc hfc (by omega), if_pos rfl] at h2; exact h2)
  have HT4 := amk (fun (W : World) (h : Bx W w.heap.size c A n) (g : Bx W (w.heap.size + 1) d A2 n2) (k : Xx W (w.heap.size + 1 + 1) x) => by have h2 := two_w 2 g.C hn2 g.C hn2 k; rw [two_sem (Or.inr rfl) hfd hfd (by omega), if_neg (show ¬ (2 : Int) = 1 by decide)] at h2; exact h2)
  have HT5 := amk (fun (W : World) (h : Bx W w.heap.size c A n) (g : Bx W (w.heap.size + 1) d A2 n2) (k : Xx W (w.heap.size + 1 + 1) x) => by have h2 := two_w 1 g.C hn2 h.C hn k; rw [two_sem (Or.inl rfl) hfd hfc (by omega), if_pos rfl] at h2; exact h2)
  simp only [hp, hq, Bool.and_true, Bool.and_false, Bool.or_true, Bool.or_false] at HH1 HH2 HT HT2 HT3 HT4 HT5
  clear nc nd hcb hdb hrc hrd hfc hfd HBIG hp hq
  go_upto_region 4 with (first | (go_at_call 43; (first | (with_reducible refine (HM1.out _ HC.out.C).mono ?_) | (with_reducible refine (HM2.out _ HD.out.C).mono ?_)); rintro e w1 ⟨rfl, hb1⟩; have HC := amk (HC.out.below hb1); have HD := amk (HD.out.below hb1); have HX := amk (HX.out.below hb1); have HB := amk (below_step HB.out hb1); obtain ⟨k0, k1, k2, k3, k4, k5⟩ := HC.out.six; obtain ⟨q0, q1, q2, q3, q4, q5⟩ := HD.out.six; clear hb1) | (go_at_call 47; (first | (with_reducible refine (HR1.out _ HC.out.C).mono ?_) | (with_reducible refine (HR2.out _ HD.out.C).mono ?_)); rintro e w1 ⟨rfl, hb1⟩; have HC := amk (HC.out.below hb1); have HD := amk (HD.out.below hb1); have HX := amk (HX.out.below hb1); have HB := amk (below_step HB.out hb1); obtain ⟨k0, k1, k2, k3, k4, k5⟩ := HC.out.six; obtain ⟨q0, q1, q2, q3, q4, q5⟩ := HD.out.six; clear hb1))
  have HC := amk HC.out.drew
  have HD := amk HD.out.drew
  have HX := amk HX.out.drew
  have HB := amk (below_drew HB.out)
  go_region_held3 (fun W' : World => W'.cell? ⟨w.heap.size, 0, none⟩ = some (.int .i64 c.f0) ∧ W'.cell? ⟨w.heap.size, 1, none⟩ = some (.slice A c.f1.length n) ∧ W'.cell? ⟨w.heap.size, 2, none⟩ = some (.int .i64 c.f2) ∧ W'.cell? ⟨w.heap.size, 3, none⟩ = some (.int .u64 c.f3) ∧ W'.cell? ⟨w.heap.size, 4, none⟩ = some (.string c.f4) ∧ W'.cell? ⟨w.heap.size, 5, none⟩ = some (.int .u64 c.f5) ∧ W'.cell? ⟨(w.heap.size + 1), 0, none⟩ = some (.int .i64 d.f0) ∧ W'.cell? ⟨(w.heap.size + 1), 1, none⟩ = some (.slice A2 d.f1.length n2) ∧ W'.cell? ⟨(w.heap.size + 1), 2, none⟩ = some (.int .i64 d.f2) ∧ W'.cell? ⟨(w.heap.size + 1), 3, none⟩ = some (.int .u64 d.f3) ∧ W'.cell? ⟨(w.heap.size + 1), 4, none⟩ = some (.string d.f4) ∧ W'.cell? ⟨(w.heap.size + 1), 5, none⟩ = some (.int .u64 d.f5) ∧ W'.cell? ⟨(w.heap.size + 1 + 1), 0, none⟩ = some (.int .u32 x.f0) ∧ W'.cell? ⟨(w.heap.size + 1 + 1), 1, none⟩ = some (.int .u32 x.f1) ∧ W'.cell? ⟨(w.heap.size + 1 + 1), 2, none⟩ = some (.int .u64 x.f2) ∧ W'.cell? ⟨(w.heap.size + 1 + 1), 3, none⟩ = some (.int .u64 x.f3.f0) ∧ W'.cell? ⟨(w.heap.size + 1 + 1), 4, none⟩ = some (.int .u64 x.f3.f1) ∧ W'.cell? ⟨(w.heap.size + 1 + 1), 5, none⟩ = some (.int .u64 x.f3.f2) ∧ W'.cell? ⟨(w.heap.size + 1 + 1), 6, none⟩ = some (.int .u64 x.f3.f3) ∧ W'.cell? ⟨(w.heap.size + 1 + 1), 7, none⟩ = some (.int .u64 x.f3.f4) ∧ W'.cell? ⟨(w.heap.size + 1 + 1), 8, none⟩ = some (.int .u64 x.f3.f5)) (exact HS.out _ HC.out HD.out HX.out) (first | (go_at_call 45; (first | (with_reducible refine (HH1.out _ HC.out.C).mono ?_) | (with_reducible refine (HH2.out _ HD.out.C).mono ?_)); rintro e w1 ⟨rfl, hb1⟩; have HC := amk (HC.out.below hb1); have HD := amk (HD.out.below hb1); have HX := amk (HX.out.below hb1); have HB := amk (below_step HB.out hb1); clear hb1))
  all_goals clear HM1 HM2 HR1 HR2 HH1 HH2 hmf e1 e2 k0 k1 k2 k3 k4 k5 q0 q1 q2 q3 q4 q5
  all_goals go_upto_region 5 with (fail)
  all_goals have HC := amk HC.out.drew
  all_goals have HD := amk HD.out.drew
  all_goals have HX := amk HX.out.drew
  all_goals have HB := amk (below_drew HB.out)
  refine wp_region_held_drew (S := fun W' : World => W'.cell? ⟨w.heap.size, 0, none⟩ = some (.int .i64 c.f0) ∧ W'.cell? ⟨w.heap.size, 1, none⟩ = some (.slice A c.f1.length n) ∧ W'.cell? ⟨w.heap.size, 2, none⟩ = some (.int .i64 c.f2) ∧ W'.cell? ⟨w.heap.size, 3, none⟩ = some (.int .u64 c.f3) ∧ W'.cell? ⟨w.heap.size, 4, none⟩ = some (.string c.f4) ∧ W'.cell? ⟨w.heap.size, 5, none⟩ = some (.int .u64 c.f5) ∧ W'.cell? ⟨(w.heap.size + 1), 0, none⟩ = some (.int .i64 d.f0) ∧ W'.cell? ⟨(w.heap.size + 1), 1, none⟩ = some (.slice A2 d.f1.length n2) ∧ W'.cell? ⟨(w.heap.size + 1), 2, none⟩ = some (.int .i64 d.f2) ∧ W'.cell? ⟨(w.heap.size + 1), 3, none⟩ = some (.int .u64 d.f3) ∧ W'.cell? ⟨(w.heap.size + 1), 4, none⟩ = some (.string d.f4) ∧ W'.cell? ⟨(w.heap.size + 1), 5, none⟩ = some (.int .u64 d.f5)) (by kernel_rfl) ?hS0 (fun hH => ?rest0)
  case hS0 => exact HS12.out _ HC.out HD.out
  refine wpAnyH_ready (rs := [0]) (by kernel_rfl) (by simp) ?_
  refine AllReadyH.cons (o := { dst := some 36, op := Go.Op.call { callee := Go.Callee.value (Go.Operand.func 44), args := #[], argTypes := #[] }, type := 4, pos := "law.go:96", after := #[], guard := none }) rfl (fun K hK => ?_) AllReadyH.nil
  go_simp
  first | (go_at_call 44; (with_reducible refine (HA.out _).mono ?_); rintro e w1 ⟨rfl, hb1⟩; have HC := amk (HC.out.below hb1); have HD := amk (HD.out.below hb1); have HX := amk (HX.out.below hb1); have HB := amk (below_step HB.out hb1); clear hb1) | (go_at_call 52; (first | (with_reducible refine (HT.out _ HC.out HD.out HX.out).mono ?_) | (with_reducible refine (HT2.out _ HC.out HD.out HX.out).mono ?_) | (with_reducible refine (HT3.out _ HC.out HD.out HX.out).mono ?_) | (with_reducible refine (HT4.out _ HC.out HD.out HX.out).mono ?_) | (with_reducible refine (HT5.out _ HC.out HD.out HX.out).mono ?_)); rintro e w1 ⟨rfl, hb1⟩; have HC := amk (HC.out.below hb1); have HD := amk (HD.out.below hb1); have HX := amk (HX.out.below hb1); have HB := amk (below_step HB.out hb1); clear hb1)
  refine hK.out _ _ ?hS1 (fun hH2 => ?rest1)
  case hS1 => exact HS12.out _ HC.out HD.out
  clear hK K hH
  have hH := hH2
  clear hH2
  try simp only [Act.put, List.setIfInBounds_toArray, List.set_cons_zero, List.set_cons_succ]
  refine wpAnyH_take (i := 1) (oi := { dst := some 37, op := Go.Op.move (Go.Operand.tmp 36), type := 4, pos := "law.go:96", after := #[{ on := 0, ground := Go.Ground.data }, { on := 0, ground := Go.Ground.chain }], guard := none }) (v := ?v2) rfl (by kernel_rfl) (by kernel_rfl) (by kernel_rfl) (fun _ _ _ h => h) (Or.inl ⟨by rfl, ?hy2⟩) (by assumption) ?rest2
  case hy2 => (intro w hSw; (try dsimp only at hSw); go_simp <;> with_reducible rfl)
  try simp only [Act.put, List.setIfInBounds_toArray, List.set_cons_zero, List.set_cons_succ]
  refine wpAnyH_take (i := 2) (oi := { dst := some 38, op := Go.Op.move (Go.Operand.tmp 7), type := 66, pos := "law.go:96", after := #[{ on := 1, ground := Go.Ground.guard }], guard := some (1, true) }) (v := ?v3) rfl (by kernel_rfl) (by kernel_rfl) (by kernel_rfl) (fun _ _ _ h => h) (Or.inl ⟨by rfl, ?hy3⟩) (by assumption) ?rest3
  case hy3 => (intro w hSw; (try dsimp only at hSw); go_simp <;> with_reducible rfl)
  try simp only [Act.put, List.setIfInBounds_toArray, List.set_cons_zero, List.set_cons_succ]
  refine wpAnyH_take (i := 3) (oi := { dst := some 39, op := Go.Op.load 46 (Go.Operand.tmp 3), type := 46, pos := "law.go:96", after := #[{ on := 1, ground := Go.Ground.guard }], guard := some (1, true) }) (v := ?v4) rfl (by kernel_rfl) (by kernel_rfl) (by kernel_rfl) (fun _ _ _ h => h) (Or.inl ⟨by rfl, ?hy4⟩) (by assumption) ?rest4
  case hy4 => (intro w hSw; (try dsimp only at hSw); go_simp <;> with_reducible rfl)
  try simp only [Act.put, List.setIfInBounds_toArray, List.set_cons_zero, List.set_cons_succ]
  refine wpAnyH_take (i := 4) (oi := { dst := some 40, op := Go.Op.load 46 (Go.Operand.tmp 4), type := 46, pos := "law.go:96", after := #[{ on := 1, ground := Go.Ground.guard }], guard := some (1, true) }) (v := ?v5) rfl (by kernel_rfl) (by kernel_rfl) (by kernel_rfl) (fun _ _ _ h => h) (Or.inl ⟨by rfl, ?hy5⟩) (by assumption) ?rest5
  case hy5 => (intro w hSw; (try dsimp only at hSw); go_simp <;> with_reducible rfl)
  try simp only [Act.put, List.setIfInBounds_toArray, List.set_cons_zero, List.set_cons_succ]
  refine wpAnyH_take (i := 6) (oi := { dst := some 42, op := Go.Op.move (Go.Operand.tmp 8), type := 4, pos := "law.go:96", after := #[{ on := 1, ground := Go.Ground.guard }], guard := some (1, true) }) (v := ?v6) rfl (by kernel_rfl) (by kernel_rfl) (by kernel_rfl) (fun _ _ _ h => h) (Or.inl ⟨by rfl, ?hy6⟩) (by assumption) ?rest6
  case hy6 => (intro w hSw; (try dsimp only at hSw); go_simp <;> with_reducible rfl)
  try simp only [Act.put, List.setIfInBounds_toArray, List.set_cons_zero, List.set_cons_succ]
  refine wpAnyH_ready (rs := [5]) (by kernel_rfl) (by simp) ?_
  refine AllReadyH.cons (o := { dst := some 41, op := Go.Op.call { callee := Go.Callee.value (Go.Operand.tmp 38), args := #[Go.Operand.const (Go.Value.int Go.IntKind.i64 1), Go.Operand.tmp 39, Go.Operand.tmp 40], argTypes := #[3, 46, 46] }, type := 4, pos := "law.go:96", after := #[{ on := 2, ground := Go.Ground.data }, { on := 3, ground := Go.Ground.data }, { on := 4, ground := Go.Ground.data }, { on := 1, ground := Go.Ground.chain }, { on := 1, ground := Go.Ground.guard }], guard := some (1, true) }) rfl (fun K hK => ?_) AllReadyH.nil
  go_simp
  first | (go_at_call 44; (with_reducible refine (HA.out _).mono ?_); rintro e w1 ⟨rfl, hb1⟩; have HC := amk (HC.out.below hb1); have HD := amk (HD.out.below hb1); have HX := amk (HX.out.below hb1); have HB := amk (below_step HB.out hb1); clear hb1) | (go_at_call 52; (first | (with_reducible refine (HT.out _ HC.out HD.out HX.out).mono ?_) | (with_reducible refine (HT2.out _ HC.out HD.out HX.out).mono ?_) | (with_reducible refine (HT3.out _ HC.out HD.out HX.out).mono ?_) | (with_reducible refine (HT4.out _ HC.out HD.out HX.out).mono ?_) | (with_reducible refine (HT5.out _ HC.out HD.out HX.out).mono ?_)); rintro e w1 ⟨rfl, hb1⟩; have HC := amk (HC.out.below hb1); have HD := amk (HD.out.below hb1); have HX := amk (HX.out.below hb1); have HB := amk (below_step HB.out hb1); clear hb1)
  refine hK.out _ _ ?hS7 (fun hH2 => ?rest7)
  case hS7 => exact HS12.out _ HC.out HD.out
  clear hK K hH
  have hH := hH2
  clear hH2
  try simp only [Act.put, List.setIfInBounds_toArray, List.set_cons_zero, List.set_cons_succ]
  refine wpAnyH_take (i := 7) (oi := { dst := some 43, op := Go.Op.move (Go.Operand.tmp 42), type := 4, pos := "law.go:96", after := #[{ on := 6, ground := Go.Ground.data }, { on := 5, ground := Go.Ground.chain }, { on := 1, ground := Go.Ground.guard }], guard := some (1, true) }) (v := ?v8) rfl (by kernel_rfl) (by kernel_rfl) (by kernel_rfl) (fun _ _ _ h => h) (Or.inl ⟨by rfl, ?hy8⟩) (by assumption) ?rest8
  case hy8 => (intro w hSw; (try dsimp only at hSw); go_simp <;> with_reducible rfl)
  try simp only [Act.put, List.setIfInBounds_toArray, List.set_cons_zero, List.set_cons_succ]
  refine wpAnyH_take (i := 8) (oi := { dst := some 44, op := Go.Op.move (Go.Operand.tmp 9), type := 4, pos := "law.go:96", after := #[{ on := 7, ground := Go.Ground.guard }], guard := some (7, true) }) (v := ?v9) rfl (by kernel_rfl) (by kernel_rfl) (by kernel_rfl) (fun _ _ _ h => h) (Or.inl ⟨by rfl, ?hy9⟩) (by assumption) ?rest9
  case hy9 => (intro w hSw; (try dsimp only at hSw); go_simp <;> with_reducible rfl)
  try simp only [Act.put, List.setIfInBounds_toArray, List.set_cons_zero, List.set_cons_succ]
  refine wpAnyH_take (i := 9) (oi := { dst := some 45, op := Go.Op.pick (Go.Operand.tmp 43) (Go.Operand.tmp 44) (Go.Operand.const (Go.Value.bool false)), type := 4, pos := "law.go:96", after := #[{ on := 7, ground := Go.Ground.data }, { on := 8, ground := Go.Ground.data }, { on := 1, ground := Go.Ground.guard }], guard := some (1, true) }) (v := ?v10) rfl (by kernel_rfl) (by kernel_rfl) (by kernel_rfl) (fun _ _ _ h => h) (Or.inl ⟨by rfl, ?hy10⟩) (by assumption) ?rest10
  case hy10 => (intro w hSw; (try dsimp only at hSw); go_simp <;> with_reducible rfl)
  try simp only [Act.put, List.setIfInBounds_toArray, List.set_cons_zero, List.set_cons_succ]
  refine wpAnyH_take (i := 10) (oi := { dst := some 46, op := Go.Op.binOp Go.BinOp.eql 4 (Go.Operand.tmp 41) (Go.Operand.tmp 45) 4, type := 4, pos := "law.go:96", after := #[{ on := 5, ground := Go.Ground.data }, { on := 9, ground := Go.Ground.data }, { on := 1, ground := Go.Ground.guard }], guard := some (1, true) }) (v := ?v11) rfl (by kernel_rfl) (by kernel_rfl) (by kernel_rfl) (fun _ _ _ h => h) (Or.inl ⟨by rfl, ?hy11⟩) (by assumption) ?rest11
  case hy11 => (intro w hSw; (try dsimp only at hSw); go_simp <;> with_reducible rfl)
  try simp only [Act.put, List.setIfInBounds_toArray, List.set_cons_zero, List.set_cons_succ]
  refine wpAnyH_take (i := 11) (oi := { dst := some 47, op := Go.Op.pick (Go.Operand.tmp 37) (Go.Operand.tmp 46) (Go.Operand.const (Go.Value.bool false)), type := 4, pos := "law.go:96", after := #[{ on := 1, ground := Go.Ground.data }, { on := 10, ground := Go.Ground.data }], guard := none }) (v := ?v12) rfl (by kernel_rfl) (by kernel_rfl) (by kernel_rfl) (fun _ _ _ h => h) (Or.inl ⟨by rfl, ?hy12⟩) (by assumption) ?rest12
  case hy12 => (intro w hSw; (try dsimp only at hSw); go_simp <;> with_reducible rfl)
  try simp only [Act.put, List.setIfInBounds_toArray, List.set_cons_zero, List.set_cons_succ]
  refine wpAnyH_take (i := 12) (oi := { dst := some 48, op := Go.Op.move (Go.Operand.tmp 47), type := 4, pos := "law.go:96", after := #[{ on := 11, ground := Go.Ground.data }, { on := 7, ground := Go.Ground.chain }], guard := none }) (v := ?v13) rfl (by kernel_rfl) (by kernel_rfl) (by kernel_rfl) (fun _ _ _ h => h) (Or.inl ⟨by rfl, ?hy13⟩) (by assumption) ?rest13
  case hy13 => (intro w hSw; (try dsimp only at hSw); go_simp <;> with_reducible rfl)
  try simp only [Act.put, List.setIfInBounds_toArray, List.set_cons_zero, List.set_cons_succ]
  refine wpAnyH_take (i := 13) (oi := { dst := some 49, op := Go.Op.move (Go.Operand.tmp 7), type := 66, pos := "law.go:96", after := #[{ on := 12, ground := Go.Ground.guard }], guard := some (12, true) }) (v := ?v14) rfl (by kernel_rfl) (by kernel_rfl) (by kernel_rfl) (fun _ _ _ h => h) (Or.inl ⟨by rfl, ?hy14⟩) (by assumption) ?rest14
  case hy14 => (intro w hSw; (try dsimp only at hSw); go_simp <;> with_reducible rfl)
  try simp only [Act.put, List.setIfInBounds_toArray, List.set_cons_zero, List.set_cons_succ]
  refine wpAnyH_take (i := 14) (oi := { dst := some 50, op := Go.Op.load 46 (Go.Operand.tmp 3), type := 46, pos := "law.go:96", after := #[{ on := 12, ground := Go.Ground.guard }], guard := some (12, true) }) (v := ?v15) rfl (by kernel_rfl) (by kernel_rfl) (by kernel_rfl) (fun _ _ _ h => h) (Or.inl ⟨by rfl, ?hy15⟩) (by assumption) ?rest15
  case hy15 => (intro w hSw; (try dsimp only at hSw); go_simp <;> with_reducible rfl)
  try simp only [Act.put, List.setIfInBounds_toArray, List.set_cons_zero, List.set_cons_succ]
  refine wpAnyH_take (i := 15) (oi := { dst := some 51, op := Go.Op.load 46 (Go.Operand.tmp 4), type := 46, pos := "law.go:96", after := #[{ on := 12, ground := Go.Ground.guard }], guard := some (12, true) }) (v := ?v16) rfl (by kernel_rfl) (by kernel_rfl) (by kernel_rfl) (fun _ _ _ h => h) (Or.inl ⟨by rfl, ?hy16⟩) (by assumption) ?rest16
  case hy16 => (intro w hSw; (try dsimp only at hSw); go_simp <;> with_reducible rfl)
  try simp only [Act.put, List.setIfInBounds_toArray, List.set_cons_zero, List.set_cons_succ]
  refine wpAnyH_take (i := 17) (oi := { dst := some 53, op := Go.Op.move (Go.Operand.tmp 8), type := 4, pos := "law.go:96", after := #[{ on := 12, ground := Go.Ground.guard }], guard := some (12, true) }) (v := ?v17) rfl (by kernel_rfl) (by kernel_rfl) (by kernel_rfl) (fun _ _ _ h => h) (Or.inl ⟨by rfl, ?hy17⟩) (by assumption) ?rest17
  case hy17 => (intro w hSw; (try dsimp only at hSw); go_simp <;> with_reducible rfl)
  try simp only [Act.put, List.setIfInBounds_toArray, List.set_cons_zero, List.set_cons_succ]
  refine wpAnyH_ready (rs := [16]) (by kernel_rfl) (by simp) ?_
  refine AllReadyH.cons (o := { dst := some 52, op := Go.Op.call { callee := Go.Callee.value (Go.Operand.tmp 49), args := #[Go.Operand.const (Go.Value.int Go.IntKind.i64 2), Go.Operand.tmp 50, Go.Operand.tmp 51], argTypes := #[3, 46, 46] }, type := 4, pos := "law.go:96", after := #[{ on := 13, ground := Go.Ground.data }, { on := 14, ground := Go.Ground.data }, { on := 15, ground := Go.Ground.data }, { on := 12, ground := Go.Ground.chain }, { on := 12, ground := Go.Ground.guard }], guard := some (12, true) }) rfl (fun K hK => ?_) AllReadyH.nil
  go_simp
  first | (go_at_call 44; (with_reducible refine (HA.out _).mono ?_); rintro e w1 ⟨rfl, hb1⟩; have HC := amk (HC.out.below hb1); have HD := amk (HD.out.below hb1); have HX := amk (HX.out.below hb1); have HB := amk (below_step HB.out hb1); clear hb1) | (go_at_call 52; (first | (with_reducible refine (HT.out _ HC.out HD.out HX.out).mono ?_) | (with_reducible refine (HT2.out _ HC.out HD.out HX.out).mono ?_) | (with_reducible refine (HT3.out _ HC.out HD.out HX.out).mono ?_) | (with_reducible refine (HT4.out _ HC.out HD.out HX.out).mono ?_) | (with_reducible refine (HT5.out _ HC.out HD.out HX.out).mono ?_)); rintro e w1 ⟨rfl, hb1⟩; have HC := amk (HC.out.below hb1); have HD := amk (HD.out.below hb1); have HX := amk (HX.out.below hb1); have HB := amk (below_step HB.out hb1); clear hb1)
  refine hK.out _ _ ?hS18 (fun hH2 => ?rest18)
  case hS18 => exact HS12.out _ HC.out HD.out
  clear hK K hH
  have hH := hH2
  clear hH2
  try simp only [Act.put, List.setIfInBounds_toArray, List.set_cons_zero, List.set_cons_succ]
  refine wpAnyH_take (i := 18) (oi := { dst := some 54, op := Go.Op.move (Go.Operand.tmp 53), type := 4, pos := "law.go:96", after := #[{ on := 17, ground := Go.Ground.data }, { on := 16, ground := Go.Ground.chain }, { on := 12, ground := Go.Ground.guard }], guard := some (12, true) }) (v := ?v19) rfl (by kernel_rfl) (by kernel_rfl) (by kernel_rfl) (fun _ _ _ h => h) (Or.inl ⟨by rfl, ?hy19⟩) (by assumption) ?rest19
  case hy19 => (intro w hSw; (try dsimp only at hSw); go_simp <;> with_reducible rfl)
  try simp only [Act.put, List.setIfInBounds_toArray, List.set_cons_zero, List.set_cons_succ]
  refine wpAnyH_take (i := 19) (oi := { dst := some 55, op := Go.Op.move (Go.Operand.tmp 9), type := 4, pos := "law.go:96", after := #[{ on := 18, ground := Go.Ground.guard }], guard := some (18, false) }) (v := undef) rfl (by kernel_rfl) (by kernel_rfl) (by kernel_rfl) (fun _ _ _ h => h) (Or.inr ⟨by rfl, rfl⟩) (by assumption) ?_
  try simp only [Act.put, List.setIfInBounds_toArray, List.set_cons_zero, List.set_cons_succ]
  refine wpAnyH_take (i := 20) (oi := { dst := some 56, op := Go.Op.pick (Go.Operand.tmp 54) (Go.Operand.const (Go.Value.bool true)) (Go.Operand.tmp 55), type := 4, pos := "law.go:96", after := #[{ on := 18, ground := Go.Ground.data }, { on := 19, ground := Go.Ground.data }, { on := 12, ground := Go.Ground.guard }], guard := some (12, true) }) (v := ?v21) rfl (by kernel_rfl) (by kernel_rfl) (by kernel_rfl) (fun _ _ _ h => h) (Or.inl ⟨by rfl, ?hy21⟩) (by assumption) ?rest21
  case hy21 => (intro w hSw; (try dsimp only at hSw); go_simp <;> with_reducible rfl)
  try simp only [Act.put, List.setIfInBounds_toArray, List.set_cons_zero, List.set_cons_succ]
  refine wpAnyH_take (i := 21) (oi := { dst := some 57, op := Go.Op.binOp Go.BinOp.eql 4 (Go.Operand.tmp 52) (Go.Operand.tmp 56) 4, type := 4, pos := "law.go:96", after := #[{ on := 16, ground := Go.Ground.data }, { on := 20, ground := Go.Ground.data }, { on := 12, ground := Go.Ground.guard }], guard := some (12, true) }) (v := ?v22) rfl (by kernel_rfl) (by kernel_rfl) (by kernel_rfl) (fun _ _ _ h => h) (Or.inl ⟨by rfl, ?hy22⟩) (by assumption) ?rest22
  case hy22 => (intro w hSw; (try dsimp only at hSw); go_simp <;> with_reducible rfl)
  try simp only [Act.put, List.setIfInBounds_toArray, List.set_cons_zero, List.set_cons_succ]
  refine wpAnyH_take (i := 22) (oi := { dst := some 58, op := Go.Op.pick (Go.Operand.tmp 48) (Go.Operand.tmp 57) (Go.Operand.const (Go.Value.bool false)), type := 4, pos := "law.go:96", after := #[{ on := 12, ground := Go.Ground.data }, { on := 21, ground := Go.Ground.data }], guard := none }) (v := ?v23) rfl (by kernel_rfl) (by kernel_rfl) (by kernel_rfl) (fun _ _ _ h => h) (Or.inl ⟨by rfl, ?hy23⟩) (by assumption) ?rest23
  case hy23 => (intro w hSw; (try dsimp only at hSw); go_simp <;> with_reducible rfl)
  try simp only [Act.put, List.setIfInBounds_toArray, List.set_cons_zero, List.set_cons_succ]
  refine wpAnyH_take (i := 23) (oi := { dst := some 59, op := Go.Op.move (Go.Operand.tmp 58), type := 4, pos := "law.go:96", after := #[{ on := 22, ground := Go.Ground.data }, { on := 18, ground := Go.Ground.chain }], guard := none }) (v := ?v24) rfl (by kernel_rfl) (by kernel_rfl) (by kernel_rfl) (fun _ _ _ h => h) (Or.inl ⟨by rfl, ?hy24⟩) (by assumption) ?rest24
  case hy24 => (intro w hSw; (try dsimp only at hSw); go_simp <;> with_reducible rfl)
  try simp only [Act.put, List.setIfInBounds_toArray, List.set_cons_zero, List.set_cons_succ]
  refine wpAnyH_take (i := 24) (oi := { dst := some 60, op := Go.Op.move (Go.Operand.tmp 7), type := 66, pos := "law.go:96", after := #[{ on := 23, ground := Go.Ground.guard }], guard := some (23, true) }) (v := ?v25) rfl (by kernel_rfl) (by kernel_rfl) (by kernel_rfl) (fun _ _ _ h => h) (Or.inl ⟨by rfl, ?hy25⟩) (by assumption) ?rest25
  case hy25 => (intro w hSw; (try dsimp only at hSw); go_simp <;> with_reducible rfl)
  try simp only [Act.put, List.setIfInBounds_toArray, List.set_cons_zero, List.set_cons_succ]
  refine wpAnyH_take (i := 25) (oi := { dst := some 61, op := Go.Op.load 46 (Go.Operand.tmp 3), type := 46, pos := "law.go:96", after := #[{ on := 23, ground := Go.Ground.guard }], guard := some (23, true) }) (v := ?v26) rfl (by kernel_rfl) (by kernel_rfl) (by kernel_rfl) (fun _ _ _ h => h) (Or.inl ⟨by rfl, ?hy26⟩) (by assumption) ?rest26
  case hy26 => (intro w hSw; (try dsimp only at hSw); go_simp <;> with_reducible rfl)
  try simp only [Act.put, List.setIfInBounds_toArray, List.set_cons_zero, List.set_cons_succ]
  refine wpAnyH_take (i := 26) (oi := { dst := some 62, op := Go.Op.load 46 (Go.Operand.tmp 3), type := 46, pos := "law.go:96", after := #[{ on := 23, ground := Go.Ground.guard }], guard := some (23, true) }) (v := ?v27) rfl (by kernel_rfl) (by kernel_rfl) (by kernel_rfl) (fun _ _ _ h => h) (Or.inl ⟨by rfl, ?hy27⟩) (by assumption) ?rest27
  case hy27 => (intro w hSw; (try dsimp only at hSw); go_simp <;> with_reducible rfl)
  try simp only [Act.put, List.setIfInBounds_toArray, List.set_cons_zero, List.set_cons_succ]
  refine wpAnyH_take (i := 28) (oi := { dst := some 64, op := Go.Op.move (Go.Operand.tmp 8), type := 4, pos := "law.go:96", after := #[{ on := 23, ground := Go.Ground.guard }], guard := some (23, true) }) (v := ?v28) rfl (by kernel_rfl) (by kernel_rfl) (by kernel_rfl) (fun _ _ _ h => h) (Or.inl ⟨by rfl, ?hy28⟩) (by assumption) ?rest28
  case hy28 => (intro w hSw; (try dsimp only at hSw); go_simp <;> with_reducible rfl)
  try simp only [Act.put, List.setIfInBounds_toArray, List.set_cons_zero, List.set_cons_succ]
  refine wpAnyH_ready (rs := [27]) (by kernel_rfl) (by simp) ?_
  refine AllReadyH.cons (o := { dst := some 63, op := Go.Op.call { callee := Go.Callee.value (Go.Operand.tmp 60), args := #[Go.Operand.const (Go.Value.int Go.IntKind.i64 1), Go.Operand.tmp 61, Go.Operand.tmp 62], argTypes := #[3, 46, 46] }, type := 4, pos := "law.go:96", after := #[{ on := 24, ground := Go.Ground.data }, { on := 25, ground := Go.Ground.data }, { on := 26, ground := Go.Ground.data }, { on := 23, ground := Go.Ground.chain }, { on := 23, ground := Go.Ground.guard }], guard := some (23, true) }) rfl (fun K hK => ?_) AllReadyH.nil
  go_simp
  first | (go_at_call 44; (with_reducible refine (HA.out _).mono ?_); rintro e w1 ⟨rfl, hb1⟩; have HC := amk (HC.out.below hb1); have HD := amk (HD.out.below hb1); have HX := amk (HX.out.below hb1); have HB := amk (below_step HB.out hb1); clear hb1) | (go_at_call 52; (first | (with_reducible refine (HT.out _ HC.out HD.out HX.out).mono ?_) | (with_reducible refine (HT2.out _ HC.out HD.out HX.out).mono ?_) | (with_reducible refine (HT3.out _ HC.out HD.out HX.out).mono ?_) | (with_reducible refine (HT4.out _ HC.out HD.out HX.out).mono ?_) | (with_reducible refine (HT5.out _ HC.out HD.out HX.out).mono ?_)); rintro e w1 ⟨rfl, hb1⟩; have HC := amk (HC.out.below hb1); have HD := amk (HD.out.below hb1); have HX := amk (HX.out.below hb1); have HB := amk (below_step HB.out hb1); clear hb1)
  refine hK.out _ _ ?hS29 (fun hH2 => ?rest29)
  case hS29 => exact HS12.out _ HC.out HD.out
  clear hK K hH
  have hH := hH2
  clear hH2
  try simp only [Act.put, List.setIfInBounds_toArray, List.set_cons_zero, List.set_cons_succ]
  refine wpAnyH_take (i := 29) (oi := { dst := some 65, op := Go.Op.binOp Go.BinOp.eql 4 (Go.Operand.tmp 63) (Go.Operand.tmp 64) 4, type := 4, pos := "law.go:96", after := #[{ on := 27, ground := Go.Ground.data }, { on := 28, ground := Go.Ground.data }, { on := 23, ground := Go.Ground.guard }], guard := some (23, true) }) (v := ?v30) rfl (by kernel_rfl) (by kernel_rfl) (by kernel_rfl) (fun _ _ _ h => h) (Or.inl ⟨by rfl, ?hy30⟩) (by assumption) ?rest30
  case hy30 => (intro w hSw; (try dsimp only at hSw); go_simp <;> with_reducible rfl)
  try simp only [Act.put, List.setIfInBounds_toArray, List.set_cons_zero, List.set_cons_succ]
  refine wpAnyH_take (i := 30) (oi := { dst := some 66, op := Go.Op.pick (Go.Operand.tmp 59) (Go.Operand.tmp 65) (Go.Operand.const (Go.Value.bool false)), type := 4, pos := "law.go:96", after := #[{ on := 23, ground := Go.Ground.data }, { on := 29, ground := Go.Ground.data }], guard := none }) (v := ?v31) rfl (by kernel_rfl) (by kernel_rfl) (by kernel_rfl) (fun _ _ _ h => h) (Or.inl ⟨by rfl, ?hy31⟩) (by assumption) ?rest31
  case hy31 => (intro w hSw; (try dsimp only at hSw); go_simp <;> with_reducible rfl)
  try simp only [Act.put, List.setIfInBounds_toArray, List.set_cons_zero, List.set_cons_succ]
  refine wpAnyH_take (i := 31) (oi := { dst := some 67, op := Go.Op.move (Go.Operand.tmp 66), type := 4, pos := "law.go:96", after := #[{ on := 30, ground := Go.Ground.data }, { on := 27, ground := Go.Ground.chain }], guard := none }) (v := ?v32) rfl (by kernel_rfl) (by kernel_rfl) (by kernel_rfl) (fun _ _ _ h => h) (Or.inl ⟨by rfl, ?hy32⟩) (by assumption) ?rest32
  case hy32 => (intro w hSw; (try dsimp only at hSw); go_simp <;> with_reducible rfl)
  try simp only [Act.put, List.setIfInBounds_toArray, List.set_cons_zero, List.set_cons_succ]
  refine wpAnyH_take (i := 32) (oi := { dst := some 68, op := Go.Op.move (Go.Operand.tmp 7), type := 66, pos := "law.go:96", after := #[{ on := 31, ground := Go.Ground.guard }], guard := some (31, true) }) (v := ?v33) rfl (by kernel_rfl) (by kernel_rfl) (by kernel_rfl) (fun _ _ _ h => h) (Or.inl ⟨by rfl, ?hy33⟩) (by assumption) ?rest33
  case hy33 => (intro w hSw; (try dsimp only at hSw); go_simp <;> with_reducible rfl)
  try simp only [Act.put, List.setIfInBounds_toArray, List.set_cons_zero, List.set_cons_succ]
  refine wpAnyH_take (i := 33) (oi := { dst := some 69, op := Go.Op.load 46 (Go.Operand.tmp 4), type := 46, pos := "law.go:96", after := #[{ on := 31, ground := Go.Ground.guard }], guard := some (31, true) }) (v := ?v34) rfl (by kernel_rfl) (by kernel_rfl) (by kernel_rfl) (fun _ _ _ h => h) (Or.inl ⟨by rfl, ?hy34⟩) (by assumption) ?rest34
  case hy34 => (intro w hSw; (try dsimp only at hSw); go_simp <;> with_reducible rfl)
  try simp only [Act.put, List.setIfInBounds_toArray, List.set_cons_zero, List.set_cons_succ]
  refine wpAnyH_take (i := 34) (oi := { dst := some 70, op := Go.Op.load 46 (Go.Operand.tmp 4), type := 46, pos := "law.go:96", after := #[{ on := 31, ground := Go.Ground.guard }], guard := some (31, true) }) (v := ?v35) rfl (by kernel_rfl) (by kernel_rfl) (by kernel_rfl) (fun _ _ _ h => h) (Or.inl ⟨by rfl, ?hy35⟩) (by assumption) ?rest35
  case hy35 => (intro w hSw; (try dsimp only at hSw); go_simp <;> with_reducible rfl)
  try simp only [Act.put, List.setIfInBounds_toArray, List.set_cons_zero, List.set_cons_succ]
  refine wpAnyH_take (i := 36) (oi := { dst := some 72, op := Go.Op.move (Go.Operand.tmp 9), type := 4, pos := "law.go:96", after := #[{ on := 31, ground := Go.Ground.guard }], guard := some (31, true) }) (v := ?v36) rfl (by kernel_rfl) (by kernel_rfl) (by kernel_rfl) (fun _ _ _ h => h) (Or.inl ⟨by rfl, ?hy36⟩) (by assumption) ?rest36
  case hy36 => (intro w hSw; (try dsimp only at hSw); go_simp <;> with_reducible rfl)
  try simp only [Act.put, List.setIfInBounds_toArray, List.set_cons_zero, List.set_cons_succ]
  refine wpAnyH_ready (rs := [35]) (by kernel_rfl) (by simp) ?_
  refine AllReadyH.cons (o := { dst := some 71, op := Go.Op.call { callee := Go.Callee.value (Go.Operand.tmp 68), args := #[Go.Operand.const (Go.Value.int Go.IntKind.i64 2), Go.Operand.tmp 69, Go.Operand.tmp 70], argTypes := #[3, 46, 46] }, type := 4, pos := "law.go:96", after := #[{ on := 32, ground := Go.Ground.data }, { on := 33, ground := Go.Ground.data }, { on := 34, ground := Go.Ground.data }, { on := 31, ground := Go.Ground.chain }, { on := 31, ground := Go.Ground.guard }], guard := some (31, true) }) rfl (fun K hK => ?_) AllReadyH.nil
  go_simp
  first | (go_at_call 44; (with_reducible refine (HA.out _).mono ?_); rintro e w1 ⟨rfl, hb1⟩; have HC := amk (HC.out.below hb1); have HD := amk (HD.out.below hb1); have HX := amk (HX.out.below hb1); have HB := amk (below_step HB.out hb1); clear hb1) | (go_at_call 52; (first | (with_reducible refine (HT.out _ HC.out HD.out HX.out).mono ?_) | (with_reducible refine (HT2.out _ HC.out HD.out HX.out).mono ?_) | (with_reducible refine (HT3.out _ HC.out HD.out HX.out).mono ?_) | (with_reducible refine (HT4.out _ HC.out HD.out HX.out).mono ?_) | (with_reducible refine (HT5.out _ HC.out HD.out HX.out).mono ?_)); rintro e w1 ⟨rfl, hb1⟩; have HC := amk (HC.out.below hb1); have HD := amk (HD.out.below hb1); have HX := amk (HX.out.below hb1); have HB := amk (below_step HB.out hb1); clear hb1)
  refine hK.out _ _ ?hS37 (fun hH2 => ?rest37)
  case hS37 => exact HS12.out _ HC.out HD.out
  clear hK K hH
  have hH := hH2
  clear hH2
  try simp only [Act.put, List.setIfInBounds_toArray, List.set_cons_zero, List.set_cons_succ]
  refine wpAnyH_take (i := 37) (oi := { dst := some 73, op := Go.Op.binOp Go.BinOp.eql 4 (Go.Operand.tmp 71) (Go.Operand.tmp 72) 4, type := 4, pos := "law.go:96", after := #[{ on := 35, ground := Go.Ground.data }, { on := 36, ground := Go.Ground.data }, { on := 31, ground := Go.Ground.guard }], guard := some (31, true) }) (v := ?v38) rfl (by kernel_rfl) (by kernel_rfl) (by kernel_rfl) (fun _ _ _ h => h) (Or.inl ⟨by rfl, ?hy38⟩) (by assumption) ?rest38
  case hy38 => (intro w hSw; (try dsimp only at hSw); go_simp <;> with_reducible rfl)
  try simp only [Act.put, List.setIfInBounds_toArray, List.set_cons_zero, List.set_cons_succ]
  refine wpAnyH_take (i := 38) (oi := { dst := some 74, op := Go.Op.pick (Go.Operand.tmp 67) (Go.Operand.tmp 73) (Go.Operand.const (Go.Value.bool false)), type := 4, pos := "law.go:96", after := #[{ on := 31, ground := Go.Ground.data }, { on := 37, ground := Go.Ground.data }], guard := none }) (v := ?v39) rfl (by kernel_rfl) (by kernel_rfl) (by kernel_rfl) (fun _ _ _ h => h) (Or.inl ⟨by rfl, ?hy39⟩) (by assumption) ?rest39
  case hy39 => (intro w hSw; (try dsimp only at hSw); go_simp <;> with_reducible rfl)
  try simp only [Act.put, List.setIfInBounds_toArray, List.set_cons_zero, List.set_cons_succ]
  refine wpAnyH_take (i := 39) (oi := { dst := some 75, op := Go.Op.move (Go.Operand.tmp 74), type := 4, pos := "law.go:96", after := #[{ on := 38, ground := Go.Ground.data }, { on := 35, ground := Go.Ground.chain }], guard := none }) (v := ?v40) rfl (by kernel_rfl) (by kernel_rfl) (by kernel_rfl) (fun _ _ _ h => h) (Or.inl ⟨by rfl, ?hy40⟩) (by assumption) ?rest40
  case hy40 => (intro w hSw; (try dsimp only at hSw); go_simp <;> with_reducible rfl)
  try simp only [Act.put, List.setIfInBounds_toArray, List.set_cons_zero, List.set_cons_succ]
  refine wpAnyH_take (i := 40) (oi := { dst := some 76, op := Go.Op.move (Go.Operand.tmp 7), type := 66, pos := "law.go:96", after := #[{ on := 39, ground := Go.Ground.guard }], guard := some (39, true) }) (v := ?v41) rfl (by kernel_rfl) (by kernel_rfl) (by kernel_rfl) (fun _ _ _ h => h) (Or.inl ⟨by rfl, ?hy41⟩) (by assumption) ?rest41
  case hy41 => (intro w hSw; (try dsimp only at hSw); go_simp <;> with_reducible rfl)
  try simp only [Act.put, List.setIfInBounds_toArray, List.set_cons_zero, List.set_cons_succ]
  refine wpAnyH_take (i := 41) (oi := { dst := some 77, op := Go.Op.load 46 (Go.Operand.tmp 4), type := 46, pos := "law.go:96", after := #[{ on := 39, ground := Go.Ground.guard }], guard := some (39, true) }) (v := ?v42) rfl (by kernel_rfl) (by kernel_rfl) (by kernel_rfl) (fun _ _ _ h => h) (Or.inl ⟨by rfl, ?hy42⟩) (by assumption) ?rest42
  case hy42 => (intro w hSw; (try dsimp only at hSw); go_simp <;> with_reducible rfl)
  try simp only [Act.put, List.setIfInBounds_toArray, List.set_cons_zero, List.set_cons_succ]
  refine wpAnyH_take (i := 42) (oi := { dst := some 78, op := Go.Op.load 46 (Go.Operand.tmp 3), type := 46, pos := "law.go:96", after := #[{ on := 39, ground := Go.Ground.guard }], guard := some (39, true) }) (v := ?v43) rfl (by kernel_rfl) (by kernel_rfl) (by kernel_rfl) (fun _ _ _ h => h) (Or.inl ⟨by rfl, ?hy43⟩) (by assumption) ?rest43
  case hy43 => (intro w hSw; (try dsimp only at hSw); go_simp <;> with_reducible rfl)
  try simp only [Act.put, List.setIfInBounds_toArray, List.set_cons_zero, List.set_cons_succ]
  refine wpAnyH_take (i := 44) (oi := { dst := some 80, op := Go.Op.move (Go.Operand.tmp 7), type := 66, pos := "law.go:96", after := #[{ on := 39, ground := Go.Ground.guard }], guard := some (39, true) }) (v := ?v44) rfl (by kernel_rfl) (by kernel_rfl) (by kernel_rfl) (fun _ _ _ h => h) (Or.inl ⟨by rfl, ?hy44⟩) (by assumption) ?rest44
  case hy44 => (intro w hSw; (try dsimp only at hSw); go_simp <;> with_reducible rfl)
  try simp only [Act.put, List.setIfInBounds_toArray, List.set_cons_zero, List.set_cons_succ]
  refine wpAnyH_take (i := 45) (oi := { dst := some 81, op := Go.Op.load 46 (Go.Operand.tmp 3), type := 46, pos := "law.go:96", after := #[{ on := 39, ground := Go.Ground.guard }], guard := some (39, true) }) (v := ?v45) rfl (by kernel_rfl) (by kernel_rfl) (by kernel_rfl) (fun _ _ _ h => h) (Or.inl ⟨by rfl, ?hy45⟩) (by assumption) ?rest45
  case hy45 => (intro w hSw; (try dsimp only at hSw); go_simp <;> with_reducible rfl)
  try simp only [Act.put, List.setIfInBounds_toArray, List.set_cons_zero, List.set_cons_succ]
  refine wpAnyH_take (i := 46) (oi := { dst := some 82, op := Go.Op.load 46 (Go.Operand.tmp 4), type := 46, pos := "law.go:96", after := #[{ on := 39, ground := Go.Ground.guard }], guard := some (39, true) }) (v := ?v46) rfl (by kernel_rfl) (by kernel_rfl) (by kernel_rfl) (fun _ _ _ h => h) (Or.inl ⟨by rfl, ?hy46⟩) (by assumption) ?rest46
  case hy46 => (intro w hSw; (try dsimp only at hSw); go_simp <;> with_reducible rfl)
  try simp only [Act.put, List.setIfInBounds_toArray, List.set_cons_zero, List.set_cons_succ]
  refine wpAnyH_ready (rs := [43]) (by kernel_rfl) (by simp) ?_
  refine AllReadyH.cons (o := { dst := some 79, op := Go.Op.call { callee := Go.Callee.value (Go.Operand.tmp 76), args := #[Go.Operand.const (Go.Value.int Go.IntKind.i64 1), Go.Operand.tmp 77, Go.Operand.tmp 78], argTypes := #[3, 46, 46] }, type := 4, pos := "law.go:96", after := #[{ on := 40, ground := Go.Ground.data }, { on := 41, ground := Go.Ground.data }, { on := 42, ground := Go.Ground.data }, { on := 39, ground := Go.Ground.chain }, { on := 39, ground := Go.Ground.guard }], guard := some (39, true) }) rfl (fun K hK => ?_) AllReadyH.nil
  go_simp
  first | (go_at_call 44; (with_reducible refine (HA.out _).mono ?_); rintro e w1 ⟨rfl, hb1⟩; have HC := amk (HC.out.below hb1); have HD := amk (HD.out.below hb1); have HX := amk (HX.out.below hb1); have HB := amk (below_step HB.out hb1); clear hb1) | (go_at_call 52; (first | (with_reducible refine (HT.out _ HC.out HD.out HX.out).mono ?_) | (with_reducible refine (HT2.out _ HC.out HD.out HX.out).mono ?_) | (with_reducible refine (HT3.out _ HC.out HD.out HX.out).mono ?_) | (with_reducible refine (HT4.out _ HC.out HD.out HX.out).mono ?_) | (with_reducible refine (HT5.out _ HC.out HD.out HX.out).mono ?_)); rintro e w1 ⟨rfl, hb1⟩; have HC := amk (HC.out.below hb1); have HD := amk (HD.out.below hb1); have HX := amk (HX.out.below hb1); have HB := amk (below_step HB.out hb1); clear hb1)
  refine hK.out _ _ ?hS47 (fun hH2 => ?rest47)
  case hS47 => exact HS12.out _ HC.out HD.out
  clear hK K hH
  have hH := hH2
  clear hH2
  try simp only [Act.put, List.setIfInBounds_toArray, List.set_cons_zero, List.set_cons_succ]
  refine wpAnyH_ready (rs := [47]) (by kernel_rfl) (by simp) ?_
  refine AllReadyH.cons (o := { dst := some 83, op := Go.Op.call { callee := Go.Callee.value (Go.Operand.tmp 80), args := #[Go.Operand.const (Go.Value.int Go.IntKind.i64 1), Go.Operand.tmp 81, Go.Operand.tmp 82], argTypes := #[3, 46, 46] }, type := 4, pos := "law.go:96", after := #[{ on := 44, ground := Go.Ground.data }, { on := 45, ground := Go.Ground.data }, { on := 46, ground := Go.Ground.data }, { on := 43, ground := Go.Ground.chain }, { on := 39, ground := Go.Ground.guard }], guard := some (39, true) }) rfl (fun K hK => ?_) AllReadyH.nil
  go_simp
  first | (go_at_call 44; (with_reducible refine (HA.out _).mono ?_); rintro e w1 ⟨rfl, hb1⟩; have HC := amk (HC.out.below hb1); have HD := amk (HD.out.below hb1); have HX := amk (HX.out.below hb1); have HB := amk (below_step HB.out hb1); clear hb1) | (go_at_call 52; (first | (with_reducible refine (HT.out _ HC.out HD.out HX.out).mono ?_) | (with_reducible refine (HT2.out _ HC.out HD.out HX.out).mono ?_) | (with_reducible refine (HT3.out _ HC.out HD.out HX.out).mono ?_) | (with_reducible refine (HT4.out _ HC.out HD.out HX.out).mono ?_) | (with_reducible refine (HT5.out _ HC.out HD.out HX.out).mono ?_)); rintro e w1 ⟨rfl, hb1⟩; have HC := amk (HC.out.below hb1); have HD := amk (HD.out.below hb1); have HX := amk (HX.out.below hb1); have HB := amk (below_step HB.out hb1); clear hb1)
  refine hK.out _ _ ?hS48 (fun hH2 => ?rest48)
  case hS48 => exact HS12.out _ HC.out HD.out
  clear hK K hH
  have hH := hH2
  clear hH2
  try simp only [Act.put, List.setIfInBounds_toArray, List.set_cons_zero, List.set_cons_succ]
  refine wpAnyH_take (i := 48) (oi := { dst := some 84, op := Go.Op.binOp Go.BinOp.eql 4 (Go.Operand.tmp 79) (Go.Operand.tmp 83) 4, type := 4, pos := "law.go:96", after := #[{ on := 43, ground := Go.Ground.data }, { on := 47, ground := Go.Ground.data }, { on := 39, ground := Go.Ground.guard }], guard := some (39, true) }) (v := ?v49) rfl (by kernel_rfl) (by kernel_rfl) (by kernel_rfl) (fun _ _ _ h => h) (Or.inl ⟨by rfl, ?hy49⟩) (by assumption) ?rest49
  case hy49 => (intro w hSw; (try dsimp only at hSw); go_simp <;> with_reducible rfl)
  try simp only [Act.put, List.setIfInBounds_toArray, List.set_cons_zero, List.set_cons_succ]
  refine wpAnyH_take (i := 49) (oi := { dst := some 85, op := Go.Op.pick (Go.Operand.tmp 75) (Go.Operand.tmp 84) (Go.Operand.const (Go.Value.bool false)), type := 4, pos := "law.go:96", after := #[{ on := 39, ground := Go.Ground.data }, { on := 48, ground := Go.Ground.data }], guard := none }) (v := ?v50) rfl (by kernel_rfl) (by kernel_rfl) (by kernel_rfl) (fun _ _ _ h => h) (Or.inl ⟨by rfl, ?hy50⟩) (by assumption) ?rest50
  case hy50 => (intro w hSw; (try dsimp only at hSw); go_simp <;> with_reducible rfl)
  try simp only [Act.put, List.setIfInBounds_toArray, List.set_cons_zero, List.set_cons_succ]
  refine wpAnyH_take (i := 50) (oi := { dst := some 6, op := Go.Op.assign (Go.Operand.tmp 85), type := 4, pos := "law.go:96", after := #[{ on := 49, ground := Go.Ground.data }, { on := 47, ground := Go.Ground.chain }, { on := 0, ground := Go.Ground.phase }, { on := 1, ground := Go.Ground.phase }, { on := 2, ground := Go.Ground.phase }, { on := 3, ground := Go.Ground.phase }, { on := 4, ground := Go.Ground.phase }, { on := 5, ground := Go.Ground.phase }, { on := 6, ground := Go.Ground.phase }, { on := 7, ground := Go.Ground.phase }, { on := 8, ground := Go.Ground.phase }, { on := 9, ground := Go.Ground.phase }, { on := 10, ground := Go.Ground.phase }, { on := 11, ground := Go.Ground.phase }, { on := 12, ground := Go.Ground.phase }, { on := 13, ground := Go.Ground.phase }, { on := 14, ground := Go.Ground.phase }, { on := 15, ground := Go.Ground.phase }, { on := 16, ground := Go.Ground.phase }, { on := 17, ground := Go.Ground.phase }, { on := 18, ground := Go.Ground.phase }, { on := 19, ground := Go.Ground.phase }, { on := 20, ground := Go.Ground.phase }, { on := 21, ground := Go.Ground.phase }, { on := 22, ground := Go.Ground.phase }, { on := 23, ground := Go.Ground.phase }, { on := 24, ground := Go.Ground.phase }, { on := 25, ground := Go.Ground.phase }, { on := 26, ground := Go.Ground.phase }, { on := 27, ground := Go.Ground.phase }, { on := 28, ground := Go.Ground.phase }, { on := 29, ground := Go.Ground.phase }, { on := 30, ground := Go.Ground.phase }, { on := 31, ground := Go.Ground.phase }, { on := 32, ground := Go.Ground.phase }, { on := 33, ground := Go.Ground.phase }, { on := 34, ground := Go.Ground.phase }, { on := 35, ground := Go.Ground.phase }, { on := 36, ground := Go.Ground.phase }, { on := 37, ground := Go.Ground.phase }, { on := 38, ground := Go.Ground.phase }, { on := 39, ground := Go.Ground.phase }, { on := 40, ground := Go.Ground.phase }, { on := 41, ground := Go.Ground.phase }, { on := 42, ground := Go.Ground.phase }, { on := 43, ground := Go.Ground.phase }, { on := 44, ground := Go.Ground.phase }, { on := 45, ground := Go.Ground.phase }, { on := 46, ground := Go.Ground.phase }, { on := 47, ground := Go.Ground.phase }, { on := 48, ground := Go.Ground.phase }, { on := 49, ground := Go.Ground.phase }], guard := none }) (v := ?v51) rfl (by kernel_rfl) (by kernel_rfl) (by kernel_rfl) (fun _ _ _ h => h) (Or.inl ⟨by rfl, ?hy51⟩) (by assumption) ?rest51
  case hy51 => (intro w hSw; (try dsimp only at hSw); go_simp <;> with_reducible rfl)
  try simp only [Act.put, List.setIfInBounds_toArray, List.set_cons_zero, List.set_cons_succ]
  refine wpAnyH_done (by kernel_rfl) ?_ _
  all_goals go_wp2
  all_goals go_ret
  all_goals exact ⟨rfl, HB.out⟩
end Go.Proofs.Ytoeklekjhaigoaa.HAll
end
section
namespace Go.Proofs.Ytoeklekjhaigoaa.HAll
open Go.Proofs.Ytoeklekjhaigoaa.Al Go.RowKit Go.Proofs.YtoeklekjhaigoaaW.PrintWords Go.Proofs.YtoeklekjhaigoaaW.PrintLast Go.Proofs.YtoeklekjhaigoaaW.PrintMore Go.Proofs.Ytoeklekjhaigoaa.M0 Go.Proofs.Ytoeklekjhaigoaa.M1 Go.Proofs.Ytoeklekjhaigoaa.M2 Go.Proofs.Ytoeklekjhaigoaa.QCond Go.Proofs.Ytoeklekjhaigoaa.QMean Go.Proofs.Ytoeklekjhaigoaa.QOne Go.Proofs.Ytoeklekjhaigoaa.HMany Go.Proofs.Ytoeklekjhaigoaa.HCount Go.Proofs.Ytoeklekjhaigoaa.HMean Go.Proofs.Ytoeklekjhaigoaa.QHolds Go.Proofs.Ytoeklekjhaigoaa.HKit Go.Proofs.Ytoeklekjhaigoaa.K49
set_option linter.unusedVariables false
set_option linter.unusedSimpArgs false
set_option maxRecDepth 100000
attribute [local go_sem] max2_int min2_int max_two min_two
set_option maxHeartbeats 16000000 in
theorem all_ft (c d : S46) (x : S49) (A A2 : Option Addr) (n n2 : Nat) (w : World) (hC : Kd.C k46 w A c.f1.length c.f1) (hn : c.f1.length ≤ n) (hD : Kd.C k46 w A2 d.f1.length d.f1) (hn2 : d.f1.length ≤ n2) (hrc : rightB c = true) (hrd : rightB d = true) (hcb : ¬ 30 < nodes c) (hdb : ¬ 30 < nodes d) (hp : semB x c = false) (hq : semB x d = true) :
    Calls Try.prog 12 #[.agg #[.int .i64 c.f0, .slice A c.f1.length n, .int .i64 c.f2, .int .u64 c.f3, .string c.f4, .int .u64 c.f5], .agg #[.int .i64 d.f0, .slice A2 d.f1.length n2, .int .i64 d.f2, .int .u64 d.f3, .string d.f4, .int .u64 d.f5], .agg #[.int .u32 x.f0, .int .u32 x.f1, .int .u64 x.f2, .int .u64 x.f3.f0, .int .u64 x.f3.f1, .int .u64 x.f3.f2, .int .u64 x.f3.f3, .int .u64 x.f3.f4, .int .u64 x.f3.f5]] w fun e w' => e = .returned (.bool true) ∧ Below w.heap.size w w' := by
  have hu46 := Try.underlying46
  have hu49 := Try.underlying49
  have hmf : ∀ (fn : Fn) (first cap : Array Value) (w : World), (Instr.makeFunc fn first cap).run Try.prog w = .ok (.func fn first cap) w := fun _ _ _ _ => rfl
  have s1 : (w.alloc (.cells #[.int .i64 c.f0, .slice A c.f1.length n, .int .i64 c.f2, .int .u64 c.f3, .string c.f4, .int .u64 c.f5] 46)).heap.size = w.heap.size + 1 := by simp
  have s2 : ((w.alloc (.cells #[.int .i64 c.f0, .slice A c.f1.length n, .int .i64 c.f2, .int .u64 c.f3, .string c.f4, .int .u64 c.f5] 46)).alloc (.cells #[.int .i64 d.f0, .slice A2 d.f1.length n2, .int .i64 d.f2, .int .u64 d.f3, .string d.f4, .int .u64 d.f5] 46)).heap.size = w.heap.size + 1 + 1 := by simp
  have HC := amk (((Bx.new w hC hn).alloc (.cells #[.int .i64 d.f0, .slice A2 d.f1.length n2, .int .i64 d.f2, .int .u64 d.f3, .string d.f4, .int .u64 d.f5] 46)).alloc (.cells #[.int .u32 x.f0, .int .u32 x.f1, .int .u64 x.f2, .int .u64 x.f3.f0, .int .u64 x.f3.f1, .int .u64 x.f3.f2, .int .u64 x.f3.f3, .int .u64 x.f3.f4, .int .u64 x.f3.f5] 49))
  have HD0 := (Bx.new (w.alloc (.cells #[.int .i64 c.f0, .slice A c.f1.length n, .int .i64 c.f2, .int .u64 c.f3, .string c.f4, .int .u64 c.f5] 46)) (Kd.C_below hD (bal (Below.refl _ _) _)) hn2).alloc (.cells #[.int .u32 x.f0, .int .u32 x.f1, .int .u64 x.f2, .int .u64 x.f3.f0, .int .u64 x.f3.f1, .int .u64 x.f3.f2, .int .u64 x.f3.f3, .int .u64 x.f3.f4, .int .u64 x.f3.f5] 49)
  rw [s1] at HD0
  have HD := amk HD0
  have HX0 := Xx.new ((w.alloc (.cells #[.int .i64 c.f0, .slice A c.f1.length n, .int .i64 c.f2, .int .u64 c.f3, .string c.f4, .int .u64 c.f5] 46)).alloc (.cells #[.int .i64 d.f0, .slice A2 d.f1.length n2, .int .i64 d.f2, .int .u64 d.f3, .string d.f4, .int .u64 d.f5] 46)) x
  rw [s2] at HX0
  have HX := amk HX0
  have HB := amk (bal (bal (bal (Below.refl w.heap.size w) (.cells #[.int .i64 c.f0, .slice A c.f1.length n, .int .i64 c.f2, .int .u64 c.f3, .string c.f4, .int .u64 c.f5] 46)) (.cells #[.int .i64 d.f0, .slice A2 d.f1.length n2, .int .i64 d.f2, .int .u64 d.f3, .string d.f4, .int .u64 d.f5] 46)) (.cells #[.int .u32 x.f0, .int .u32 x.f1, .int .u64 x.f2, .int .u64 x.f3.f0, .int .u64 x.f3.f1, .int .u64 x.f3.f2, .int .u64 x.f3.f3, .int .u64 x.f3.f4, .int .u64 x.f3.f5] 49))
  have HBIG := amk (show ∀ c : S46, rightB c = false ∨ 30 < nodes c ∨ (rightB c = true ∧ fitsB c = true ∧ nodes c ≤ 30) from fun c => by
    by_cases h : rightB c = true
    · by_cases g : nodes c ≤ 30
      · exact Or.inr (Or.inr ⟨h, (right_fits h).1, g⟩)
      · exact Or.inr (Or.inl (by omega))
    · exact Or.inl (by simpa using h))
  have HS := amk (fun (W' : World) (h : Bx W' w.heap.size c A n) (g : Bx W' (w.heap.size + 1) d A2 n2) (k : Xx W' (w.heap.size + 1 + 1) x) => s21 h g k)
  have HS12 := amk (fun (W' : World) (h : Bx W' w.heap.size c A n) (g : Bx W' (w.heap.size + 1) d A2 n2) => s12 h g)
  have HM1 := amk (fun (W : World) (h : Kd.C k46 W A c.f1.length c.f1) => many_w h hn 30 (by omega) (by omega))
  have HM2 := amk (fun (W : World) (h : Kd.C k46 W A2 d.f1.length d.f1) => many_w h hn2 30 (by omega) (by omega))
  have HR1 := amk (fun (W : World) (h : Kd.C k46 W A c.f1.length c.f1) => right_w h hn)
  have HR2 := amk (fun (W : World) (h : Kd.C k46 W A2 d.f1.length d.f1) => right_w h hn2)
  have HA := amk alive_w
  clear s1 s2 HD0 HX0 hC hD
  go_enter Try.func12, Try.ntmps12
  go_upto_region 1 with (fail)
  generalize ((w.alloc (.cells #[.int .i64 c.f0, .slice A c.f1.length n, .int .i64 c.f2, .int .u64 c.f3, .string c.f4, .int .u64 c.f5] 46)).alloc (.cells #[.int .i64 d.f0, .slice A2 d.f1.length n2, .int .i64 d.f2, .int .u64 d.f3, .string d.f4, .int .u64 d.f5] 46)).alloc (.cells #[.int .u32 x.f0, .int .u32 x.f1, .int .u64 x.f2, .int .u64 x.f3.f0, .int .u64 x.f3.f1, .int .u64 x.f3.f2, .int .u64 x.f3.f3, .int .u64 x.f3.f4, .int .u64 x.f3.f5] 49) = W at *
  obtain ⟨k0, k1, k2, k3, k4, k5⟩ := HC.out.six
  obtain ⟨q0, q1, q2, q3, q4, q5⟩ := HD.out.six
  have nc : decide (30 < ((min (nodes c) ((30 : Int).toNat + 1) : Nat) : Int)) = decide (30 < nodes c) := decide_eq_decide.2 (by simp only [Int.reduceToNat]; omega)
  have nd : decide (30 < ((min (nodes d) ((30 : Int).toNat + 1) : Nat) : Int)) = decide (30 < nodes d) := decide_eq_decide.2 (by simp only [Int.reduceToNat]; omega)
  generalize ((min (nodes c) ((30 : Int).toNat + 1) : Nat) : Int) = mc at *
  generalize ((min (nodes d) ((30 : Int).toNat + 1) : Nat) : Int) = md at *
  have e1 : decide (30 < mc) = false := nc.trans (decide_eq_false hcb)
  have e2 : decide (30 < md) = false := nd.trans (decide_eq_false hdb)
  simp only [hrc] at HR1
  simp only [hrd] at HR2
  have hfc := (right_fits hrc).1
  have hfd := (right_fits hrd).1
  have HH1 := amk (fun (W : World) (h : Kd.C k46 W A c.f1.length c.f1) => by have h2 := holds_w x h hn; rw [holds_right hrc] at h2; exact h2)
  have HH2 := amk (fun (W : World) (h : Kd.C k46 W A2 d.f1.length d.f1) => by have h2 := holds_w x h hn2; rw [holds_right hrd] at h2; exact h2)
  have HT := amk (fun (W : World) (h : Bx W w.heap.size c A n) (g : Bx W (w.heap.size + 1) d A2 n2) (k : Xx W (w.heap.size + 1 + 1) x) => by have h2 := two_w 1 h.C hn g.C hn2 k; rw [two_sem (Or.inl rfl) hfc hfd (by omega), if_pos rfl] at h2; exact h2)
  have HT2 := amk (fun (W : World) (h : Bx W w.heap.size c A n) (g : Bx W (w.heap.size + 1) d A2 n2) (k : Xx W (w.heap.size + 1 + 1) x) => by have h2 := two_w 2 h.C hn g.C hn2 k; rw [two_sem (Or.inr rfl) hfc hfd (by omega), if_neg (show ¬ (2 : Int) = 1 by decide)] at h2; exact h2)
  have HT3 := amk (fun (W : World) (h : Bx W w.heap.size c A n) (g : Bx W (w.heap.size + 1) d A2 n2) (k : Xx W (w.heap.size + 1 + 1) x) => by have h2 := two_w 1 h.C hn h.C hn k; rw [two_sem (Or.inl rfl) hfc hfc (by omega), if_pos rfl] at h2; exact h2)
  have HT4 := amk (fun (W : World) (h : Bx W w.heap.size c A n) (g : Bx W (w.heap.size + 1) d A2 n2) (k : Xx W (w.heap.size + 1 + 1) x) => by have h2 := two_w 2 g.C hn2 g.C hn2 k; rw [two_sem (Or.inr rfl) hfd hfd (by omega), if_neg (show ¬ (2 : Int) = 1 by decide)] at h2; exact h2)
  have HT5 := amk (fun (W : World) (h : Bx W w.heap.size c A n) (g : Bx W (w.heap.size + 1) d A2 n2) (k : Xx W (w.heap.size + 1 + 1) x) => by have h2 := two_w 1 g.C hn2 h.C hn k; rw [two_sem (Or.inl rfl) hfd hfc (by omega), if_pos rfl] at h2; exact h2)
  simp only [hp, hq, Bool.and_true, Bool.and_false, Bool.or_true, Bool.or_false] at HH1 HH2 HT HT2 HT3 HT4 HT5
  clear nc nd hcb hdb hrc hrd hfc hfd HBIG hp hq
  go_upto_region 4 with (first | (go_at_call 43; (first | (with_reducible refine (HM1.out _ HC.out.C).mono ?_) | (with_reducible refine (HM2.out _ HD.out.C).mono ?_)); rintro e w1 ⟨rfl, hb1⟩; have HC := amk (HC.out.below hb1); have HD := amk (HD.out.below hb1); have HX := amk (HX.out.below hb1); have HB := amk (below_step HB.out hb1); obtain ⟨k0, k1, k2, k3, k4, k5⟩ := HC.out.six; obtain ⟨q0, q1, q2, q3, q4, q5⟩ := HD.out.six; clear hb1) | (go_at_call 47; (first | (with_reducible refine (HR1.out _ HC.out.C).mono ?_) | (with_reducible refine (HR2.out _ HD.out.C).mono ?_)); rintro e w1 ⟨rfl, hb1⟩; have HC := amk (HC.out.below hb1); have HD := amk (HD.out.below hb1); have HX := amk (HX.out.below hb1); have HB := amk (below_step HB.out hb1); obtain ⟨k0, k1, k2, k3, k4, k5⟩ := HC.out.six; obtain ⟨q0, q1, q2, q3, q4, q5⟩ := HD.out.six; clear hb1))
  have HC := amk HC.out.drew
  have HD := amk HD.out.drew
  have HX := amk HX.out.drew
  have HB := amk (below_drew HB.out)
  go_region_held3 (fun W' : World => W'.cell? ⟨w.heap.size, 0, none⟩ = some (.int .i64 c.f0) ∧ W'.cell? ⟨w.heap.size, 1, none⟩ = some (.slice A c.f1.length n) ∧ W'.cell? ⟨w.heap.size, 2, none⟩ = some (.int .i64 c.f2) ∧ W'.cell? ⟨w.heap.size, 3, none⟩ = some (.int .u64 c.f3) ∧ W'.cell? ⟨w.heap.size, 4, none⟩ = some (.string c.f4) ∧ W'.cell? ⟨w.heap.size, 5, none⟩ = some (.int .u64 c.f5) ∧ W'.cell? ⟨(w.heap.size + 1), 0, none⟩ = some (.int .i64 d.f0) ∧ W'.cell? ⟨(w.heap.size + 1), 1, none⟩ = some (.slice A2 d.f1.length n2) ∧ W'.cell? ⟨(w.heap.size + 1), 2, none⟩ = some (.int .i64 d.f2) ∧ W'.cell? ⟨(w.heap.size + 1), 3, none⟩ = some (.int .u64 d.f3) ∧ W'.cell? ⟨(w.heap.size + 1), 4, none⟩ = some (.string d.f4) ∧ W'.cell? ⟨(w.heap.size + 1), 5, none⟩ = some (.int .u64 d.f5) ∧ W'.cell? ⟨(w.heap.size + 1 + 1), 0, none⟩ = some (.int .u32 x.f0) ∧ W'.cell? ⟨(w.heap.size + 1 + 1), 1, none⟩ = some (.int .u32 x.f1) ∧ W'.cell? ⟨(w.heap.size + 1 + 1), 2, none⟩ = some (.int .u64 x.f2) ∧ W'.cell? ⟨(w.heap.size + 1 + 1), 3, none⟩ = some (.int .u64 x.f3.f0) ∧ W'.cell? ⟨(w.heap.size + 1 + 1), 4, none⟩ = some (.int .u64 x.f3.f1) ∧ W'.cell? ⟨(w.heap.size + 1 + 1), 5, none⟩ = some (.int .u64 x.f3.f2) ∧ W'.cell? ⟨(w.heap.size + 1 + 1), 6, none⟩ = some (.int .u64 x.f3.f3) ∧ W'.cell? ⟨(w.heap.size + 1 + 1), 7, none⟩ = some (.int .u64 x.f3.f4) ∧ W'.cell? ⟨(w.heap.size + 1 + 1), 8, none⟩ = some (.int .u64 x.f3.f5)) (exact HS.out _ HC.out HD.out HX.out) (first | (go_at_call 45; (first | (with_reducible refine (HH1.out _ HC.out.C).mono ?_) | (with_reducible refine (HH2.out _ HD.out.C).mono ?_)); rintro e w1 ⟨rfl, hb1⟩; have HC := amk (HC.out.below hb1); have HD := amk (HD.out.below hb1); have HX := amk (HX.out.below hb1); have HB := amk (below_step HB.out hb1); clear hb1))
  all_goals clear HM1 HM2 HR1 HR2 HH1 HH2 hmf e1 e2 k0 k1 k2 k3 k4 k5 q0 q1 q2 q3 q4 q5
  all_goals go_upto_region 5 with (fail)
  all_goals have HC := amk HC.out.drew
  all_goals have HD := amk HD.out.drew
  all_goals have HX := amk HX.out.drew
  all_goals have HB := amk (below_drew HB.out)
  refine wp_region_held_drew (S := fun W' : World => W'.cell? ⟨w.heap.size, 0, none⟩ = some (.int .i64 c.f0) ∧ W'.cell? ⟨w.heap.size, 1, none⟩ = some (.slice A c.f1.length n) ∧ W'.cell? ⟨w.heap.size, 2, none⟩ = some (.int .i64 c.f2) ∧ W'.cell? ⟨w.heap.size, 3, none⟩ = some (.int .u64 c.f3) ∧ W'.cell? ⟨w.heap.size, 4, none⟩ = some (.string c.f4) ∧ W'.cell? ⟨w.heap.size, 5, none⟩ = some (.int .u64 c.f5) ∧ W'.cell? ⟨(w.heap.size + 1), 0, none⟩ = some (.int .i64 d.f0) ∧ W'.cell? ⟨(w.heap.size + 1), 1, none⟩ = some (.slice A2 d.f1.length n2) ∧ W'.cell? ⟨(w.heap.size + 1), 2, none⟩ = some (.int .i64 d.f2) ∧ W'.cell? ⟨(w.heap.size + 1), 3, none⟩ = some (.int .u64 d.f3) ∧ W'.cell? ⟨(w.heap.size + 1), 4, none⟩ = some (.string d.f4) ∧ W'.cell? ⟨(w.heap.size + 1), 5, none⟩ = some (.int .u64 d.f5)) (by kernel_rfl) ?hS0 (fun hH => ?rest0)
  case hS0 => exact HS12.out _ HC.out HD.out
  refine wpAnyH_ready (rs := [0]) (by kernel_rfl) (by simp) ?_
  refine AllReadyH.cons (o := { dst := some 36, op := Go.Op.call { callee := Go.Callee.value (Go.Operand.func 44), args := #[], argTypes := #[] }, type := 4, pos := "law.go:96", after := #[], guard := none }) rfl (fun K hK => ?_) AllReadyH.nil
  go_simp
  first | (go_at_call 44; (with_reducible refine (HA.out _).mono ?_); rintro e w1 ⟨rfl, hb1⟩; have HC := amk (HC.out.below hb1); have HD := amk (HD.out.below hb1); have HX := amk (HX.out.below hb1); have HB := amk (below_step HB.out hb1); clear hb1) | (go_at_call 52; (first | (with_reducible refine (HT.out _ HC.out HD.out HX.out).mono ?_) | (with_reducible refine (HT2.out _ HC.out HD.out HX.out).mono ?_) | (with_reducible refine (HT3.out _ HC.out HD.out HX.out).mono ?_) | (with_reducible refine (HT4.out _ HC.out HD.out HX.out).mono ?_) | (with_reducible refine (HT5.out _ HC.out HD.out HX.out).mono ?_)); rintro e w1 ⟨rfl, hb1⟩; have HC := amk (HC.out.below hb1); have HD := amk (HD.out.below hb1); have HX := amk (HX.out.below hb1); have HB := amk (below_step HB.out hb1); clear hb1)
  refine hK.out _ _ ?hS1 (fun hH2 => ?rest1)
  case hS1 => exact HS12.out _ HC.out HD.out
  clear hK K hH
  have hH := hH2
  clear hH2
  try simp only [Act.put, List.setIfInBounds_toArray, List.set_cons_zero, List.set_cons_succ]
  refine wpAnyH_take (i := 1) (oi := { dst := some 37, op := Go.Op.move (Go.Operand.tmp 36), type := 4, pos := "law.go:96", after := #[{ on := 0, ground := Go.Ground.data }, { on := 0, ground := Go.Ground.chain }], guard := none }) (v := ?v2) rfl (by kernel_rfl) (by kernel_rfl) (by kernel_rfl) (fun _ _ _ h => h) (Or.inl ⟨by rfl, ?hy2⟩) (by assumption) ?rest2
  case hy2 => (intro w hSw; (try dsimp only at hSw); go_simp <;> with_reducible rfl)
  try simp only [Act.put, List.setIfInBounds_toArray, List.set_cons_zero, List.set_cons_succ]
  refine wpAnyH_take (i := 2) (oi := { dst := some 38, op := Go.Op.move (Go.Operand.tmp 7), type := 66, pos := "law.go:96", after := #[{ on := 1, ground := Go.Ground.guard }], guard := some (1, true) }) (v := ?v3) rfl (by kernel_rfl) (by kernel_rfl) (by kernel_rfl) (fun _ _ _ h => h) (Or.inl ⟨by rfl, ?hy3⟩) (by assumption) ?rest3
  case hy3 => (intro w hSw; (try dsimp only at hSw); go_simp <;> with_reducible rfl)
  try simp only [Act.put, List.setIfInBounds_toArray, List.set_cons_zero, List.set_cons_succ]
  refine wpAnyH_take (i := 3) (oi := { dst := some 39, op := Go.Op.load 46 (Go.Operand.tmp 3), type := 46, pos := "law.go:96", after := #[{ on := 1, ground := Go.Ground.guard }], guard := some (1, true) }) (v := ?v4) rfl (by kernel_rfl) (by kernel_rfl) (by kernel_rfl) (fun _ _ _ h => h) (Or.inl ⟨by rfl, ?hy4⟩) (by assumption) ?rest4
  case hy4 => (intro w hSw; (try dsimp only at hSw); go_simp <;> with_reducible rfl)
  try simp only [Act.put, List.setIfInBounds_toArray, List.set_cons_zero, List.set_cons_succ]
  refine wpAnyH_take (i := 4) (oi := { dst := some 40, op := Go.Op.load 46 (Go.Operand.tmp 4), type := 46, pos := "law.go:96", after := #[{ on := 1, ground := Go.Ground.guard }], guard := some (1, true) }) (v := ?v5) rfl (by kernel_rfl) (by kernel_rfl) (by kernel_rfl) (fun _ _ _ h => h) (Or.inl ⟨by rfl, ?hy5⟩) (by assumption) ?rest5
  case hy5 => (intro w hSw; (try dsimp only at hSw); go_simp <;> with_reducible rfl)
  try simp only [Act.put, List.setIfInBounds_toArray, List.set_cons_zero, List.set_cons_succ]
  refine wpAnyH_take (i := 6) (oi := { dst := some 42, op := Go.Op.move (Go.Operand.tmp 8), type := 4, pos := "law.go:96", after := #[{ on := 1, ground := Go.Ground.guard }], guard := some (1, true) }) (v := ?v6) rfl (by kernel_rfl) (by kernel_rfl) (by kernel_rfl) (fun _ _ _ h => h) (Or.inl ⟨by rfl, ?hy6⟩) (by assumption) ?rest6
  case hy6 => (intro w hSw; (try dsimp only at hSw); go_simp <;> with_reducible rfl)
  try simp only [Act.put, List.setIfInBounds_toArray, List.set_cons_zero, List.set_cons_succ]
  refine wpAnyH_ready (rs := [5]) (by kernel_rfl) (by simp) ?_
  refine AllReadyH.cons (o := { dst := some 41, op := Go.Op.call { callee := Go.Callee.value (Go.Operand.tmp 38), args := #[Go.Operand.const (Go.Value.int Go.IntKind.i64 1), Go.Operand.tmp 39, Go.Operand.tmp 40], argTypes := #[3, 46, 46] }, type := 4, pos := "law.go:96", after := #[{ on := 2, ground := Go.Ground.data }, { on := 3, ground := Go.Ground.data }, { on := 4, ground := Go.Ground.data }, { on := 1, ground := Go.Ground.chain }, { on := 1, ground := Go.Ground.guard }], guard := some (1, true) }) rfl (fun K hK => ?_) AllReadyH.nil
  go_simp
  first | (go_at_call 44; (with_reducible refine (HA.out _).mono ?_); rintro e w1 ⟨rfl, hb1⟩; have HC := amk (HC.out.below hb1); have HD := amk (HD.out.below hb1); have HX := amk (HX.out.below hb1); have HB := amk (below_step HB.out hb1); clear hb1) | (go_at_call 52; (first | (with_reducible refine (HT.out _ HC.out HD.out HX.out).mono ?_) | (with_reducible refine (HT2.out _ HC.out HD.out HX.out).mono ?_) | (with_reducible refine (HT3.out _ HC.out HD.out HX.out).mono ?_) | (with_reducible refine (HT4.out _ HC.out HD.out HX.out).mono ?_) | (with_reducible refine (HT5.out _ HC.out HD.out HX.out).mono ?_)); rintro e w1 ⟨rfl, hb1⟩; have HC := amk (HC.out.below hb1); have HD := amk (HD.out.below hb1); have HX := amk (HX.out.below hb1); have HB := amk (below_step HB.out hb1); clear hb1)
  refine hK.out _ _ ?hS7 (fun hH2 => ?rest7)
  case hS7 => exact HS12.out _ HC.out HD.out
  clear hK K hH
  have hH := hH2
  clear hH2
  try simp only [Act.put, List.setIfInBounds_toArray, List.set_cons_zero, List.set_cons_succ]
  refine wpAnyH_take (i := 7) (oi := { dst := some 43, op := Go.Op.move (Go.Operand.tmp 42), type := 4, pos := "law.go:96", after := #[{ on := 6, ground := Go.Ground.data }, { on := 5, ground := Go.Ground.chain }, { on := 1, ground := Go.Ground.guard }], guard := some (1, true) }) (v := ?v8) rfl (by kernel_rfl) (by kernel_rfl) (by kernel_rfl) (fun _ _ _ h => h) (Or.inl ⟨by rfl, ?hy8⟩) (by assumption) ?rest8
  case hy8 => (intro w hSw; (try dsimp only at hSw); go_simp <;> with_reducible rfl)
  try simp only [Act.put, List.setIfInBounds_toArray, List.set_cons_zero, List.set_cons_succ]
  refine wpAnyH_take (i := 8) (oi := { dst := some 44, op := Go.Op.move (Go.Operand.tmp 9), type := 4, pos := "law.go:96", after := #[{ on := 7, ground := Go.Ground.guard }], guard := some (7, true) }) (v := undef) rfl (by kernel_rfl) (by kernel_rfl) (by kernel_rfl) (fun _ _ _ h => h) (Or.inr ⟨by rfl, rfl⟩) (by assumption) ?_
  try simp only [Act.put, List.setIfInBounds_toArray, List.set_cons_zero, List.set_cons_succ]
  refine wpAnyH_take (i := 9) (oi := { dst := some 45, op := Go.Op.pick (Go.Operand.tmp 43) (Go.Operand.tmp 44) (Go.Operand.const (Go.Value.bool false)), type := 4, pos := "law.go:96", after := #[{ on := 7, ground := Go.Ground.data }, { on := 8, ground := Go.Ground.data }, { on := 1, ground := Go.Ground.guard }], guard := some (1, true) }) (v := ?v10) rfl (by kernel_rfl) (by kernel_rfl) (by kernel_rfl) (fun _ _ _ h => h) (Or.inl ⟨by rfl, ?hy10⟩) (by assumption) ?rest10
  case hy10 => (intro w hSw; (try dsimp only at hSw); go_simp <;> with_reducible rfl)
  try simp only [Act.put, List.setIfInBounds_toArray, List.set_cons_zero, List.set_cons_succ]
  refine wpAnyH_take (i := 10) (oi := { dst := some 46, op := Go.Op.binOp Go.BinOp.eql 4 (Go.Operand.tmp 41) (Go.Operand.tmp 45) 4, type := 4, pos := "law.go:96", after := #[{ on := 5, ground := Go.Ground.data }, { on := 9, ground := Go.Ground.data }, { on := 1, ground := Go.Ground.guard }], guard := some (1, true) }) (v := ?v11) rfl (by kernel_rfl) (by kernel_rfl) (by kernel_rfl) (fun _ _ _ h => h) (Or.inl ⟨by rfl, ?hy11⟩) (by assumption) ?rest11
  case hy11 => (intro w hSw; (try dsimp only at hSw); go_simp <;> with_reducible rfl)
  try simp only [Act.put, List.setIfInBounds_toArray, List.set_cons_zero, List.set_cons_succ]
  refine wpAnyH_take (i := 11) (oi := { dst := some 47, op := Go.Op.pick (Go.Operand.tmp 37) (Go.Operand.tmp 46) (Go.Operand.const (Go.Value.bool false)), type := 4, pos := "law.go:96", after := #[{ on := 1, ground := Go.Ground.data }, { on := 10, ground := Go.Ground.data }], guard := none }) (v := ?v12) rfl (by kernel_rfl) (by kernel_rfl) (by kernel_rfl) (fun _ _ _ h => h) (Or.inl ⟨by rfl, ?hy12⟩) (by assumption) ?rest12
  case hy12 => (intro w hSw; (try dsimp only at hSw); go_simp <;> with_reducible rfl)
  try simp only [Act.put, List.setIfInBounds_toArray, List.set_cons_zero, List.set_cons_succ]
  refine wpAnyH_take (i := 12) (oi := { dst := some 48, op := Go.Op.move (Go.Operand.tmp 47), type := 4, pos := "law.go:96", after := #[{ on := 11, ground := Go.Ground.data }, { on := 7, ground := Go.Ground.chain }], guard := none }) (v := ?v13) rfl (by kernel_rfl) (by kernel_rfl) (by kernel_rfl) (fun _ _ _ h => h) (Or.inl ⟨by rfl, ?hy13⟩) (by assumption) ?rest13
  case hy13 => (intro w hSw; (try dsimp only at hSw); go_simp <;> with_reducible rfl)
  try simp only [Act.put, List.setIfInBounds_toArray, List.set_cons_zero, List.set_cons_succ]
  refine wpAnyH_take (i := 13) (oi := { dst := some 49, op := Go.Op.move (Go.Operand.tmp 7), type := 66, pos := "law.go:96", after := #[{ on := 12, ground := Go.Ground.guard }], guard := some (12, true) }) (v := ?v14) rfl (by kernel_rfl) (by kernel_rfl) (by kernel_rfl) (fun _ _ _ h => h) (Or.inl ⟨by rfl, ?hy14⟩) (by assumption) ?rest14
  case hy14 => (intro w hSw; (try dsimp only at hSw); go_simp <;> with_reducible rfl)
  try simp only [Act.put, List.setIfInBounds_toArray, List.set_cons_zero, List.set_cons_succ]
  refine wpAnyH_take (i := 14) (oi := { dst := some 50, op := Go.Op.load 46 (Go.Operand.tmp 3), type := 46, pos := "law.go:96", after := #[{ on := 12, ground := Go.Ground.guard }], guard := some (12, true) }) (v := ?v15) rfl (by kernel_rfl) (by kernel_rfl) (by kernel_rfl) (fun _ _ _ h => h) (Or.inl ⟨by rfl, ?hy15⟩) (by assumption) ?rest15
  case hy15 => (intro w hSw; (try dsimp only at hSw); go_simp <;> with_reducible rfl)
  try simp only [Act.put, List.setIfInBounds_toArray, List.set_cons_zero, List.set_cons_succ]
  refine wpAnyH_take (i := 15) (oi := { dst := some 51, op := Go.Op.load 46 (Go.Operand.tmp 4), type := 46, pos := "law.go:96", after := #[{ on := 12, ground := Go.Ground.guard }], guard := some (12, true) }) (v := ?v16) rfl (by kernel_rfl) (by kernel_rfl) (by kernel_rfl) (fun _ _ _ h => h) (Or.inl ⟨by rfl, ?hy16⟩) (by assumption) ?rest16
  case hy16 => (intro w hSw; (try dsimp only at hSw); go_simp <;> with_reducible rfl)
  try simp only [Act.put, List.setIfInBounds_toArray, List.set_cons_zero, List.set_cons_succ]
  refine wpAnyH_take (i := 17) (oi := { dst := some 53, op := Go.Op.move (Go.Operand.tmp 8), type := 4, pos := "law.go:96", after := #[{ on := 12, ground := Go.Ground.guard }], guard := some (12, true) }) (v := ?v17) rfl (by kernel_rfl) (by kernel_rfl) (by kernel_rfl) (fun _ _ _ h => h) (Or.inl ⟨by rfl, ?hy17⟩) (by assumption) ?rest17
  case hy17 => (intro w hSw; (try dsimp only at hSw); go_simp <;> with_reducible rfl)
  try simp only [Act.put, List.setIfInBounds_toArray, List.set_cons_zero, List.set_cons_succ]
  refine wpAnyH_ready (rs := [16]) (by kernel_rfl) (by simp) ?_
  refine AllReadyH.cons (o := { dst := some 52, op := Go.Op.call { callee := Go.Callee.value (Go.Operand.tmp 49), args := #[Go.Operand.const (Go.Value.int Go.IntKind.i64 2), Go.Operand.tmp 50, Go.Operand.tmp 51], argTypes := #[3, 46, 46] }, type := 4, pos := "law.go:96", after := #[{ on := 13, ground := Go.Ground.data }, { on := 14, ground := Go.Ground.data }, { on := 15, ground := Go.Ground.data }, { on := 12, ground := Go.Ground.chain }, { on := 12, ground := Go.Ground.guard }], guard := some (12, true) }) rfl (fun K hK => ?_) AllReadyH.nil
  go_simp
  first | (go_at_call 44; (with_reducible refine (HA.out _).mono ?_); rintro e w1 ⟨rfl, hb1⟩; have HC := amk (HC.out.below hb1); have HD := amk (HD.out.below hb1); have HX := amk (HX.out.below hb1); have HB := amk (below_step HB.out hb1); clear hb1) | (go_at_call 52; (first | (with_reducible refine (HT.out _ HC.out HD.out HX.out).mono ?_) | (with_reducible refine (HT2.out _ HC.out HD.out HX.out).mono ?_) | (with_reducible refine (HT3.out _ HC.out HD.out HX.out).mono ?_) | (with_reducible refine (HT4.out _ HC.out HD.out HX.out).mono ?_) | (with_reducible refine (HT5.out _ HC.out HD.out HX.out).mono ?_)); rintro e w1 ⟨rfl, hb1⟩; have HC := amk (HC.out.below hb1); have HD := amk (HD.out.below hb1); have HX := amk (HX.out.below hb1); have HB := amk (below_step HB.out hb1); clear hb1)
  refine hK.out _ _ ?hS18 (fun hH2 => ?rest18)
  case hS18 => exact HS12.out _ HC.out HD.out
  clear hK K hH
  have hH := hH2
  clear hH2
  try simp only [Act.put, List.setIfInBounds_toArray, List.set_cons_zero, List.set_cons_succ]
  refine wpAnyH_take (i := 18) (oi := { dst := some 54, op := Go.Op.move (Go.Operand.tmp 53), type := 4, pos := "law.go:96", after := #[{ on := 17, ground := Go.Ground.data }, { on := 16, ground := Go.Ground.chain }, { on := 12, ground := Go.Ground.guard }], guard := some (12, true) }) (v := ?v19) rfl (by kernel_rfl) (by kernel_rfl) (by kernel_rfl) (fun _ _ _ h => h) (Or.inl ⟨by rfl, ?hy19⟩) (by assumption) ?rest19
  case hy19 => (intro w hSw; (try dsimp only at hSw); go_simp <;> with_reducible rfl)
  try simp only [Act.put, List.setIfInBounds_toArray, List.set_cons_zero, List.set_cons_succ]
  refine wpAnyH_take (i := 19) (oi := { dst := some 55, op := Go.Op.move (Go.Operand.tmp 9), type := 4, pos := "law.go:96", after := #[{ on := 18, ground := Go.Ground.guard }], guard := some (18, false) }) (v := ?v20) rfl (by kernel_rfl) (by kernel_rfl) (by kernel_rfl) (fun _ _ _ h => h) (Or.inl ⟨by rfl, ?hy20⟩) (by assumption) ?rest20
  case hy20 => (intro w hSw; (try dsimp only at hSw); go_simp <;> with_reducible rfl)
  try simp only [Act.put, List.setIfInBounds_toArray, List.set_cons_zero, List.set_cons_succ]
  refine wpAnyH_take (i := 20) (oi := { dst := some 56, op := Go.Op.pick (Go.Operand.tmp 54) (Go.Operand.const (Go.Value.bool true)) (Go.Operand.tmp 55), type := 4, pos := "law.go:96", after := #[{ on := 18, ground := Go.Ground.data }, { on := 19, ground := Go.Ground.data }, { on := 12, ground := Go.Ground.guard }], guard := some (12, true) }) (v := ?v21) rfl (by kernel_rfl) (by kernel_rfl) (by kernel_rfl) (fun _ _ _ h => h) (Or.inl ⟨by rfl, ?hy21⟩) (by assumption) ?rest21
  case hy21 => (intro w hSw; (try dsimp only at hSw); go_simp <;> with_reducible rfl)
  try simp only [Act.put, List.setIfInBounds_toArray, List.set_cons_zero, List.set_cons_succ]
  refine wpAnyH_take (i := 21) (oi := { dst := some 57, op := Go.Op.binOp Go.BinOp.eql 4 (Go.Operand.tmp 52) (Go.Operand.tmp 56) 4, type := 4, pos := "law.go:96", after := #[{ on := 16, ground := Go.Ground.data }, { on := 20, ground := Go.Ground.data }, { on := 12, ground := Go.Ground.guard }], guard := some (12, true) }) (v := ?v22) rfl (by kernel_rfl) (by kernel_rfl) (by kernel_rfl) (fun _ _ _ h => h) (Or.inl ⟨by rfl, ?hy22⟩) (by assumption) ?rest22
  case hy22 => (intro w hSw; (try dsimp only at hSw); go_simp <;> with_reducible rfl)
  try simp only [Act.put, List.setIfInBounds_toArray, List.set_cons_zero, List.set_cons_succ]
  refine wpAnyH_take (i := 22) (oi := { dst := some 58, op := Go.Op.pick (Go.Operand.tmp 48) (Go.Operand.tmp 57) (Go.Operand.const (Go.Value.bool false)), type := 4, pos := "law.go:96", after := #[{ on := 12, ground := Go.Ground.data }, { on := 21, ground := Go.Ground.data }], guard := none }) (v := ?v23) rfl (by kernel_rfl) (by kernel_rfl) (by kernel_rfl) (fun _ _ _ h => h) (Or.inl ⟨by rfl, ?hy23⟩) (by assumption) ?rest23
  case hy23 => (intro w hSw; (try dsimp only at hSw); go_simp <;> with_reducible rfl)
  try simp only [Act.put, List.setIfInBounds_toArray, List.set_cons_zero, List.set_cons_succ]
  refine wpAnyH_take (i := 23) (oi := { dst := some 59, op := Go.Op.move (Go.Operand.tmp 58), type := 4, pos := "law.go:96", after := #[{ on := 22, ground := Go.Ground.data }, { on := 18, ground := Go.Ground.chain }], guard := none }) (v := ?v24) rfl (by kernel_rfl) (by kernel_rfl) (by kernel_rfl) (fun _ _ _ h => h) (Or.inl ⟨by rfl, ?hy24⟩) (by assumption) ?rest24
  case hy24 => (intro w hSw; (try dsimp only at hSw); go_simp <;> with_reducible rfl)
  try simp only [Act.put, List.setIfInBounds_toArray, List.set_cons_zero, List.set_cons_succ]
  refine wpAnyH_take (i := 24) (oi := { dst := some 60, op := Go.Op.move (Go.Operand.tmp 7), type := 66, pos := "law.go:96", after := #[{ on := 23, ground := Go.Ground.guard }], guard := some (23, true) }) (v := ?v25) rfl (by kernel_rfl) (by kernel_rfl) (by kernel_rfl) (fun _ _ _ h => h) (Or.inl ⟨by rfl, ?hy25⟩) (by assumption) ?rest25
  case hy25 => (intro w hSw; (try dsimp only at hSw); go_simp <;> with_reducible rfl)
  try simp only [Act.put, List.setIfInBounds_toArray, List.set_cons_zero, List.set_cons_succ]
  refine wpAnyH_take (i := 25) (oi := { dst := some 61, op := Go.Op.load 46 (Go.Operand.tmp 3), type := 46, pos := "law.go:96", after := #[{ on := 23, ground := Go.Ground.guard }], guard := some (23, true) }) (v := ?v26) rfl (by kernel_rfl) (by kernel_rfl) (by kernel_rfl) (fun _ _ _ h => h) (Or.inl ⟨by rfl, ?hy26⟩) (by assumption) ?rest26
  case hy26 => (intro w hSw; (try dsimp only at hSw); go_simp <;> with_reducible rfl)
  try simp only [Act.put, List.setIfInBounds_toArray, List.set_cons_zero, List.set_cons_succ]
  refine wpAnyH_take (i := 26) (oi := { dst := some 62, op := Go.Op.load 46 (Go.Operand.tmp 3), type := 46, pos := "law.go:96", after := #[{ on := 23, ground := Go.Ground.guard }], guard := some (23, true) }) (v := ?v27) rfl (by kernel_rfl) (by kernel_rfl) (by kernel_rfl) (fun _ _ _ h => h) (Or.inl ⟨by rfl, ?hy27⟩) (by assumption) ?rest27
  case hy27 => (intro w hSw; (try dsimp only at hSw); go_simp <;> with_reducible rfl)
  try simp only [Act.put, List.setIfInBounds_toArray, List.set_cons_zero, List.set_cons_succ]
  refine wpAnyH_take (i := 28) (oi := { dst := some 64, op := Go.Op.move (Go.Operand.tmp 8), type := 4, pos := "law.go:96", after := #[{ on := 23, ground := Go.Ground.guard }], guard := some (23, true) }) (v := ?v28) rfl (by kernel_rfl) (by kernel_rfl) (by kernel_rfl) (fun _ _ _ h => h) (Or.inl ⟨by rfl, ?hy28⟩) (by assumption) ?rest28
  case hy28 => (intro w hSw; (try dsimp only at hSw); go_simp <;> with_reducible rfl)
  try simp only [Act.put, List.setIfInBounds_toArray, List.set_cons_zero, List.set_cons_succ]
  refine wpAnyH_ready (rs := [27]) (by kernel_rfl) (by simp) ?_
  refine AllReadyH.cons (o := { dst := some 63, op := Go.Op.call { callee := Go.Callee.value (Go.Operand.tmp 60), args := #[Go.Operand.const (Go.Value.int Go.IntKind.i64 1), Go.Operand.tmp 61, Go.Operand.tmp 62], argTypes := #[3, 46, 46] }, type := 4, pos := "law.go:96", after := #[{ on := 24, ground := Go.Ground.data }, { on := 25, ground := Go.Ground.data }, { on := 26, ground := Go.Ground.data }, { on := 23, ground := Go.Ground.chain }, { on := 23, ground := Go.Ground.guard }], guard := some (23, true) }) rfl (fun K hK => ?_) AllReadyH.nil
  go_simp
  first | (go_at_call 44; (with_reducible refine (HA.out _).mono ?_); rintro e w1 ⟨rfl, hb1⟩; have HC := amk (HC.out.below hb1); have HD := amk (HD.out.below hb1); have HX := amk (HX.out.below hb1); have HB := amk (below_step HB.out hb1); clear hb1) | (go_at_call 52; (first | (with_reducible refine (HT.out _ HC.out HD.out HX.out).mono ?_) | (with_reducible refine (HT2.out _ HC.out HD.out HX.out).mono ?_) | (with_reducible refine (HT3.out _ HC.out HD.out HX.out).mono ?_) | (with_reducible refine (HT4.out _ HC.out HD.out HX.out).mono ?_) | (with_reducible refine (HT5.out _ HC.out HD.out HX.out).mono ?_)); rintro e w1 ⟨rfl, hb1⟩; have HC := amk (HC.out.below hb1); have HD := amk (HD.out.below hb1); have HX := amk (HX.out.below hb1); have HB := amk (below_step HB.out hb1); clear hb1)
  refine hK.out _ _ ?hS29 (fun hH2 => ?rest29)
  case hS29 => exact HS12.out _ HC.out HD.out
  clear hK K hH
  have hH := hH2
  clear hH2
  try simp only [Act.put, List.setIfInBounds_toArray, List.set_cons_zero, List.set_cons_succ]
  refine wpAnyH_take (i := 29) (oi := { dst := some 65, op := Go.Op.binOp Go.BinOp.eql 4 (Go.Operand.tmp 63) (Go.Operand.tmp 64) 4, type := 4, pos := "law.go:96", after := #[{ on := 27, ground := Go.Ground.data }, { on := 28, ground := Go.Ground.data }, { on := 23, ground := Go.Ground.guard }], guard := some (23, true) }) (v := ?v30) rfl (by kernel_rfl) (by kernel_rfl) (by kernel_rfl) (fun _ _ _ h => h) (Or.inl ⟨by rfl, ?hy30⟩) (by assumption) ?rest30
  case hy30 => (intro w hSw; (try dsimp only at hSw); go_simp <;> with_reducible rfl)
  try simp only [Act.put, List.setIfInBounds_toArray, List.set_cons_zero, List.set_cons_succ]
  refine wpAnyH_take (i := 30) (oi := { dst := some 66, op := Go.Op.pick (Go.Operand.tmp 59) (Go.Operand.tmp 65) (Go.Operand.const (Go.Value.bool false)), type := 4, pos := "law.go:96", after := #[{ on := 23, ground := Go.Ground.data }, { on := 29, ground := Go.Ground.data }], guard := none }) (v := ?v31) rfl (by kernel_rfl) (by kernel_rfl) (by kernel_rfl) (fun _ _ _ h => h) (Or.inl ⟨by rfl, ?hy31⟩) (by assumption) ?rest31
  case hy31 => (intro w hSw; (try dsimp only at hSw); go_simp <;> with_reducible rfl)
  try simp only [Act.put, List.setIfInBounds_toArray, List.set_cons_zero, List.set_cons_succ]
  refine wpAnyH_take (i := 31) (oi := { dst := some 67, op := Go.Op.move (Go.Operand.tmp 66), type := 4, pos := "law.go:96", after := #[{ on := 30, ground := Go.Ground.data }, { on := 27, ground := Go.Ground.chain }], guard := none }) (v := ?v32) rfl (by kernel_rfl) (by kernel_rfl) (by kernel_rfl) (fun _ _ _ h => h) (Or.inl ⟨by rfl, ?hy32⟩) (by assumption) ?rest32
  case hy32 => (intro w hSw; (try dsimp only at hSw); go_simp <;> with_reducible rfl)
  try simp only [Act.put, List.setIfInBounds_toArray, List.set_cons_zero, List.set_cons_succ]
  refine wpAnyH_take (i := 32) (oi := { dst := some 68, op := Go.Op.move (Go.Operand.tmp 7), type := 66, pos := "law.go:96", after := #[{ on := 31, ground := Go.Ground.guard }], guard := some (31, true) }) (v := ?v33) rfl (by kernel_rfl) (by kernel_rfl) (by kernel_rfl) (fun _ _ _ h => h) (Or.inl ⟨by rfl, ?hy33⟩) (by assumption) ?rest33
  case hy33 => (intro w hSw; (try dsimp only at hSw); go_simp <;> with_reducible rfl)
  try simp only [Act.put, List.setIfInBounds_toArray, List.set_cons_zero, List.set_cons_succ]
  refine wpAnyH_take (i := 33) (oi := { dst := some 69, op := Go.Op.load 46 (Go.Operand.tmp 4), type := 46, pos := "law.go:96", after := #[{ on := 31, ground := Go.Ground.guard }], guard := some (31, true) }) (v := ?v34) rfl (by kernel_rfl) (by kernel_rfl) (by kernel_rfl) (fun _ _ _ h => h) (Or.inl ⟨by rfl, ?hy34⟩) (by assumption) ?rest34
  case hy34 => (intro w hSw; (try dsimp only at hSw); go_simp <;> with_reducible rfl)
  try simp only [Act.put, List.setIfInBounds_toArray, List.set_cons_zero, List.set_cons_succ]
  refine wpAnyH_take (i := 34) (oi := { dst := some 70, op := Go.Op.load 46 (Go.Operand.tmp 4), type := 46, pos := "law.go:96", after := #[{ on := 31, ground := Go.Ground.guard }], guard := some (31, true) }) (v := ?v35) rfl (by kernel_rfl) (by kernel_rfl) (by kernel_rfl) (fun _ _ _ h => h) (Or.inl ⟨by rfl, ?hy35⟩) (by assumption) ?rest35
  case hy35 => (intro w hSw; (try dsimp only at hSw); go_simp <;> with_reducible rfl)
  try simp only [Act.put, List.setIfInBounds_toArray, List.set_cons_zero, List.set_cons_succ]
  refine wpAnyH_take (i := 36) (oi := { dst := some 72, op := Go.Op.move (Go.Operand.tmp 9), type := 4, pos := "law.go:96", after := #[{ on := 31, ground := Go.Ground.guard }], guard := some (31, true) }) (v := ?v36) rfl (by kernel_rfl) (by kernel_rfl) (by kernel_rfl) (fun _ _ _ h => h) (Or.inl ⟨by rfl, ?hy36⟩) (by assumption) ?rest36
  case hy36 => (intro w hSw; (try dsimp only at hSw); go_simp <;> with_reducible rfl)
  try simp only [Act.put, List.setIfInBounds_toArray, List.set_cons_zero, List.set_cons_succ]
  refine wpAnyH_ready (rs := [35]) (by kernel_rfl) (by simp) ?_
  refine AllReadyH.cons (o := { dst := some 71, op := Go.Op.call { callee := Go.Callee.value (Go.Operand.tmp 68), args := #[Go.Operand.const (Go.Value.int Go.IntKind.i64 2), Go.Operand.tmp 69, Go.Operand.tmp 70], argTypes := #[3, 46, 46] }, type := 4, pos := "law.go:96", after := #[{ on := 32, ground := Go.Ground.data }, { on := 33, ground := Go.Ground.data }, { on := 34, ground := Go.Ground.data }, { on := 31, ground := Go.Ground.chain }, { on := 31, ground := Go.Ground.guard }], guard := some (31, true) }) rfl (fun K hK => ?_) AllReadyH.nil
  go_simp
  first | (go_at_call 44; (with_reducible refine (HA.out _).mono ?_); rintro e w1 ⟨rfl, hb1⟩; have HC := amk (HC.out.below hb1); have HD := amk (HD.out.below hb1); have HX := amk (HX.out.below hb1); have HB := amk (below_step HB.out hb1); clear hb1) | (go_at_call 52; (first | (with_reducible refine (HT.out _ HC.out HD.out HX.out).mono ?_) | (with_reducible refine (HT2.out _ HC.out HD.out HX.out).mono ?_) | (with_reducible refine (HT3.out _ HC.out HD.out HX.out).mono ?_) | (with_reducible refine (HT4.out _ HC.out HD.out HX.out).mono ?_) | (with_reducible refine (HT5.out _ HC.out HD.out HX.out).mono ?_)); rintro e w1 ⟨rfl, hb1⟩; have HC := amk (HC.out.below hb1); have HD := amk (HD.out.below hb1); have HX := amk (HX.out.below hb1); have HB := amk (below_step HB.out hb1); clear hb1)
  refine hK.out _ _ ?hS37 (fun hH2 => ?rest37)
  case hS37 => exact HS12.out _ HC.out HD.out
  clear hK K hH
  have hH := hH2
  clear hH2
  try simp only [Act.put, List.setIfInBounds_toArray, List.set_cons_zero, List.set_cons_succ]
  refine wpAnyH_take (i := 37) (oi := { dst := some 73, op := Go.Op.binOp Go.BinOp.eql 4 (Go.Operand.tmp 71) (Go.Operand.tmp 72) 4, type := 4, pos := "law.go:96", after := #[{ on := 35, ground := Go.Ground.data }, { on := 36, ground := Go.Ground.data }, { on := 31, ground := Go.Ground.guard }], guard := some (31, true) }) (v := ?v38) rfl (by kernel_rfl) (by kernel_rfl) (by kernel_rfl) (fun _ _ _ h => h) (Or.inl ⟨by rfl, ?hy38⟩) (by assumption) ?rest38
  case hy38 => (intro w hSw; (try dsimp only at hSw); go_simp <;> with_reducible rfl)
  try simp only [Act.put, List.setIfInBounds_toArray, List.set_cons_zero, List.set_cons_succ]
  refine wpAnyH_take (i := 38) (oi := { dst := some 74, op := Go.Op.pick (Go.Operand.tmp 67) (Go.Operand.tmp 73) (Go.Operand.const (Go.Value.bool false)), type := 4, pos := "law.go:96", after := #[{ on := 31, ground := Go.Ground.data }, { on := 37, ground := Go.Ground.data }], guard := none }) (v := ?v39) rfl (by kernel_rfl) (by kernel_rfl) (by kernel_rfl) (fun _ _ _ h => h) (Or.inl ⟨by rfl, ?hy39⟩) (by assumption) ?rest39
  case hy39 => (intro w hSw; (try dsimp only at hSw); go_simp <;> with_reducible rfl)
  try simp only [Act.put, List.setIfInBounds_toArray, List.set_cons_zero, List.set_cons_succ]
  refine wpAnyH_take (i := 39) (oi := { dst := some 75, op := Go.Op.move (Go.Operand.tmp 74), type := 4, pos := "law.go:96", after := #[{ on := 38, ground := Go.Ground.data }, { on := 35, ground := Go.Ground.chain }], guard := none }) (v := ?v40) rfl (by kernel_rfl) (by kernel_rfl) (by kernel_rfl) (fun _ _ _ h => h) (Or.inl ⟨by rfl, ?hy40⟩) (by assumption) ?rest40
  case hy40 => (intro w hSw; (try dsimp only at hSw); go_simp <;> with_reducible rfl)
  try simp only [Act.put, List.setIfInBounds_toArray, List.set_cons_zero, List.set_cons_succ]
  refine wpAnyH_take (i := 40) (oi := { dst := some 76, op := Go.Op.move (Go.Operand.tmp 7), type := 66, pos := "law.go:96", after := #[{ on := 39, ground := Go.Ground.guard }], guard := some (39, true) }) (v := ?v41) rfl (by kernel_rfl) (by kernel_rfl) (by kernel_rfl) (fun _ _ _ h => h) (Or.inl ⟨by rfl, ?hy41⟩) (by assumption) ?rest41
  case hy41 => (intro w hSw; (try dsimp only at hSw); go_simp <;> with_reducible rfl)
  try simp only [Act.put, List.setIfInBounds_toArray, List.set_cons_zero, List.set_cons_succ]
  refine wpAnyH_take (i := 41) (oi := { dst := some 77, op := Go.Op.load 46 (Go.Operand.tmp 4), type := 46, pos := "law.go:96", after := #[{ on := 39, ground := Go.Ground.guard }], guard := some (39, true) }) (v := ?v42) rfl (by kernel_rfl) (by kernel_rfl) (by kernel_rfl) (fun _ _ _ h => h) (Or.inl ⟨by rfl, ?hy42⟩) (by assumption) ?rest42
  case hy42 => (intro w hSw; (try dsimp only at hSw); go_simp <;> with_reducible rfl)
  try simp only [Act.put, List.setIfInBounds_toArray, List.set_cons_zero, List.set_cons_succ]
  refine wpAnyH_take (i := 42) (oi := { dst := some 78, op := Go.Op.load 46 (Go.Operand.tmp 3), type := 46, pos := "law.go:96", after := #[{ on := 39, ground := Go.Ground.guard }], guard := some (39, true) }) (v := ?v43) rfl (by kernel_rfl) (by kernel_rfl) (by kernel_rfl) (fun _ _ _ h => h) (Or.inl ⟨by rfl, ?hy43⟩) (by assumption) ?rest43
  case hy43 => (intro w hSw; (try dsimp only at hSw); go_simp <;> with_reducible rfl)
  try simp only [Act.put, List.setIfInBounds_toArray, List.set_cons_zero, List.set_cons_succ]
  refine wpAnyH_take (i := 44) (oi := { dst := some 80, op := Go.Op.move (Go.Operand.tmp 7), type := 66, pos := "law.go:96", after := #[{ on := 39, ground := Go.Ground.guard }], guard := some (39, true) }) (v := ?v44) rfl (by kernel_rfl) (by kernel_rfl) (by kernel_rfl) (fun _ _ _ h => h) (Or.inl ⟨by rfl, ?hy44⟩) (by assumption) ?rest44
  case hy44 => (intro w hSw; (try dsimp only at hSw); go_simp <;> with_reducible rfl)
  try simp only [Act.put, List.setIfInBounds_toArray, List.set_cons_zero, List.set_cons_succ]
  refine wpAnyH_take (i := 45) (oi := { dst := some 81, op := Go.Op.load 46 (Go.Operand.tmp 3), type := 46, pos := "law.go:96", after := #[{ on := 39, ground := Go.Ground.guard }], guard := some (39, true) }) (v := ?v45) rfl (by kernel_rfl) (by kernel_rfl) (by kernel_rfl) (fun _ _ _ h => h) (Or.inl ⟨by rfl, ?hy45⟩) (by assumption) ?rest45
  case hy45 => (intro w hSw; (try dsimp only at hSw); go_simp <;> with_reducible rfl)
  try simp only [Act.put, List.setIfInBounds_toArray, List.set_cons_zero, List.set_cons_succ]
  refine wpAnyH_take (i := 46) (oi := { dst := some 82, op := Go.Op.load 46 (Go.Operand.tmp 4), type := 46, pos := "law.go:96", after := #[{ on := 39, ground := Go.Ground.guard }], guard := some (39, true) }) (v := ?v46) rfl (by kernel_rfl) (by kernel_rfl) (by kernel_rfl) (fun _ _ _ h => h) (Or.inl ⟨by rfl, ?hy46⟩) (by assumption) ?rest46
  case hy46 => (intro w hSw; (try dsimp only at hSw); go_simp <;> with_reducible rfl)
  try simp only [Act.put, List.setIfInBounds_toArray, List.set_cons_zero, List.set_cons_succ]
  refine wpAnyH_ready (rs := [43]) (by kernel_rfl) (by simp) ?_
  refine AllReadyH.cons (o := { dst := some 79, op := Go.Op.call { callee := Go.Callee.value (Go.Operand.tmp 76), args := #[Go.Operand.const (Go.Value.int Go.IntKind.i64 1), Go.Operand.tmp 77, Go.Operand.tmp 78], argTypes := #[3, 46, 46] }, type := 4, pos := "law.go:96", after := #[{ on := 40, ground := Go.Ground.data }, { on := 41, ground := Go.Ground.data }, { on := 42, ground := Go.Ground.data }, { on := 39, ground := Go.Ground.chain }, { on := 39, ground := Go.Ground.guard }], guard := some (39, true) }) rfl (fun K hK => ?_) AllReadyH.nil
  go_simp
  first | (go_at_call 44; (with_reducible refine (HA.out _).mono ?_); rintro e w1 ⟨rfl, hb1⟩; have HC := amk (HC.out.below hb1); have HD := amk (HD.out.below hb1); have HX := amk (HX.out.below hb1); have HB := amk (below_step HB.out hb1); clear hb1) | (go_at_call 52; (first | (with_reducible refine (HT.out _ HC.out HD.out HX.out).mono ?_) | (with_reducible refine (HT2.out _ HC.out HD.out HX.out).mono ?_) | (with_reducible refine (HT3.out _ HC.out HD.out HX.out).mono ?_) | (with_reducible refine (HT4.out _ HC.out HD.out HX.out).mono ?_) | (with_reducible refine (HT5.out _ HC.out HD.out HX.out).mono ?_)); rintro e w1 ⟨rfl, hb1⟩; have HC := amk (HC.out.below hb1); have HD := amk (HD.out.below hb1); have HX := amk (HX.out.below hb1); have HB := amk (below_step HB.out hb1); clear hb1)
  refine hK.out _ _ ?hS47 (fun hH2 => ?rest47)
  case hS47 => exact HS12.out _ HC.out HD.out
  clear hK K hH
  have hH := hH2
  clear hH2
  try simp only [Act.put, List.setIfInBounds_toArray, List.set_cons_zero, List.set_cons_succ]
  refine wpAnyH_ready (rs := [47]) (by kernel_rfl) (by simp) ?_
  refine AllReadyH.cons (o := { dst := some 83, op := Go.Op.call { callee := Go.Callee.value (Go.Operand.tmp 80), args := #[Go.Operand.const (Go.Value.int Go.IntKind.i64 1), Go.Operand.tmp 81, Go.Operand.tmp 82], argTypes := #[3, 46, 46] }, type := 4, pos := "law.go:96", after := #[{ on := 44, ground := Go.Ground.data }, { on := 45, ground := Go.Ground.data }, { on := 46, ground := Go.Ground.data }, { on := 43, ground := Go.Ground.chain }, { on := 39, ground := Go.Ground.guard }], guard := some (39, true) }) rfl (fun K hK => ?_) AllReadyH.nil
  go_simp
  first | (go_at_call 44; (with_reducible refine (HA.out _).mono ?_); rintro e w1 ⟨rfl, hb1⟩; have HC := amk (HC.out.below hb1); have HD := amk (HD.out.below hb1); have HX := amk (HX.out.below hb1); have HB := amk (below_step HB.out hb1); clear hb1) | (go_at_call 52; (first | (with_reducible refine (HT.out _ HC.out HD.out HX.out).mono ?_) | (with_reducible refine (HT2.out _ HC.out HD.out HX.out).mono ?_) | (with_reducible refine (HT3.out _ HC.out HD.out HX.out).mono ?_) | (with_reducible refine (HT4.out _ HC.out HD.out HX.out).mono ?_) | (with_reducible refine (HT5.out _ HC.out HD.out HX.out).mono ?_)); rintro e w1 ⟨rfl, hb1⟩; have HC := amk (HC.out.below hb1); have HD := amk (HD.out.below hb1); have HX := amk (HX.out.below hb1); have HB := amk (below_step HB.out hb1); clear hb1)
  refine hK.out _ _ ?hS48 (fun hH2 => ?rest48)
  case hS48 => exact HS12.out _ HC.out HD.out
  clear hK K hH
  have hH := hH2
  clear hH2
  try simp only [Act.put, List.setIfInBounds_toArray, List.set_cons_zero, List.set_cons_succ]
  refine wpAnyH_take (i := 48) (oi := { dst := some 84, op := Go.Op.binOp Go.BinOp.eql 4 (Go.Operand.tmp 79) (Go.Operand.tmp 83) 4, type := 4, pos := "law.go:96", after := #[{ on := 43, ground := Go.Ground.data }, { on := 47, ground := Go.Ground.data }, { on := 39, ground := Go.Ground.guard }], guard := some (39, true) }) (v := ?v49) rfl (by kernel_rfl) (by kernel_rfl) (by kernel_rfl) (fun _ _ _ h => h) (Or.inl ⟨by rfl, ?hy49⟩) (by assumption) ?rest49
  case hy49 => (intro w hSw; (try dsimp only at hSw); go_simp <;> with_reducible rfl)
  try simp only [Act.put, List.setIfInBounds_toArray, List.set_cons_zero, List.set_cons_succ]
  refine wpAnyH_take (i := 49) (oi := { dst := some 85, op := Go.Op.pick (Go.Operand.tmp 75) (Go.Operand.tmp 84) (Go.Operand.const (Go.Value.bool false)), type := 4, pos := "law.go:96", after := #[{ on := 39, ground := Go.Ground.data }, { on := 48, ground := Go.Ground.data }], guard := none }) (v := ?v50) rfl (by kernel_rfl) (by kernel_rfl) (by kernel_rfl) (fun _ _ _ h => h) (Or.inl ⟨by rfl, ?hy50⟩) (by assumption) ?rest50
  case hy50 => (intro w hSw; (try dsimp only at hSw); go_simp <;> with_reducible rfl)
  try simp only [Act.put, List.setIfInBounds_toArray, List.set_cons_zero, List.set_cons_succ]
  refine wpAnyH_take (i := 50) (oi := { dst := some 6, op := Go.Op.assign (Go.Operand.tmp 85), type := 4, pos := "law.go:96", after := #[{ on := 49, ground := Go.Ground.data }, { on := 47, ground := Go.Ground.chain }, { on := 0, ground := Go.Ground.phase }, { on := 1, ground := Go.Ground.phase }, { on := 2, ground := Go.Ground.phase }, { on := 3, ground := Go.Ground.phase }, { on := 4, ground := Go.Ground.phase }, { on := 5, ground := Go.Ground.phase }, { on := 6, ground := Go.Ground.phase }, { on := 7, ground := Go.Ground.phase }, { on := 8, ground := Go.Ground.phase }, { on := 9, ground := Go.Ground.phase }, { on := 10, ground := Go.Ground.phase }, { on := 11, ground := Go.Ground.phase }, { on := 12, ground := Go.Ground.phase }, { on := 13, ground := Go.Ground.phase }, { on := 14, ground := Go.Ground.phase }, { on := 15, ground := Go.Ground.phase }, { on := 16, ground := Go.Ground.phase }, { on := 17, ground := Go.Ground.phase }, { on := 18, ground := Go.Ground.phase }, { on := 19, ground := Go.Ground.phase }, { on := 20, ground := Go.Ground.phase }, { on := 21, ground := Go.Ground.phase }, { on := 22, ground := Go.Ground.phase }, { on := 23, ground := Go.Ground.phase }, { on := 24, ground := Go.Ground.phase }, { on := 25, ground := Go.Ground.phase }, { on := 26, ground := Go.Ground.phase }, { on := 27, ground := Go.Ground.phase }, { on := 28, ground := Go.Ground.phase }, { on := 29, ground := Go.Ground.phase }, { on := 30, ground := Go.Ground.phase }, { on := 31, ground := Go.Ground.phase }, { on := 32, ground := Go.Ground.phase }, { on := 33, ground := Go.Ground.phase }, { on := 34, ground := Go.Ground.phase }, { on := 35, ground := Go.Ground.phase }, { on := 36, ground := Go.Ground.phase }, { on := 37, ground := Go.Ground.phase }, { on := 38, ground := Go.Ground.phase }, { on := 39, ground := Go.Ground.phase }, { on := 40, ground := Go.Ground.phase }, { on := 41, ground := Go.Ground.phase }, { on := 42, ground := Go.Ground.phase }, { on := 43, ground := Go.Ground.phase }, { on := 44, ground := Go.Ground.phase }, { on := 45, ground := Go.Ground.phase }, { on := 46, ground := Go.Ground.phase }, { on := 47, ground := Go.Ground.phase }, { on := 48, ground := Go.Ground.phase }, { on := 49, ground := Go.Ground.phase }], guard := none }) (v := ?v51) rfl (by kernel_rfl) (by kernel_rfl) (by kernel_rfl) (fun _ _ _ h => h) (Or.inl ⟨by rfl, ?hy51⟩) (by assumption) ?rest51
  case hy51 => (intro w hSw; (try dsimp only at hSw); go_simp <;> with_reducible rfl)
  try simp only [Act.put, List.setIfInBounds_toArray, List.set_cons_zero, List.set_cons_succ]
  refine wpAnyH_done (by kernel_rfl) ?_ _
  all_goals go_wp2
  all_goals go_ret
  all_goals exact ⟨rfl, HB.out⟩
end Go.Proofs.Ytoeklekjhaigoaa.HAll
end
section
namespace Go.Proofs.Ytoeklekjhaigoaa.HAll
open Go.Proofs.Ytoeklekjhaigoaa.Al Go.RowKit Go.Proofs.YtoeklekjhaigoaaW.PrintWords Go.Proofs.YtoeklekjhaigoaaW.PrintLast Go.Proofs.YtoeklekjhaigoaaW.PrintMore Go.Proofs.Ytoeklekjhaigoaa.M0 Go.Proofs.Ytoeklekjhaigoaa.M1 Go.Proofs.Ytoeklekjhaigoaa.M2 Go.Proofs.Ytoeklekjhaigoaa.QCond Go.Proofs.Ytoeklekjhaigoaa.QMean Go.Proofs.Ytoeklekjhaigoaa.QOne Go.Proofs.Ytoeklekjhaigoaa.HMany Go.Proofs.Ytoeklekjhaigoaa.HCount Go.Proofs.Ytoeklekjhaigoaa.HMean Go.Proofs.Ytoeklekjhaigoaa.QHolds Go.Proofs.Ytoeklekjhaigoaa.HKit Go.Proofs.Ytoeklekjhaigoaa.K49
set_option linter.unusedVariables false
set_option linter.unusedSimpArgs false
set_option maxRecDepth 100000
attribute [local go_sem] max2_int min2_int max_two min_two
set_option maxHeartbeats 16000000 in
theorem all_ff (c d : S46) (x : S49) (A A2 : Option Addr) (n n2 : Nat) (w : World) (hC : Kd.C k46 w A c.f1.length c.f1) (hn : c.f1.length ≤ n) (hD : Kd.C k46 w A2 d.f1.length d.f1) (hn2 : d.f1.length ≤ n2) (hrc : rightB c = true) (hrd : rightB d = true) (hcb : ¬ 30 < nodes c) (hdb : ¬ 30 < nodes d) (hp : semB x c = false) (hq : semB x d = false) :
    Calls Try.prog 12 #[.agg #[.int .i64 c.f0, .slice A c.f1.length n, .int .i64 c.f2, .int .u64 c.f3, .string c.f4, .int .u64 c.f5], .agg #[.int .i64 d.f0, .slice A2 d.f1.length n2, .int .i64 d.f2, .int .u64 d.f3, .string d.f4, .int .u64 d.f5], .agg #[.int .u32 x.f0, .int .u32 x.f1, .int .u64 x.f2, .int .u64 x.f3.f0, .int .u64 x.f3.f1, .int .u64 x.f3.f2, .int .u64 x.f3.f3, .int .u64 x.f3.f4, .int .u64 x.f3.f5]] w fun e w' => e = .returned (.bool true) ∧ Below w.heap.size w w' := by
  have hu46 := Try.underlying46
  have hu49 := Try.underlying49
  have hmf : ∀ (fn : Fn) (first cap : Array Value) (w : World), (Instr.makeFunc fn first cap).run Try.prog w = .ok (.func fn first cap) w := fun _ _ _ _ => rfl
  have s1 : (w.alloc (.cells #[.int .i64 c.f0, .slice A c.f1.length n, .int .i64 c.f2, .int .u64 c.f3, .string c.f4, .int .u64 c.f5] 46)).heap.size = w.heap.size + 1 := by simp
  have s2 : ((w.alloc (.cells #[.int .i64 c.f0, .slice A c.f1.length n, .int .i64 c.f2, .int .u64 c.f3, .string c.f4, .int .u64 c.f5] 46)).alloc (.cells #[.int .i64 d.f0, .slice A2 d.f1.length n2, .int .i64 d.f2, .int .u64 d.f3, .string d.f4, .int .u64 d.f5] 46)).heap.size = w.heap.size + 1 + 1 := by simp
  have HC := amk (((Bx.new w hC hn).alloc (.cells #[.int .i64 d.f0, .slice A2 d.f1.length n2, .int .i64 d.f2, .int .u64 d.f3, .string d.f4, .int .u64 d.f5] 46)).alloc (.cells #[.int .u32 x.f0, .int .u32 x.f1, .int .u64 x.f2, .int .u64 x.f3.f0, .int .u64 x.f3.f1, .int .u64 x.f3.f2, .int .u64 x.f3.f3, .int .u64 x.f3.f4, .int .u64 x.f3.f5] 49))
  have HD0 := (Bx.new (w.alloc (.cells #[.int .i64 c.f0, .slice A c.f1.length n, .int .i64 c.f2, .int .u64 c.f3, .string c.f4, .int .u64 c.f5] 46)) (Kd.C_below hD (bal (Below.refl _ _) _)) hn2).alloc (.cells #[.int .u32 x.f0, .int .u32 x.f1, .int .u64 x.f2, .int .u64 x.f3.f0, .int .u64 x.f3.f1, .int .u64 x.f3.f2, .int .u64 x.f3.f3, .int .u64 x.f3.f4, .int .u64 x.f3.f5] 49)
  rw [s1] at HD0
  have HD := amk HD0
  have HX0 := Xx.new ((w.alloc (.cells #[.int .i64 c.f0, .slice A c.f1.length n, .int .i64 c.f2, .int .u64 c.f3, .string c.f4, .int .u64 c.f5] 46)).alloc (.cells #[.int .i64 d.f0, .slice A2 d.f1.length n2, .int .i64 d.f2, .int .u64 d.f3, .string d.f4, .int .u64 d.f5] 46)) x
  rw [s2] at HX0
  have HX := amk HX0
  have HB := amk (bal (bal (bal (Below.refl w.heap.size w) (.cells #[.int .i64 c.f0, .slice A c.f1.length n, .int .i64 c.f2, .int .u64 c.f3, .string c.f4, .int .u64 c.f5] 46)) (.cells #[.int .i64 d.f0, .slice A2 d.f1.length n2, .int .i64 d.f2, .int .u64 d.f3, .string d.f4, .int .u64 d.f5] 46)) (.cells #[.int .u32 x.f0, .int .u32 x.f1, .int .u64 x.f2, .int .u64 x.f3.f0, .int .u64 x.f3.f1, .int .u64 x.f3.f2, .int .u64 x.f3.f3, .int .u64 x.f3.f4, .int .u64 x.f3.f5] 49))
  have HBIG := amk (show ∀ c : S46, rightB c = false ∨ 30 < nodes c ∨ (rightB c = true ∧ fitsB c = true ∧ nodes c ≤ 30) from fun c => by
    by_cases h : rightB c = true
    · by_cases g : nodes c ≤ 30
      · exact Or.inr (Or.inr ⟨h, (right_fits h).1, g⟩)
      · exact Or.inr (Or.inl (by omega))
    · exact Or.inl (by simpa using h))
  have HS := amk (fun (W' : World) (h : Bx W' w.heap.size c A n) (g : Bx W' (w.heap.size + 1) d A2 n2) (k : Xx W' (w.heap.size + 1 + 1) x) => s21 h g k)
  have HS12 := amk (fun (W' : World) (h : Bx W' w.heap.size c A n) (g : Bx W' (w.heap.size + 1) d A2 n2) => s12 h g)
  have HM1 := amk (fun (W : World) (h : Kd.C k46 W A c.f1.length c.f1) => many_w h hn 30 (by omega) (by omega))
  have HM2 := amk (fun (W : World) (h : Kd.C k46 W A2 d.f1.length d.f1) => many_w h hn2 30 (by omega) (by omega))
  have HR1 := amk (fun (W : World) (h : Kd.C k46 W A c.f1.length c.f1) => right_w h hn)
  have HR2 := amk (fun (W : World) (h : Kd.C k46 W A2 d.f1.length d.f1) => right_w h hn2)
  have HA := amk alive_w
  clear s1 s2 HD0 HX0 hC hD
  go_enter Try.func12, Try.ntmps12
  go_upto_region 1 with (fail)
  generalize ((w.alloc (.cells #[.int .i64 c.f0, .slice A c.f1.length n, .int .i64 c.f2, .int .u64 c.f3, .string c.f4, .int .u64 c.f5] 46)).alloc (.cells #[.int .i64 d.f0, .slice A2 d.f1.length n2, .int .i64 d.f2, .int .u64 d.f3, .string d.f4, .int .u64 d.f5] 46)).alloc (.cells #[.int .u32 x.f0, .int .u32 x.f1, .int .u64 x.f2, .int .u64 x.f3.f0, .int .u64 x.f3.f1, .int .u64 x.f3.f2, .int .u64 x.f3.f3, .int .u64 x.f3.f4, .int .u64 x.f3.f5] 49) = W at *
  obtain ⟨k0, k1, k2, k3, k4, k5⟩ := HC.out.six
  obtain ⟨q0, q1, q2, q3, q4, q5⟩ := HD.out.six
  have nc : decide (30 < ((min (nodes c) ((30 : Int).toNat + 1) : Nat) : Int)) = decide (30 < nodes c) := decide_eq_decide.2 (by simp only [Int.reduceToNat]; omega)
  have nd : decide (30 < ((min (nodes d) ((30 : Int).toNat + 1) : Nat) : Int)) = decide (30 < nodes d) := decide_eq_decide.2 (by simp only [Int.reduceToNat]; omega)
  generalize ((min (nodes c) ((30 : Int).toNat + 1) : Nat) : Int) = mc at *
  generalize ((min (nodes d) ((30 : Int).toNat + 1) : Nat) : Int) = md at *
  have e1 : decide (30 < mc) = false := nc.trans (decide_eq_false hcb)
  have e2 : decide (30 < md) = false := nd.trans (decide_eq_false hdb)
  simp only [hrc] at HR1
  simp only [hrd] at HR2
  have hfc := (right_fits hrc).1
  have hfd := (right_fits hrd).1
  have HH1 := amk (fun (W : World) (h : Kd.C k46 W A c.f1.length c.f1) => by have h2 := holds_w x h hn; rw [holds_right hrc] at h2; exact h2)
  have HH2 := amk (fun (W : World) (h : Kd.C k46 W A2 d.f1.length d.f1) => by have h2 := holds_w x h hn2; rw [holds_right hrd] at h2; exact h2)
  have HT := amk (fun (W : World) (h : Bx W w.heap.size c A n) (g : Bx W (w.heap.size + 1) d A2 n2) (k : Xx W (w.heap.size + 1 + 1) x) => by have h2 := two_w 1 h.C hn g.C hn2 k; rw [two_sem (Or.inl rfl) hfc hfd (by omega), if_pos rfl] at h2; exact h2)
  have HT2 := amk (fun (W : World) (h : Bx W w.heap.size c A n) (g : Bx W (w.heap.size + 1) d A2 n2) (k : Xx W (w.heap.size + 1 + 1) x) => by have h2 := two_w 2 h.C hn g.C hn2 k; rw [two_sem (Or.inr rfl) hfc hfd (by omega), if_neg (show ¬ (2 : Int) = 1 by decide)] at h2; exact h2)
  have HT3 := amk (fun (W : World) (h : Bx W w.heap.size c A n) (g : Bx W (w.heap.size + 1) d A2 n2) (k : Xx W (w.heap.size + 1 + 1) x) => by have h2 := two_w 1 h.C hn h.C hn k; rw [two_sem (Or.inl rfl) hfc hfc (by omega), if_pos rfl] at h2; exact h2)
  have HT4 := amk (fun (W : World) (h : Bx W w.heap.size c A n) (g : Bx W (w.heap.size + 1) d A2 n2) (k : Xx W (w.heap.size + 1 + 1) x) => by have h2 := two_w 2 g.C hn2 g.C hn2 k; rw [two_sem (Or.inr rfl) hfd hfd (by omega), if_neg (show ¬ (2 : Int) = 1 by decide)] at h2; exact h2)
  have HT5 := amk (fun (W : World) (h : Bx W w.heap.size c A n) (g : Bx W (w.heap.size + 1) d A2 n2) (k : Xx W (w.heap.size + 1 + 1) x) => by have h2 := two_w 1 g.C hn2 h.C hn k; rw [two_sem (Or.inl rfl) hfd hfc (by omega), if_pos rfl] at h2; exact h2)
  simp only [hp, hq, Bool.and_true, Bool.and_false, Bool.or_true, Bool.or_false] at HH1 HH2 HT HT2 HT3 HT4 HT5
  clear nc nd hcb hdb hrc hrd hfc hfd HBIG hp hq
  go_upto_region 4 with (first | (go_at_call 43; (first | (with_reducible refine (HM1.out _ HC.out.C).mono ?_) | (with_reducible refine (HM2.out _ HD.out.C).mono ?_)); rintro e w1 ⟨rfl, hb1⟩; have HC := amk (HC.out.below hb1); have HD := amk (HD.out.below hb1); have HX := amk (HX.out.below hb1); have HB := amk (below_step HB.out hb1); obtain ⟨k0, k1, k2, k3, k4, k5⟩ := HC.out.six; obtain ⟨q0, q1, q2, q3, q4, q5⟩ := HD.out.six; clear hb1) | (go_at_call 47; (first | (with_reducible refine (HR1.out _ HC.out.C).mono ?_) | (with_reducible refine (HR2.out _ HD.out.C).mono ?_)); rintro e w1 ⟨rfl, hb1⟩; have HC := amk (HC.out.below hb1); have HD := amk (HD.out.below hb1); have HX := amk (HX.out.below hb1); have HB := amk (below_step HB.out hb1); obtain ⟨k0, k1, k2, k3, k4, k5⟩ := HC.out.six; obtain ⟨q0, q1, q2, q3, q4, q5⟩ := HD.out.six; clear hb1))
  have HC := amk HC.out.drew
  have HD := amk HD.out.drew
  have HX := amk HX.out.drew
  have HB := amk (below_drew HB.out)
  go_region_held3 (fun W' : World => W'.cell? ⟨w.heap.size, 0, none⟩ = some (.int .i64 c.f0) ∧ W'.cell? ⟨w.heap.size, 1, none⟩ = some (.slice A c.f1.length n) ∧ W'.cell? ⟨w.heap.size, 2, none⟩ = some (.int .i64 c.f2) ∧ W'.cell? ⟨w.heap.size, 3, none⟩ = some (.int .u64 c.f3) ∧ W'.cell? ⟨w.heap.size, 4, none⟩ = some (.string c.f4) ∧ W'.cell? ⟨w.heap.size, 5, none⟩ = some (.int .u64 c.f5) ∧ W'.cell? ⟨(w.heap.size + 1), 0, none⟩ = some (.int .i64 d.f0) ∧ W'.cell? ⟨(w.heap.size + 1), 1, none⟩ = some (.slice A2 d.f1.length n2) ∧ W'.cell? ⟨(w.heap.size + 1), 2, none⟩ = some (.int .i64 d.f2) ∧ W'.cell? ⟨(w.heap.size + 1), 3, none⟩ = some (.int .u64 d.f3) ∧ W'.cell? ⟨(w.heap.size + 1), 4, none⟩ = some (.string d.f4) ∧ W'.cell? ⟨(w.heap.size + 1), 5, none⟩ = some (.int .u64 d.f5) ∧ W'.cell? ⟨(w.heap.size + 1 + 1), 0, none⟩ = some (.int .u32 x.f0) ∧ W'.cell? ⟨(w.heap.size + 1 + 1), 1, none⟩ = some (.int .u32 x.f1) ∧ W'.cell? ⟨(w.heap.size + 1 + 1), 2, none⟩ = some (.int .u64 x.f2) ∧ W'.cell? ⟨(w.heap.size + 1 + 1), 3, none⟩ = some (.int .u64 x.f3.f0) ∧ W'.cell? ⟨(w.heap.size + 1 + 1), 4, none⟩ = some (.int .u64 x.f3.f1) ∧ W'.cell? ⟨(w.heap.size + 1 + 1), 5, none⟩ = some (.int .u64 x.f3.f2) ∧ W'.cell? ⟨(w.heap.size + 1 + 1), 6, none⟩ = some (.int .u64 x.f3.f3) ∧ W'.cell? ⟨(w.heap.size + 1 + 1), 7, none⟩ = some (.int .u64 x.f3.f4) ∧ W'.cell? ⟨(w.heap.size + 1 + 1), 8, none⟩ = some (.int .u64 x.f3.f5)) (exact HS.out _ HC.out HD.out HX.out) (first | (go_at_call 45; (first | (with_reducible refine (HH1.out _ HC.out.C).mono ?_) | (with_reducible refine (HH2.out _ HD.out.C).mono ?_)); rintro e w1 ⟨rfl, hb1⟩; have HC := amk (HC.out.below hb1); have HD := amk (HD.out.below hb1); have HX := amk (HX.out.below hb1); have HB := amk (below_step HB.out hb1); clear hb1))
  all_goals clear HM1 HM2 HR1 HR2 HH1 HH2 hmf e1 e2 k0 k1 k2 k3 k4 k5 q0 q1 q2 q3 q4 q5
  all_goals go_upto_region 5 with (fail)
  all_goals have HC := amk HC.out.drew
  all_goals have HD := amk HD.out.drew
  all_goals have HX := amk HX.out.drew
  all_goals have HB := amk (below_drew HB.out)
  refine wp_region_held_drew (S := fun W' : World => W'.cell? ⟨w.heap.size, 0, none⟩ = some (.int .i64 c.f0) ∧ W'.cell? ⟨w.heap.size, 1, none⟩ = some (.slice A c.f1.length n) ∧ W'.cell? ⟨w.heap.size, 2, none⟩ = some (.int .i64 c.f2) ∧ W'.cell? ⟨w.heap.size, 3, none⟩ = some (.int .u64 c.f3) ∧ W'.cell? ⟨w.heap.size, 4, none⟩ = some (.string c.f4) ∧ W'.cell? ⟨w.heap.size, 5, none⟩ = some (.int .u64 c.f5) ∧ W'.cell? ⟨(w.heap.size + 1), 0, none⟩ = some (.int .i64 d.f0) ∧ W'.cell? ⟨(w.heap.size + 1), 1, none⟩ = some (.slice A2 d.f1.length n2) ∧ W'.cell? ⟨(w.heap.size + 1), 2, none⟩ = some (.int .i64 d.f2) ∧ W'.cell? ⟨(w.heap.size + 1), 3, none⟩ = some (.int .u64 d.f3) ∧ W'.cell? ⟨(w.heap.size + 1), 4, none⟩ = some (.string d.f4) ∧ W'.cell? ⟨(w.heap.size + 1), 5, none⟩ = some (.int .u64 d.f5)) (by kernel_rfl) ?hS0 (fun hH => ?rest0)
  case hS0 => exact HS12.out _ HC.out HD.out
  refine wpAnyH_ready (rs := [0]) (by kernel_rfl) (by simp) ?_
  refine AllReadyH.cons (o := { dst := some 36, op := Go.Op.call { callee := Go.Callee.value (Go.Operand.func 44), args := #[], argTypes := #[] }, type := 4, pos := "law.go:96", after := #[], guard := none }) rfl (fun K hK => ?_) AllReadyH.nil
  go_simp
  first | (go_at_call 44; (with_reducible refine (HA.out _).mono ?_); rintro e w1 ⟨rfl, hb1⟩; have HC := amk (HC.out.below hb1); have HD := amk (HD.out.below hb1); have HX := amk (HX.out.below hb1); have HB := amk (below_step HB.out hb1); clear hb1) | (go_at_call 52; (first | (with_reducible refine (HT.out _ HC.out HD.out HX.out).mono ?_) | (with_reducible refine (HT2.out _ HC.out HD.out HX.out).mono ?_) | (with_reducible refine (HT3.out _ HC.out HD.out HX.out).mono ?_) | (with_reducible refine (HT4.out _ HC.out HD.out HX.out).mono ?_) | (with_reducible refine (HT5.out _ HC.out HD.out HX.out).mono ?_)); rintro e w1 ⟨rfl, hb1⟩; have HC := amk (HC.out.below hb1); have HD := amk (HD.out.below hb1); have HX := amk (HX.out.below hb1); have HB := amk (below_step HB.out hb1); clear hb1)
  refine hK.out _ _ ?hS1 (fun hH2 => ?rest1)
  case hS1 => exact HS12.out _ HC.out HD.out
  clear hK K hH
  have hH := hH2
  clear hH2
  try simp only [Act.put, List.setIfInBounds_toArray, List.set_cons_zero, List.set_cons_succ]
  refine wpAnyH_take (i := 1) (oi := { dst := some 37, op := Go.Op.move (Go.Operand.tmp 36), type := 4, pos := "law.go:96", after := #[{ on := 0, ground := Go.Ground.data }, { on := 0, ground := Go.Ground.chain }], guard := none }) (v := ?v2) rfl (by kernel_rfl) (by kernel_rfl) (by kernel_rfl) (fun _ _ _ h => h) (Or.inl ⟨by rfl, ?hy2⟩) (by assumption) ?rest2
  case hy2 => (intro w hSw; (try dsimp only at hSw); go_simp <;> with_reducible rfl)
  try simp only [Act.put, List.setIfInBounds_toArray, List.set_cons_zero, List.set_cons_succ]
  refine wpAnyH_take (i := 2) (oi := { dst := some 38, op := Go.Op.move (Go.Operand.tmp 7), type := 66, pos := "law.go:96", after := #[{ on := 1, ground := Go.Ground.guard }], guard := some (1, true) }) (v := ?v3) rfl (by kernel_rfl) (by kernel_rfl) (by kernel_rfl) (fun _ _ _ h => h) (Or.inl ⟨by rfl, ?hy3⟩) (by assumption) ?rest3
  case hy3 => (intro w hSw; (try dsimp only at hSw); go_simp <;> with_reducible rfl)
  try simp only [Act.put, List.setIfInBounds_toArray, List.set_cons_zero, List.set_cons_succ]
  refine wpAnyH_take (i := 3) (oi := { dst := some 39, op := Go.Op.load 46 (Go.Operand.tmp 3), type := 46, pos := "law.go:96", after := #[{ on := 1, ground := Go.Ground.guard }], guard := some (1, true) }) (v := ?v4) rfl (by kernel_rfl) (by kernel_rfl) (by kernel_rfl) (fun _ _ _ h => h) (Or.inl ⟨by rfl, ?hy4⟩) (by assumption) ?rest4
  case hy4 => (intro w hSw; (try dsimp only at hSw); go_simp <;> with_reducible rfl)
  try simp only [Act.put, List.setIfInBounds_toArray, List.set_cons_zero, List.set_cons_succ]
  refine wpAnyH_take (i := 4) (oi := { dst := some 40, op := Go.Op.load 46 (Go.Operand.tmp 4), type := 46, pos := "law.go:96", after := #[{ on := 1, ground := Go.Ground.guard }], guard := some (1, true) }) (v := ?v5) rfl (by kernel_rfl) (by kernel_rfl) (by kernel_rfl) (fun _ _ _ h => h) (Or.inl ⟨by rfl, ?hy5⟩) (by assumption) ?rest5
  case hy5 => (intro w hSw; (try dsimp only at hSw); go_simp <;> with_reducible rfl)
  try simp only [Act.put, List.setIfInBounds_toArray, List.set_cons_zero, List.set_cons_succ]
  refine wpAnyH_take (i := 6) (oi := { dst := some 42, op := Go.Op.move (Go.Operand.tmp 8), type := 4, pos := "law.go:96", after := #[{ on := 1, ground := Go.Ground.guard }], guard := some (1, true) }) (v := ?v6) rfl (by kernel_rfl) (by kernel_rfl) (by kernel_rfl) (fun _ _ _ h => h) (Or.inl ⟨by rfl, ?hy6⟩) (by assumption) ?rest6
  case hy6 => (intro w hSw; (try dsimp only at hSw); go_simp <;> with_reducible rfl)
  try simp only [Act.put, List.setIfInBounds_toArray, List.set_cons_zero, List.set_cons_succ]
  refine wpAnyH_ready (rs := [5]) (by kernel_rfl) (by simp) ?_
  refine AllReadyH.cons (o := { dst := some 41, op := Go.Op.call { callee := Go.Callee.value (Go.Operand.tmp 38), args := #[Go.Operand.const (Go.Value.int Go.IntKind.i64 1), Go.Operand.tmp 39, Go.Operand.tmp 40], argTypes := #[3, 46, 46] }, type := 4, pos := "law.go:96", after := #[{ on := 2, ground := Go.Ground.data }, { on := 3, ground := Go.Ground.data }, { on := 4, ground := Go.Ground.data }, { on := 1, ground := Go.Ground.chain }, { on := 1, ground := Go.Ground.guard }], guard := some (1, true) }) rfl (fun K hK => ?_) AllReadyH.nil
  go_simp
  first | (go_at_call 44; (with_reducible refine (HA.out _).mono ?_); rintro e w1 ⟨rfl, hb1⟩; have HC := amk (HC.out.below hb1); have HD := amk (HD.out.below hb1); have HX := amk (HX.out.below hb1); have HB := amk (below_step HB.out hb1); clear hb1) | (go_at_call 52; (first | (with_reducible refine (HT.out _ HC.out HD.out HX.out).mono ?_) | (with_reducible refine (HT2.out _ HC.out HD.out HX.out).mono ?_) | (with_reducible refine (HT3.out _ HC.out HD.out HX.out).mono ?_) | (with_reducible refine (HT4.out _ HC.out HD.out HX.out).mono ?_) | (with_reducible refine (HT5.out _ HC.out HD.out HX.out).mono ?_)); rintro e w1 ⟨rfl, hb1⟩; have HC := amk (HC.out.below hb1); have HD := amk (HD.out.below hb1); have HX := amk (HX.out.below hb1); have HB := amk (below_step HB.out hb1); clear hb1)
  refine hK.out _ _ ?hS7 (fun hH2 => ?rest7)
  case hS7 => exact HS12.out _ HC.out HD.out
  clear hK K hH
  have hH := hH2
  clear hH2
  try simp only [Act.put, List.setIfInBounds_toArray, List.set_cons_zero, List.set_cons_succ]
  refine wpAnyH_take (i := 7) (oi := { dst := some 43, op := Go.Op.move (Go.Operand.tmp 42), type := 4, pos := "law.go:96", after := #[{ on := 6, ground := Go.Ground.data }, { on := 5, ground := Go.Ground.chain }, { on := 1, ground := Go.Ground.guard }], guard := some (1, true) }) (v := ?v8) rfl (by kernel_rfl) (by kernel_rfl) (by kernel_rfl) (fun _ _ _ h => h) (Or.inl ⟨by rfl, ?hy8⟩) (by assumption) ?rest8
  case hy8 => (intro w hSw; (try dsimp only at hSw); go_simp <;> with_reducible rfl)
  try simp only [Act.put, List.setIfInBounds_toArray, List.set_cons_zero, List.set_cons_succ]
  refine wpAnyH_take (i := 8) (oi := { dst := some 44, op := Go.Op.move (Go.Operand.tmp 9), type := 4, pos := "law.go:96", after := #[{ on := 7, ground := Go.Ground.guard }], guard := some (7, true) }) (v := undef) rfl (by kernel_rfl) (by kernel_rfl) (by kernel_rfl) (fun _ _ _ h => h) (Or.inr ⟨by rfl, rfl⟩) (by assumption) ?_
  try simp only [Act.put, List.setIfInBounds_toArray, List.set_cons_zero, List.set_cons_succ]
  refine wpAnyH_take (i := 9) (oi := { dst := some 45, op := Go.Op.pick (Go.Operand.tmp 43) (Go.Operand.tmp 44) (Go.Operand.const (Go.Value.bool false)), type := 4, pos := "law.go:96", after := #[{ on := 7, ground := Go.Ground.data }, { on := 8, ground := Go.Ground.data }, { on := 1, ground := Go.Ground.guard }], guard := some (1, true) }) (v := ?v10) rfl (by kernel_rfl) (by kernel_rfl) (by kernel_rfl) (fun _ _ _ h => h) (Or.inl ⟨by rfl, ?hy10⟩) (by assumption) ?rest10
  case hy10 => (intro w hSw; (try dsimp only at hSw); go_simp <;> with_reducible rfl)
  try simp only [Act.put, List.setIfInBounds_toArray, List.set_cons_zero, List.set_cons_succ]
  refine wpAnyH_take (i := 10) (oi := { dst := some 46, op := Go.Op.binOp Go.BinOp.eql 4 (Go.Operand.tmp 41) (Go.Operand.tmp 45) 4, type := 4, pos := "law.go:96", after := #[{ on := 5, ground := Go.Ground.data }, { on := 9, ground := Go.Ground.data }, { on := 1, ground := Go.Ground.guard }], guard := some (1, true) }) (v := ?v11) rfl (by kernel_rfl) (by kernel_rfl) (by kernel_rfl) (fun _ _ _ h => h) (Or.inl ⟨by rfl, ?hy11⟩) (by assumption) ?rest11
  case hy11 => (intro w hSw; (try dsimp only at hSw); go_simp <;> with_reducible rfl)
  try simp only [Act.put, List.setIfInBounds_toArray, List.set_cons_zero, List.set_cons_succ]
  refine wpAnyH_take (i := 11) (oi := { dst := some 47, op := Go.Op.pick (Go.Operand.tmp 37) (Go.Operand.tmp 46) (Go.Operand.const (Go.Value.bool false)), type := 4, pos := "law.go:96", after := #[{ on := 1, ground := Go.Ground.data }, { on := 10, ground := Go.Ground.data }], guard := none }) (v := ?v12) rfl (by kernel_rfl) (by kernel_rfl) (by kernel_rfl) (fun _ _ _ h => h) (Or.inl ⟨by rfl, ?hy12⟩) (by assumption) ?rest12
  case hy12 => (intro w hSw; (try dsimp only at hSw); go_simp <;> with_reducible rfl)
  try simp only [Act.put, List.setIfInBounds_toArray, List.set_cons_zero, List.set_cons_succ]
  refine wpAnyH_take (i := 12) (oi := { dst := some 48, op := Go.Op.move (Go.Operand.tmp 47), type := 4, pos := "law.go:96", after := #[{ on := 11, ground := Go.Ground.data }, { on := 7, ground := Go.Ground.chain }], guard := none }) (v := ?v13) rfl (by kernel_rfl) (by kernel_rfl) (by kernel_rfl) (fun _ _ _ h => h) (Or.inl ⟨by rfl, ?hy13⟩) (by assumption) ?rest13
  case hy13 => (intro w hSw; (try dsimp only at hSw); go_simp <;> with_reducible rfl)
  try simp only [Act.put, List.setIfInBounds_toArray, List.set_cons_zero, List.set_cons_succ]
  refine wpAnyH_take (i := 13) (oi := { dst := some 49, op := Go.Op.move (Go.Operand.tmp 7), type := 66, pos := "law.go:96", after := #[{ on := 12, ground := Go.Ground.guard }], guard := some (12, true) }) (v := ?v14) rfl (by kernel_rfl) (by kernel_rfl) (by kernel_rfl) (fun _ _ _ h => h) (Or.inl ⟨by rfl, ?hy14⟩) (by assumption) ?rest14
  case hy14 => (intro w hSw; (try dsimp only at hSw); go_simp <;> with_reducible rfl)
  try simp only [Act.put, List.setIfInBounds_toArray, List.set_cons_zero, List.set_cons_succ]
  refine wpAnyH_take (i := 14) (oi := { dst := some 50, op := Go.Op.load 46 (Go.Operand.tmp 3), type := 46, pos := "law.go:96", after := #[{ on := 12, ground := Go.Ground.guard }], guard := some (12, true) }) (v := ?v15) rfl (by kernel_rfl) (by kernel_rfl) (by kernel_rfl) (fun _ _ _ h => h) (Or.inl ⟨by rfl, ?hy15⟩) (by assumption) ?rest15
  case hy15 => (intro w hSw; (try dsimp only at hSw); go_simp <;> with_reducible rfl)
  try simp only [Act.put, List.setIfInBounds_toArray, List.set_cons_zero, List.set_cons_succ]
  refine wpAnyH_take (i := 15) (oi := { dst := some 51, op := Go.Op.load 46 (Go.Operand.tmp 4), type := 46, pos := "law.go:96", after := #[{ on := 12, ground := Go.Ground.guard }], guard := some (12, true) }) (v := ?v16) rfl (by kernel_rfl) (by kernel_rfl) (by kernel_rfl) (fun _ _ _ h => h) (Or.inl ⟨by rfl, ?hy16⟩) (by assumption) ?rest16
  case hy16 => (intro w hSw; (try dsimp only at hSw); go_simp <;> with_reducible rfl)
  try simp only [Act.put, List.setIfInBounds_toArray, List.set_cons_zero, List.set_cons_succ]
  refine wpAnyH_take (i := 17) (oi := { dst := some 53, op := Go.Op.move (Go.Operand.tmp 8), type := 4, pos := "law.go:96", after := #[{ on := 12, ground := Go.Ground.guard }], guard := some (12, true) }) (v := ?v17) rfl (by kernel_rfl) (by kernel_rfl) (by kernel_rfl) (fun _ _ _ h => h) (Or.inl ⟨by rfl, ?hy17⟩) (by assumption) ?rest17
  case hy17 => (intro w hSw; (try dsimp only at hSw); go_simp <;> with_reducible rfl)
  try simp only [Act.put, List.setIfInBounds_toArray, List.set_cons_zero, List.set_cons_succ]
  refine wpAnyH_ready (rs := [16]) (by kernel_rfl) (by simp) ?_
  refine AllReadyH.cons (o := { dst := some 52, op := Go.Op.call { callee := Go.Callee.value (Go.Operand.tmp 49), args := #[Go.Operand.const (Go.Value.int Go.IntKind.i64 2), Go.Operand.tmp 50, Go.Operand.tmp 51], argTypes := #[3, 46, 46] }, type := 4, pos := "law.go:96", after := #[{ on := 13, ground := Go.Ground.data }, { on := 14, ground := Go.Ground.data }, { on := 15, ground := Go.Ground.data }, { on := 12, ground := Go.Ground.chain }, { on := 12, ground := Go.Ground.guard }], guard := some (12, true) }) rfl (fun K hK => ?_) AllReadyH.nil
  go_simp
  first | (go_at_call 44; (with_reducible refine (HA.out _).mono ?_); rintro e w1 ⟨rfl, hb1⟩; have HC := amk (HC.out.below hb1); have HD := amk (HD.out.below hb1); have HX := amk (HX.out.below hb1); have HB := amk (below_step HB.out hb1); clear hb1) | (go_at_call 52; (first | (with_reducible refine (HT.out _ HC.out HD.out HX.out).mono ?_) | (with_reducible refine (HT2.out _ HC.out HD.out HX.out).mono ?_) | (with_reducible refine (HT3.out _ HC.out HD.out HX.out).mono ?_) | (with_reducible refine (HT4.out _ HC.out HD.out HX.out).mono ?_) | (with_reducible refine (HT5.out _ HC.out HD.out HX.out).mono ?_)); rintro e w1 ⟨rfl, hb1⟩; have HC := amk (HC.out.below hb1); have HD := amk (HD.out.below hb1); have HX := amk (HX.out.below hb1); have HB := amk (below_step HB.out hb1); clear hb1)
  refine hK.out _ _ ?hS18 (fun hH2 => ?rest18)
  case hS18 => exact HS12.out _ HC.out HD.out
  clear hK K hH
  have hH := hH2
  clear hH2
  try simp only [Act.put, List.setIfInBounds_toArray, List.set_cons_zero, List.set_cons_succ]
  refine wpAnyH_take (i := 18) (oi := { dst := some 54, op := Go.Op.move (Go.Operand.tmp 53), type := 4, pos := "law.go:96", after := #[{ on := 17, ground := Go.Ground.data }, { on := 16, ground := Go.Ground.chain }, { on := 12, ground := Go.Ground.guard }], guard := some (12, true) }) (v := ?v19) rfl (by kernel_rfl) (by kernel_rfl) (by kernel_rfl) (fun _ _ _ h => h) (Or.inl ⟨by rfl, ?hy19⟩) (by assumption) ?rest19
  case hy19 => (intro w hSw; (try dsimp only at hSw); go_simp <;> with_reducible rfl)
  try simp only [Act.put, List.setIfInBounds_toArray, List.set_cons_zero, List.set_cons_succ]
  refine wpAnyH_take (i := 19) (oi := { dst := some 55, op := Go.Op.move (Go.Operand.tmp 9), type := 4, pos := "law.go:96", after := #[{ on := 18, ground := Go.Ground.guard }], guard := some (18, false) }) (v := ?v20) rfl (by kernel_rfl) (by kernel_rfl) (by kernel_rfl) (fun _ _ _ h => h) (Or.inl ⟨by rfl, ?hy20⟩) (by assumption) ?rest20
  case hy20 => (intro w hSw; (try dsimp only at hSw); go_simp <;> with_reducible rfl)
  try simp only [Act.put, List.setIfInBounds_toArray, List.set_cons_zero, List.set_cons_succ]
  refine wpAnyH_take (i := 20) (oi := { dst := some 56, op := Go.Op.pick (Go.Operand.tmp 54) (Go.Operand.const (Go.Value.bool true)) (Go.Operand.tmp 55), type := 4, pos := "law.go:96", after := #[{ on := 18, ground := Go.Ground.data }, { on := 19, ground := Go.Ground.data }, { on := 12, ground := Go.Ground.guard }], guard := some (12, true) }) (v := ?v21) rfl (by kernel_rfl) (by kernel_rfl) (by kernel_rfl) (fun _ _ _ h => h) (Or.inl ⟨by rfl, ?hy21⟩) (by assumption) ?rest21
  case hy21 => (intro w hSw; (try dsimp only at hSw); go_simp <;> with_reducible rfl)
  try simp only [Act.put, List.setIfInBounds_toArray, List.set_cons_zero, List.set_cons_succ]
  refine wpAnyH_take (i := 21) (oi := { dst := some 57, op := Go.Op.binOp Go.BinOp.eql 4 (Go.Operand.tmp 52) (Go.Operand.tmp 56) 4, type := 4, pos := "law.go:96", after := #[{ on := 16, ground := Go.Ground.data }, { on := 20, ground := Go.Ground.data }, { on := 12, ground := Go.Ground.guard }], guard := some (12, true) }) (v := ?v22) rfl (by kernel_rfl) (by kernel_rfl) (by kernel_rfl) (fun _ _ _ h => h) (Or.inl ⟨by rfl, ?hy22⟩) (by assumption) ?rest22
  case hy22 => (intro w hSw; (try dsimp only at hSw); go_simp <;> with_reducible rfl)
  try simp only [Act.put, List.setIfInBounds_toArray, List.set_cons_zero, List.set_cons_succ]
  refine wpAnyH_take (i := 22) (oi := { dst := some 58, op := Go.Op.pick (Go.Operand.tmp 48) (Go.Operand.tmp 57) (Go.Operand.const (Go.Value.bool false)), type := 4, pos := "law.go:96", after := #[{ on := 12, ground := Go.Ground.data }, { on := 21, ground := Go.Ground.data }], guard := none }) (v := ?v23) rfl (by kernel_rfl) (by kernel_rfl) (by kernel_rfl) (fun _ _ _ h => h) (Or.inl ⟨by rfl, ?hy23⟩) (by assumption) ?rest23
  case hy23 => (intro w hSw; (try dsimp only at hSw); go_simp <;> with_reducible rfl)
  try simp only [Act.put, List.setIfInBounds_toArray, List.set_cons_zero, List.set_cons_succ]
  refine wpAnyH_take (i := 23) (oi := { dst := some 59, op := Go.Op.move (Go.Operand.tmp 58), type := 4, pos := "law.go:96", after := #[{ on := 22, ground := Go.Ground.data }, { on := 18, ground := Go.Ground.chain }], guard := none }) (v := ?v24) rfl (by kernel_rfl) (by kernel_rfl) (by kernel_rfl) (fun _ _ _ h => h) (Or.inl ⟨by rfl, ?hy24⟩) (by assumption) ?rest24
  case hy24 => (intro w hSw; (try dsimp only at hSw); go_simp <;> with_reducible rfl)
  try simp only [Act.put, List.setIfInBounds_toArray, List.set_cons_zero, List.set_cons_succ]
  refine wpAnyH_take (i := 24) (oi := { dst := some 60, op := Go.Op.move (Go.Operand.tmp 7), type := 66, pos := "law.go:96", after := #[{ on := 23, ground := Go.Ground.guard }], guard := some (23, true) }) (v := ?v25) rfl (by kernel_rfl) (by kernel_rfl) (by kernel_rfl) (fun _ _ _ h => h) (Or.inl ⟨by rfl, ?hy25⟩) (by assumption) ?rest25
  case hy25 => (intro w hSw; (try dsimp only at hSw); go_simp <;> with_reducible rfl)
  try simp only [Act.put, List.setIfInBounds_toArray, List.set_cons_zero, List.set_cons_succ]
  refine wpAnyH_take (i := 25) (oi := { dst := some 61, op := Go.Op.load 46 (Go.Operand.tmp 3), type := 46, pos := "law.go:96", after := #[{ on := 23, ground := Go.Ground.guard }], guard := some (23, true) }) (v := ?v26) rfl (by kernel_rfl) (by kernel_rfl) (by kernel_rfl) (fun _ _ _ h => h) (Or.inl ⟨by rfl, ?hy26⟩) (by assumption) ?rest26
  case hy26 => (intro w hSw; (try dsimp only at hSw); go_simp <;> with_reducible rfl)
  try simp only [Act.put, List.setIfInBounds_toArray, List.set_cons_zero, List.set_cons_succ]
  refine wpAnyH_take (i := 26) (oi := { dst := some 62, op := Go.Op.load 46 (Go.Operand.tmp 3), type := 46, pos := "law.go:96", after := #[{ on := 23, ground := Go.Ground.guard }], guard := some (23, true) }) (v := ?v27) rfl (by kernel_rfl) (by kernel_rfl) (by kernel_rfl) (fun _ _ _ h => h) (Or.inl ⟨by rfl, ?hy27⟩) (by assumption) ?rest27
  case hy27 => (intro w hSw; (try dsimp only at hSw); go_simp <;> with_reducible rfl)
  try simp only [Act.put, List.setIfInBounds_toArray, List.set_cons_zero, List.set_cons_succ]
  refine wpAnyH_take (i := 28) (oi := { dst := some 64, op := Go.Op.move (Go.Operand.tmp 8), type := 4, pos := "law.go:96", after := #[{ on := 23, ground := Go.Ground.guard }], guard := some (23, true) }) (v := ?v28) rfl (by kernel_rfl) (by kernel_rfl) (by kernel_rfl) (fun _ _ _ h => h) (Or.inl ⟨by rfl, ?hy28⟩) (by assumption) ?rest28
  case hy28 => (intro w hSw; (try dsimp only at hSw); go_simp <;> with_reducible rfl)
  try simp only [Act.put, List.setIfInBounds_toArray, List.set_cons_zero, List.set_cons_succ]
  refine wpAnyH_ready (rs := [27]) (by kernel_rfl) (by simp) ?_
  refine AllReadyH.cons (o := { dst := some 63, op := Go.Op.call { callee := Go.Callee.value (Go.Operand.tmp 60), args := #[Go.Operand.const (Go.Value.int Go.IntKind.i64 1), Go.Operand.tmp 61, Go.Operand.tmp 62], argTypes := #[3, 46, 46] }, type := 4, pos := "law.go:96", after := #[{ on := 24, ground := Go.Ground.data }, { on := 25, ground := Go.Ground.data }, { on := 26, ground := Go.Ground.data }, { on := 23, ground := Go.Ground.chain }, { on := 23, ground := Go.Ground.guard }], guard := some (23, true) }) rfl (fun K hK => ?_) AllReadyH.nil
  go_simp
  first | (go_at_call 44; (with_reducible refine (HA.out _).mono ?_); rintro e w1 ⟨rfl, hb1⟩; have HC := amk (HC.out.below hb1); have HD := amk (HD.out.below hb1); have HX := amk (HX.out.below hb1); have HB := amk (below_step HB.out hb1); clear hb1) | (go_at_call 52; (first | (with_reducible refine (HT.out _ HC.out HD.out HX.out).mono ?_) | (with_reducible refine (HT2.out _ HC.out HD.out HX.out).mono ?_) | (with_reducible refine (HT3.out _ HC.out HD.out HX.out).mono ?_) | (with_reducible refine (HT4.out _ HC.out HD.out HX.out).mono ?_) | (with_reducible refine (HT5.out _ HC.out HD.out HX.out).mono ?_)); rintro e w1 ⟨rfl, hb1⟩; have HC := amk (HC.out.below hb1); have HD := amk (HD.out.below hb1); have HX := amk (HX.out.below hb1); have HB := amk (below_step HB.out hb1); clear hb1)
  refine hK.out _ _ ?hS29 (fun hH2 => ?rest29)
  case hS29 => exact HS12.out _ HC.out HD.out
  clear hK K hH
  have hH := hH2
  clear hH2
  try simp only [Act.put, List.setIfInBounds_toArray, List.set_cons_zero, List.set_cons_succ]
  refine wpAnyH_take (i := 29) (oi := { dst := some 65, op := Go.Op.binOp Go.BinOp.eql 4 (Go.Operand.tmp 63) (Go.Operand.tmp 64) 4, type := 4, pos := "law.go:96", after := #[{ on := 27, ground := Go.Ground.data }, { on := 28, ground := Go.Ground.data }, { on := 23, ground := Go.Ground.guard }], guard := some (23, true) }) (v := ?v30) rfl (by kernel_rfl) (by kernel_rfl) (by kernel_rfl) (fun _ _ _ h => h) (Or.inl ⟨by rfl, ?hy30⟩) (by assumption) ?rest30
  case hy30 => (intro w hSw; (try dsimp only at hSw); go_simp <;> with_reducible rfl)
  try simp only [Act.put, List.setIfInBounds_toArray, List.set_cons_zero, List.set_cons_succ]
  refine wpAnyH_take (i := 30) (oi := { dst := some 66, op := Go.Op.pick (Go.Operand.tmp 59) (Go.Operand.tmp 65) (Go.Operand.const (Go.Value.bool false)), type := 4, pos := "law.go:96", after := #[{ on := 23, ground := Go.Ground.data }, { on := 29, ground := Go.Ground.data }], guard := none }) (v := ?v31) rfl (by kernel_rfl) (by kernel_rfl) (by kernel_rfl) (fun _ _ _ h => h) (Or.inl ⟨by rfl, ?hy31⟩) (by assumption) ?rest31
  case hy31 => (intro w hSw; (try dsimp only at hSw); go_simp <;> with_reducible rfl)
  try simp only [Act.put, List.setIfInBounds_toArray, List.set_cons_zero, List.set_cons_succ]
  refine wpAnyH_take (i := 31) (oi := { dst := some 67, op := Go.Op.move (Go.Operand.tmp 66), type := 4, pos := "law.go:96", after := #[{ on := 30, ground := Go.Ground.data }, { on := 27, ground := Go.Ground.chain }], guard := none }) (v := ?v32) rfl (by kernel_rfl) (by kernel_rfl) (by kernel_rfl) (fun _ _ _ h => h) (Or.inl ⟨by rfl, ?hy32⟩) (by assumption) ?rest32
  case hy32 => (intro w hSw; (try dsimp only at hSw); go_simp <;> with_reducible rfl)
  try simp only [Act.put, List.setIfInBounds_toArray, List.set_cons_zero, List.set_cons_succ]
  refine wpAnyH_take (i := 32) (oi := { dst := some 68, op := Go.Op.move (Go.Operand.tmp 7), type := 66, pos := "law.go:96", after := #[{ on := 31, ground := Go.Ground.guard }], guard := some (31, true) }) (v := ?v33) rfl (by kernel_rfl) (by kernel_rfl) (by kernel_rfl) (fun _ _ _ h => h) (Or.inl ⟨by rfl, ?hy33⟩) (by assumption) ?rest33
  case hy33 => (intro w hSw; (try dsimp only at hSw); go_simp <;> with_reducible rfl)
  try simp only [Act.put, List.setIfInBounds_toArray, List.set_cons_zero, List.set_cons_succ]
  refine wpAnyH_take (i := 33) (oi := { dst := some 69, op := Go.Op.load 46 (Go.Operand.tmp 4), type := 46, pos := "law.go:96", after := #[{ on := 31, ground := Go.Ground.guard }], guard := some (31, true) }) (v := ?v34) rfl (by kernel_rfl) (by kernel_rfl) (by kernel_rfl) (fun _ _ _ h => h) (Or.inl ⟨by rfl, ?hy34⟩) (by assumption) ?rest34
  case hy34 => (intro w hSw; (try dsimp only at hSw); go_simp <;> with_reducible rfl)
  try simp only [Act.put, List.setIfInBounds_toArray, List.set_cons_zero, List.set_cons_succ]
  refine wpAnyH_take (i := 34) (oi := { dst := some 70, op := Go.Op.load 46 (Go.Operand.tmp 4), type := 46, pos := "law.go:96", after := #[{ on := 31, ground := Go.Ground.guard }], guard := some (31, true) }) (v := ?v35) rfl (by kernel_rfl) (by kernel_rfl) (by kernel_rfl) (fun _ _ _ h => h) (Or.inl ⟨by rfl, ?hy35⟩) (by assumption) ?rest35
  case hy35 => (intro w hSw; (try dsimp only at hSw); go_simp <;> with_reducible rfl)
  try simp only [Act.put, List.setIfInBounds_toArray, List.set_cons_zero, List.set_cons_succ]
  refine wpAnyH_take (i := 36) (oi := { dst := some 72, op := Go.Op.move (Go.Operand.tmp 9), type := 4, pos := "law.go:96", after := #[{ on := 31, ground := Go.Ground.guard }], guard := some (31, true) }) (v := ?v36) rfl (by kernel_rfl) (by kernel_rfl) (by kernel_rfl) (fun _ _ _ h => h) (Or.inl ⟨by rfl, ?hy36⟩) (by assumption) ?rest36
  case hy36 => (intro w hSw; (try dsimp only at hSw); go_simp <;> with_reducible rfl)
  try simp only [Act.put, List.setIfInBounds_toArray, List.set_cons_zero, List.set_cons_succ]
  refine wpAnyH_ready (rs := [35]) (by kernel_rfl) (by simp) ?_
  refine AllReadyH.cons (o := { dst := some 71, op := Go.Op.call { callee := Go.Callee.value (Go.Operand.tmp 68), args := #[Go.Operand.const (Go.Value.int Go.IntKind.i64 2), Go.Operand.tmp 69, Go.Operand.tmp 70], argTypes := #[3, 46, 46] }, type := 4, pos := "law.go:96", after := #[{ on := 32, ground := Go.Ground.data }, { on := 33, ground := Go.Ground.data }, { on := 34, ground := Go.Ground.data }, { on := 31, ground := Go.Ground.chain }, { on := 31, ground := Go.Ground.guard }], guard := some (31, true) }) rfl (fun K hK => ?_) AllReadyH.nil
  go_simp
  first | (go_at_call 44; (with_reducible refine (HA.out _).mono ?_); rintro e w1 ⟨rfl, hb1⟩; have HC := amk (HC.out.below hb1); have HD := amk (HD.out.below hb1); have HX := amk (HX.out.below hb1); have HB := amk (below_step HB.out hb1); clear hb1) | (go_at_call 52; (first | (with_reducible refine (HT.out _ HC.out HD.out HX.out).mono ?_) | (with_reducible refine (HT2.out _ HC.out HD.out HX.out).mono ?_) | (with_reducible refine (HT3.out _ HC.out HD.out HX.out).mono ?_) | (with_reducible refine (HT4.out _ HC.out HD.out HX.out).mono ?_) | (with_reducible refine (HT5.out _ HC.out HD.out HX.out).mono ?_)); rintro e w1 ⟨rfl, hb1⟩; have HC := amk (HC.out.below hb1); have HD := amk (HD.out.below hb1); have HX := amk (HX.out.below hb1); have HB := amk (below_step HB.out hb1); clear hb1)
  refine hK.out _ _ ?hS37 (fun hH2 => ?rest37)
  case hS37 => exact HS12.out _ HC.out HD.out
  clear hK K hH
  have hH := hH2
  clear hH2
  try simp only [Act.put, List.setIfInBounds_toArray, List.set_cons_zero, List.set_cons_succ]
  refine wpAnyH_take (i := 37) (oi := { dst := some 73, op := Go.Op.binOp Go.BinOp.eql 4 (Go.Operand.tmp 71) (Go.Operand.tmp 72) 4, type := 4, pos := "law.go:96", after := #[{ on := 35, ground := Go.Ground.data }, { on := 36, ground := Go.Ground.data }, { on := 31, ground := Go.Ground.guard }], guard := some (31, true) }) (v := ?v38) rfl (by kernel_rfl) (by kernel_rfl) (by kernel_rfl) (fun _ _ _ h => h) (Or.inl ⟨by rfl, ?hy38⟩) (by assumption) ?rest38
  case hy38 => (intro w hSw; (try dsimp only at hSw); go_simp <;> with_reducible rfl)
  try simp only [Act.put, List.setIfInBounds_toArray, List.set_cons_zero, List.set_cons_succ]
  refine wpAnyH_take (i := 38) (oi := { dst := some 74, op := Go.Op.pick (Go.Operand.tmp 67) (Go.Operand.tmp 73) (Go.Operand.const (Go.Value.bool false)), type := 4, pos := "law.go:96", after := #[{ on := 31, ground := Go.Ground.data }, { on := 37, ground := Go.Ground.data }], guard := none }) (v := ?v39) rfl (by kernel_rfl) (by kernel_rfl) (by kernel_rfl) (fun _ _ _ h => h) (Or.inl ⟨by rfl, ?hy39⟩) (by assumption) ?rest39
  case hy39 => (intro w hSw; (try dsimp only at hSw); go_simp <;> with_reducible rfl)
  try simp only [Act.put, List.setIfInBounds_toArray, List.set_cons_zero, List.set_cons_succ]
  refine wpAnyH_take (i := 39) (oi := { dst := some 75, op := Go.Op.move (Go.Operand.tmp 74), type := 4, pos := "law.go:96", after := #[{ on := 38, ground := Go.Ground.data }, { on := 35, ground := Go.Ground.chain }], guard := none }) (v := ?v40) rfl (by kernel_rfl) (by kernel_rfl) (by kernel_rfl) (fun _ _ _ h => h) (Or.inl ⟨by rfl, ?hy40⟩) (by assumption) ?rest40
  case hy40 => (intro w hSw; (try dsimp only at hSw); go_simp <;> with_reducible rfl)
  try simp only [Act.put, List.setIfInBounds_toArray, List.set_cons_zero, List.set_cons_succ]
  refine wpAnyH_take (i := 40) (oi := { dst := some 76, op := Go.Op.move (Go.Operand.tmp 7), type := 66, pos := "law.go:96", after := #[{ on := 39, ground := Go.Ground.guard }], guard := some (39, true) }) (v := ?v41) rfl (by kernel_rfl) (by kernel_rfl) (by kernel_rfl) (fun _ _ _ h => h) (Or.inl ⟨by rfl, ?hy41⟩) (by assumption) ?rest41
  case hy41 => (intro w hSw; (try dsimp only at hSw); go_simp <;> with_reducible rfl)
  try simp only [Act.put, List.setIfInBounds_toArray, List.set_cons_zero, List.set_cons_succ]
  refine wpAnyH_take (i := 41) (oi := { dst := some 77, op := Go.Op.load 46 (Go.Operand.tmp 4), type := 46, pos := "law.go:96", after := #[{ on := 39, ground := Go.Ground.guard }], guard := some (39, true) }) (v := ?v42) rfl (by kernel_rfl) (by kernel_rfl) (by kernel_rfl) (fun _ _ _ h => h) (Or.inl ⟨by rfl, ?hy42⟩) (by assumption) ?rest42
  case hy42 => (intro w hSw; (try dsimp only at hSw); go_simp <;> with_reducible rfl)
  try simp only [Act.put, List.setIfInBounds_toArray, List.set_cons_zero, List.set_cons_succ]
  refine wpAnyH_take (i := 42) (oi := { dst := some 78, op := Go.Op.load 46 (Go.Operand.tmp 3), type := 46, pos := "law.go:96", after := #[{ on := 39, ground := Go.Ground.guard }], guard := some (39, true) }) (v := ?v43) rfl (by kernel_rfl) (by kernel_rfl) (by kernel_rfl) (fun _ _ _ h => h) (Or.inl ⟨by rfl, ?hy43⟩) (by assumption) ?rest43
  case hy43 => (intro w hSw; (try dsimp only at hSw); go_simp <;> with_reducible rfl)
  try simp only [Act.put, List.setIfInBounds_toArray, List.set_cons_zero, List.set_cons_succ]
  refine wpAnyH_take (i := 44) (oi := { dst := some 80, op := Go.Op.move (Go.Operand.tmp 7), type := 66, pos := "law.go:96", after := #[{ on := 39, ground := Go.Ground.guard }], guard := some (39, true) }) (v := ?v44) rfl (by kernel_rfl) (by kernel_rfl) (by kernel_rfl) (fun _ _ _ h => h) (Or.inl ⟨by rfl, ?hy44⟩) (by assumption) ?rest44
  case hy44 => (intro w hSw; (try dsimp only at hSw); go_simp <;> with_reducible rfl)
  try simp only [Act.put, List.setIfInBounds_toArray, List.set_cons_zero, List.set_cons_succ]
  refine wpAnyH_take (i := 45) (oi := { dst := some 81, op := Go.Op.load 46 (Go.Operand.tmp 3), type := 46, pos := "law.go:96", after := #[{ on := 39, ground := Go.Ground.guard }], guard := some (39, true) }) (v := ?v45) rfl (by kernel_rfl) (by kernel_rfl) (by kernel_rfl) (fun _ _ _ h => h) (Or.inl ⟨by rfl, ?hy45⟩) (by assumption) ?rest45
  case hy45 => (intro w hSw; (try dsimp only at hSw); go_simp <;> with_reducible rfl)
  try simp only [Act.put, List.setIfInBounds_toArray, List.set_cons_zero, List.set_cons_succ]
  refine wpAnyH_take (i := 46) (oi := { dst := some 82, op := Go.Op.load 46 (Go.Operand.tmp 4), type := 46, pos := "law.go:96", after := #[{ on := 39, ground := Go.Ground.guard }], guard := some (39, true) }) (v := ?v46) rfl (by kernel_rfl) (by kernel_rfl) (by kernel_rfl) (fun _ _ _ h => h) (Or.inl ⟨by rfl, ?hy46⟩) (by assumption) ?rest46
  case hy46 => (intro w hSw; (try dsimp only at hSw); go_simp <;> with_reducible rfl)
  try simp only [Act.put, List.setIfInBounds_toArray, List.set_cons_zero, List.set_cons_succ]
  refine wpAnyH_ready (rs := [43]) (by kernel_rfl) (by simp) ?_
  refine AllReadyH.cons (o := { dst := some 79, op := Go.Op.call { callee := Go.Callee.value (Go.Operand.tmp 76), args := #[Go.Operand.const (Go.Value.int Go.IntKind.i64 1), Go.Operand.tmp 77, Go.Operand.tmp 78], argTypes := #[3, 46, 46] }, type := 4, pos := "law.go:96", after := #[{ on := 40, ground := Go.Ground.data }, { on := 41, ground := Go.Ground.data }, { on := 42, ground := Go.Ground.data }, { on := 39, ground := Go.Ground.chain }, { on := 39, ground := Go.Ground.guard }], guard := some (39, true) }) rfl (fun K hK => ?_) AllReadyH.nil
  go_simp
  first | (go_at_call 44; (with_reducible refine (HA.out _).mono ?_); rintro e w1 ⟨rfl, hb1⟩; have HC := amk (HC.out.below hb1); have HD := amk (HD.out.below hb1); have HX := amk (HX.out.below hb1); have HB := amk (below_step HB.out hb1); clear hb1) | (go_at_call 52; (first | (with_reducible refine (HT.out _ HC.out HD.out HX.out).mono ?_) | (with_reducible refine (HT2.out _ HC.out HD.out HX.out).mono ?_) | (with_reducible refine (HT3.out _ HC.out HD.out HX.out).mono ?_) | (with_reducible refine (HT4.out _ HC.out HD.out HX.out).mono ?_) | (with_reducible refine (HT5.out _ HC.out HD.out HX.out).mono ?_)); rintro e w1 ⟨rfl, hb1⟩; have HC := amk (HC.out.below hb1); have HD := amk (HD.out.below hb1); have HX := amk (HX.out.below hb1); have HB := amk (below_step HB.out hb1); clear hb1)
  refine hK.out _ _ ?hS47 (fun hH2 => ?rest47)
  case hS47 => exact HS12.out _ HC.out HD.out
  clear hK K hH
  have hH := hH2
  clear hH2
  try simp only [Act.put, List.setIfInBounds_toArray, List.set_cons_zero, List.set_cons_succ]
  refine wpAnyH_ready (rs := [47]) (by kernel_rfl) (by simp) ?_
  refine AllReadyH.cons (o := { dst := some 83, op := Go.Op.call { callee := Go.Callee.value (Go.Operand.tmp 80), args := #[Go.Operand.const (Go.Value.int Go.IntKind.i64 1), Go.Operand.tmp 81, Go.Operand.tmp 82], argTypes := #[3, 46, 46] }, type := 4, pos := "law.go:96", after := #[{ on := 44, ground := Go.Ground.data }, { on := 45, ground := Go.Ground.data }, { on := 46, ground := Go.Ground.data }, { on := 43, ground := Go.Ground.chain }, { on := 39, ground := Go.Ground.guard }], guard := some (39, true) }) rfl (fun K hK => ?_) AllReadyH.nil
  go_simp
  first | (go_at_call 44; (with_reducible refine (HA.out _).mono ?_); rintro e w1 ⟨rfl, hb1⟩; have HC := amk (HC.out.below hb1); have HD := amk (HD.out.below hb1); have HX := amk (HX.out.below hb1); have HB := amk (below_step HB.out hb1); clear hb1) | (go_at_call 52; (first | (with_reducible refine (HT.out _ HC.out HD.out HX.out).mono ?_) | (with_reducible refine (HT2.out _ HC.out HD.out HX.out).mono ?_) | (with_reducible refine (HT3.out _ HC.out HD.out HX.out).mono ?_) | (with_reducible refine (HT4.out _ HC.out HD.out HX.out).mono ?_) | (with_reducible refine (HT5.out _ HC.out HD.out HX.out).mono ?_)); rintro e w1 ⟨rfl, hb1⟩; have HC := amk (HC.out.below hb1); have HD := amk (HD.out.below hb1); have HX := amk (HX.out.below hb1); have HB := amk (below_step HB.out hb1); clear hb1)
  refine hK.out _ _ ?hS48 (fun hH2 => ?rest48)
  case hS48 => exact HS12.out _ HC.out HD.out
  clear hK K hH
  have hH := hH2
  clear hH2
  try simp only [Act.put, List.setIfInBounds_toArray, List.set_cons_zero, List.set_cons_succ]
  refine wpAnyH_take (i := 48) (oi := { dst := some 84, op := Go.Op.binOp Go.BinOp.eql 4 (Go.Operand.tmp 79) (Go.Operand.tmp 83) 4, type := 4, pos := "law.go:96", after := #[{ on := 43, ground := Go.Ground.data }, { on := 47, ground := Go.Ground.data }, { on := 39, ground := Go.Ground.guard }], guard := some (39, true) }) (v := ?v49) rfl (by kernel_rfl) (by kernel_rfl) (by kernel_rfl) (fun _ _ _ h => h) (Or.inl ⟨by rfl, ?hy49⟩) (by assumption) ?rest49
  case hy49 => (intro w hSw; (try dsimp only at hSw); go_simp <;> with_reducible rfl)
  try simp only [Act.put, List.setIfInBounds_toArray, List.set_cons_zero, List.set_cons_succ]
  refine wpAnyH_take (i := 49) (oi := { dst := some 85, op := Go.Op.pick (Go.Operand.tmp 75) (Go.Operand.tmp 84) (Go.Operand.const (Go.Value.bool false)), type := 4, pos := "law.go:96", after := #[{ on := 39, ground := Go.Ground.data }, { on := 48, ground := Go.Ground.data }], guard := none }) (v := ?v50) rfl (by kernel_rfl) (by kernel_rfl) (by kernel_rfl) (fun _ _ _ h => h) (Or.inl ⟨by rfl, ?hy50⟩) (by assumption) ?rest50
  case hy50 => (intro w hSw; (try dsimp only at hSw); go_simp <;> with_reducible rfl)
  try simp only [Act.put, List.setIfInBounds_toArray, List.set_cons_zero, List.set_cons_succ]
  refine wpAnyH_take (i := 50) (oi := { dst := some 6, op := Go.Op.assign (Go.Operand.tmp 85), type := 4, pos := "law.go:96", after := #[{ on := 49, ground := Go.Ground.data }, { on := 47, ground := Go.Ground.chain }, { on := 0, ground := Go.Ground.phase }, { on := 1, ground := Go.Ground.phase }, { on := 2, ground := Go.Ground.phase }, { on := 3, ground := Go.Ground.phase }, { on := 4, ground := Go.Ground.phase }, { on := 5, ground := Go.Ground.phase }, { on := 6, ground := Go.Ground.phase }, { on := 7, ground := Go.Ground.phase }, { on := 8, ground := Go.Ground.phase }, { on := 9, ground := Go.Ground.phase }, { on := 10, ground := Go.Ground.phase }, { on := 11, ground := Go.Ground.phase }, { on := 12, ground := Go.Ground.phase }, { on := 13, ground := Go.Ground.phase }, { on := 14, ground := Go.Ground.phase }, { on := 15, ground := Go.Ground.phase }, { on := 16, ground := Go.Ground.phase }, { on := 17, ground := Go.Ground.phase }, { on := 18, ground := Go.Ground.phase }, { on := 19, ground := Go.Ground.phase }, { on := 20, ground := Go.Ground.phase }, { on := 21, ground := Go.Ground.phase }, { on := 22, ground := Go.Ground.phase }, { on := 23, ground := Go.Ground.phase }, { on := 24, ground := Go.Ground.phase }, { on := 25, ground := Go.Ground.phase }, { on := 26, ground := Go.Ground.phase }, { on := 27, ground := Go.Ground.phase }, { on := 28, ground := Go.Ground.phase }, { on := 29, ground := Go.Ground.phase }, { on := 30, ground := Go.Ground.phase }, { on := 31, ground := Go.Ground.phase }, { on := 32, ground := Go.Ground.phase }, { on := 33, ground := Go.Ground.phase }, { on := 34, ground := Go.Ground.phase }, { on := 35, ground := Go.Ground.phase }, { on := 36, ground := Go.Ground.phase }, { on := 37, ground := Go.Ground.phase }, { on := 38, ground := Go.Ground.phase }, { on := 39, ground := Go.Ground.phase }, { on := 40, ground := Go.Ground.phase }, { on := 41, ground := Go.Ground.phase }, { on := 42, ground := Go.Ground.phase }, { on := 43, ground := Go.Ground.phase }, { on := 44, ground := Go.Ground.phase }, { on := 45, ground := Go.Ground.phase }, { on := 46, ground := Go.Ground.phase }, { on := 47, ground := Go.Ground.phase }, { on := 48, ground := Go.Ground.phase }, { on := 49, ground := Go.Ground.phase }], guard := none }) (v := ?v51) rfl (by kernel_rfl) (by kernel_rfl) (by kernel_rfl) (fun _ _ _ h => h) (Or.inl ⟨by rfl, ?hy51⟩) (by assumption) ?rest51
  case hy51 => (intro w hSw; (try dsimp only at hSw); go_simp <;> with_reducible rfl)
  try simp only [Act.put, List.setIfInBounds_toArray, List.set_cons_zero, List.set_cons_succ]
  refine wpAnyH_done (by kernel_rfl) ?_ _
  all_goals go_wp2
  all_goals go_ret
  all_goals exact ⟨rfl, HB.out⟩
end Go.Proofs.Ytoeklekjhaigoaa.HAll
end
section
namespace Go.Proofs.Ytoeklekjhaigoaa.PMeanAll
open Go.Proofs.Ytoeklekjhaigoaa.Al Go.RowKit Go.Proofs.YtoeklekjhaigoaaW.PrintWords Go.Proofs.YtoeklekjhaigoaaW.PrintLast Go.Proofs.YtoeklekjhaigoaaW.PrintMore Go.Proofs.Ytoeklekjhaigoaa.M0 Go.Proofs.Ytoeklekjhaigoaa.M1 Go.Proofs.Ytoeklekjhaigoaa.M2 Go.Proofs.Ytoeklekjhaigoaa.QCond Go.Proofs.Ytoeklekjhaigoaa.QMean Go.Proofs.Ytoeklekjhaigoaa.QOne Go.Proofs.Ytoeklekjhaigoaa.HMany Go.Proofs.Ytoeklekjhaigoaa.HCount Go.Proofs.Ytoeklekjhaigoaa.HMean Go.Proofs.Ytoeklekjhaigoaa.QHolds Go.Proofs.Ytoeklekjhaigoaa.HKit Go.Proofs.Ytoeklekjhaigoaa.HAll Go.Proofs.Ytoeklekjhaigoaa.K49
set_option linter.unusedVariables false
set_option linter.unusedSimpArgs false
set_option maxRecDepth 100000
attribute [local go_sem] max2_int min2_int max_two min_two
set_option maxHeartbeats 8000000 in
theorem all_any (c d : S46) (x : S49) (A A2 : Option Addr) (n n2 : Nat) (w : World) (hC : Kd.C k46 w A c.f1.length c.f1) (hn : c.f1.length ≤ n) (hD : Kd.C k46 w A2 d.f1.length d.f1) (hn2 : d.f1.length ≤ n2) :
    Calls Try.prog 12 #[.agg #[.int .i64 c.f0, .slice A c.f1.length n, .int .i64 c.f2, .int .u64 c.f3, .string c.f4, .int .u64 c.f5], .agg #[.int .i64 d.f0, .slice A2 d.f1.length n2, .int .i64 d.f2, .int .u64 d.f3, .string d.f4, .int .u64 d.f5], .agg #[.int .u32 x.f0, .int .u32 x.f1, .int .u64 x.f2, .int .u64 x.f3.f0, .int .u64 x.f3.f1, .int .u64 x.f3.f2, .int .u64 x.f3.f3, .int .u64 x.f3.f4, .int .u64 x.f3.f5]] w fun e w' => e = .returned (.bool true) ∧ Below w.heap.size w w' := by
  by_cases good : (rightB c = true ∧ rightB d = true) ∧ ¬ 30 < nodes c ∧ ¬ 30 < nodes d
  · obtain ⟨⟨hrc, hrd⟩, hcb, hdb⟩ := good
    cases hp : semB x c <;> cases hq : semB x d
    · exact all_ff c d x A A2 n n2 w hC hn hD hn2 hrc hrd hcb hdb hp hq
    · exact all_ft c d x A A2 n n2 w hC hn hD hn2 hrc hrd hcb hdb hp hq
    · exact all_tf c d x A A2 n n2 w hC hn hD hn2 hrc hrd hcb hdb hp hq
    · exact all_tt c d x A A2 n n2 w hC hn hD hn2 hrc hrd hcb hdb hp hq
  have hu46 := Try.underlying46
  have hu49 := Try.underlying49
  have hmf : ∀ (fn : Fn) (first cap : Array Value) (w : World), (Instr.makeFunc fn first cap).run Try.prog w = .ok (.func fn first cap) w := fun _ _ _ _ => rfl
  have s1 : (w.alloc (.cells #[.int .i64 c.f0, .slice A c.f1.length n, .int .i64 c.f2, .int .u64 c.f3, .string c.f4, .int .u64 c.f5] 46)).heap.size = w.heap.size + 1 := by simp
  have s2 : ((w.alloc (.cells #[.int .i64 c.f0, .slice A c.f1.length n, .int .i64 c.f2, .int .u64 c.f3, .string c.f4, .int .u64 c.f5] 46)).alloc (.cells #[.int .i64 d.f0, .slice A2 d.f1.length n2, .int .i64 d.f2, .int .u64 d.f3, .string d.f4, .int .u64 d.f5] 46)).heap.size = w.heap.size + 1 + 1 := by simp
  have HC := amk (((Bx.new w hC hn).alloc (.cells #[.int .i64 d.f0, .slice A2 d.f1.length n2, .int .i64 d.f2, .int .u64 d.f3, .string d.f4, .int .u64 d.f5] 46)).alloc (.cells #[.int .u32 x.f0, .int .u32 x.f1, .int .u64 x.f2, .int .u64 x.f3.f0, .int .u64 x.f3.f1, .int .u64 x.f3.f2, .int .u64 x.f3.f3, .int .u64 x.f3.f4, .int .u64 x.f3.f5] 49))
  have HD0 := (Bx.new (w.alloc (.cells #[.int .i64 c.f0, .slice A c.f1.length n, .int .i64 c.f2, .int .u64 c.f3, .string c.f4, .int .u64 c.f5] 46)) (Kd.C_below hD (bal (Below.refl _ _) _)) hn2).alloc (.cells #[.int .u32 x.f0, .int .u32 x.f1, .int .u64 x.f2, .int .u64 x.f3.f0, .int .u64 x.f3.f1, .int .u64 x.f3.f2, .int .u64 x.f3.f3, .int .u64 x.f3.f4, .int .u64 x.f3.f5] 49)
  rw [s1] at HD0
  have HD := amk HD0
  have HX0 := Xx.new ((w.alloc (.cells #[.int .i64 c.f0, .slice A c.f1.length n, .int .i64 c.f2, .int .u64 c.f3, .string c.f4, .int .u64 c.f5] 46)).alloc (.cells #[.int .i64 d.f0, .slice A2 d.f1.length n2, .int .i64 d.f2, .int .u64 d.f3, .string d.f4, .int .u64 d.f5] 46)) x
  rw [s2] at HX0
  have HX := amk HX0
  have HB := amk (bal (bal (bal (Below.refl w.heap.size w) (.cells #[.int .i64 c.f0, .slice A c.f1.length n, .int .i64 c.f2, .int .u64 c.f3, .string c.f4, .int .u64 c.f5] 46)) (.cells #[.int .i64 d.f0, .slice A2 d.f1.length n2, .int .i64 d.f2, .int .u64 d.f3, .string d.f4, .int .u64 d.f5] 46)) (.cells #[.int .u32 x.f0, .int .u32 x.f1, .int .u64 x.f2, .int .u64 x.f3.f0, .int .u64 x.f3.f1, .int .u64 x.f3.f2, .int .u64 x.f3.f3, .int .u64 x.f3.f4, .int .u64 x.f3.f5] 49))
  have HBIG := amk (show ∀ c : S46, rightB c = false ∨ 30 < nodes c ∨ (rightB c = true ∧ fitsB c = true ∧ nodes c ≤ 30) from fun c => by
    by_cases h : rightB c = true
    · by_cases g : nodes c ≤ 30
      · exact Or.inr (Or.inr ⟨h, (right_fits h).1, g⟩)
      · exact Or.inr (Or.inl (by omega))
    · exact Or.inl (by simpa using h))
  have HS := amk (fun (W' : World) (h : Bx W' w.heap.size c A n) (g : Bx W' (w.heap.size + 1) d A2 n2) (k : Xx W' (w.heap.size + 1 + 1) x) => s21 h g k)
  have HS12 := amk (fun (W' : World) (h : Bx W' w.heap.size c A n) (g : Bx W' (w.heap.size + 1) d A2 n2) => s12 h g)
  have HM1 := amk (fun (W : World) (h : Kd.C k46 W A c.f1.length c.f1) => many_w h hn 30 (by omega) (by omega))
  have HM2 := amk (fun (W : World) (h : Kd.C k46 W A2 d.f1.length d.f1) => many_w h hn2 30 (by omega) (by omega))
  have HR1 := amk (fun (W : World) (h : Kd.C k46 W A c.f1.length c.f1) => right_w h hn)
  have HR2 := amk (fun (W : World) (h : Kd.C k46 W A2 d.f1.length d.f1) => right_w h hn2)
  have HA := amk alive_w
  clear s1 s2 HD0 HX0 hC hD
  go_enter Try.func12, Try.ntmps12
  go_upto_region 1 with (fail)
  generalize ((w.alloc (.cells #[.int .i64 c.f0, .slice A c.f1.length n, .int .i64 c.f2, .int .u64 c.f3, .string c.f4, .int .u64 c.f5] 46)).alloc (.cells #[.int .i64 d.f0, .slice A2 d.f1.length n2, .int .i64 d.f2, .int .u64 d.f3, .string d.f4, .int .u64 d.f5] 46)).alloc (.cells #[.int .u32 x.f0, .int .u32 x.f1, .int .u64 x.f2, .int .u64 x.f3.f0, .int .u64 x.f3.f1, .int .u64 x.f3.f2, .int .u64 x.f3.f3, .int .u64 x.f3.f4, .int .u64 x.f3.f5] 49) = W at *
  obtain ⟨k0, k1, k2, k3, k4, k5⟩ := HC.out.six
  obtain ⟨q0, q1, q2, q3, q4, q5⟩ := HD.out.six
  have nc : decide (30 < ((min (nodes c) ((30 : Int).toNat + 1) : Nat) : Int)) = decide (30 < nodes c) := decide_eq_decide.2 (by simp only [Int.reduceToNat]; omega)
  have nd : decide (30 < ((min (nodes d) ((30 : Int).toNat + 1) : Nat) : Int)) = decide (30 < nodes d) := decide_eq_decide.2 (by simp only [Int.reduceToNat]; omega)
  generalize ((min (nodes c) ((30 : Int).toNat + 1) : Nat) : Int) = mc at *
  generalize ((min (nodes d) ((30 : Int).toNat + 1) : Nat) : Int) = md at *
  by_cases hcb : 30 < nodes c
  · have e1 : decide (30 < mc) = true := nc.trans (decide_eq_true hcb)
    clear nc nd hcb good
    go_wp2_with (first | (go_at_call 43; (with_reducible refine (HM1.out _ HC.out.C).mono ?_); rintro e w1 ⟨rfl, hb1⟩; have HC := amk (HC.out.below hb1); have HD := amk (HD.out.below hb1); have HX := amk (HX.out.below hb1); have HB := amk (below_step HB.out hb1); obtain ⟨k0, k1, k2, k3, k4, k5⟩ := HC.out.six; obtain ⟨q0, q1, q2, q3, q4, q5⟩ := HD.out.six; clear hb1) | (go_at_call 44; refine (HA.out _).mono ?_; rintro e w9 ⟨rfl, hb9⟩; have HB := amk (below_step HB.out hb9); clear hb9))
    go_ret
    exact ⟨rfl, HB.out⟩
  · have e1 : decide (30 < mc) = false := nc.trans (decide_eq_false hcb)
    by_cases hdb : 30 < nodes d
    · have e2 : decide (30 < md) = true := nd.trans (decide_eq_true hdb)
      clear nc nd hcb hdb good
      go_wp2_with (first | (go_at_call 43; (first | (with_reducible refine (HM1.out _ HC.out.C).mono ?_) | (with_reducible refine (HM2.out _ HD.out.C).mono ?_)); rintro e w1 ⟨rfl, hb1⟩; have HC := amk (HC.out.below hb1); have HD := amk (HD.out.below hb1); have HX := amk (HX.out.below hb1); have HB := amk (below_step HB.out hb1); obtain ⟨k0, k1, k2, k3, k4, k5⟩ := HC.out.six; obtain ⟨q0, q1, q2, q3, q4, q5⟩ := HD.out.six; clear hb1) | (go_at_call 44; refine (HA.out _).mono ?_; rintro e w9 ⟨rfl, hb9⟩; have HB := amk (below_step HB.out hb9); clear hb9))
      go_ret
      exact ⟨rfl, HB.out⟩
    · have e2 : decide (30 < md) = false := nd.trans (decide_eq_false hdb)
      generalize hrc : rightB c = rc at HR1
      cases rc with
      | false =>
        clear nc nd hcb hdb hrc good
        go_wp2_with (first | (go_at_call 43; (first | (with_reducible refine (HM1.out _ HC.out.C).mono ?_) | (with_reducible refine (HM2.out _ HD.out.C).mono ?_)); rintro e w1 ⟨rfl, hb1⟩; have HC := amk (HC.out.below hb1); have HD := amk (HD.out.below hb1); have HX := amk (HX.out.below hb1); have HB := amk (below_step HB.out hb1); obtain ⟨k0, k1, k2, k3, k4, k5⟩ := HC.out.six; obtain ⟨q0, q1, q2, q3, q4, q5⟩ := HD.out.six; clear hb1) | (go_at_call 47; (first | (with_reducible refine (HR1.out _ HC.out.C).mono ?_) | (with_reducible refine (HR2.out _ HD.out.C).mono ?_)); rintro e w1 ⟨rfl, hb1⟩; have HC := amk (HC.out.below hb1); have HD := amk (HD.out.below hb1); have HX := amk (HX.out.below hb1); have HB := amk (below_step HB.out hb1); obtain ⟨k0, k1, k2, k3, k4, k5⟩ := HC.out.six; obtain ⟨q0, q1, q2, q3, q4, q5⟩ := HD.out.six; clear hb1) | (go_at_call 44; refine (HA.out _).mono ?_; rintro e w9 ⟨rfl, hb9⟩; have HB := amk (below_step HB.out hb9); clear hb9))
        go_ret
        exact ⟨rfl, HB.out⟩
      | true =>
        generalize hrd : rightB d = rd at HR2
        cases rd with
        | false =>
          clear nc nd hcb hdb hrc hrd good
          go_wp2_with (first | (go_at_call 43; (first | (with_reducible refine (HM1.out _ HC.out.C).mono ?_) | (with_reducible refine (HM2.out _ HD.out.C).mono ?_)); rintro e w1 ⟨rfl, hb1⟩; have HC := amk (HC.out.below hb1); have HD := amk (HD.out.below hb1); have HX := amk (HX.out.below hb1); have HB := amk (below_step HB.out hb1); obtain ⟨k0, k1, k2, k3, k4, k5⟩ := HC.out.six; obtain ⟨q0, q1, q2, q3, q4, q5⟩ := HD.out.six; clear hb1) | (go_at_call 47; (first | (with_reducible refine (HR1.out _ HC.out.C).mono ?_) | (with_reducible refine (HR2.out _ HD.out.C).mono ?_)); rintro e w1 ⟨rfl, hb1⟩; have HC := amk (HC.out.below hb1); have HD := amk (HD.out.below hb1); have HX := amk (HX.out.below hb1); have HB := amk (below_step HB.out hb1); obtain ⟨k0, k1, k2, k3, k4, k5⟩ := HC.out.six; obtain ⟨q0, q1, q2, q3, q4, q5⟩ := HD.out.six; clear hb1) | (go_at_call 44; refine (HA.out _).mono ?_; rintro e w9 ⟨rfl, hb9⟩; have HB := amk (below_step HB.out hb9); clear hb9))
          go_ret
          exact ⟨rfl, HB.out⟩
        | true =>
          exact absurd ⟨⟨hrc, hrd⟩, hcb, hdb⟩ good
def doorwardlaw18_MeanAll.f (a0_0 : Int) (l0_1 : List (S46)) (a0_2 : Int) (a0_3 : Int) (a0_4 : ByteArray) (a0_5 : Int) (a1_0 : Int) (l1_1 : List (S46)) (a1_2 : Int) (a1_3 : Int) (a1_4 : ByteArray) (a1_5 : Int) (a2_0 : Int) (a2_1 : Int) (a2_2 : Int) (a2_3 : Int) (a2_4 : Int) (a2_5 : Int) (a2_6 : Int) (a2_7 : Int) (a2_8 : Int) : Option (Bool) := some true
theorem doorwardlaw18_MeanAll.calls (a0_0 : Int) (A0_1 : Option Addr) (c0_1 : Nat) (l0_1 : List (S46)) (a0_2 : Int) (a0_3 : Int) (a0_4 : ByteArray) (a0_5 : Int) (a1_0 : Int) (A1_1 : Option Addr) (c1_1 : Nat) (l1_1 : List (S46)) (a1_2 : Int) (a1_3 : Int) (a1_4 : ByteArray) (a1_5 : Int) (a2_0 : Int) (a2_1 : Int) (a2_2 : Int) (a2_3 : Int) (a2_4 : Int) (a2_5 : Int) (a2_6 : Int) (a2_7 : Int) (a2_8 : Int) (r : Bool) (w : World) (hr0_1 : Kd.C k46 w A0_1 l0_1.length l0_1) (hc0_1 : l0_1.length ≤ c0_1) (hr1_1 : Kd.C k46 w A1_1 l1_1.length l1_1) (hc1_1 : l1_1.length ≤ c1_1) (h : doorwardlaw18_MeanAll.f a0_0 l0_1 a0_2 a0_3 a0_4 a0_5 a1_0 l1_1 a1_2 a1_3 a1_4 a1_5 a2_0 a2_1 a2_2 a2_3 a2_4 a2_5 a2_6 a2_7 a2_8 = some r) :
    Calls Try.prog 12 #[.agg #[.int .i64 a0_0, .slice A0_1 l0_1.length c0_1, .int .i64 a0_2, .int .u64 a0_3, .string a0_4, .int .u64 a0_5], .agg #[.int .i64 a1_0, .slice A1_1 l1_1.length c1_1, .int .i64 a1_2, .int .u64 a1_3, .string a1_4, .int .u64 a1_5], .agg #[.int .u32 a2_0, .int .u32 a2_1, .int .u64 a2_2, .int .u64 a2_3, .int .u64 a2_4, .int .u64 a2_5, .int .u64 a2_6, .int .u64 a2_7, .int .u64 a2_8]] w fun e w' => e = .returned (.bool r) ∧ Below w.heap.size w w' := by
  have h2 := all_any ⟨a0_0, l0_1, a0_2, a0_3, a0_4, a0_5⟩ ⟨a1_0, l1_1, a1_2, a1_3, a1_4, a1_5⟩ ⟨a2_0, a2_1, a2_2, ⟨a2_3, a2_4, a2_5, a2_6, a2_7, a2_8⟩⟩ A0_1 A1_1 c0_1 c1_1 w hr0_1 hc0_1 hr1_1 hc1_1
  rw [← Option.some.inj h]
  exact h2
end Go.Proofs.Ytoeklekjhaigoaa.PMeanAll
end
section
namespace Go.Proofs.Ytoeklekjhaigoaa.Open
open Go.Proofs.Ytoeklekjhaigoaa.Al Go.RowKit Go.Proofs.YtoeklekjhaigoaaW.PrintWords
set_option linter.unusedVariables false
set_option linter.unusedSimpArgs false
variable {α β : Type}
/-- A reading (of so much fuel at most) of cells at type t tells a value of kind d, of which Q. -/
def OpensN (P : Program) (fuel : Nat) (d : Kd α) (t : TypeId) (Q : α → Prop) : Prop :=
  P.cellsOf t = d.sz ∧ ∀ (H : Type) (enc : TypeId × Value → H) (W : World) (cs : List Value) (x : DataW H × List MemPlace),
    DataW.trod enc P W 0 (fun _ => true) true fuel t cs = some x → ∃ y, d.K W y cs ∧ Q y
def Opens (P : Program) (d : Kd α) (t : TypeId) (Q : α → Prop) : Prop := ∀ fuel, OpensN P fuel d t Q
section
variable {P : Program} {t e : TypeId} {d : Kd α} {Q : α → Prop} {fuel : Nat}
theorem OpensN.none (h : P.cellsOf t = d.sz) : OpensN P 0 d t Q := ⟨h, fun H enc W cs x hx => by simp [DataW.trod] at hx⟩
theorem one_cell {H : Type} {enc : TypeId × Value → H} {W : World} {cs : List Value} {x : DataW H × List MemPlace} {u : TypeDesc} (hu : P.underlying t = some u) (h1 : (match u with | .struct _ | .array _ _ => true | _ => false) = false)
    (hx : DataW.trod enc P W 0 (fun _ => true) true (fuel + 1) t cs = some x) : ∃ c, cs = [c] := by
  unfold DataW.trod at hx
  rcases cs with _ | ⟨c, _ | ⟨c2, r⟩⟩
  · cases u <;> simp [hu] at hx h1
  · exact ⟨c, rfl⟩
  · cases u <;> simp [hu] at hx h1
theorem Opens.int (k : IntKind) (hu : P.underlying t = some (.int k)) (hc : P.cellsOf t = 1) : Opens P (Kd.int k) t (fun x => (Lit.int k x).wf = true) := by
  intro fuel
  cases fuel with
  | zero => exact OpensN.none hc
  | succ fuel =>
    refine ⟨hc, fun H enc W cs x hx => ?_⟩
    obtain ⟨c, rfl⟩ := one_cell hu rfl hx
    unfold DataW.trod at hx
    cases c <;> simp [hu] at hx
    rename_i k' n
    obtain ⟨⟨rfl, hw⟩, _⟩ := hx
    exact ⟨n, rfl, hw⟩
theorem Opens.bool (hu : P.underlying t = some .bool) (hc : P.cellsOf t = 1) : Opens P Kd.bool t (fun _ => True) := by
  intro fuel
  cases fuel with
  | zero => exact OpensN.none hc
  | succ fuel =>
    refine ⟨hc, fun H enc W cs x hx => ?_⟩
    obtain ⟨c, rfl⟩ := one_cell hu rfl hx
    unfold DataW.trod at hx
    cases c <;> simp [hu] at hx
    rename_i b
    exact ⟨b, rfl, trivial⟩
theorem Opens.string (hu : P.underlying t = some .string) (hc : P.cellsOf t = 1) : Opens P Kd.string t (fun s => s.size ≤ maxLen) := by
  intro fuel
  cases fuel with
  | zero => exact OpensN.none hc
  | succ fuel =>
    refine ⟨hc, fun H enc W cs x hx => ?_⟩
    obtain ⟨c, rfl⟩ := one_cell hu rfl hx
    unfold DataW.trod at hx
    cases c <;> simp [hu] at hx
    rename_i s
    exact ⟨s, rfl, hx.1⟩
/-- The cells of a slice. -/
theorem slice_cell {H : Type} {enc : TypeId × Value → H} {W : World} {cs : List Value} {x : DataW H × List MemPlace} (hu : P.underlying t = some (.slice e)) (hx : DataW.trod enc P W 0 (fun _ => true) true (fuel + 1) t cs = some x) :
    cs = [.slice none 0 0] ∨ ∃ a len cap, cs = [.slice (some a) len cap] ∧ len ≤ cap ∧ cap ≤ maxLen ∧
      ∃ els rest, (List.range len).mapM (fun i => (W.cells? 0 (a.add (i * P.cellsOf e)) (P.cellsOf e)).bind (DataW.trod enc P W 0 (fun _ => true) true fuel e)) = some els ∧ x.1 = .slice (els.map (·.1)) rest := by
  obtain ⟨c, rfl⟩ := one_cell hu rfl hx
  unfold DataW.trod at hx
  cases c <;> try (simp [hu] at hx; done)
  rename_i A len cap
  cases A with
  | none =>
    by_cases h0 : len = 0 ∧ cap = 0
    · obtain ⟨rfl, rfl⟩ := h0
      exact .inl rfl
    · exfalso
      rcases len with _ | len <;> rcases cap with _ | cap <;> simp [hu] at hx h0
  | some a =>
    right
    simp only [hu] at hx
    split at hx
    · rename_i hcnd
      rw [Option.bind_eq_some_iff] at hx
      obtain ⟨els, hels, hx⟩ := hx
      rw [Option.map_eq_some_iff] at hx
      obtain ⟨rest, _, hx⟩ := hx
      exact ⟨a, len, cap, rfl, hcnd.2.1, hcnd.2.2, els, rest.map (·.1), hels, by rw [← hx]⟩
    · simp at hx
theorem OpensN.slice (hu : P.underlying t = some (.slice e)) (hc : P.cellsOf t = 1) (h : OpensN P fuel d e Q) : OpensN P (fuel + 1) (Kd.slice e d) t (fun xs => xs.length ≤ maxLen ∧ ∀ x ∈ xs, Q x) := by
  obtain ⟨hsz, h⟩ := h
  refine ⟨hc, fun H enc W cs x hx => ?_⟩
  rcases slice_cell hu hx with rfl | ⟨a, len, cap, rfl, hlc, hcm, els, rest, hels, _⟩
  · refine ⟨[], ⟨Option.none, 0, rfl, Nat.le_refl _, ?_⟩, by simp, by simp⟩
    exact ⟨rfl, by simp, fun h => absurd h (by simp)⟩
  · skip
    · skip
      have hlen : els.length = len := by simpa using mapM_some_length hels
      have hget := fun i (hi : i < len) => mapM_some_get hels i i (by simp [hi])
      have hall : ∀ i, i < len → ∃ (y : α) (c : List Value), d.K W y c ∧ Q y ∧ c.length = d.sz ∧ ∀ j u, c[j]? = some u → W.cell? (a.add (i * d.sz + j)) = some u := by
        intro i hi
        have hi2 := hget i hi
        rw [List.getElem?_eq_getElem (by omega : i < els.length), Option.bind_eq_some_iff] at hi2
        obtain ⟨c, hcs, hr⟩ := hi2
        obtain ⟨y, hy, hq⟩ := h H enc W c _ hr
        obtain ⟨_, hcl, hcell⟩ := World.cells?_some hcs
        refine ⟨y, c, hy, hq, d.K_len hy, fun j u hj => ?_⟩
        have hjl : j < P.cellsOf e := by
          have : j < c.length := by
            rcases Nat.lt_or_ge j c.length with hlt | hge
            · exact hlt
            · rw [List.getElem?_eq_none hge] at hj; simp at hj
          omega
        have := hcell j hjl
        rw [hj, hsz, Addr.add_add] at this
        exact this
      obtain ⟨ys, hys⟩ : ∃ ys : List α, ys.length = len ∧ ∀ i (hi : i < ys.length), (∃ c : List Value, d.K W ys[i] c ∧ Q ys[i] ∧ c.length = d.sz ∧ ∀ j u, c[j]? = some u → W.cell? (a.add (i * d.sz + j)) = some u) := by
        clear hels hget hlen hlc hcm hx
        induction len with
        | zero => exact ⟨[], rfl, fun i hi => absurd hi (by simp)⟩
        | succ n ih =>
          obtain ⟨ys, hl, hy⟩ := ih (fun i hi => hall i (by omega))
          obtain ⟨y, c, hk, hq, hcl, hcc⟩ := hall n (by omega)
          refine ⟨ys ++ [y], by simp [hl], fun i hi => ?_⟩
          by_cases hin : i < ys.length
          · have := hy i hin
            rw [List.getElem_append_left hin]
            exact this
          · have hie : i = n := by simp at hi; omega
            subst hie
            rw [List.getElem_append_right (by omega)]
            simp only [hl, Nat.sub_self, List.getElem_cons_zero]
            exact ⟨c, hk, hq, hcl, hcc⟩
      obtain ⟨hyl, hy⟩ := hys
      refine ⟨ys, ⟨some a, cap, by rw [hyl], by omega, ?_⟩, by omega, ?_⟩
      · refine ⟨rfl, by rw [hyl]; exact Nat.le_trans hlc hcm, fun _ => ⟨a, rfl, fun j p hj => ?_⟩⟩
        have hjl : j < ys.length := by
          rcases Nat.lt_or_ge j ys.length with hlt | hge
          · exact hlt
          · rw [List.getElem?_eq_none hge] at hj; simp at hj
        obtain ⟨c, hk, hq, hcl, hcc⟩ := hy j hjl
        rw [List.getElem?_eq_getElem hjl] at hj
        obtain rfl := Option.some.inj hj
        exact ⟨c, hcl, hk, hcc⟩
      · intro x hx
        obtain ⟨i, hi, rfl⟩ := List.getElem_of_mem hx
        obtain ⟨c, hk, hq, _⟩ := hy i hi
        exact hq
theorem Opens.slice (hu : P.underlying t = some (.slice e)) (hc : P.cellsOf t = 1) (h : Opens P d e Q) : Opens P (Kd.slice e d) t (fun xs => xs.length ≤ maxLen ∧ ∀ x ∈ xs, Q x) := by
  intro fuel
  cases fuel with
  | zero => exact OpensN.none hc
  | succ fuel => exact OpensN.slice hu hc (h fuel)
end
/-- The fields from one on, read one by one, tell a value of kind d out of the cells from o on. -/
def OpensF (P : Program) (fuel : Nat) (fs : List Field) (o : Nat) (d : Kd α) (Q : α → Prop) : Prop :=
  ∀ (H : Type) (enc : TypeId × Value → H) (W : World) (cs : List Value) (xs : List (DataW H × List MemPlace)),
    (fs.mapM fun f => DataW.trod enc P W 0 (fun _ => true) true fuel f.type ((cs.drop f.offset).take (P.cellsOf f.type))) = some xs → cs.length = o + d.sz → ∃ y, d.K W y (cs.drop o) ∧ Q y
section
variable {P : Program} {t : TypeId} {a : Kd α} {b : Kd β} {Q : α → Prop} {R : β → Prop} {fuel o : Nat} {f : Field} {fs : List Field}
theorem OpensF.last (ho : f.offset = o) (h : OpensN P fuel a f.type Q) : OpensF P fuel [f] o a Q := by
  intro H enc W cs xs hx hl
  simp only [List.mapM_cons, List.mapM_nil] at hx
  rw [Option.bind_eq_bind, Option.bind_eq_some_iff] at hx
  obtain ⟨y, hy, _⟩ := hx
  rw [ho, h.1, List.take_of_length_le (by rw [List.length_drop]; omega)] at hy
  exact h.2 H enc W _ _ hy
theorem OpensF.cons (ho : f.offset = o) (h : OpensN P fuel a f.type Q) (hs : OpensF P fuel fs (o + a.sz) b R) : OpensF P fuel (f :: fs) o (Kd.pair a b) (fun x => Q x.1 ∧ R x.2) := by
  intro H enc W cs xs hx hl
  simp only [List.mapM_cons] at hx
  rw [Option.bind_eq_bind, Option.bind_eq_some_iff] at hx
  obtain ⟨y, hy, hx⟩ := hx
  rw [Option.bind_eq_bind, Option.bind_eq_some_iff] at hx
  obtain ⟨ys, hys, _⟩ := hx
  rw [ho, h.1] at hy
  obtain ⟨u, hu, hq⟩ := h.2 H enc W _ _ hy
  obtain ⟨v, hv, hr⟩ := hs H enc W cs ys hys (by have : (Kd.pair a b).sz = a.sz + b.sz := rfl; omega)
  refine ⟨(u, v), ⟨(cs.drop o).take a.sz, (cs.drop o).drop a.sz, (List.take_append_drop _ _).symm, hu, ?_⟩, hq, hr⟩
  rw [List.drop_drop]
  exact hv
theorem OpensF.iso {γ : Type} (g : γ → α) (inv : α → γ) (hg : ∀ x, g (inv x) = x) (h : OpensF P fuel fs o a Q) : OpensF P fuel fs o (Kd.iso a g) (fun x => Q (g x)) := by
  intro H enc W cs xs hx hl
  obtain ⟨y, hy, hq⟩ := h H enc W cs xs hx hl
  exact ⟨inv y, by show a.K W (g (inv y)) _; rw [hg]; exact hy, by show Q (g (inv y)); rw [hg]; exact hq⟩
theorem OpensN.struct {gs : Array Field} (hu : P.underlying t = some (.struct gs)) (hc : P.cellsOf t = a.sz) (h : OpensF P fuel gs.toList 0 a Q) : OpensN P (fuel + 1) a t Q := by
  refine ⟨hc, fun H enc W cs x hx => ?_⟩
  have hx2 : (if cs.length = P.cellsOf t then (gs.toList.mapM fun f => DataW.trod enc P W 0 (fun _ => true) true fuel f.type ((cs.drop f.offset).take (P.cellsOf f.type))).map fun xs => (DataW.agg (xs.map (·.1)), xs.flatMap (·.2)) else Option.none) = some x := by
    rw [← hx]
    conv => rhs; unfold DataW.trod
    simp only [hu]
  split at hx2
  · rename_i hl
    rw [Option.map_eq_some_iff] at hx2
    obtain ⟨xs, hxs, _⟩ := hx2
    have := h H enc W cs xs hxs (by omega)
    simpa using this
  · simp at hx2
/-- The places of an array, read one by one. -/
def OpensA (P : Program) (fuel : Nat) (e : TypeId) (is : List Nat) (o : Nat) (d : Kd α) (Q : α → Prop) : Prop :=
  ∀ (H : Type) (enc : TypeId × Value → H) (W : World) (cs : List Value) (xs : List (DataW H × List MemPlace)),
    (is.mapM fun i => DataW.trod enc P W 0 (fun _ => true) true fuel e ((cs.drop (i * P.cellsOf e)).take (P.cellsOf e))) = some xs → cs.length = o + d.sz → ∃ y, d.K W y (cs.drop o) ∧ Q y
theorem OpensA.last {e : TypeId} {i : Nat} (ho : i * P.cellsOf e = o) (h : OpensN P fuel a e Q) : OpensA P fuel e [i] o a Q := by
  intro H enc W cs xs hx hl
  simp only [List.mapM_cons, List.mapM_nil] at hx
  rw [Option.bind_eq_bind, Option.bind_eq_some_iff] at hx
  obtain ⟨y, hy, _⟩ := hx
  rw [ho, h.1, List.take_of_length_le (by rw [List.length_drop]; omega)] at hy
  exact h.2 H enc W _ _ hy
theorem OpensA.cons {e : TypeId} {i : Nat} {is : List Nat} (ho : i * P.cellsOf e = o) (h : OpensN P fuel a e Q) (hs : OpensA P fuel e is (o + a.sz) b R) : OpensA P fuel e (i :: is) o (Kd.pair a b) (fun x => Q x.1 ∧ R x.2) := by
  intro H enc W cs xs hx hl
  simp only [List.mapM_cons] at hx
  rw [Option.bind_eq_bind, Option.bind_eq_some_iff] at hx
  obtain ⟨y, hy, hx⟩ := hx
  rw [Option.bind_eq_bind, Option.bind_eq_some_iff] at hx
  obtain ⟨ys, hys, _⟩ := hx
  rw [ho, h.1] at hy
  obtain ⟨u, hu, hq⟩ := h.2 H enc W _ _ hy
  obtain ⟨v, hv, hr⟩ := hs H enc W cs ys hys (by have : (Kd.pair a b).sz = a.sz + b.sz := rfl; omega)
  refine ⟨(u, v), ⟨(cs.drop o).take a.sz, (cs.drop o).drop a.sz, (List.take_append_drop _ _).symm, hu, ?_⟩, hq, hr⟩
  rw [List.drop_drop]
  exact hv
theorem OpensA.iso {γ : Type} {e : TypeId} {is : List Nat} (g : γ → α) (inv : α → γ) (hg : ∀ x, g (inv x) = x) (h : OpensA P fuel e is o a Q) : OpensA P fuel e is o (Kd.iso a g) (fun x => Q (g x)) := by
  intro H enc W cs xs hx hl
  obtain ⟨y, hy, hq⟩ := h H enc W cs xs hx hl
  exact ⟨inv y, by show a.K W (g (inv y)) _; rw [hg]; exact hy, by show Q (g (inv y)); rw [hg]; exact hq⟩
theorem OpensN.array {n : Nat} {e : TypeId} (hu : P.underlying t = some (.array n e)) (hc : P.cellsOf t = a.sz) (h : OpensA P fuel e (List.range n) 0 a Q) : OpensN P (fuel + 1) a t Q := by
  refine ⟨hc, fun H enc W cs x hx => ?_⟩
  have hx2 : (if cs.length = P.cellsOf t then ((List.range n).mapM fun i => DataW.trod enc P W 0 (fun _ => true) true fuel e ((cs.drop (i * P.cellsOf e)).take (P.cellsOf e))).map fun xs => (DataW.agg (xs.map (·.1)), xs.flatMap (·.2)) else Option.none) = some x := by
    rw [← hx]
    conv => rhs; unfold DataW.trod
    simp only [hu]
  split at hx2
  · rename_i hl
    rw [Option.map_eq_some_iff] at hx2
    obtain ⟨xs, hxs, _⟩ := hx2
    have := h H enc W cs xs hxs (by omega)
    simpa using this
  · simp at hx2
end
section
variable {P : Program} {t e : TypeId} {d : Kd α} {Q : α → Prop} {H : Type} {enc : TypeId × Value → H} {W : World} {D : DataW H} {p : List MemPlace} {v : Value}
/-- A struct that came in by value. -/
theorem agg_of {r : Reach} {base : Nat} {fs : Array Field} (hu : P.underlying t = some (.struct fs)) (hv : Value.okWide P W r base t v) (ho : Opens P d t Q) (h : DataW.Trod enc P W 0 (fun _ => true) true t v D p) : ∃ cs x, v = .agg cs ∧ d.K W x cs.toList ∧ Q x := by
  obtain ⟨cs, rfl, _⟩ := Go.WideShapes.okWide_struct hu hv
  obtain ⟨fuel, hf⟩ := h
  obtain ⟨x, hx, hq⟩ := (ho fuel).2 H enc W _ _ hf
  exact ⟨cs, x, rfl, hx, hq⟩
end
end Go.Proofs.Ytoeklekjhaigoaa.Open
end
section
namespace Go.Proofs.Ytoeklekjhaigoaa.WCond
open Go.Proofs.Ytoeklekjhaigoaa.Al Go.RowKit Go.Proofs.YtoeklekjhaigoaaW.PrintWords Go.Proofs.Ytoeklekjhaigoaa.Open Go.Proofs.Ytoeklekjhaigoaa.M0
set_option linter.unusedVariables false
set_option maxRecDepth 100000
inductive Q46 : S46 → Prop where
  | mk (x : S46) (h0 : (Lit.int .i64 x.f0).wf = true) (h1 : x.f1.length ≤ maxLen) (hk : ∀ y ∈ x.f1, Q46 y) (h2 : (Lit.int .i64 x.f2).wf = true) (h3 : (Lit.int .u64 x.f3).wf = true) (h4 : x.f4.size ≤ maxLen) (h5 : (Lit.int .u64 x.f5).wf = true) : Q46 x
theorem opens46_ : ∀ n fuel, fuel ≤ n → OpensN Try.prog fuel k46 46 Q46 := by
  intro n
  induction n with
  | zero =>
    intro fuel hf
    obtain rfl : fuel = 0 := by omega
    exact OpensN.none (by kernel_rfl)
  | succ n ih =>
    intro fuel hf
    cases fuel with
    | zero => exact OpensN.none (by kernel_rfl)
    | succ fuel =>
      have hs : OpensN Try.prog fuel (Kd.slice 46 k46) 44 (fun xs => xs.length ≤ maxLen ∧ ∀ x ∈ xs, Q46 x) := by
        cases fuel with
        | zero => exact OpensN.none (by kernel_rfl)
        | succ f => exact OpensN.slice Try.underlying44 (by kernel_rfl) (ih f (by omega))
      have h := OpensN.struct (t := 46) Try.underlying46 (by kernel_rfl) (OpensF.iso (fun x : S46 => (x.f0, x.f1, x.f2, x.f3, x.f4, x.f5)) (fun p => ⟨p.1, p.2.1, p.2.2.1, p.2.2.2.1, p.2.2.2.2.1, p.2.2.2.2.2⟩) (fun _ => rfl) (OpensF.cons (by kernel_rfl) (Opens.int .i64 Try.underlying3 (by kernel_rfl) fuel) (OpensF.cons (by kernel_rfl) hs (OpensF.cons (by kernel_rfl) (Opens.int .i64 Try.underlying3 (by kernel_rfl) fuel) (OpensF.cons (by kernel_rfl) (Opens.int .u64 Try.underlying30 (by kernel_rfl) fuel) (OpensF.cons (by kernel_rfl) (Opens.string Try.underlying9 (by kernel_rfl) fuel) (OpensF.last (by kernel_rfl) (Opens.int .u64 Try.underlying30 (by kernel_rfl) fuel))))))))
      refine ⟨h.1, fun H enc W cs x hx => ?_⟩
      obtain ⟨y, hy, h0, ⟨h1, hk⟩, h2, h3, h4, h5⟩ := h.2 H enc W cs x hx
      refine ⟨y, ?_, .mk y h0 h1 hk h2 h3 h4 h5⟩
      obtain ⟨_, _, rfl, e0, _, _, rfl, ⟨A1, c1, rfl, l1, g1⟩, _, _, rfl, e2, _, _, rfl, e3, _, _, rfl, e4, e5⟩ := hy
      have e0 : _ = [_] := e0
      have e2 : _ = [_] := e2
      have e3 : _ = [_] := e3
      have e4 : _ = [_] := e4
      have e5 : _ = [_] := e5
      subst e0 e2 e3 e4 e5
      exact k46_mk W y l1 g1
theorem opens46 : Opens Try.prog k46 46 Q46 := fun fuel => opens46_ fuel fuel (Nat.le_refl _)
end Go.Proofs.Ytoeklekjhaigoaa.WCond
end
section
namespace Go.Proofs.Ytoeklekjhaigoaa.StatMeanAll
open Go.Proofs.Ytoeklekjhaigoaa.Al Go.RowKit Go.Proofs.YtoeklekjhaigoaaW.PrintWords Go.Proofs.Ytoeklekjhaigoaa.Open Go.Proofs.Ytoeklekjhaigoaa.PMeanAll Go.Proofs.Ytoeklekjhaigoaa.Le Go.Proofs.Ytoeklekjhaigoaa.C1 Go.Proofs.Ytoeklekjhaigoaa.C2 Go.Proofs.Ytoeklekjhaigoaa.HAct Go.Proofs.Ytoeklekjhaigoaa.W0 Go.Proofs.Ytoeklekjhaigoaa.HFrom Go.Proofs.Ytoeklekjhaigoaa.W1 Go.Proofs.Ytoeklekjhaigoaa.R01 Go.Proofs.Ytoeklekjhaigoaa.HPack Go.Proofs.Ytoeklekjhaigoaa.HUnpack Go.Proofs.Ytoeklekjhaigoaa.HRefPack Go.Proofs.Ytoeklekjhaigoaa.M0 Go.Proofs.Ytoeklekjhaigoaa.HMany Go.Proofs.Ytoeklekjhaigoaa.HCount Go.Proofs.Ytoeklekjhaigoaa.M1 Go.Proofs.Ytoeklekjhaigoaa.HMean Go.Proofs.Ytoeklekjhaigoaa.M2 Go.Proofs.Ytoeklekjhaigoaa.K49 Go.Proofs.Ytoeklekjhaigoaa.WCond
set_option maxRecDepth 100000
def Q22 (x : Int) : Prop := (Lit.int .u32 x).wf = true
theorem opens22 : Opens Try.prog (Kd.int .u32) 22 Q22 := Opens.int .u32 Try.underlying22 (by kernel_rfl)
def Q30 (x : Int) : Prop := (Lit.int .u64 x).wf = true
theorem opens30 : Opens Try.prog (Kd.int .u64) 30 Q30 := Opens.int .u64 Try.underlying30 (by kernel_rfl)
def Q47 (x : S47) : Prop := Q30 x.f0 ∧ Q30 x.f1 ∧ Q30 x.f2 ∧ Q30 x.f3 ∧ Q30 x.f4 ∧ Q30 x.f5
theorem opens47 : Opens Try.prog k47 47 Q47 := by
  intro fuel
  cases fuel with
  | zero => exact OpensN.none (by kernel_rfl)
  | succ fuel => exact OpensN.array Try.underlying47 (by kernel_rfl) (OpensA.iso (fun x : S47 => (x.f0, x.f1, x.f2, x.f3, x.f4, x.f5)) (fun p => ⟨p.1, p.2.1, p.2.2.1, p.2.2.2.1, p.2.2.2.2.1, p.2.2.2.2.2⟩) (fun _ => rfl) (OpensA.cons (by kernel_rfl) (opens30 fuel) (OpensA.cons (by kernel_rfl) (opens30 fuel) (OpensA.cons (by kernel_rfl) (opens30 fuel) (OpensA.cons (by kernel_rfl) (opens30 fuel) (OpensA.cons (by kernel_rfl) (opens30 fuel) (OpensA.last (by kernel_rfl) (opens30 fuel))))))))
def Q49 (x : S49) : Prop := Q22 x.f0 ∧ Q22 x.f1 ∧ Q30 x.f2 ∧ Q47 x.f3
theorem opens49 : Opens Try.prog k49 49 Q49 := by
  intro fuel
  cases fuel with
  | zero => exact OpensN.none (by kernel_rfl)
  | succ fuel => exact OpensN.struct Try.underlying49 (by kernel_rfl) (OpensF.iso (fun x : S49 => (x.f0, x.f1, x.f2, x.f3)) (fun p => ⟨p.1, p.2.1, p.2.2.1, p.2.2.2⟩) (fun _ => rfl) (OpensF.cons (by kernel_rfl) (opens22 fuel) (OpensF.cons (by kernel_rfl) (opens22 fuel) (OpensF.cons (by kernel_rfl) (opens30 fuel) (OpensF.last (by kernel_rfl) (opens47 fuel))))))
def Stat : Prop := ∀ (a0 : S46) (a1 : S46) (a2 : S49), Q46 a0 → Q46 a1 → Q49 a2 → doorwardlaw18_MeanAll.f a0.f0 a0.f1 a0.f2 a0.f3 a0.f4 a0.f5 a1.f0 a1.f1 a1.f2 a1.f3 a1.f4 a1.f5 a2.f0 a2.f1 a2.f2 a2.f3.f0 a2.f3.f1 a2.f3.f2 a2.f3.f3 a2.f3.f4 a2.f3.f5 = some true
end Go.Proofs.Ytoeklekjhaigoaa.StatMeanAll
end
section
namespace Go.Proofs.Ytoeklekjhaigoaa.Pure
open Go.Proofs.Ytoeklekjhaigoaa.Al Go.RowKit Go.Proofs.Ytoeklekjhaigoaa.StatMeanAll Go.Proofs.YtoeklekjhaigoaaW.PrintWords Go.Proofs.YtoeklekjhaigoaaW.PrintLast Go.Proofs.YtoeklekjhaigoaaW.PrintMore Go.Proofs.Ytoeklekjhaigoaa.PMeanAll Go.Proofs.Ytoeklekjhaigoaa.Le Go.Proofs.Ytoeklekjhaigoaa.C1 Go.Proofs.Ytoeklekjhaigoaa.C2 Go.Proofs.Ytoeklekjhaigoaa.HAct Go.Proofs.Ytoeklekjhaigoaa.W0 Go.Proofs.Ytoeklekjhaigoaa.HFrom Go.Proofs.Ytoeklekjhaigoaa.W1 Go.Proofs.Ytoeklekjhaigoaa.R01 Go.Proofs.Ytoeklekjhaigoaa.HPack Go.Proofs.Ytoeklekjhaigoaa.HUnpack Go.Proofs.Ytoeklekjhaigoaa.HRefPack Go.Proofs.Ytoeklekjhaigoaa.M0 Go.Proofs.Ytoeklekjhaigoaa.HMany Go.Proofs.Ytoeklekjhaigoaa.HCount Go.Proofs.Ytoeklekjhaigoaa.M1 Go.Proofs.Ytoeklekjhaigoaa.HMean Go.Proofs.Ytoeklekjhaigoaa.M2 Go.Proofs.Ytoeklekjhaigoaa.K49 Go.Proofs.Ytoeklekjhaigoaa.WCond
set_option linter.unusedVariables false
theorem MeanAll : StatMeanAll.Stat := by
  intro c d x _ _ _
  rfl
end Go.Proofs.Ytoeklekjhaigoaa.Pure
end
section
namespace Go.Proofs.Ytoeklekjhaigoaa.meanAll
open Go.ChangeShapes Go.WideShapes Go.ChangeAt Go.RowKit Go.Proofs.Ytoeklekjhaigoaa.Open Go.Proofs.Ytoeklekjhaigoaa.StatMeanAll Go.Proofs.YtoeklekjhaigoaaW.PrintWords Go.Proofs.Ytoeklekjhaigoaa.PMeanAll Go.Proofs.Ytoeklekjhaigoaa.Le Go.Proofs.Ytoeklekjhaigoaa.C1 Go.Proofs.Ytoeklekjhaigoaa.C2 Go.Proofs.Ytoeklekjhaigoaa.HAct Go.Proofs.Ytoeklekjhaigoaa.W0 Go.Proofs.Ytoeklekjhaigoaa.HFrom Go.Proofs.Ytoeklekjhaigoaa.W1 Go.Proofs.Ytoeklekjhaigoaa.R01 Go.Proofs.Ytoeklekjhaigoaa.HPack Go.Proofs.Ytoeklekjhaigoaa.HUnpack Go.Proofs.Ytoeklekjhaigoaa.HRefPack Go.Proofs.Ytoeklekjhaigoaa.M0 Go.Proofs.Ytoeklekjhaigoaa.HMany Go.Proofs.Ytoeklekjhaigoaa.HCount Go.Proofs.Ytoeklekjhaigoaa.M1 Go.Proofs.Ytoeklekjhaigoaa.HMean Go.Proofs.Ytoeklekjhaigoaa.M2 Go.Proofs.Ytoeklekjhaigoaa.K49 Go.Proofs.Ytoeklekjhaigoaa.WCond
open Go.ChangeMaps (open_string shut_string)
set_option linter.unusedVariables false
open Go.Proofs.Ytoeklekjhaigoaa.Order (own laidOut)
open Go.Proofs.Ytoeklekjhaigoaa
set_option maxRecDepth 100000 in
set_option maxHeartbeats 1000000 in
theorem lifted (os : Os) (started : os.Started) (H : Type) (enc : TypeId × Value → H) :
    ReturnsInHanded {} Try.checked os 12 .any (Rows.meanAllSpec.pre6 enc Try.prog Try.f12 Rows.meanAllRow.domain false) (Rows.meanAllSpec.post enc Try.prog Try.f12 false true false false) := by
  refine returnsInHanded_of_change_sized (C := Try.checked) own started (by kernel_rfl) Try.func12
    (ChangeSpec.witness6 (enc := enc) (C := Try.checked) false ⟨#[], #[.agg #[(.int .i64 0), (.slice none 0 0), (.int .i64 0), (.int .u64 0), (.string ByteArray.empty), (.int .u64 0)], .agg #[(.int .i64 0), (.slice none 0 0), (.int .i64 0), (.int .u64 0), (.string ByteArray.empty), (.int .u64 0)], .agg #[(.int .u32 0), (.int .u32 0), (.int .u64 0), (.int .u64 0), (.int .u64 0), (.int .u64 0), (.int .u64 0), (.int .u64 0), (.int .u64 0)]], []⟩ 20 (by kernel_rfl) (by kernel_rfl) (by kernel_rfl) (by kernel_rfl)) ?_
  intro W base args ds gs before hval0 hW hcnd hsz0 _
  have hsz : (DataW.weightsEach Try.prog (Try.f12.params.toList ++ Rows.meanAllSpec.plain.varTypes Try.prog) (ds ++ gs)).all (· ≤ reachBytes) = true := hsz0
  have hval : ∀ (j : Nat) t v, Try.f12.params[j]? = some t → args[j]? = some v → Value.okWide Try.prog W .any base t v := hval0
  have hW' := hW
  obtain ⟨p, q, hA0, hV, rfl, hfz, hnd⟩ := hW
  have hA : DataW.TrodAll enc Try.prog W 0 (fun _ => true) true Try.f12.params.toList args.toList ds p := hA0
  rw [Try.params12] at hA hval hsz
  obtain ⟨v0, vs0, d0, ds0, p0, q0, hargs, rfl, rfl, h0, r0⟩ := trodAll_cons hA
  obtain ⟨v1, vs1, d1, ds1, p1, q1, rfl, rfl, rfl, h1, r1⟩ := trodAll_cons r0
  obtain ⟨v2, vs2, d2, ds2, p2, q2, rfl, rfl, rfl, h2, r2⟩ := trodAll_cons r1
  obtain ⟨rfl, rfl, rfl⟩ := trodAll_nil r2
  obtain rfl : args = #[v0, v1, v2] := by cases args; simp_all
  obtain ⟨rfl, rfl⟩ := trodVars_none hV
  have k0_ := h0
  have lt0 : ∀ x ∈ p0, x.block < W.heap.size := by obtain ⟨m, hm⟩ := k0_; exact DataW.trod_lt m _ _ _ hm
  obtain ⟨cs0, x0, rfl, hx0, hq0⟩ := agg_of Try.underlying46 (hval 0 46 v0 rfl rfl) opens46 h0
  obtain ⟨A0_1, c0_1, ho0, hl0_1, hg0_1⟩ := k46_open hx0
  obtain rfl : cs0 = #[.int .i64 x0.f0, .slice A0_1 x0.f1.length c0_1, .int .i64 x0.f2, .int .u64 x0.f3, .string x0.f4, .int .u64 x0.f5] := Array.ext' ho0
  have k1_ := h1
  have lt1 : ∀ x ∈ p1, x.block < W.heap.size := by obtain ⟨m, hm⟩ := k1_; exact DataW.trod_lt m _ _ _ hm
  obtain ⟨cs1, x1, rfl, hx1, hq1⟩ := agg_of Try.underlying46 (hval 1 46 v1 rfl rfl) opens46 h1
  obtain ⟨A1_1, c1_1, ho1, hl1_1, hg1_1⟩ := k46_open hx1
  obtain rfl : cs1 = #[.int .i64 x1.f0, .slice A1_1 x1.f1.length c1_1, .int .i64 x1.f2, .int .u64 x1.f3, .string x1.f4, .int .u64 x1.f5] := Array.ext' ho1
  have k2_ := h2
  have lt2 : ∀ x ∈ p2, x.block < W.heap.size := by obtain ⟨m, hm⟩ := k2_; exact DataW.trod_lt m _ _ _ hm
  obtain ⟨cs2, x2, rfl, hx2, hq2⟩ := agg_of Try.underlying49 (hval 2 49 v2 rfl rfl) opens49 h2
  obtain ho2 := k49_open hx2
  obtain rfl : cs2 = #[.int .u32 x2.f0, .int .u32 x2.f1, .int .u64 x2.f2, .int .u64 x2.f3.f0, .int .u64 x2.f3.f1, .int .u64 x2.f3.f2, .int .u64 x2.f3.f3, .int .u64 x2.f3.f4, .int .u64 x2.f3.f5] := Array.ext' ho2
  clear hA0 hval0 hsz0 hsz
  have hk := Pure.MeanAll x0 x1 x2 hq0 hq1 hq2
  refine (doorwardlaw18_MeanAll.calls (hr0_1 := hg0_1) (hc0_1 := hl0_1) (hr1_1 := hg1_1) (hc1_1 := hl1_1) (r := true) (w := W) (h := hk)).mono ?_
  rintro e W' ⟨rfl, bel0⟩
  have bel := bel0
  exact ⟨_, rfl, _, _, _, [], _, [], hW', trodAll_mk1 (shut_bool Try.underlying4 _), (trodAll_cons_mk (Below.trod laidOut (by kernel_rfl) (of_decide_eq_true (by kernel_rfl)) k0_ bel lt0) (trodAll_cons_mk (Below.trod laidOut (by kernel_rfl) (of_decide_eq_true (by kernel_rfl)) k1_ bel lt1) (trodAll_cons_mk (Below.trod laidOut (by kernel_rfl) (of_decide_eq_true (by kernel_rfl)) k2_ bel lt2) trodAll_mk0))), rfl, bel.frame _, fun h => by cases h⟩
set_option maxHeartbeats 4000000 in
theorem facts : joinedFacts Try.prog 12 Try.f12 Rows.meanAllSpec Rows.meanAllRow = true := by
  unfold joinedFacts
  repeat' (with_reducible refine (Bool.and_eq_true_iff).mpr ⟨?_, ?_⟩)
  all_goals first | (with_reducible exact Order.laidOut) | (with_reducible exact Order.mapsRowed) | (with_reducible exact Order.noStops) | (with_reducible exact Order.noKnobs) | (with_reducible exact Order.enter) | (with_reducible exact Order.heard) | (rw [Order.makes]; rfl) | (rw [Order.lifts]; rfl) | (as_aux_lemma => kernel_rfl)
theorem named : Try.prog.funcNamed "doorward/doorwardlaw18.MeanAll" = some 12 := by kernel_rfl
theorem inst : Try.f12.isInstance Try.prog Rows.meanAllRow.origin Rows.meanAllRow.targs := of_decide_eq_true (by kernel_rfl)
theorem wrap : Try.f12.isWrapper Try.prog Rows.meanAllRow.wrapper Rows.meanAllRow.mainSum := by unfold Func.isWrapper; first | (rw [if_pos (by decide +kernel)]; kernel_rfl) | (rw [if_neg (by decide +kernel)]; exact ⟨rfl, rfl⟩)
theorem over : Rows.meanAllRow.holds Try.pinned (OpenSpec.ofChange Rows.meanAllSpec) :=
  OpenClaim.holds_of_wide 12 Try.f12 rfl rfl rfl rfl rfl rfl rfl ⟨rfl, rfl, rfl, rfl, rfl⟩ rfl rfl rfl rfl rfl named Try.func12 facts inst wrap
    (fun os started H enc _ => lifted os started H enc)
theorem proved : Rows.MeanAllSaid := over
#print axioms proved
end Go.Proofs.Ytoeklekjhaigoaa.meanAll
namespace Go.Proofs.Ytoeklekjhaigoaa
/-- The row, under a short name, for the claim. -/
theorem meanAll_holds : Rows.MeanAllSaid := meanAll.proved
end Go.Proofs.Ytoeklekjhaigoaa
end
