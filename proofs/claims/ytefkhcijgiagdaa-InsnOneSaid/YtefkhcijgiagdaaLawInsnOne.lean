/- InsnOne: two instructions that may be written have the same bytes just if they are the same; for all instructions. -/
import Derived.Test.YtefkhcijgiagdaaRows
import Derived.Test.YtefkhcijgiagdaaOrder
import Derived.Test.YtefkhcijgiagdaaPureInsnOne
import Derived.WalkKit
import Derived.ProofKit
import Derived.OpenShut
import Derived.ShutString
import Derived.ChangeOld
import Derived.Below
import Derived.SizedLaws
namespace Go.Proofs.Ytefkhcijgiagdaa.insnOne
open Go.ChangeShapes Go.WideShapes Go.ChangeAt Go.RowKit Go.Proofs.Ytefkhcijgiagdaa.Open Go.Proofs.Ytefkhcijgiagdaa.StatInsnOne Go.Proofs.YtefkhcijgiagdaaW.PrintWords Go.Proofs.Ytefkhcijgiagdaa.PInsnOne Go.Proofs.Ytefkhcijgiagdaa.Le Go.Proofs.Ytefkhcijgiagdaa.HKnown Go.Proofs.Ytefkhcijgiagdaa.HPut Go.Proofs.Ytefkhcijgiagdaa.I1
open Go.ChangeMaps (open_string shut_string)
set_option linter.unusedVariables false
open Go.Proofs.Ytefkhcijgiagdaa.Order (own laidOut)
open Go.Proofs.Ytefkhcijgiagdaa
set_option maxRecDepth 100000 in
set_option maxHeartbeats 1000000 in
theorem lifted (os : Os) (started : os.Started) (H : Type) (enc : TypeId × Value → H) :
    ReturnsInHanded {} Try.checked os 4 .any (Rows.insnOneSpec.pre6 enc Try.prog Try.f4 Rows.insnOneRow.domain false) (Rows.insnOneSpec.post enc Try.prog Try.f4 false true false false) := by
  refine returnsInHanded_of_change_sized (C := Try.checked) own started (by kernel_rfl) Try.func4
    (ChangeSpec.witness6 (enc := enc) (C := Try.checked) false ⟨#[], #[.agg #[(.int .i64 0), (.int .i64 0), (.int .i64 0), (.int .u32 0)], .agg #[(.int .i64 0), (.int .i64 0), (.int .i64 0), (.int .u32 0)]], []⟩ 20 (by kernel_rfl) (by kernel_rfl) (by kernel_rfl) (by kernel_rfl)) ?_
  intro W base args ds gs before hval0 hW hcnd hsz0 _
  have hsz : (DataW.weightsEach Try.prog (Try.f4.params.toList ++ Rows.insnOneSpec.plain.varTypes Try.prog) (ds ++ gs)).all (· ≤ reachBytes) = true := hsz0
  have hval : ∀ (j : Nat) t v, Try.f4.params[j]? = some t → args[j]? = some v → Value.okWide Try.prog W .any base t v := hval0
  have hW' := hW
  obtain ⟨p, q, hA0, hV, rfl, hfz, hnd⟩ := hW
  have hA : DataW.TrodAll enc Try.prog W 0 (fun _ => true) true Try.f4.params.toList args.toList ds p := hA0
  rw [Try.params4] at hA hval hsz
  obtain ⟨v0, vs0, d0, ds0, p0, q0, hargs, rfl, rfl, h0, r0⟩ := trodAll_cons hA
  obtain ⟨v1, vs1, d1, ds1, p1, q1, rfl, rfl, rfl, h1, r1⟩ := trodAll_cons r0
  obtain ⟨rfl, rfl, rfl⟩ := trodAll_nil r1
  obtain rfl : args = #[v0, v1] := by cases args; simp_all
  obtain ⟨rfl, rfl⟩ := trodVars_none hV
  have k0_ := h0
  have lt0 : ∀ x ∈ p0, x.block < W.heap.size := by obtain ⟨m, hm⟩ := k0_; exact DataW.trod_lt m _ _ _ hm
  obtain ⟨cs0, x0, rfl, hx0, hq0⟩ := agg_of Try.underlying28 (hval 0 28 v0 rfl rfl) opens28 h0
  obtain ho0 := k28_open hx0
  obtain rfl : cs0 = #[.int .i64 x0.f0, .int .i64 x0.f1, .int .i64 x0.f2, .int .u32 x0.f3] := Array.ext' ho0
  have k1_ := h1
  have lt1 : ∀ x ∈ p1, x.block < W.heap.size := by obtain ⟨m, hm⟩ := k1_; exact DataW.trod_lt m _ _ _ hm
  obtain ⟨cs1, x1, rfl, hx1, hq1⟩ := agg_of Try.underlying28 (hval 1 28 v1 rfl rfl) opens28 h1
  obtain ho1 := k28_open hx1
  obtain rfl : cs1 = #[.int .i64 x1.f0, .int .i64 x1.f1, .int .i64 x1.f2, .int .u32 x1.f3] := Array.ext' ho1
  clear hA0 hval0 hsz0 hsz
  obtain ⟨k, hk⟩ := Pure.InsnOne x0 x1 hq0 hq1
  refine (doorwardlaw10_InsnOne.calls (k := k) (r := true) (w := W) (h := hk)).mono ?_
  rintro e W' ⟨rfl, bel0⟩
  have bel := bel0
  exact ⟨_, rfl, _, _, _, [], _, [], hW', trodAll_mk1 (shut_bool Try.underlying4 _), (trodAll_cons_mk (Below.trod laidOut (by kernel_rfl) (of_decide_eq_true (by kernel_rfl)) k0_ bel lt0) (trodAll_cons_mk (Below.trod laidOut (by kernel_rfl) (of_decide_eq_true (by kernel_rfl)) k1_ bel lt1) trodAll_mk0)), rfl, bel.frame _, fun h => by cases h⟩
set_option maxHeartbeats 4000000 in
theorem facts : joinedFacts Try.prog 4 Try.f4 Rows.insnOneSpec Rows.insnOneRow = true := by
  unfold joinedFacts
  repeat' (with_reducible refine (Bool.and_eq_true_iff).mpr ⟨?_, ?_⟩)
  all_goals first | (with_reducible exact Order.laidOut) | (with_reducible exact Order.mapsRowed) | (with_reducible exact Order.noStops) | (with_reducible exact Order.noKnobs) | (with_reducible exact Order.enter) | (with_reducible exact Order.heard) | (rw [Order.makes]; rfl) | (rw [Order.lifts]; rfl) | (as_aux_lemma => kernel_rfl)
theorem named : Try.prog.funcNamed "doorward/doorwardlaw10.InsnOne" = some 4 := by kernel_rfl
theorem inst : Try.f4.isInstance Try.prog Rows.insnOneRow.origin Rows.insnOneRow.targs := of_decide_eq_true (by kernel_rfl)
theorem wrap : Try.f4.isWrapper Try.prog Rows.insnOneRow.wrapper Rows.insnOneRow.mainSum := by unfold Func.isWrapper; first | (rw [if_pos (by decide +kernel)]; kernel_rfl) | (rw [if_neg (by decide +kernel)]; exact ⟨rfl, rfl⟩)
theorem over : Rows.insnOneRow.holds Try.pinned (OpenSpec.ofChange Rows.insnOneSpec) :=
  OpenClaim.holds_of_wide 4 Try.f4 rfl rfl rfl rfl rfl rfl rfl ⟨rfl, rfl, rfl, rfl, rfl⟩ rfl rfl rfl rfl rfl named Try.func4 facts inst wrap
    (fun os started H enc _ => lifted os started H enc)
theorem proved : Rows.InsnOneSaid := over
#print axioms proved
end Go.Proofs.Ytefkhcijgiagdaa.insnOne
namespace Go.Proofs.Ytefkhcijgiagdaa
/-- The row, under a short name, for the claim. -/
theorem insnOne_holds : Rows.InsnOneSaid := insnOne.proved
end Go.Proofs.Ytefkhcijgiagdaa
