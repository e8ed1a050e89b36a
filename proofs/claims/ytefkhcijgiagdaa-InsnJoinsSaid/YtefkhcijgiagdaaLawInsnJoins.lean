/- InsnJoins: two filters one behind the other are their bytes one behind the other, as long as they are few enough. -/
import Derived.Test.YtefkhcijgiagdaaRows
import Derived.Test.YtefkhcijgiagdaaOrder
import Derived.Test.YtefkhcijgiagdaaPureInsnJoins
import Derived.WalkKit
import Derived.ProofKit
import Derived.OpenShut
import Derived.ShutString
import Derived.ChangeOld
import Derived.Below
import Derived.SizedLaws
namespace Go.Proofs.Ytefkhcijgiagdaa.insnJoins
open Go.ChangeShapes Go.WideShapes Go.ChangeAt Go.RowKit Go.Proofs.Ytefkhcijgiagdaa.Open Go.Proofs.Ytefkhcijgiagdaa.StatInsnJoins Go.Proofs.YtefkhcijgiagdaaW.PrintWords Go.Proofs.Ytefkhcijgiagdaa.PInsnJoins Go.Proofs.Ytefkhcijgiagdaa.Le Go.Proofs.Ytefkhcijgiagdaa.HKnown Go.Proofs.Ytefkhcijgiagdaa.HPut Go.Proofs.Ytefkhcijgiagdaa.I1 Go.Proofs.Ytefkhcijgiagdaa.E1 Go.Proofs.Ytefkhcijgiagdaa.HAsm Go.Proofs.Ytefkhcijgiagdaa.E2 Go.Proofs.Ytefkhcijgiagdaa.HAll Go.Proofs.Ytefkhcijgiagdaa.V0
open Go.ChangeMaps (open_string shut_string)
set_option linter.unusedVariables false
open Go.Proofs.Ytefkhcijgiagdaa.Order (own laidOut)
open Go.Proofs.Ytefkhcijgiagdaa
set_option maxRecDepth 100000 in
set_option maxHeartbeats 1000000 in
theorem lifted (os : Os) (started : os.Started) (H : Type) (enc : TypeId × Value → H) :
    ReturnsInHanded {} Try.checked os 18 .any (Rows.insnJoinsSpec.pre6 enc Try.prog Try.f18 Rows.insnJoinsRow.domain false) (Rows.insnJoinsSpec.post enc Try.prog Try.f18 false true false false) := by
  refine returnsInHanded_of_change_sized (C := Try.checked) own started (by kernel_rfl) Try.func18
    (ChangeSpec.witness6 (enc := enc) (C := Try.checked) false ⟨#[], #[.slice none 0 0, .slice none 0 0], []⟩ 20 (by kernel_rfl) (by kernel_rfl) (by kernel_rfl) (by kernel_rfl)) ?_
  intro W base args ds gs before hval0 hW hcnd hsz0 _
  have hsz : (DataW.weightsEach Try.prog (Try.f18.params.toList ++ Rows.insnJoinsSpec.plain.varTypes Try.prog) (ds ++ gs)).all (· ≤ reachBytes) = true := hsz0
  have hval : ∀ (j : Nat) t v, Try.f18.params[j]? = some t → args[j]? = some v → Value.okWide Try.prog W .any base t v := hval0
  have hW' := hW
  obtain ⟨p, q, hA0, hV, rfl, hfz, hnd⟩ := hW
  have hA : DataW.TrodAll enc Try.prog W 0 (fun _ => true) true Try.f18.params.toList args.toList ds p := hA0
  rw [Try.params18] at hA hval hsz
  obtain ⟨v0, vs0, d0, ds0, p0, q0, hargs, rfl, rfl, h0, r0⟩ := trodAll_cons hA
  obtain ⟨v1, vs1, d1, ds1, p1, q1, rfl, rfl, rfl, h1, r1⟩ := trodAll_cons r0
  obtain ⟨rfl, rfl, rfl⟩ := trodAll_nil r1
  obtain rfl : args = #[v0, v1] := by cases args; simp_all
  obtain ⟨rfl, rfl⟩ := trodVars_none hV
  have k0_ := h0
  have lt0 : ∀ x ∈ p0, x.block < W.heap.size := by obtain ⟨m, hm⟩ := k0_; exact DataW.trod_lt m _ _ _ hm
  obtain ⟨A0, c0, x0, rfl, hc0, hr0, hm0, hq0⟩ := slice_of Try.underlying34 (by kernel_rfl) (hval 0 34 v0 rfl rfl) opens28 h0
  have y0 : x0.length * 32 ≤ 140737488351232 := slice_sized hsz (j := 0) (t := 34) rfl rfl Try.underlying34 (by kernel_rfl) h0
  have k1_ := h1
  have lt1 : ∀ x ∈ p1, x.block < W.heap.size := by obtain ⟨m, hm⟩ := k1_; exact DataW.trod_lt m _ _ _ hm
  obtain ⟨A1, c1, x1, rfl, hc1, hr1, hm1, hq1⟩ := slice_of Try.underlying34 (by kernel_rfl) (hval 1 34 v1 rfl rfl) opens28 h1
  have y1 : x1.length * 32 ≤ 140737488351232 := slice_sized hsz (j := 1) (t := 34) rfl rfl Try.underlying34 (by kernel_rfl) h1
  clear hA0 hval0 hsz0 hsz
  obtain ⟨k, hk⟩ := Pure.InsnJoins x0 x1 hm0 y0 hq0 hm1 y1 hq1
  refine (doorwardlaw10_InsnJoins.calls (k := k) (hr0 := hr0) (hc0 := hc0) (hr1 := hr1) (hc1 := hc1) (r := true) (w := W) (h := hk)).mono ?_
  rintro e W' ⟨rfl, bel0⟩
  have bel := bel0
  exact ⟨_, rfl, _, _, _, [], _, [], hW', trodAll_mk1 (shut_bool Try.underlying4 _), (trodAll_cons_mk (Below.trod laidOut (by kernel_rfl) (of_decide_eq_true (by kernel_rfl)) k0_ bel lt0) (trodAll_cons_mk (Below.trod laidOut (by kernel_rfl) (of_decide_eq_true (by kernel_rfl)) k1_ bel lt1) trodAll_mk0)), rfl, bel.frame _, fun h => by cases h⟩
set_option maxHeartbeats 4000000 in
theorem facts : joinedFacts Try.prog 18 Try.f18 Rows.insnJoinsSpec Rows.insnJoinsRow = true := by
  unfold joinedFacts
  repeat' (with_reducible refine (Bool.and_eq_true_iff).mpr ⟨?_, ?_⟩)
  all_goals first | (with_reducible exact Order.laidOut) | (with_reducible exact Order.mapsRowed) | (with_reducible exact Order.noStops) | (with_reducible exact Order.noKnobs) | (with_reducible exact Order.enter) | (with_reducible exact Order.heard) | (rw [Order.makes]; rfl) | (rw [Order.lifts]; rfl) | (as_aux_lemma => kernel_rfl)
theorem named : Try.prog.funcNamed "doorward/doorwardlaw10.InsnJoins" = some 18 := by kernel_rfl
theorem inst : Try.f18.isInstance Try.prog Rows.insnJoinsRow.origin Rows.insnJoinsRow.targs := of_decide_eq_true (by kernel_rfl)
theorem wrap : Try.f18.isWrapper Try.prog Rows.insnJoinsRow.wrapper Rows.insnJoinsRow.mainSum := by unfold Func.isWrapper; first | (rw [if_pos (by decide +kernel)]; kernel_rfl) | (rw [if_neg (by decide +kernel)]; exact ⟨rfl, rfl⟩)
theorem over : Rows.insnJoinsRow.holds Try.pinned (OpenSpec.ofChange Rows.insnJoinsSpec) :=
  OpenClaim.holds_of_wide 18 Try.f18 rfl rfl rfl rfl rfl rfl rfl ⟨rfl, rfl, rfl, rfl, rfl⟩ rfl rfl rfl rfl rfl named Try.func18 facts inst wrap
    (fun os started H enc _ => lifted os started H enc)
theorem proved : Rows.InsnJoinsSaid := over
#print axioms proved
end Go.Proofs.Ytefkhcijgiagdaa.insnJoins
namespace Go.Proofs.Ytefkhcijgiagdaa
/-- The row, under a short name, for the claim. -/
theorem insnJoins_holds : Rows.InsnJoinsSaid := insnJoins.proved
end Go.Proofs.Ytefkhcijgiagdaa
