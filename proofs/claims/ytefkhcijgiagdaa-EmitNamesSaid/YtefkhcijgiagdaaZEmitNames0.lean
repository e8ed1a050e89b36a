/- EmitNames: labels by other names make the same instructions. -/
import Derived.Test.YtefkhcijgiagdaaProg
import Derived.Below
import Derived.Deep.Draws
import Derived.Deep.AppendLies
import Derived.Maps.AppendAt
import Derived.OwnWalk
import Derived.Laws.BytesArg
import Derived.Laws.MakeOwn
import Derived.Laws.OwnMore
import Derived.Deep.OwnRows
import Derived.Tactics
import Derived.Lib.ConvBytes
import Derived.Laws.Slices
import Derived.WalkKit
import Derived.KernelRfl
import Derived.RowKit3
import Derived.Deep.LoopGhost
import Derived.Deep.QuietTactic
import Derived.BigQuiet
import Derived.WideLaws
import Derived.Deep.DeepCutAuto
import Derived.Deep.CutBlock
import Derived.Deep.RegionHeld3
import Derived.Laws.Rows
import Derived.Lib.AppendStr
import Derived.ArgAppend
import Derived.Laws.IdiomCopy
import Derived.OrdersHeld
import Derived.Laws.BitsLemmas
import Derived.RowKit
import Derived.Test.YtefkhcijgiagdaaWWords
import Derived.Test.YtefkhcijgiagdaaWLast
import Derived.Test.YtefkhcijgiagdaaWTab
import Derived.Test.YtefkhcijgiagdaaWFour
import Derived.Test.YtefkhcijgiagdaaWQPut
import Derived.Test.YtefkhcijgiagdaaWApart
import Derived.Test.YtefkhcijgiagdaaWArr
import Derived.Test.YtefkhcijgiagdaaWZeros
import Derived.Test.YtefkhcijgiagdaaWFoot
import Derived.Test.YtefkhcijgiagdaaWKept
import Derived.Test.YtefkhcijgiagdaaWShare
import Derived.Test.YtefkhcijgiagdaaWN
import Derived.Test.YtefkhcijgiagdaaWFootNe
import Derived.Test.YtefkhcijgiagdaaWAt
import Derived.Test.YtefkhcijgiagdaaWEqStruct
import Derived.Test.YtefkhcijgiagdaaWRepsOne
import Derived.Test.YtefkhcijgiagdaaWInv
import Derived.Test.YtefkhcijgiagdaaWInvWords
import Derived.Test.YtefkhcijgiagdaaWGuard
import Derived.Test.YtefkhcijgiagdaaWNEv
import Derived.Test.YtefkhcijgiagdaaWMore
import Derived.Laws.Tables
import Derived.Laws.CopyOwn
import Derived.Deep.WholeRow
import Derived.ChangeKeysEq
import Derived.Shelf.Abstract
import Derived.Deep.RegionLaw
import Derived.Maps.OwnSet
import Derived.BigRegion
import Derived.DataReads
import Derived.DataElems
import Derived.SizedLaws
import Derived.ProofKit
import Derived.Test.YtefkhcijgiagdaaRows
import Derived.Test.YtefkhcijgiagdaaOrder
import Derived.OpenShut
import Derived.ShutString
import Derived.ChangeOld
section
namespace Go.Proofs.Ytefkhcijgiagdaa.Le
open Go.RowKit Go.Proofs.YtefkhcijgiagdaaW.PrintWords Go.Proofs.YtefkhcijgiagdaaW.PrintLast Go.Proofs.YtefkhcijgiagdaaW.PrintMore
attribute [local go_sem] max2_int min2_int max_two min_two max_three min_three max_four min_four IntKind.wrap_u32 IntKind.wrap_u8   -- for this text's walks alone
set_option linter.unusedVariables false
set_option linter.unusedSimpArgs false
def errW : Option Int → Value
  | none => .nilIface
  | some c => .iface 0 (.int .i64 c)
theorem errW_none : errW none = .nilIface := rfl
theorem errW_some (c : Int) : errW (some c) = .iface 0 (.int .i64 c) := rfl
end Go.Proofs.Ytefkhcijgiagdaa.Le
end
section
namespace Go.Proofs.Ytefkhcijgiagdaa.QLe
open Go.RowKit Go.Proofs.YtefkhcijgiagdaaW.PrintWords Go.Proofs.YtefkhcijgiagdaaW.PrintLast Go.Proofs.YtefkhcijgiagdaaW.PrintMore Go.Proofs.Ytefkhcijgiagdaa.Le
set_option linter.unusedVariables false
set_option linter.unusedSimpArgs false
theorem w64 (x : Int) (h : -9223372036854775808 ≤ x) (h2 : x ≤ 9223372036854775807) : wrap64 x = x := by unfold wrap64; omega
def leB (n : Int) (sz : Nat) : List Int := (List.range sz).map fun i => n / 256 ^ i % 256
end Go.Proofs.Ytefkhcijgiagdaa.QLe
end
section
namespace Go.Proofs.Ytefkhcijgiagdaa.HKnown
open Go.RowKit Go.Proofs.YtefkhcijgiagdaaW.PrintWords Go.Proofs.YtefkhcijgiagdaaW.PrintLast Go.Proofs.YtefkhcijgiagdaaW.PrintMore Go.Proofs.Ytefkhcijgiagdaa.Le Go.Proofs.Ytefkhcijgiagdaa.QLe
set_option linter.unusedVariables false
set_option linter.unusedSimpArgs false
def codes : List Nat := [32, 128, 0, 96, 1, 97, 129, 2, 3, 4, 20, 36, 52, 68, 84, 100, 116, 132, 164, 12, 28, 44, 60, 76, 92, 108, 124, 172, 5, 21, 37, 53, 69, 29, 45, 61, 77, 6, 22, 7, 135]
/-- is there such a code? -/
def knownB (c : Int) : Bool := decide (0 ≤ c ∧ c < 256) && codes.contains c.toNat
def insn_Known.f (a0 : Int) : Option Bool := some (knownB a0)
end Go.Proofs.Ytefkhcijgiagdaa.HKnown
end
section
namespace Go.Proofs.Ytefkhcijgiagdaa.I1
open Go.RowKit Go.Proofs.YtefkhcijgiagdaaW.PrintWords Go.Proofs.YtefkhcijgiagdaaW.PrintLast Go.Proofs.YtefkhcijgiagdaaW.PrintMore
attribute [local go_sem] max2_int min2_int max_two min_two max_three min_three max_four min_four IntKind.wrap_u32 IntKind.wrap_u8   -- for this text's walks alone
set_option linter.unusedVariables false
open Go.Proofs.Ytefkhcijgiagdaa.Le Go.Proofs.Ytefkhcijgiagdaa.HKnown
set_option linter.unusedSimpArgs false
def errW : Option Int → Value
  | none => .nilIface
  | some c => .iface 0 (.int .i64 c)
theorem errW_none : errW none = .nilIface := rfl
theorem errW_some (c : Int) : errW (some c) = .iface 0 (.int .i64 c) := rfl
structure S28 where
  f0 : Int
  f1 : Int
  f2 : Int
  f3 : Int
def z28 : S28 := ⟨(0 : Int), (0 : Int), (0 : Int), (0 : Int)⟩
def k28 : Kd S28 := Kd.iso (Kd.pair (Kd.int .i64) (Kd.pair (Kd.int .i64) (Kd.pair (Kd.int .i64) (Kd.int .u32)))) (fun x : S28 => (x.f0, x.f1, x.f2, x.f3))
theorem k28_open {w : World} {x : S28} {cs : List Value} (h : k28.K w x cs) : cs = [.int .i64 x.f0, .int .i64 x.f1, .int .i64 x.f2, .int .u32 x.f3] := by
  obtain ⟨_, _, rfl, rfl, ⟨_, _, rfl, rfl, ⟨_, _, rfl, rfl, rfl⟩⟩⟩ := h
  exact rfl
theorem k28_mkM (w : World) (base : Nat) (ok : Nat → Prop) (x : S28)  : k28.M w base ok x [.int .i64 x.f0, .int .i64 x.f1, .int .i64 x.f2, .int .u32 x.f3] := ⟨[.int .i64 x.f0], [.int .i64 x.f1, .int .i64 x.f2, .int .u32 x.f3], rfl, rfl, ⟨[.int .i64 x.f1], [.int .i64 x.f2, .int .u32 x.f3], rfl, rfl, ⟨[.int .i64 x.f2], [.int .u32 x.f3], rfl, rfl, rfl⟩⟩⟩
def rd_T28 (xs : List S28) (i : Int) : S28 := xs.getD i.toNat z28
theorem at_T28 {w : World} {A : Option Addr} {n : Nat} {xs : List S28} (h : Kd.C k28 w A n xs) (i : Int) (h0 : 0 ≤ i) (h1 : i < n) : ∃ ad , A = some ad ∧ w.cell? (ad.add (i.toNat * 4)) = some (.int .i64 (rd_T28 xs i).f0) ∧ w.cell? ⟨(ad.add (i.toNat * 4)).block, (ad.add (i.toNat * 4)).off + 1, none⟩ = some (.int .i64 (rd_T28 xs i).f1) ∧ w.cell? ⟨(ad.add (i.toNat * 4)).block, (ad.add (i.toNat * 4)).off + 2, none⟩ = some (.int .i64 (rd_T28 xs i).f2) ∧ w.cell? ⟨(ad.add (i.toNat * 4)).block, (ad.add (i.toNat * 4)).off + 3, none⟩ = some (.int .u32 (rd_T28 xs i).f3) := by
  obtain ⟨ad, c, e, _, hK, hc0⟩ := Kd.C_get h z28 i h0 h1
  have hc : ∀ j u, c[j]? = some u → w.cell? (ad.add (i.toNat * 4 + j)) = some u := hc0
  obtain rfl := k28_open hK
  exact ⟨ad, e, hc 0 _ rfl, by rw [← add_field _ _ 1 (by omega)]; exact hc 1 _ rfl, by rw [← add_field _ _ 2 (by omega)]; exact hc 2 _ rfl, by rw [← add_field _ _ 3 (by omega)]; exact hc 3 _ rfl⟩
end Go.Proofs.Ytefkhcijgiagdaa.I1
end
section
namespace Go.Proofs.Ytefkhcijgiagdaa.I1
open Go.RowKit Go.Proofs.YtefkhcijgiagdaaW.PrintWords Go.Proofs.YtefkhcijgiagdaaW.PrintLast Go.Proofs.YtefkhcijgiagdaaW.PrintMore
attribute [local go_sem] max2_int min2_int max_two min_two max_three min_three max_four min_four IntKind.wrap_u32 IntKind.wrap_u8   -- for this text's walks alone
set_option linter.unusedVariables false
open Go.Proofs.Ytefkhcijgiagdaa.Le Go.Proofs.Ytefkhcijgiagdaa.HKnown
set_option linter.unusedSimpArgs false
theorem eqA28 (d : Nat) (w : World) (x0 y0 : Int) (x1 y1 : Int) (x2 y2 : Int) (x3 y3 : Int) :
    (Op.equalIn (d + 2) 28 (.agg #[.int .i64 x0, .int .i64 x1, .int .i64 x2, .int .u32 x3]) (.agg #[.int .i64 y0, .int .i64 y1, .int .i64 y2, .int .u32 y3])).run Try.prog w = .ok (x0 == y0 && (x1 == y1 && (x2 == y2 && (x3 == y3)))) w := by
  refine eqA_of Try.underlying28 (by kernel_rfl) ?_
  refine eqf_cons (by rfl) (by go_simp; rfl) (by go_simp; rfl) (by go_simp) ?_
  refine eqf_cons (by rfl) (by go_simp; rfl) (by go_simp; rfl) (by go_simp) ?_
  refine eqf_cons (by rfl) (by go_simp; rfl) (by go_simp; rfl) (by go_simp) ?_
  exact eqf_last (by rfl) (by go_simp; rfl) (by go_simp; rfl) (by go_simp)
end Go.Proofs.Ytefkhcijgiagdaa.I1
end
section
namespace Go.Proofs.Ytefkhcijgiagdaa.I1
open Go.RowKit Go.Proofs.YtefkhcijgiagdaaW.PrintWords Go.Proofs.YtefkhcijgiagdaaW.PrintLast Go.Proofs.YtefkhcijgiagdaaW.PrintMore
attribute [local go_sem] max2_int min2_int max_two min_two max_three min_three max_four min_four IntKind.wrap_u32 IntKind.wrap_u8   -- for this text's walks alone
set_option linter.unusedVariables false
open Go.Proofs.Ytefkhcijgiagdaa.Le Go.Proofs.Ytefkhcijgiagdaa.HKnown
set_option linter.unusedSimpArgs false
attribute [local go_sem high] eqA28
def doorwardref10_Like.l0 : Nat → List (S28) → List (S28) → Int → Int → Option (Bool)
  | 0, _, _, _, _ => none
  | k + 1, x0, x1, x12, x13 => if x13 < x12 then (if 0 ≤ x13 then (if x13 < (x0.length : Int) then (if x13 < (x1.length : Int) then (if (!(((rd_T28 x0 x13).f0) == ((rd_T28 x1 x13).f0)) || (!(((rd_T28 x0 x13).f1) == ((rd_T28 x1 x13).f1)) || (!(((rd_T28 x0 x13).f2) == ((rd_T28 x1 x13).f2)) || (!(((rd_T28 x0 x13).f3) == ((rd_T28 x1 x13).f3)))))) = true then (some false) else (doorwardref10_Like.l0 k x0 x1 x12 (wrap64 (x13 + 1)))) else (none)) else (none)) else (none)) else (some true)
def doorwardref10_Like.f (k : Nat) (l0 : List (S28)) (l1 : List (S28)) : Option (Bool) := if (l0.length : Int) = (l1.length : Int) then (doorwardref10_Like.l0 k l0 l1 (l0.length : Int) 0) else (some false)
set_option maxHeartbeats 8000000 in
set_option maxRecDepth 100000 in
theorem doorwardref10_Like.calls (k : Nat) (A0 : Option Addr) (c0 : Nat) (l0 : List (S28)) (A1 : Option Addr) (c1 : Nat) (l1 : List (S28)) (r : Bool) (w : World) (hr0 : Kd.C k28 w A0 l0.length l0) (hc0 : l0.length ≤ c0) (hr1 : Kd.C k28 w A1 l1.length l1) (hc1 : l1.length ≤ c1) (h : doorwardref10_Like.f k l0 l1 = some r) :
    Calls Try.prog 36 #[.slice A0 l0.length c0, .slice A1 l1.length c1] w fun e w' => e = .returned (.bool r) ∧ Drawn0 w w' := by
  have hu28 := Try.underlying28
  have HR0 := Aside0.mk hr0
  have HC0 := Aside0.mk hc0
  clear hr0 hc0
  have HR1 := Aside0.mk hr1
  have HC1 := Aside0.mk hc1
  clear hr1 hc1
  have H : (if (l0.length : Int) = (l1.length : Int) then (doorwardref10_Like.l0 k l0 l1 (l0.length : Int) 0) else (some false)) = some r := h
  clear h
  by_cases c3 : (l0.length : Int) = (l1.length : Int)
  · rw [if_pos c3] at H
    have c3b0 : ((l0.length : Int) == (l1.length : Int)) = true := beq_iff_eq.mpr c3
    have c3b1 : ((l0.length : Int) != (l1.length : Int)) = false := bne_eq_false_iff_eq.mpr c3
    have c3b2 : (l0.length == l1.length) = true := by first | simpa using c3 | (simp at c3 ⊢; omega)
    clear c3
    have H' := Aside0.mk H
    clear H
    go_enter Try.func36, Try.ntmps36
    go_wp2
    repeat (go_quiet (fail); try go_wp2)
    go_loopg [13] k (fun kq v13 w' => ∃ (x13_1 : Int), v13 = .int .i64 x13_1 ∧ Aside0 (doorwardref10_Like.l0 kq l0 l1 (l0.length : Int) x13_1 = some r) ∧ Aside0 (kq ≤ k) ∧ Drawn0 w w')
    case atStart => exact ⟨(0), (by first | rfl | (simp; done) | (simp [*]; done)), H', ⟨Nat.le_refl _⟩, by repeat (first | exact Drawn0.refl _ | apply Drawn0.step)⟩
    case round =>
      clear H'
      try clear c1
      try clear p2
      try clear c3
      try clear c3b0
      try clear c3b1
      try clear c3b2
      obtain ⟨x13_1, rfl, HA, HK1, ⟨m1, rfl⟩⟩ := hrel
      cases gk with
      | zero => exact absurd HA.out (by simp [doorwardref10_Like.l0])
      | succ k1 =>
        have H := HA.out
        clear HA
        simp only [doorwardref10_Like.l0] at H
        by_cases c4 : x13_1 < (l0.length : Int)
        · rw [if_pos c4] at H
          have c4b0 : decide (x13_1 < (l0.length : Int)) = true := decide_eq_true c4
          clear c4
          by_cases c5 : 0 ≤ x13_1
          · rw [if_pos c5] at H
            have c5b0 : decide (0 ≤ x13_1) = true := decide_eq_true c5
            clear c5
            by_cases c6 : x13_1 < (l0.length : Int)
            · rw [if_pos c6] at H
              have c6b0 : decide (x13_1 < (l0.length : Int)) = true := decide_eq_true c6
              clear c6
              by_cases c7 : x13_1 < (l1.length : Int)
              · rw [if_pos c7] at H
                have c7b0 : decide (x13_1 < (l1.length : Int)) = true := decide_eq_true c7
                clear c7
                by_cases c8 : (!(((rd_T28 l0 x13_1).f0) == ((rd_T28 l1 x13_1).f0)) || (!(((rd_T28 l0 x13_1).f1) == ((rd_T28 l1 x13_1).f1)) || (!(((rd_T28 l0 x13_1).f2) == ((rd_T28 l1 x13_1).f2)) || (!(((rd_T28 l0 x13_1).f3) == ((rd_T28 l1 x13_1).f3)))))) = true
                · rw [if_pos c8] at H
                  have c8b0 : (!(((rd_T28 l0 x13_1).f0) == ((rd_T28 l1 x13_1).f0)) || (!(((rd_T28 l0 x13_1).f1) == ((rd_T28 l1 x13_1).f1)) || (!(((rd_T28 l0 x13_1).f2) == ((rd_T28 l1 x13_1).f2)) || (!(((rd_T28 l0 x13_1).f3) == ((rd_T28 l1 x13_1).f3)))))) = true := c8
                  clear c8
                  obtain rfl := Option.some.inj H
                  have p154 : 0 ≤ (x13_1 : Int) := of_decide_eq_true (by first | (with_reducible assumption) | assumption)
                  have q154 : x13_1 < (l0.length : Int) := of_decide_eq_true (by first | (with_reducible assumption) | assumption)
                  obtain ⟨ad154, e154, hx154_0, hx154_1, hx154_2, hx154_3⟩ := at_T28 HR0.out x13_1 p154 q154
                  cases e154
                  replace p154 := eq_true p154
                  replace q154 := eq_true q154
                  have p155 : 0 ≤ (x13_1 : Int) := of_decide_eq_true (by first | (with_reducible assumption) | assumption)
                  have q155 : x13_1 < (l1.length : Int) := of_decide_eq_true (by first | (with_reducible assumption) | assumption)
                  obtain ⟨ad155, e155, hx155_0, hx155_1, hx155_2, hx155_3⟩ := at_T28 HR1.out x13_1 p155 q155
                  cases e155
                  replace p155 := eq_true p155
                  replace q155 := eq_true q155
                  go_wp2
                  repeat (go_quiet (fail); try go_wp2)
                  go_ret
                  exact ⟨by first | rfl | (simp; done) | (simp [*]; done), by repeat (first | exact Drawn0.refl _ | apply Drawn0.step)⟩
                · rw [if_neg c8] at H
                  have c8b0 : (!(((rd_T28 l0 x13_1).f0) == ((rd_T28 l1 x13_1).f0)) || (!(((rd_T28 l0 x13_1).f1) == ((rd_T28 l1 x13_1).f1)) || (!(((rd_T28 l0 x13_1).f2) == ((rd_T28 l1 x13_1).f2)) || (!(((rd_T28 l0 x13_1).f3) == ((rd_T28 l1 x13_1).f3)))))) = false := by simpa using c8
                  clear c8
                  have H' := Aside0.mk H
                  clear H
                  have p154 : 0 ≤ (x13_1 : Int) := of_decide_eq_true (by first | (with_reducible assumption) | assumption)
                  have q154 : x13_1 < (l0.length : Int) := of_decide_eq_true (by first | (with_reducible assumption) | assumption)
                  obtain ⟨ad154, e154, hx154_0, hx154_1, hx154_2, hx154_3⟩ := at_T28 HR0.out x13_1 p154 q154
                  cases e154
                  replace p154 := eq_true p154
                  replace q154 := eq_true q154
                  have p155 : 0 ≤ (x13_1 : Int) := of_decide_eq_true (by first | (with_reducible assumption) | assumption)
                  have q155 : x13_1 < (l1.length : Int) := of_decide_eq_true (by first | (with_reducible assumption) | assumption)
                  obtain ⟨ad155, e155, hx155_0, hx155_1, hx155_2, hx155_3⟩ := at_T28 HR1.out x13_1 p155 q155
                  cases e155
                  replace p155 := eq_true p155
                  replace q155 := eq_true q155
                  go_wp2
                  repeat (go_quiet (fail); try go_wp2)
                  go_roundg k1
                  case measure => have := HK1.out; omega
                  case rel => exact ⟨(wrap64 (x13_1 + 1)), (by first | rfl | (simp; done) | (simp [*]; done)), H', ⟨by have := HK1.out; omega⟩, by repeat (first | exact Drawn0.refl _ | apply Drawn0.step)⟩
              · rw [if_neg c7] at H
                exact absurd H (by simp)
            · rw [if_neg c6] at H
              exact absurd H (by simp)
          · rw [if_neg c5] at H
            exact absurd H (by simp)
        · rw [if_neg c4] at H
          have c4b0 : decide (x13_1 < (l0.length : Int)) = false := decide_eq_false c4
          clear c4
          obtain rfl := Option.some.inj H
          go_wp2
          repeat (go_quiet (fail); try go_wp2)
          go_ret
          exact ⟨by first | rfl | (simp; done) | (simp [*]; done), by repeat (first | exact Drawn0.refl _ | apply Drawn0.step)⟩
  · rw [if_neg c3] at H
    have c3b0 : ((l0.length : Int) == (l1.length : Int)) = false := beq_eq_false_iff_ne.mpr c3
    have c3b1 : ((l0.length : Int) != (l1.length : Int)) = true := bne_iff_ne.mpr c3
    have c3b2 : (l0.length == l1.length) = false := by first | simpa using c3 | (simp at c3 ⊢; omega)
    obtain rfl := Option.some.inj H
    go_enter Try.func36, Try.ntmps36
    go_wp2
    repeat (go_quiet (fail); try go_wp2)
    go_ret
    exact ⟨by first | rfl | (simp; done) | (simp [*]; done), by repeat (first | exact Drawn0.refl _ | apply Drawn0.step)⟩
def doorwardlaw10_alive.f  : Option (Bool) := (insn_Known.f 6).bind fun t156 => (if t156 = true then ((insn_Known.f 38).bind fun t157 => (some (!t157))) else (some false))
end Go.Proofs.Ytefkhcijgiagdaa.I1
end
section
namespace Go.Proofs.Ytefkhcijgiagdaa.E1
open Go.RowKit Go.Proofs.YtefkhcijgiagdaaW.PrintWords Go.Proofs.YtefkhcijgiagdaaW.PrintLast Go.Proofs.YtefkhcijgiagdaaW.PrintMore
attribute [local go_sem] max2_int min2_int max_two min_two max_three min_three max_four min_four IntKind.wrap_u32 IntKind.wrap_u8   -- for this text's walks alone
set_option linter.unusedVariables false
open Go.Proofs.Ytefkhcijgiagdaa.Le Go.Proofs.Ytefkhcijgiagdaa.HKnown Go.Proofs.Ytefkhcijgiagdaa.I1
set_option linter.unusedSimpArgs false
def errW : Option Int → Value
  | none => .nilIface
  | some c => .iface 0 (.int .i64 c)
theorem errW_none : errW none = .nilIface := rfl
theorem errW_some (c : Int) : errW (some c) = .iface 0 (.int .i64 c) := rfl
theorem info40 : (Try.prog.info? 40).map (fun i => (i.zero, i.size, i.bytes)) = some (some (.agg #[(.int .i64 0), (.int .u32 0), (.int .i64 0), (.int .i64 0)]), 4, 32) := by kernel_rfl
structure S40 where
  f0 : Int
  f1 : Int
  f2 : Int
  f3 : Int
def z40 : S40 := ⟨(0 : Int), (0 : Int), (0 : Int), (0 : Int)⟩
def k40 : Kd S40 := Kd.iso (Kd.pair (Kd.int .i64) (Kd.pair (Kd.int .u32) (Kd.pair (Kd.int .i64) (Kd.int .i64)))) (fun x : S40 => (x.f0, x.f1, x.f2, x.f3))
theorem k40_open {w : World} {x : S40} {cs : List Value} (h : k40.K w x cs) : cs = [.int .i64 x.f0, .int .u32 x.f1, .int .i64 x.f2, .int .i64 x.f3] := by
  obtain ⟨_, _, rfl, rfl, ⟨_, _, rfl, rfl, ⟨_, _, rfl, rfl, rfl⟩⟩⟩ := h
  exact rfl
theorem k40_mkM (w : World) (base : Nat) (ok : Nat → Prop) (x : S40)  : k40.M w base ok x [.int .i64 x.f0, .int .u32 x.f1, .int .i64 x.f2, .int .i64 x.f3] := ⟨[.int .i64 x.f0], [.int .u32 x.f1, .int .i64 x.f2, .int .i64 x.f3], rfl, rfl, ⟨[.int .u32 x.f1], [.int .i64 x.f2, .int .i64 x.f3], rfl, rfl, ⟨[.int .i64 x.f2], [.int .i64 x.f3], rfl, rfl, rfl⟩⟩⟩
def rd_T40 (xs : List S40) (i : Int) : S40 := xs.getD i.toNat z40
theorem at_T40 {w : World} {A : Option Addr} {n : Nat} {xs : List S40} (h : Kd.C k40 w A n xs) (i : Int) (h0 : 0 ≤ i) (h1 : i < n) : ∃ ad , A = some ad ∧ w.cell? (ad.add (i.toNat * 4)) = some (.int .i64 (rd_T40 xs i).f0) ∧ w.cell? ⟨(ad.add (i.toNat * 4)).block, (ad.add (i.toNat * 4)).off + 1, none⟩ = some (.int .u32 (rd_T40 xs i).f1) ∧ w.cell? ⟨(ad.add (i.toNat * 4)).block, (ad.add (i.toNat * 4)).off + 2, none⟩ = some (.int .i64 (rd_T40 xs i).f2) ∧ w.cell? ⟨(ad.add (i.toNat * 4)).block, (ad.add (i.toNat * 4)).off + 3, none⟩ = some (.int .i64 (rd_T40 xs i).f3) := by
  obtain ⟨ad, c, e, _, hK, hc0⟩ := Kd.C_get h z40 i h0 h1
  have hc : ∀ j u, c[j]? = some u → w.cell? (ad.add (i.toNat * 4 + j)) = some u := hc0
  obtain rfl := k40_open hK
  exact ⟨ad, e, hc 0 _ rfl, by rw [← add_field _ _ 1 (by omega)]; exact hc 1 _ rfl, by rw [← add_field _ _ 2 (by omega)]; exact hc 2 _ rfl, by rw [← add_field _ _ 3 (by omega)]; exact hc 3 _ rfl⟩
end Go.Proofs.Ytefkhcijgiagdaa.E1
end
section
namespace Go.Proofs.Ytefkhcijgiagdaa.HAsm
open Go.RowKit Go.Proofs.YtefkhcijgiagdaaW.PrintWords Go.Proofs.YtefkhcijgiagdaaW.PrintLast Go.Proofs.YtefkhcijgiagdaaW.PrintMore Go.Proofs.Ytefkhcijgiagdaa.I1 Go.Proofs.Ytefkhcijgiagdaa.E1
set_option linter.unusedVariables false
set_option linter.unusedSimpArgs false
set_option maxRecDepth 100000
theorem law3 : Maps.Keyed Try.prog 3 := Maps.int_keyed Try.underlying3
theorem zero3 (w : World) : (zeroValue 3).run Try.prog w = .ok (.int .i64 0) w := by kernel_rfl
def MapIs (w : World) (b n : Nat) (L : Int → Option Int) : Prop :=
  ∃ D : DataW Unit, w.ownsMap Try.prog 3 (plainElem Try.prog 3) b n D ∧ Maps.IsMap D ∧ ∀ (k : Int) (z : DataW Unit), D.atKey (.int .i64 k) z = match L k with | some v => .lit (.int .i64 v) | none => z
theorem MapIs.lt {w : World} {b n : Nat} {L : Int → Option Int} (h : MapIs w b n L) : b < w.heap.size := by obtain ⟨D, h, _⟩ := h; exact h.lt
theorem MapIs.kept {w w' : World} {b n : Nat} {L : Int → Option Int} (h : MapIs w b n L) (he : w'.heap[b]? = w.heap[b]?) : MapIs w' b n L := by
  obtain ⟨D, ⟨es, clock, hb, F, hs, hD⟩, h2⟩ := h
  exact ⟨D, ⟨es, clock, he.trans hb, F, hs, hD⟩, h2⟩
theorem MapIs.made (w : World) : MapIs (w.alloc (.map #[] 0)) w.heap.size 0 (fun _ => none) := ⟨.map [], World.ownsMap_made _ _ _ _, Maps.isMap_empty, fun _ _ => rfl⟩
theorem MapIs.look {w : World} {b n : Nat} {L : Int → Option Int} (h : MapIs w b n L) (k : Int) (hk : (Lit.int .i64 k).wf = true) :
    (Instr.lookup 105 (.map (some b)) (.int .i64 k) true).run Try.prog w = .ok (.tuple #[.int .i64 ((L k).getD 0), .bool (L k).isSome]) w := by
  obtain ⟨D, ho, hm, hat⟩ := h
  obtain ⟨v, ps, hrun, hv⟩ := ho.look_ok (t := 105) (e := 3) law3 Try.underlying105 (zero3 w) (plainElem_int Try.underlying3 (by decide)) (Maps.keyOf_int_mk Try.underlying3 hk)
  rw [hrun]
  have e1 : Maps.has D (.int .i64 k) = (L k).isSome := by
    cases hL : L k with
    | none => exact Maps.has_false_of_atKey (fun z => by rw [hat, hL])
    | some x => exact Maps.has_true_of_atKey (y := .lit (.int .i64 x)) (fun z => by rw [hat, hL])
  have e2 : v = .int .i64 ((L k).getD 0) := by
    obtain ⟨c, rfl, hc, _⟩ := plainElem_int_inv Try.underlying3 hv
    rw [hat] at hc
    cases hL : L k with
    | none => rw [hL] at hc; cases hc; rfl
    | some x => rw [hL] at hc; cases hc; rfl
  rw [e1, e2]
theorem MapIs.store {w : World} {b n : Nat} {L : Int → Option Int} (h : MapIs w b n L) (hn : n < 1000000) (k v : Int) (hk : (Lit.int .i64 k).wf = true) (hv : (Lit.int .i64 v).wf = true) :
    ∃ w', (Instr.mapUpdate 105 (.map (some b)) (.int .i64 k) (.int .i64 v)).run Try.prog w = .ok () w' ∧ MapIs w' b (n + 1) (fun x => if x = k then some v else L x) ∧ w.grownBy w' (some b) := by
  obtain ⟨D, ho, hm, hat⟩ := h
  obtain ⟨w', hrun, ho', hg⟩ := ho.update (t := 105) (e := 3) law3 Try.underlying105 (by unfold maxLen; omega) (Maps.keyOf_int_mk Try.underlying3 hk) (plainElem_int Try.underlying3 hv)
  refine ⟨w', hrun, ⟨_, ho', hm.put _ _, fun x z => ?_⟩, hg⟩
  by_cases hx : x = k
  · subst hx
    show _ = match (if x = x then some v else L x) with | some v => _ | none => _
    rw [if_pos rfl, Maps.atKey_put_same hm (show WideAt.IsKeyLit (.int .i64 x) from trivial)]
  · show _ = match (if x = k then some v else L x) with | some v => _ | none => _
    rw [if_neg hx, Maps.atKey_put_other (fun e => hx (by cases e; rfl)), hat]
structure Fr (B : Nat) (w w' : World) : Prop where
  bel : Below B w w'
  keep : ∀ (g t : Nat) (cs : Array Value), t ≠ 28 → t ≠ 107 → w.heap[g]? = some (Obj.cells cs t (0, 0)) → w'.heap[g]? = some (Obj.cells cs t (0, 0))
theorem Fr.refl (B : Nat) (w : World) : Fr B w w := ⟨Below.refl B w, fun _ _ _ _ _ h => h⟩
theorem Fr.trans {B : Nat} {a b c : World} (h : Fr B a b) (k : Fr B b c) : Fr B a c := ⟨h.bel.trans k.bel, fun g t cs h1 h2 h3 => k.keep g t cs h1 h2 (h.keep g t cs h1 h2 h3)⟩
theorem Fr.alloc {B : Nat} {a w : World} (h : Fr B a w) (hB : B ≤ w.heap.size) (o : Obj) : Fr B a (w.alloc o) :=
  ⟨h.bel.alloc hB o, fun g t cs h1 h2 h3 => (Below.heap_alloc w o g (Array.getElem?_eq_some_iff.1 (h.keep g t cs h1 h2 h3)).1).trans (h.keep g t cs h1 h2 h3)⟩
theorem Fr.drew {B : Nat} {a w : World} (h : Fr B a w) : Fr B a w.drew := ⟨h.bel.drew, h.keep⟩
theorem Fr.of_below {B : Nat} {a w w' : World} (h : Fr B a w) (hB : B ≤ w.heap.size) (k : Below w.heap.size w w') : Fr B a w' :=
  ⟨below_then h.bel hB k, fun g t cs h1 h2 h3 => (k.block g (Array.getElem?_eq_some_iff.1 (h.keep g t cs h1 h2 h3)).1).trans (h.keep g t cs h1 h2 h3)⟩
theorem Fr.setCell {B : Nat} {a w : World} (h : Fr B a w) {g : Nat} (hB : B ≤ g) {cs : Array Value} (hg : w.heap[g]? = some (Obj.cells cs 107 (0, 0))) (j : Nat) (u : Value) : Fr B a (w.setCell ⟨g, j, none⟩ u) :=
  ⟨h.bel.setCell hB u, fun k t cs' h1 h2 h3 => by
    have h4 := h.keep k t cs' h1 h2 h3
    refine (Below.heap_setCell w ⟨g, j, none⟩ u k ?_).trans h4
    rintro rfl
    rw [hg] at h4; injection h4 with h4; injection h4 with _ h4; exact h2 h4.symm⟩
theorem Fr.grown {B : Nat} {a w w' : World} {row : Option Nat} (h : Fr B a w) (hg : w.grownBy w' row) (hB : B ≤ w.heap.size) (hr : ∀ k, row = some k → B ≤ k ∧ ∀ t cs, t ≠ 28 → w.heap[k]? ≠ some (Obj.cells cs t (0, 0))) : Fr B a w' :=
  ⟨h.bel.grown hg hB (fun k hk => (hr k hk).1), fun k t cs h1 h2 h3 => by
    have h4 := h.keep k t cs h1 h2 h3
    refine (hg.block k (Array.getElem?_eq_some_iff.1 h4).1 ?_).trans h4
    intro hk
    exact (hr k hk.symm).2 t cs h1 h4⟩
structure St (w : World) (B Wb Mb : Nat) (A : Option Addr) (cap : Nat) (xs : List S28) (L : Int → Option Int) (n : Nat) (bad : Bool) : Prop where
  hW : w.heap[Wb]? = some (.cells #[.slice A xs.length cap, .map (some Mb), .bool bad] 107 (0, 0))
  hR : Kd.R k28 28 w B (fun _ => True) (.slice A xs.length cap) xs
  hM : MapIs w Mb n L
  bW : B ≤ Wb
  bM : B ≤ Mb
theorem St.lt {w : World} {B Wb Mb : Nat} {A : Option Addr} {cap : Nat} {xs : List S28} {L : Int → Option Int} {n : Nat} {bad : Bool} (h : St w B Wb Mb A cap xs L n bad) : Wb < w.heap.size :=
  (Array.getElem?_eq_some_iff.1 h.hW).1
/-- A world in which all blocks stand as they did. -/
theorem St.below {w w' : World} {B Wb Mb : Nat} {A : Option Addr} {cap : Nat} {xs : List S28} {L : Int → Option Int} {n : Nat} {bad : Bool} (h : St w B Wb Mb A cap xs L n bad) (hb : Below w.heap.size w w') : St w' B Wb Mb A cap xs L n bad :=
  ⟨(hb.block _ h.lt).trans h.hW, Kd.R_below h.hR hb, h.hM.kept (hb.block _ h.hM.lt), h.bW, h.bM⟩
theorem St.ne {w : World} {B Wb Mb : Nat} {A : Option Addr} {cap : Nat} {xs : List S28} {L : Int → Option Int} {n : Nat} {bad : Bool} (h : St w B Wb Mb A cap xs L n bad) : Mb ≠ Wb := by
  rintro rfl
  obtain ⟨D, ⟨es, clock, hb, _⟩, _⟩ := h.hM
  rw [h.hW] at hb; cases hb
theorem hInfo28 : (Try.prog.info? 28).map (fun i => (i.zero, i.size, i.bytes)) = some (some (.agg #[(.int .i64 0), (.int .i64 0), (.int .i64 0), (.int .u32 0)]), 4, 32) := by kernel_rfl
/-- append, one cell's struct, as a step of a region that draws: behind the draw. -/
theorem append_step {P : Program} {ops : Array Oper} {o : Oper} {a : Act} {Q : Exit → Act → World → Prop} {Kc : Act → World → Prop} {α : Type} (d : Kd α) {W : World} (base : Nat) (hgd : o.guard = none) (s x : Operand) (t e : TypeId) (z : Value) (bytes : Nat)
    (ho : o.op = .call { callee := .builtin .append, args := #[s, x], argTypes := #[t, t] })
    (ht : P.underlying t = some (.slice e)) (hinfo : (P.info? e).map (fun i => (i.zero, i.size, i.bytes)) = some (some z, d.sz, bytes)) (hz : z.cells.size = d.sz) (hs0 : 0 < d.sz) (hb0 : 0 < bytes)
    (v : Value) (xs : List α) (p : α) (cs : List Value) (hs : a.eval s = v) (hx : a.eval x = .slice (some ⟨W.heap.size, 0, none⟩) 1 1) (hp : d.M W base (fun _ => False) p cs)
    (HO : d.R e W base (fun _ => True) v xs) (hbase : base ≤ W.heap.size) (hl : (xs.length + 1) * bytes ≤ 140737488355328)
    (h : ∀ v1 w1, d.R e w1 base (fun _ => True) v1 (xs ++ [p]) → Below base W w1 → W.grownBy w1 v.ownBlock → Kc (a.put o.dst v1) w1) :
    if Region.wanted o (yielded ops a.tmps) = true then Oper.wp P o a (W.alloc (.cells cs.toArray e)).drew Kc Q else Kc (a.put o.dst undef) (W.alloc (.cells cs.toArray e)).drew := by
  have hw : Region.wanted o (yielded ops a.tmps) = true := by simp [Region.wanted, hgd]
  exact Kd.R_append_step d (w0 := W) (W := W.drew) base hw s x t e z bytes ho ht hinfo hz hs0 hb0 v xs p cs (fun _ => True) (fun _ => False) hs hx (d.M_move (fun k hk => hk.elim) hp) (fun _ hk => hk.elim) (fun _ _ => trivial) (Kd.R_move HO (fun _ _ => rfl)) (Below.refl _ _).drew hbase hl (fun v1 w1 h1 h2 h3 _ => h v1 w1 h1 h2 ⟨h3.os, h3.tape, h3.output, h3.size, h3.block⟩)
theorem St.put {w0 w w1 : World} {B Wb Mb : Nat} {A A1 : Option Addr} {cap c1 : Nat} {xs : List S28} {L : Int → Option Int} {n : Nat} {bad : Bool} {x : S28} (hb0 : Fr B w0 w) (h : St w B Wb Mb A cap xs L n bad)
    (hR1 : Kd.R k28 28 w1 B (fun _ => True) (.slice A1 (xs ++ [x]).length c1) (xs ++ [x])) (hB1 : Below B w w1) (hg1 : w.grownBy w1 (Value.slice A xs.length cap).ownBlock) :
    Fr B w0 (w1.setCell ⟨Wb, 0, none⟩ (.slice A1 (xs.length + 1) c1)) ∧ St (w1.setCell ⟨Wb, 0, none⟩ (.slice A1 (xs.length + 1) c1)) B Wb Mb A1 c1 (xs ++ [x]) L n bad := by
  have e : (xs ++ [x]).length = xs.length + 1 := by simp
  have hWb := (hg1.block Wb h.lt (Kd.R_ne h.hR h.hW (by decide))).trans h.hW
  have hMb : w1.heap[Mb]? = w.heap[Mb]? := by
    refine hg1.block Mb h.hM.lt ?_
    intro hk
    obtain ⟨D, ⟨es, clock, hb, _⟩, _⟩ := h.hM
    obtain ⟨inner, ho⟩ := Kd.R_own h.hR
    obtain ⟨cells, hc⟩ := own_typed ho Mb hk.symm
    rw [hc] at hb; cases hb
  have hrow : ∀ k, (Value.slice A xs.length cap).ownBlock = some k → B ≤ k ∧ ∀ t cs, t ≠ 28 → w.heap[k]? ≠ some (.cells cs t (0, 0)) := by
    intro k hk
    obtain ⟨inner, ho⟩ := Kd.R_own h.hR
    obtain ⟨cells, hc⟩ := own_typed ho k hk
    refine ⟨own_base ho k hk, fun t cs ht hc2 => ?_⟩
    rw [hc] at hc2; injection hc2 with hc2; injection hc2 with _ hc2; exact ht hc2.symm
  have hBw : B ≤ w.heap.size := Nat.le_of_lt (Nat.lt_of_le_of_lt h.bW h.lt)
  refine ⟨(hb0.grown hg1 hBw hrow).setCell h.bW hWb 0 _, ?_, ?_, ?_, h.bW, h.bM⟩
  · have := blk_set hWb 0 (.slice A1 (xs.length + 1) c1)
    rw [e]; exact this
  · exact Kd.R_set hR1 hWb (by decide) 0 _
  · refine MapIs.kept (h.hM.kept hMb) ?_
    exact Below.heap_setCell _ _ _ _ h.ne
set_option maxHeartbeats 2000000 in
theorem put_c {w : World} {B Wb Mb : Nat} {A : Option Addr} {cap : Nat} {xs : List S28} {L : Int → Option Int} {n : Nat} {bad : Bool} (h : St w B Wb Mb A cap xs L n bad) (x : S28) (hl : xs.length ≤ 1000000) :
    Calls Try.prog 124 #[.pointer (some ⟨Wb, 0, none⟩), .agg #[.int .i64 x.f0, .int .i64 x.f1, .int .i64 x.f2, .int .u32 x.f3]] w fun e w' => e = .returned (.tuple #[]) ∧ Fr B w w' ∧ ∃ A' cap', St w' B Wb Mb A' cap' (xs ++ [x]) L n bad := by
  have hu107 := Try.underlying107
  have hu28 := Try.underlying28
  have hlt := h.lt
  have c0 : w.cell? ⟨Wb, 0, none⟩ = some (.slice A xs.length cap) := blk_cell h.hW 0
  have hh := Aside0.mk h
  have hx0 := Aside0.mk (h.below (below_alloc (Below.refl _ _) (.cells #[.int .i64 x.f0, .int .i64 x.f1, .int .i64 x.f2, .int .u32 x.f3] 28)))
  have hl' := Aside0.mk hl
  have hBw := Aside0.mk (show B ≤ w.heap.size from Nat.le_of_lt (Nat.lt_of_le_of_lt h.bW hlt))
  clear h hl
  go_enter Try.func124, Try.ntmps124
  go_wp2
  go_region_law (refine append_step k28 (W := (w.alloc (.cells #[.int .i64 x.f0, .int .i64 x.f1, .int .i64 x.f2, .int .u32 x.f3] 28))) B rfl (.tmp 8) (.tmp 10) 34 28 _ 32 rfl Try.underlying34 hInfo28 rfl (by decide) (by decide) (.slice A xs.length cap) xs x [.int .i64 x.f0, .int .i64 x.f1, .int .i64 x.f2, .int .u32 x.f3] (by simp [Act.eval, Act.put]) (by simp [Act.eval, Act.put]) (k28_mkM _ _ _ x) hx0.out.hR (Nat.le_of_lt (Nat.lt_of_le_of_lt hx0.out.bW hx0.out.lt)) (by have := hl'.out; omega) ?_; intro v1 w1 hR1 hB1 hg1; obtain ⟨A1, c1, rfl⟩ := Kd.R_slice hR1; have HF := Aside0.mk (St.put (Fr.alloc (Fr.refl B w) hBw.out _) hx0.out hR1 hB1 hg1); have hWb := (hg1.block Wb hx0.out.lt (Kd.R_ne hx0.out.hR hx0.out.hW (by decide))).trans hx0.out.hW; have f1 := blk_frozen hWb 0; have c1_ : w1.cell? ⟨Wb, 0, none⟩ = some (.slice A xs.length cap) := blk_cell hWb 0; clear hWb hR1 hB1 hg1)
  all_goals (go_wp2; go_end0; exact ⟨rfl, HF.out.1, _, _, HF.out.2⟩)
theorem St.setBad {w : World} {B Wb Mb : Nat} {A : Option Addr} {cap : Nat} {xs : List S28} {L : Int → Option Int} {n : Nat} {bad : Bool} (h : St w B Wb Mb A cap xs L n bad) (b : Bool) : Fr B w (w.setCell ⟨Wb, 2, none⟩ (.bool b)) ∧ St (w.setCell ⟨Wb, 2, none⟩ (.bool b)) B Wb Mb A cap xs L n b :=
  ⟨(Fr.refl B w).setCell h.bW h.hW 2 _, blk_set h.hW 2 (.bool b), Kd.R_set h.hR h.hW (by decide) 2 _, h.hM.kept (Below.heap_setCell _ _ _ _ h.ne), h.bW, h.bM⟩
theorem St.alloc {w : World} {B Wb Mb : Nat} {A : Option Addr} {cap : Nat} {xs : List S28} {L : Int → Option Int} {n : Nat} {bad : Bool} (h : St w B Wb Mb A cap xs L n bad) (o : Obj) : St (w.alloc o) B Wb Mb A cap xs L n bad := h.below (below_alloc (Below.refl _ _) _)
theorem St.base {w : World} {B Wb Mb : Nat} {A : Option Addr} {cap : Nat} {xs : List S28} {L : Int → Option Int} {n : Nat} {bad : Bool} (h : St w B Wb Mb A cap xs L n bad) : B ≤ w.heap.size := Nat.le_of_lt (Nat.lt_of_le_of_lt h.bW h.lt)
theorem new_blk (w : World) (a : Addr) (v : Value) (o : Obj) : ((w.setCell a v).alloc o).heap[w.heap.size]? = some o := by
  have e : (w.setCell a v).heap.size = w.heap.size := by simp [World.setCell]
  have := heap_alloc_new (w.setCell a v) o
  rw [e] at this; exact this
/-- A jump: its instruction, and whether its label is unknown. -/
def goI (xs : List S28) (L : Int → Option Int) (label : Int) : S28 := ⟨5, 0, 0, (wrap64 ((xs.length : Int) - (L label).getD 0)) % 4294967296⟩
set_option maxHeartbeats 2000000 in
theorem goes_c {w : World} {B Wb Mb : Nat} {A : Option Addr} {cap : Nat} {xs : List S28} {L : Int → Option Int} {n : Nat} {bad : Bool} (h : St w B Wb Mb A cap xs L n bad) (label : Int) (hk : (Lit.int .i64 label).wf = true) (hl : xs.length ≤ 1000000) :
    Calls Try.prog 125 #[.pointer (some ⟨Wb, 0, none⟩), .int .i64 label] w fun e w' => e = .returned (.agg #[.int .i64 5, .int .i64 0, .int .i64 0, .int .u32 ((wrap64 ((xs.length : Int) - (L label).getD 0)) % 4294967296)]) ∧ Fr B w w' ∧ St w' B Wb Mb A cap xs L n (bad || !(L label).isSome) := by
  have hu107 := Try.underlying107
  have hu28 := Try.underlying28
  have hlt := h.lt
  have c0 : w.cell? ⟨Wb, 0, none⟩ = some (.slice A xs.length cap) := blk_cell h.hW 0
  have c1 : w.cell? ⟨Wb, 1, none⟩ = some (.map (some Mb)) := blk_cell h.hW 1
  have c2 : w.cell? ⟨Wb, 2, none⟩ = some (.bool bad) := blk_cell h.hW 2
  have f2 := blk_frozen h.hW 2
  have hlook := fun o => (h.below (below_alloc (Below.refl w.heap.size w) o)).hM.look label hk
  have HF := Aside0.mk (fun (b : Bool) (o : Obj) => (⟨((h.setBad b).1.alloc (h.setBad b).2.base o), (h.setBad b).2.alloc o⟩ : Fr B w ((w.setCell ⟨Wb, 2, none⟩ (.bool b)).alloc o) ∧ St ((w.setCell ⟨Wb, 2, none⟩ (.bool b)).alloc o) B Wb Mb A cap xs L n b))
  clear h
  generalize hat : (L label).getD 0 = at_ at hlook ⊢
  generalize his : (L label).isSome = is at hlook ⊢
  clear hat his
  cases bad
  · go_enter Try.func125, Try.ntmps125
    go_wp2
    refine bodyPost_ret (v := .agg #[.int .i64 5, .int .i64 0, .int .i64 0, .int .u32 ((wrap64 ((xs.length : Int) - at_)) % 4294967296)]) (results_cell_row (p := 4) (by kernel_rfl) _ _ w.heap.size 28 #[.int .i64 5, .int .i64 0, .int .i64 0, .int .u32 ((wrap64 ((xs.length : Int) - at_)) % 4294967296)] (0, 0) _ rfl (new_blk _ _ _ _) Try.underlying28 rfl (by kernel_rfl)) rfl ⟨rfl, (HF.out (!is) _).1, (HF.out (!is) _).2⟩
  · go_enter Try.func125, Try.ntmps125
    go_wp2
    refine bodyPost_ret (v := .agg #[.int .i64 5, .int .i64 0, .int .i64 0, .int .u32 ((wrap64 ((xs.length : Int) - at_)) % 4294967296)]) (results_cell_row (p := 4) (by kernel_rfl) _ _ w.heap.size 28 #[.int .i64 5, .int .i64 0, .int .i64 0, .int .u32 ((wrap64 ((xs.length : Int) - at_)) % 4294967296)] (0, 0) _ rfl (new_blk _ _ _ _) Try.underlying28 rfl (by kernel_rfl)) rfl ⟨rfl, (HF.out true _).1, (HF.out true _).2⟩
end Go.Proofs.Ytefkhcijgiagdaa.HAsm
end
section
namespace Go.Proofs.Ytefkhcijgiagdaa.HAsm
open Go.RowKit Go.Proofs.YtefkhcijgiagdaaW.PrintWords Go.Proofs.YtefkhcijgiagdaaW.PrintLast Go.Proofs.YtefkhcijgiagdaaW.PrintMore Go.Proofs.Ytefkhcijgiagdaa.I1 Go.Proofs.Ytefkhcijgiagdaa.E1
set_option linter.unusedVariables false
set_option linter.unusedSimpArgs false
set_option maxRecDepth 100000
def codeB (k : Int) : Int := if k = 3 then 21 else if k = 4 then 37 else 53
theorem code_c (k : Int) (w : World) : Calls Try.prog 126 #[.int .i64 k] w fun e w' => e = .returned (.int .i64 (codeB k)) ∧ Below w.heap.size w w' := by
  unfold codeB
  split
  · subst_vars
    go_enter Try.func126, Try.ntmps126
    go_wp2
    go_ret
    exact ⟨rfl, Below.refl _ _⟩
  · split
    · subst_vars
      go_enter Try.func126, Try.ntmps126
      go_wp2
      go_ret
      exact ⟨rfl, Below.refl _ _⟩
    · go_enter Try.func126, Try.ntmps126
      go_wp2
      go_ret
      exact ⟨rfl, Below.refl _ _⟩
/-- The writer, as it is told of. -/
structure WS where
  xs : List S28
  L : Int → Option Int
  n : Nat
  bad : Bool
def WS.put (s : WS) (x : S28) : WS := ⟨s.xs ++ [x], s.L, s.n, s.bad⟩
def WS.go (s : WS) (label : Int) : WS := ⟨s.xs ++ [goI s.xs s.L label], s.L, s.n, s.bad || !(s.L label).isSome⟩
def stepS (s : WS) (o : S40) : WS :=
  if o.f0 = 1 then s.put ⟨32, 0, 0, o.f1⟩
  else if o.f0 = 2 then s.put ⟨84, 0, 0, o.f1⟩
  else if o.f0 = 3 ∨ o.f0 = 4 ∨ o.f0 = 5 then ((s.go o.f3).go o.f2).put ⟨codeB o.f0, 0, 1, o.f1⟩
  else if o.f0 = 6 then ⟨s.xs, fun x => if x = o.f2 then some (s.xs.length : Int) else s.L x, s.n + 1, s.bad⟩
  else if o.f0 = 7 then s.go o.f2
  else if o.f0 = 8 then s.put ⟨6, 0, 0, o.f1⟩
  else ⟨s.xs, s.L, s.n, true⟩
def StW (w : World) (B Wb Mb : Nat) (s : WS) : Prop := ∃ A cap, St w B Wb Mb A cap s.xs s.L s.n s.bad
def StepPost (w : World) (B Wb Mb : Nat) (s : WS) (e : Ending) (w' : World) : Prop := e = .returned (.tuple #[]) ∧ Fr B w w' ∧ StW w' B Wb Mb s
theorem put_w {w : World} {B Wb Mb : Nat} {s : WS} (h : StW w B Wb Mb s) (a b c d : Int) (hl : s.xs.length ≤ 1000000) :
    Calls Try.prog 124 #[.pointer (some ⟨Wb, 0, none⟩), .agg #[.int .i64 a, .int .i64 b, .int .i64 c, .int .u32 d]] w (StepPost w B Wb Mb (s.put ⟨a, b, c, d⟩)) := by
  obtain ⟨A, cap, h⟩ := h
  refine (put_c h ⟨a, b, c, d⟩ hl).mono ?_
  rintro e w' ⟨rfl, hb, A', c', h'⟩
  exact ⟨rfl, hb, A', c', h'⟩
theorem goes_w {w : World} {B Wb Mb : Nat} {s : WS} (h : StW w B Wb Mb s) (label : Int) (hk : (Lit.int .i64 label).wf = true) (hl : s.xs.length ≤ 1000000) :
    Calls Try.prog 125 #[.pointer (some ⟨Wb, 0, none⟩), .int .i64 label] w fun e w' => e = .returned (.agg #[.int .i64 5, .int .i64 0, .int .i64 0, .int .u32 (goI s.xs s.L label).f3]) ∧ Fr B w w' ∧ StW w' B Wb Mb ⟨s.xs, s.L, s.n, s.bad || !(s.L label).isSome⟩ := by
  obtain ⟨A, cap, h⟩ := h
  refine (goes_c h label hk hl).mono ?_
  rintro e w' ⟨rfl, hb, h'⟩
  exact ⟨rfl, hb, A, cap, h'⟩
theorem StW.box {w : World} {B Wb Mb : Nat} {s : WS} (h : StW w B Wb Mb s) (o : Obj) : Fr B w (w.alloc o) ∧ StW (w.alloc o) B Wb Mb s := by
  obtain ⟨A, cap, h⟩ := h
  exact ⟨(Fr.refl B w).alloc h.base o, A, cap, h.alloc o⟩
theorem StW.drew {w : World} {B Wb Mb : Nat} {s : WS} (h : StW w B Wb Mb s) : StW w.drew B Wb Mb s := by
  obtain ⟨A, cap, h⟩ := h
  exact ⟨A, cap, h.below ⟨rfl, rfl, rfl, Nat.le_refl _, fun _ _ => rfl⟩⟩
theorem StW.below {w w' : World} {B Wb Mb : Nat} {s : WS} (h : StW w B Wb Mb s) (hb : Below w.heap.size w w') : StW w' B Wb Mb s := by
  obtain ⟨A, cap, h⟩ := h
  exact ⟨A, cap, h.below hb⟩
theorem StW.base {w : World} {B Wb Mb : Nat} {s : WS} (h : StW w B Wb Mb s) : B ≤ w.heap.size := by
  obtain ⟨A, cap, h⟩ := h
  exact h.base
def StepC (o : S40) (s : WS) (B Wb Mb : Nat) (w : World) : Prop :=
  Calls Try.prog 90 #[.pointer (some ⟨Wb, 0, none⟩), .agg #[.int .i64 o.f0, .int .u32 o.f1, .int .i64 o.f2, .int .i64 o.f3]] w (StepPost w B Wb Mb (stepS s o))
set_option maxHeartbeats 2000000 in
theorem step1 {w : World} {B Wb Mb : Nat} {s : WS} (h : StW w B Wb Mb s) (o : S40) (hl : s.xs.length ≤ 999990) (ho : o.f0 = 1 ∨ o.f0 = 2 ∨ o.f0 = 8) : StepC o s B Wb Mb w := by
  obtain ⟨a, b, c, d⟩ := o
  have hu40 := Try.underlying40
  have hu28 := Try.underlying28
  have hbox := h.box (.cells #[.int .i64 a, .int .u32 b, .int .i64 c, .int .i64 d] 40)
  clear h
  rcases ho with rfl | rfl | rfl
  · go_enter Try.func90, Try.ntmps90
    go_wp2_with (go_at_call 124; refine (put_w hbox.2 _ _ _ _ (by omega)).mono ?_; rintro e w1 ⟨rfl, hb1, hs1⟩)
    go_end0
    exact ⟨rfl, hbox.1.trans hb1, hs1⟩
  · go_enter Try.func90, Try.ntmps90
    go_wp2_with (go_at_call 124; refine (put_w hbox.2 _ _ _ _ (by omega)).mono ?_; rintro e w1 ⟨rfl, hb1, hs1⟩)
    go_end0
    exact ⟨rfl, hbox.1.trans hb1, hs1⟩
  · go_enter Try.func90, Try.ntmps90
    go_wp2_with (go_at_call 124; refine (put_w hbox.2 _ _ _ _ (by omega)).mono ?_; rintro e w1 ⟨rfl, hb1, hs1⟩)
    go_end0
    exact ⟨rfl, hbox.1.trans hb1, hs1⟩
set_option maxHeartbeats 2000000 in
theorem step7 {w : World} {B Wb Mb : Nat} {s : WS} (h : StW w B Wb Mb s) (o : S40) (hl : s.xs.length ≤ 999990) (ho : o.f0 = 7) (hT : (Lit.int .i64 o.f2).wf = true) : StepC o s B Wb Mb w := by
  obtain ⟨a, b, c, d⟩ := o
  have hu40 := Try.underlying40
  have hu28 := Try.underlying28
  have hbox := h.box (.cells #[.int .i64 a, .int .u32 b, .int .i64 c, .int .i64 d] 40)
  clear h
  subst ho
  go_enter Try.func90, Try.ntmps90
  go_wp2_with (first | (go_at_call 125; refine (goes_w hbox.2 c hT (by omega)).mono ?_; rintro e w1 ⟨rfl, hb1, hs1⟩) | (go_at_call 124; refine (put_w hs1 _ _ _ _ (by simp only; omega)).mono ?_; rintro e w2 ⟨rfl, hb2, hs2⟩))
  go_end0
  exact ⟨rfl, (hbox.1.trans hb1).trans hb2, hs2⟩
set_option maxHeartbeats 2000000 in
theorem stepElse {w : World} {B Wb Mb : Nat} {s : WS} (h : StW w B Wb Mb s) (o : S40) (hl : s.xs.length ≤ 999990) (ho : o.f0 ≤ 0 ∨ 9 ≤ o.f0) : StepC o s B Wb Mb w := by
  obtain ⟨a, b, c, d⟩ := o
  have hu40 := Try.underlying40
  have hu28 := Try.underlying28
  have hu107 := Try.underlying107
  obtain ⟨A, cap, h⟩ := h
  have hlt := h.lt
  have c2 : w.cell? ⟨Wb, 2, none⟩ = some (.bool s.bad) := blk_cell h.hW 2
  have f2 := blk_frozen h.hW 2
  have HF := Aside0.mk (h.setBad true)
  have e : stepS s ⟨a, b, c, d⟩ = ⟨s.xs, s.L, s.n, true⟩ := by
    simp only at ho
    unfold stepS
    simp only
    rw [if_neg (by omega), if_neg (by omega), if_neg (by omega), if_neg (by omega), if_neg (by omega), if_neg (by omega)]
  unfold StepC
  rw [e]
  clear e h
  simp only at ho ⊢
  have n1 : ¬ a = 1 := by omega
  have n2 : ¬ a = 2 := by omega
  have n3 : ¬ a = 3 := by omega
  have n4 : ¬ a = 4 := by omega
  have n5 : ¬ a = 5 := by omega
  have n6 : ¬ a = 6 := by omega
  have n7 : ¬ a = 7 := by omega
  have n8 : ¬ a = 8 := by omega
  go_enter Try.func90, Try.ntmps90
  go_wp2
  go_end0
  exact ⟨rfl, HF.out.1.alloc HF.out.2.base _, _, _, HF.out.2.alloc _⟩
set_option maxHeartbeats 1000000 in
theorem step345 {w : World} {B Wb Mb : Nat} {s : WS} (h : StW w B Wb Mb s) (o : S40) (hl : s.xs.length ≤ 999990) (ho : o.f0 = 3 ∨ o.f0 = 4 ∨ o.f0 = 5) (hT : (Lit.int .i64 o.f2).wf = true) (hF : (Lit.int .i64 o.f3).wf = true) : StepC o s B Wb Mb w := by
  obtain ⟨a, b, c, d⟩ := o
  have hu40 := Try.underlying40
  have hu28 := Try.underlying28
  have hbox := h.box (.cells #[.int .i64 a, .int .u32 b, .int .i64 c, .int .i64 d] 40)
  have hblk := heap_alloc_new w (.cells #[.int .i64 a, .int .u32 b, .int .i64 c, .int .i64 d] 40)
  clear h
  have hcode := code_c a
  rcases ho with rfl | rfl | rfl <;>
  · have tok1 : True := trivial
    have tok2 : True := trivial
    have tok3 : True := trivial
    have tok4 : True := trivial
    go_enter Try.func90, Try.ntmps90
    go_wp2_with (first | (go_at_call 125; have _t := tok1; refine (goes_w hbox.2 d hF (by omega)).mono ?_; rintro e w1 ⟨rfl, hb1, hs1⟩; clear tok1 _t) | (go_at_call 124; have _t := tok2; refine (put_w hs1 _ _ _ _ (by simp only; omega)).mono ?_; rintro e w2 ⟨rfl, hb2, hs2⟩; have hblk2 := hb2.keep _ _ _ (by decide) (by decide) (hb1.keep _ _ _ (by decide) (by decide) hblk); have k22 := blk_cell hblk2 2; clear tok2 _t) | (go_at_call 125; have _t := tok3; refine (goes_w hs2 c hT (by simp only [WS.put, List.length_append, List.length_cons, List.length_nil]; omega)).mono ?_; rintro e w3 ⟨rfl, hb3, hs3⟩; clear tok3 _t) | (go_at_call 124; have _t := tok4; refine (put_w hs3 _ _ _ _ (by simp only [WS.put, List.length_append, List.length_cons, List.length_nil]; omega)).mono ?_; rintro e w4 ⟨rfl, hb4, hs4⟩; have hblk4 := hb4.keep _ _ _ (by decide) (by decide) (hb3.keep _ _ _ (by decide) (by decide) hblk2); have k40 := blk_cell hblk4 0; have k41 := blk_cell hblk4 1; clear tok4 _t))
    have tok5 : True := trivial
    have tok6 : True := trivial
    go_region_with (first | (go_at_call 126; have _t := tok5; refine (code_c _ _).mono ?_; rintro e w5 ⟨rfl, hb5⟩; have hblk5 := ((Fr.refl B w4).drew.of_below hs4.drew.base hb5).keep _ _ _ (by decide) (by decide) hblk4; have k51 := blk_cell hblk5 1; clear tok5 _t) | (go_at_call 124; have _t := tok6; refine (put_w (hs4.drew.below hb5) _ _ _ _ (by simp only [WS.put, List.length_append, List.length_cons, List.length_nil]; omega)).mono ?_; rintro e w6 ⟨rfl, hb6, hs6⟩; clear tok6 _t))
    all_goals
      go_end0
      exact ⟨rfl, ((((((hbox.1.trans hb1).trans hb2).trans hb3).trans hb4).drew).of_below hs4.drew.base hb5).trans hb6, hs6⟩
end Go.Proofs.Ytefkhcijgiagdaa.HAsm
end
section
namespace Go.Proofs.Ytefkhcijgiagdaa.HAsm
open Go.RowKit Go.Proofs.YtefkhcijgiagdaaW.PrintWords Go.Proofs.YtefkhcijgiagdaaW.PrintLast Go.Proofs.YtefkhcijgiagdaaW.PrintMore Go.Proofs.Ytefkhcijgiagdaa.I1 Go.Proofs.Ytefkhcijgiagdaa.E1
set_option linter.unusedVariables false
set_option linter.unusedSimpArgs false
set_option maxRecDepth 100000
theorem St.grownMap {w w1 : World} {B Wb Mb : Nat} {A : Option Addr} {cap : Nat} {xs : List S28} {L L1 : Int → Option Int} {n n1 : Nat} {bad : Bool} (h : St w B Wb Mb A cap xs L n bad)
    (hm : MapIs w1 Mb n1 L1) (hg : w.grownBy w1 (some Mb)) : Fr B w w1 ∧ St w1 B Wb Mb A cap xs L1 n1 bad := by
  have hmap : ∀ (t : Nat) (cs : Array Value), w.heap[Mb]? ≠ some (Obj.cells cs t (0, 0)) := by
    intro t cs hc
    obtain ⟨D, ⟨es, clock, hb, _⟩, _⟩ := h.hM
    rw [hc] at hb; cases hb
  refine ⟨(Fr.refl B w).grown hg h.base (fun k hk => ?_), ?_, ?_, hm, h.bW, h.bM⟩
  · cases hk; exact ⟨h.bM, fun t cs _ => hmap t cs⟩
  · exact (hg.block Wb h.lt (fun e => h.ne (by injection e with e; exact e.symm))).trans h.hW
  · refine Kd.R_mono (Kd.R_grown (Kd.R_bound h.hR) hg (fun k hk => ?_)) (fun k hk => trivial)
    obtain ⟨_, _, _, q, hq, cells, hc⟩ := hk
    intro e; injection e with e; subst e
    exact hmap q cells hc
set_option maxHeartbeats 1000000 in
theorem step6 {w : World} {B Wb Mb : Nat} {s : WS} (h : StW w B Wb Mb s) (o : S40) (hl : s.xs.length ≤ 999990) (hn : s.n < 1000000) (ho : o.f0 = 6) (hT : (Lit.int .i64 o.f2).wf = true) : StepC o s B Wb Mb w := by
  obtain ⟨a, b, c, d⟩ := o
  have hu40 := Try.underlying40
  have hu28 := Try.underlying28
  have hu107 := Try.underlying107
  obtain ⟨A, cap, h⟩ := h
  have hlt := h.lt
  have c0 : w.cell? ⟨Wb, 0, none⟩ = some (.slice A s.xs.length cap) := blk_cell h.hW 0
  have c1 : w.cell? ⟨Wb, 1, none⟩ = some (.map (some Mb)) := blk_cell h.hW 1
  subst ho
  have h1 := (h.alloc (.cells #[.int .i64 6, .int .u32 b, .int .i64 c, .int .i64 d] 40)).below (Below.refl _ _).drew
  obtain ⟨w1, hrun, hm1, hg1⟩ := h1.hM.store hn c (s.xs.length : Int) hT (WalkArith.wf_i64 (n := (s.xs.length : Int)) (by omega))
  have hF := St.grownMap h1 hm1 hg1
  have hbx := ((Fr.refl B w).alloc h.base (.cells #[.int .i64 6, .int .u32 b, .int .i64 c, .int .i64 d] 40)).drew.trans hF.1
  have hFF := Aside0.mk (show Fr B w w1 ∧ StW w1 B Wb Mb ⟨s.xs, fun x => if x = c then some (s.xs.length : Int) else s.L x, s.n + 1, s.bad⟩ from ⟨hbx, A, cap, hF.2⟩)
  clear hF hbx hm1 hg1 h1 h
  go_enter Try.func90, Try.ntmps90
  go_wp2
  go_region
  go_wp2
  go_end0
  exact ⟨rfl, hFF.out.1, hFF.out.2⟩
theorem step_c {w : World} {B Wb Mb : Nat} {s : WS} (h : StW w B Wb Mb s) (o : S40) (hl : s.xs.length ≤ 999990) (hn : s.n < 1000000) (hT : (Lit.int .i64 o.f2).wf = true) (hF : (Lit.int .i64 o.f3).wf = true) : StepC o s B Wb Mb w := by
  by_cases h1 : o.f0 = 1 ∨ o.f0 = 2 ∨ o.f0 = 8
  · exact step1 h o hl h1
  · by_cases h2 : o.f0 = 3 ∨ o.f0 = 4 ∨ o.f0 = 5
    · exact step345 h o hl h2 hT hF
    · by_cases h6 : o.f0 = 6
      · exact step6 h o hl hn h6 hT
      · by_cases h7 : o.f0 = 7
        · exact step7 h o hl h7 hT
        · exact stepElse h o hl (by omega)
end Go.Proofs.Ytefkhcijgiagdaa.HAsm
end
section
namespace Go.Proofs.Ytefkhcijgiagdaa.HAsm
open Go.RowKit Go.Proofs.YtefkhcijgiagdaaW.PrintWords Go.Proofs.YtefkhcijgiagdaaW.PrintLast Go.Proofs.YtefkhcijgiagdaaW.PrintMore Go.Proofs.Ytefkhcijgiagdaa.I1 Go.Proofs.Ytefkhcijgiagdaa.E1
set_option linter.unusedVariables false
set_option linter.unusedSimpArgs false
set_option maxRecDepth 100000
set_option maxHeartbeats 1000000 in
theorem back_c {w : World} {A0 : Option Addr} {c0 lb nb : Nat} {l : List S40} (hC : Kd.C k40 w A0 l.length l) (hlb : w.heap[lb]? = some (.cells #[.slice A0 l.length c0] 33 (0, 0))) (hnb : w.heap[nb]? = some (.cells #[.int .i64 (l.length : Int)] 3 (0, 0)))
    (j : Nat) (hj : j < l.length) (hl : l.length ≤ 1000000) :
    Calls Try.prog 89 #[.int .i64 (j : Int), .pointer (some ⟨lb, 0, none⟩), .pointer (some ⟨nb, 0, none⟩)] w fun e w' =>
      e = .returned (.agg #[.int .i64 (rd_T40 l ((l.length - 1 - j : Nat) : Int)).f0, .int .u32 (rd_T40 l ((l.length - 1 - j : Nat) : Int)).f1, .int .i64 (rd_T40 l ((l.length - 1 - j : Nat) : Int)).f2, .int .i64 (rd_T40 l ((l.length - 1 - j : Nat) : Int)).f3]) ∧ Below w.heap.size w w' := by
  have hu40 := Try.underlying40
  obtain ⟨ad, e102, hx0, hx1, hx2, hx3⟩ := at_T40 hC ((l.length - 1 - j : Nat) : Int) (by omega) (by omega)
  cases e102
  have hl1 : lb < w.heap.size := (Array.getElem?_eq_some_iff.1 hlb).1
  have hl2 : nb < w.heap.size := (Array.getElem?_eq_some_iff.1 hnb).1
  have hl3 := World.block_lt_of_cell? w _ hx0
  have k1 : w.cell? ⟨lb, 0, none⟩ = some (.slice (some ad) l.length c0) := blk_cell hlb 0
  have k2 : w.cell? ⟨nb, 0, none⟩ = some (.int .i64 (l.length : Int)) := blk_cell hnb 0
  have e1 : wrap64 ((l.length : Int) - 1) = (l.length : Int) - 1 := by unfold wrap64; omega
  have e2 : wrap64 ((l.length : Int) - 1 - (j : Int)) = ((l.length - 1 - j : Nat) : Int) := by unfold wrap64; omega
  have b1 : (0 : Int) ≤ ((l.length - 1 - j : Nat) : Int) := by omega
  have b2 : ((l.length - 1 - j : Nat) : Int) < (l.length : Int) := by omega
  generalize rd_T40 l ((l.length - 1 - j : Nat) : Int) = x at *
  simp only [Int.toNat_natCast] at hx0 hx1 hx2 hx3 hl3
  clear hC hlb hnb
  go_enter Try.func89, Try.ntmps89
  go_wp2
  refine bodyPost_ret (v := .agg #[.int .i64 x.f0, .int .u32 x.f1, .int .i64 x.f2, .int .i64 x.f3]) (results_cell_row (p := 4) (by kernel_rfl) _ _ w.heap.size 40 #[.int .i64 x.f0, .int .u32 x.f1, .int .i64 x.f2, .int .i64 x.f3] (0, 0) _ rfl (heap_alloc_new _ _) Try.underlying40 rfl (by kernel_rfl)) rfl ⟨rfl, below_alloc (Below.refl _ _) _⟩
def runS (l : List S40) : Nat → WS
  | 0 => ⟨[], fun _ => none, 0, false⟩
  | j + 1 => stepS (runS l j) (rd_T40 l ((l.length - 1 - j : Nat) : Int))
def asm (l : List S40) : List S28 × Int :=
  if (runS l l.length).bad = true then ([], 1) else if 4096 < (runS l l.length).xs.length then ([], 64) else ((runS l l.length).xs.reverse, 0)
theorem step_len (s : WS) (o : S40) : (stepS s o).xs.length ≤ s.xs.length + 3 ∧ (stepS s o).n ≤ s.n + 1 := by
  unfold stepS
  repeat' split
  all_goals simp [WS.put, WS.go]
theorem runS_len (l : List S40) : ∀ j, (runS l j).xs.length ≤ 3 * j ∧ (runS l j).n ≤ j := by
  intro j
  induction j with
  | zero => exact ⟨Nat.le_refl _, Nat.le_refl _⟩
  | succ j ih =>
    have := step_len (runS l j) (rd_T40 l ((l.length - 1 - j : Nat) : Int))
    exact ⟨by show (stepS _ _).xs.length ≤ _; omega, by show (stepS _ _).n ≤ _; omega⟩
theorem St.made (w : World) (o1 : Obj) : StW (((w.alloc o1).alloc (.map #[] 0)).alloc (.cells #[.slice none 0 0, .map (some (w.heap.size + 1)), .bool false] 107)) w.heap.size (w.heap.size + 1 + 1) (w.heap.size + 1) ⟨[], fun _ => none, 0, false⟩ := by
  have e1 : (w.alloc o1).heap.size = w.heap.size + 1 := by simp
  have e2 : ((w.alloc o1).alloc (.map #[] 0)).heap.size = w.heap.size + 1 + 1 := by simp
  refine ⟨none, 0, ?_, Kd.R_nil _ _ _ _ _, ?_, by omega, by omega⟩
  · have := heap_alloc_new ((w.alloc o1).alloc (.map #[] 0)) (.cells #[.slice none 0 0, .map (some (w.heap.size + 1)), .bool false] 107)
    rw [e2] at this; exact this
  · have h := MapIs.made (w.alloc o1)
    rw [e1] at h
    exact h.kept (Below.heap_alloc _ _ _ (by rw [e2]; omega))
/-- The world in which the first loop begins. -/
theorem start_facts (w : World) (A0 : Option Addr) (n c0 : Nat) (m : Int) : ∀ wi, wi = ((((w.alloc (.cells #[.slice A0 n c0] 33)).alloc (.map #[] 0)).alloc (.cells #[.slice none 0 0, .map (some (w.heap.size + 1)), .bool false] 107)).alloc (.cells #[.int .i64 m] 3)) →
    StW wi w.heap.size (w.heap.size + 1 + 1) (w.heap.size + 1) ⟨[], fun _ => none, 0, false⟩ ∧ wi.heap[w.heap.size]? = some (.cells #[.slice A0 n c0] 33 (0, 0)) ∧ wi.heap[w.heap.size + 1 + 1 + 1]? = some (.cells #[.int .i64 m] 3 (0, 0)) ∧ Below w.heap.size w wi := by
  rintro wi rfl
  have s1 : (w.alloc (.cells #[.slice A0 n c0] 33)).heap.size = w.heap.size + 1 := by simp
  have s2 : ((w.alloc (.cells #[.slice A0 n c0] 33)).alloc (.map #[] 0)).heap.size = w.heap.size + 1 + 1 := by simp
  have s3 : (((w.alloc (.cells #[.slice A0 n c0] 33)).alloc (.map #[] 0)).alloc (.cells #[.slice none 0 0, .map (some (w.heap.size + 1)), .bool false] 107)).heap.size = w.heap.size + 1 + 1 + 1 := by simp
  refine ⟨((St.made w (.cells #[.slice A0 n c0] 33)).box _).2, ?_, ?_, below_alloc (below_alloc (below_alloc (below_alloc (Below.refl _ _) _) _) _) _⟩
  · rw [Below.heap_alloc _ _ _ (by rw [s3]; omega), Below.heap_alloc _ _ _ (by rw [s2]; omega), Below.heap_alloc _ _ _ (by rw [s1]; omega)]
    exact heap_alloc_new w _
  · have := heap_alloc_new (((w.alloc (.cells #[.slice A0 n c0] 33)).alloc (.map #[] 0)).alloc (.cells #[.slice none 0 0, .map (some (w.heap.size + 1)), .bool false] 107)) (.cells #[.int .i64 m] 3)
    rw [s3] at this; exact this
set_option maxHeartbeats 1000000 in
theorem asm_any (A0 : Option Addr) (c0 : Nat) (l : List S40) (r1 : List S28) (r2 : Int) (w : World) (hr : asm l = (r1, r2)) (hC : Kd.C k40 w A0 l.length l) (hc0 : l.length ≤ c0) (hl : l.length ≤ 100000) (hwf : ∀ i : Nat, i < l.length → (Lit.int .i64 (rd_T40 l i).f2).wf = true ∧ (Lit.int .i64 (rd_T40 l i).f3).wf = true) :
    Calls Try.prog 34 #[.slice A0 l.length c0] w fun e w' => ∃ v, e = .returned (.tuple #[v, .int .i64 r2]) ∧ Kd.R k28 28 w' w.heap.size (fun _ => True) v r1 ∧ Below w.heap.size w w' := by
  have hmm := @run_makeMap Try.prog
  have hu107 := Try.underlying107
  have HC := Aside0.mk hC
  have HW := Aside0.mk hwf
  have HR := Aside0.mk hr
  clear hC hwf hr
  go_enter Try.func34, Try.ntmps34
  go_wp2
  have hsf := start_facts w A0 l.length c0 (l.length : Int) _ rfl
  generalize ((((w.alloc (.cells #[.slice A0 l.length c0] 33)).alloc (.map #[] 0)).alloc (.cells #[.slice none 0 0, .map (some (w.heap.size + 1)), .bool false] 107)).alloc (.cells #[.int .i64 (l.length : Int)] 3)) = wi at hsf ⊢
  obtain ⟨hs0, hlb, hnb, hbi⟩ := hsf
  have HLB := Aside0.mk hlb
  have HNB := Aside0.mk hnb
  clear hlb hnb hmm
  go_loopw [17] (fun i wr => ∃ j : Nat, j ≤ l.length ∧ i = .int .i64 j ∧ StW wr w.heap.size (w.heap.size + 1 + 1) (w.heap.size + 1) (runS l j) ∧ Aside0 (Fr w.heap.size wi wr)) (fun i _ => l.length - (intOf i).toNat)
  case atStart => exact ⟨0, by omega, rfl, hs0, ⟨Fr.refl _ _⟩⟩
  case round =>
    clear hs0
    obtain ⟨j, hj, rfl, hs, hfr⟩ := hrel
    by_cases hlt : j < l.length
    · have hdj : decide ((j : Int) < (l.length : Int)) = true := decide_eq_true (by omega)
      have hb := hbi.trans hfr.out.bel
      have hback := back_c (j := j) (c0 := c0) (Kd.C_below HC.out hb) (hfr.out.keep _ _ _ (by decide) (by decide) HLB.out) (hfr.out.keep _ _ _ (by decide) (by decide) HNB.out) hlt (by omega)
      have hwj := HW.out (l.length - 1 - j) (by omega)
      have hlen := runS_len l j
      have hst := fun W (h : StW W w.heap.size (w.heap.size + 1 + 1) (w.heap.size + 1) (runS l j)) => step_c h (rd_T40 l ((l.length - 1 - j : Nat) : Int)) (by omega) (by omega) hwj.1 hwj.2
      have hrun : stepS (runS l j) (rd_T40 l ((l.length - 1 - j : Nat) : Int)) = runS l (j + 1) := rfl
      have hrun := Aside0.mk hrun
      clear hb hwj hlen
      generalize rd_T40 l ((l.length - 1 - j : Nat) : Int) = o at *
      go_wp2_with (first | (go_at_call 89; refine hback.mono ?_; rintro e w1 ⟨rfl, hb1⟩) | (go_at_call 90; refine (show Calls _ _ _ _ _ from hst _ (hs.below hb1)).mono ?_; rintro e w2 ⟨rfl, hb2, hs2⟩))
      go_roundw
      case rel => exact ⟨j + 1, by omega, by go_num, hrun.out ▸ hs2, ⟨(hfr.out.of_below hs.base hb1).trans hb2⟩⟩
      case measure => simp [intOf]; omega
    · obtain rfl : j = l.length := by omega
      have hdj : decide (((l.length : Nat) : Int) < (l.length : Int)) = false := decide_eq_false (by omega)
      have hb := Aside0.mk (hbi.trans hfr.out.bel)
      clear HC HW HLB HNB hfr hbi
      have hr := HR.out
      clear HR
      unfold asm at hr
      generalize runS l l.length = s at *
      obtain ⟨A, cap, hst⟩ := hs
      have k0 : wr.cell? ⟨w.heap.size + 1 + 1, 0, none⟩ = some (.slice A s.xs.length cap) := blk_cell hst.hW 0
      have k2 : wr.cell? ⟨w.heap.size + 1 + 1, 2, none⟩ = some (.bool s.bad) := blk_cell hst.hW 2
      by_cases hbad : s.bad = true
      · rw [if_pos hbad] at hr
        rw [hbad] at k2
        obtain ⟨rfl, rfl⟩ := Prod.mk.inj hr
        clear hst hr
        go_wp2
        go_ret2
        exact ⟨_, rfl, Kd.R_nil _ _ _ _ _, hb.out⟩
      · have hbad : s.bad = false := by simpa using hbad
        rw [if_neg (by rw [hbad]; decide)] at hr
        rw [hbad] at k2
        by_cases hbig : 4096 < s.xs.length
        · rw [if_pos hbig] at hr
          obtain ⟨rfl, rfl⟩ := Prod.mk.inj hr
          have hd : decide ((4096 : Int) < (s.xs.length : Int)) = true := decide_eq_true (by omega)
          clear hst hr
          go_wp2
          go_ret2
          exact ⟨_, rfl, Kd.R_nil _ _ _ _ _, hb.out⟩
        · rw [if_neg hbig] at hr
          obtain ⟨rfl, rfl⟩ := Prod.mk.inj hr
          have hd : decide ((4096 : Int) < (s.xs.length : Int)) = false := decide_eq_false (by omega)
          have HST := Aside0.mk hst
          clear hst hr
          go_wp2
          have hbig' : s.xs.length ≤ 4096 := by omega
          clear hbad hbig hd k2
          generalize hwL : wr = wL at *
          clear hwL
          go_loopw [8, 9] (fun v i w2 => ∃ m : Nat, m ≤ s.xs.length ∧ i = .int .i64 ((s.xs.length : Int) - 1 - (m : Int)) ∧ Kd.R k28 28 w2 wL.heap.size (fun _ => True) v (s.xs.reverse.take m) ∧ Below wL.heap.size wL w2) (fun _ i _ => (intOf i + 1).toNat)
          case atStart => exact ⟨0, by omega, by simp, Kd.R_nil _ _ _ _ _, Below.refl _ _⟩
          case round =>
            obtain ⟨m, hm, rfl, hR, hb2⟩ := hrel
            by_cases hlt : m < s.xs.length
            · have hst := HST.out
              have hdi : decide ((m : Int) ≤ (s.xs.length : Int) - 1) = true := decide_eq_true (by omega)
              have kk0 : wr.cell? ⟨w.heap.size + 1 + 1, 0, none⟩ = some (.slice A s.xs.length cap) := (hb2.cell (p := ⟨w.heap.size + 1 + 1, 0, none⟩) hst.lt).trans k0
              have hCx : Kd.C k28 wr A s.xs.length s.xs := by
                obtain ⟨A', c', e, _, h⟩ := Kd.R_reads (Kd.R_below hst.hR hb2)
                injection e with e1 e2 e3; subst e1; exact h
              obtain ⟨ad, e102, hx0, hx1, hx2, hx3⟩ := at_T28 hCx ((s.xs.length : Int) - 1 - (m : Int)) (by omega) (by omega)
              cases e102
              have hsnoc : s.xs.reverse.take m ++ [rd_T28 s.xs ((s.xs.length : Int) - 1 - (m : Int))] = s.xs.reverse.take (m + 1) := by
                rw [List.take_succ_eq_append_getElem (by simpa using hlt)]
                congr 2
                unfold rd_T28
                have e : ((s.xs.length : Int) - 1 - (m : Int)).toNat = s.xs.length - 1 - m := by omega
                rw [e, List.getElem_reverse]
                simp [List.getD, show s.xs.length - 1 - m < s.xs.length by omega]
              have HS := Aside0.mk hsnoc
              have hlenR : (s.xs.reverse.take m).length ≤ 4096 := by simp; omega
              have b1 : (0 : Int) ≤ (s.xs.length : Int) - 1 - (m : Int) := by omega
              have b2 : (s.xs.length : Int) - 1 - (m : Int) < (s.xs.length : Int) := by omega
              clear hsnoc hst hCx
              have etn : ((s.xs.length : Int) - 1 - (m : Int)).toNat = s.xs.length - 1 - m := by omega
              rw [etn] at hx0 hx1 hx2 hx3
              generalize rd_T28 s.xs ((s.xs.length : Int) - 1 - (m : Int)) = x at *
              go_wp2_with (at_builtin; refine Kd.R_append k28 wL.heap.size rfl (.tmp 48) (.tmp 56) 34 28 _ 32 rfl Try.underlying34 hInfo28 rfl (by decide) (by decide) _ (s.xs.reverse.take m) x [.int .i64 x.f0, .int .i64 x.f1, .int .i64 x.f2, .int .u32 x.f3] (fun _ => True) (fun _ => False) rfl rfl (k28_mkM _ _ _ x) (fun _ hk => hk.elim) (fun _ _ => trivial) hR hb2 hb2.size (by omega) ?_; intro v1 w1 hR1 hb1 hg1 hat1)
              refine ⟨⟨m + 1, by omega, ?_, by rw [← HS.out]; exact hR1, hb1⟩, ?_⟩
              · rw [show (s.xs.length : Int) - 1 - (m : Int) - 1 = (s.xs.length : Int) - 1 - ((m + 1 : Nat) : Int) by omega]
              · simp [intOf]; omega
            · obtain rfl : m = s.xs.length := by omega
              have hdi : decide (((s.xs.length : Nat) : Int) ≤ (s.xs.length : Int) - 1) = false := decide_eq_false (by omega)
              have hst := HST.out
              have HF := Aside0.mk (show Kd.R k28 28 wr w.heap.size (fun _ => True) _ s.xs.reverse ∧ Below w.heap.size w wr from by
                rw [List.take_of_length_le (by simp)] at hR
                exact ⟨Kd.R_lower hR hb.out.size, below_step hb.out hb2⟩)
              clear hR hst
              go_wp2
              go_ret2
              exact ⟨_, rfl, HF.out.1, HF.out.2⟩
def inI (x : Int) : Bool := decide (-9223372036854775808 ≤ x ∧ x ≤ 9223372036854775807)
def emit_Assemble.f (l0 : List (S40)) : Option ((List (S28)) × Int) :=
  if l0.length ≤ 100000 ∧ (l0.all fun o => inI o.f2 && inI o.f3) = true then some (asm l0) else none
theorem emit_Assemble.calls (A0 : Option Addr) (c0 : Nat) (l0 : List (S40)) (r1 : List (S28)) (r2 : Int) (w : World) (hr0 : Kd.C k40 w A0 l0.length l0) (hc0 : l0.length ≤ c0) (h : emit_Assemble.f l0 = some (r1, r2)) :
    Calls Try.prog 34 #[.slice A0 l0.length c0] w fun e w' => ∃ v0_ : Value, e = .returned (.tuple #[v0_, .int .i64 r2]) ∧ Kd.R k28 28 w' w.heap.size (fun _ => True) v0_ r1 ∧ Below w.heap.size w w' := by
  unfold emit_Assemble.f at h
  split at h
  · rename_i hc
    refine asm_any A0 c0 l0 r1 r2 w (Option.some.inj h) hr0 hc0 hc.1 (fun i hi => ?_)
    have h1 := List.all_eq_true.1 hc.2 (rd_T40 l0 i) (by unfold rd_T40; simp [List.getD, hi])
    simp only [inI, Bool.and_eq_true, decide_eq_true_eq] at h1
    exact ⟨WalkArith.wf_i64 h1.1, WalkArith.wf_i64 h1.2⟩
  · cases h
end Go.Proofs.Ytefkhcijgiagdaa.HAsm
end
section
namespace Go.Proofs.Ytefkhcijgiagdaa.E2
open Go.RowKit Go.Proofs.YtefkhcijgiagdaaW.PrintWords Go.Proofs.YtefkhcijgiagdaaW.PrintLast Go.Proofs.YtefkhcijgiagdaaW.PrintMore
attribute [local go_sem] max2_int min2_int max_two min_two max_three min_three max_four min_four IntKind.wrap_u32 IntKind.wrap_u8   -- for this text's walks alone
set_option linter.unusedVariables false
open Go.Proofs.Ytefkhcijgiagdaa.Le Go.Proofs.Ytefkhcijgiagdaa.HKnown Go.Proofs.Ytefkhcijgiagdaa.I1 Go.Proofs.Ytefkhcijgiagdaa.E1 Go.Proofs.Ytefkhcijgiagdaa.HAsm
set_option linter.unusedSimpArgs false
def errW : Option Int → Value
  | none => .nilIface
  | some c => .iface 0 (.int .i64 c)
theorem errW_none : errW none = .nilIface := rfl
theorem errW_some (c : Int) : errW (some c) = .iface 0 (.int .i64 c) := rfl
end Go.Proofs.Ytefkhcijgiagdaa.E2
end
section
namespace Go.Proofs.Ytefkhcijgiagdaa.E2
open Go.RowKit Go.Proofs.YtefkhcijgiagdaaW.PrintWords Go.Proofs.YtefkhcijgiagdaaW.PrintLast Go.Proofs.YtefkhcijgiagdaaW.PrintMore
attribute [local go_sem] max2_int min2_int max_two min_two max_three min_three max_four min_four IntKind.wrap_u32 IntKind.wrap_u8   -- for this text's walks alone
set_option linter.unusedVariables false
open Go.Proofs.Ytefkhcijgiagdaa.Le Go.Proofs.Ytefkhcijgiagdaa.HKnown Go.Proofs.Ytefkhcijgiagdaa.I1 Go.Proofs.Ytefkhcijgiagdaa.E1 Go.Proofs.Ytefkhcijgiagdaa.HAsm
set_option linter.unusedSimpArgs false
theorem eqA28 (d : Nat) (w : World) (x0 y0 : Int) (x1 y1 : Int) (x2 y2 : Int) (x3 y3 : Int) :
    (Op.equalIn (d + 2) 28 (.agg #[.int .i64 x0, .int .i64 x1, .int .i64 x2, .int .u32 x3]) (.agg #[.int .i64 y0, .int .i64 y1, .int .i64 y2, .int .u32 y3])).run Try.prog w = .ok (x0 == y0 && (x1 == y1 && (x2 == y2 && (x3 == y3)))) w := by
  refine eqA_of Try.underlying28 (by kernel_rfl) ?_
  refine eqf_cons (by rfl) (by go_simp; rfl) (by go_simp; rfl) (by go_simp) ?_
  refine eqf_cons (by rfl) (by go_simp; rfl) (by go_simp; rfl) (by go_simp) ?_
  refine eqf_cons (by rfl) (by go_simp; rfl) (by go_simp; rfl) (by go_simp) ?_
  exact eqf_last (by rfl) (by go_simp; rfl) (by go_simp; rfl) (by go_simp)
end Go.Proofs.Ytefkhcijgiagdaa.E2
end
section
namespace Go.Proofs.Ytefkhcijgiagdaa.E2
open Go.RowKit Go.Proofs.YtefkhcijgiagdaaW.PrintWords Go.Proofs.YtefkhcijgiagdaaW.PrintLast Go.Proofs.YtefkhcijgiagdaaW.PrintMore
attribute [local go_sem] max2_int min2_int max_two min_two max_three min_three max_four min_four IntKind.wrap_u32 IntKind.wrap_u8   -- for this text's walks alone
set_option linter.unusedVariables false
open Go.Proofs.Ytefkhcijgiagdaa.Le Go.Proofs.Ytefkhcijgiagdaa.HKnown Go.Proofs.Ytefkhcijgiagdaa.I1 Go.Proofs.Ytefkhcijgiagdaa.E1 Go.Proofs.Ytefkhcijgiagdaa.HAsm
set_option linter.unusedSimpArgs false
attribute [local go_sem high] eqA28
def doorwardlaw21_alive.f  : Option (Bool) := (emit_Assemble.f (([(⟨8, 7, 0, 0⟩ : S40)] : List (S40)))).bind fun bt104 => (if bt104.2 = 0 then (if (bt104.1.length : Int) = 1 then (if 0 < (bt104.1.length : Int) then (some (((rd_T28 bt104.1 0).f0) == 6 && (((rd_T28 bt104.1 0).f1) == 0 && (((rd_T28 bt104.1 0).f2) == 0 && (((rd_T28 bt104.1 0).f3) == 7))))) else (none)) else (some false)) else (some false))
set_option maxHeartbeats 8000000 in
set_option maxRecDepth 100000 in
theorem doorwardlaw21_alive.calls  (r : Bool) (w : World) (h : doorwardlaw21_alive.f  = some r) :
    Calls Try.prog 35 #[] w fun e w' => e = .returned (.bool r) ∧ Below w.heap.size w w' := by
  have hu40 := Try.underlying40
  have hu28 := Try.underlying28
  have HB := Aside0.mk (Below.refl w.heap.size w)
  have H : ((emit_Assemble.f (([(⟨8, 7, 0, 0⟩ : S40)] : List (S40)))).bind fun bt104 => (if bt104.2 = 0 then (if (bt104.1.length : Int) = 1 then (if 0 < (bt104.1.length : Int) then (some (((rd_T28 bt104.1 0).f0) == 6 && (((rd_T28 bt104.1 0).f1) == 0 && (((rd_T28 bt104.1 0).f2) == 0 && (((rd_T28 bt104.1 0).f3) == 7))))) else (none)) else (some false)) else (some false))) = some r := h
  clear h
  obtain ⟨y101, hy101⟩ : ∃ y_ : List (S40), y_ = (([(⟨8, 7, 0, 0⟩ : S40)] : List (S40))) := ⟨_, rfl⟩
  replace H : ((emit_Assemble.f y101).bind fun bt104 => (if bt104.2 = 0 then (if (bt104.1.length : Int) = 1 then (if 0 < (bt104.1.length : Int) then (some (((rd_T28 bt104.1 0).f0) == 6 && (((rd_T28 bt104.1 0).f1) == 0 && (((rd_T28 bt104.1 0).f2) == 0 && (((rd_T28 bt104.1 0).f3) == 7))))) else (none)) else (some false)) else (some false))) = some r := by first | (rw [hy101]; with_reducible exact H) | (have H2_ := (Option.bind_some _ _).symm.trans H; rw [hy101]; with_reducible exact H2_) | (have H2_ := (Option.bind_some _ _).symm.trans H; with_reducible exact H2_) | with_reducible exact H | (rw [hy101]; exact H) | exact H
  have Ny101 := Aside0.mk hy101
  clear hy101
  replace H := Option.bind_eq_some_iff.mp H
  obtain ⟨⟨t104, t105⟩, A10, H⟩ := H
  replace H : (if t105 = 0 then (if (t104.length : Int) = 1 then (if 0 < (t104.length : Int) then (some (((rd_T28 t104 0).f0) == 6 && (((rd_T28 t104 0).f1) == 0 && (((rd_T28 t104 0).f2) == 0 && (((rd_T28 t104 0).f3) == 7))))) else (none)) else (some false)) else (some false)) = some r := H
  have A1 := Aside0.mk A10
  clear A10
  by_cases c2 : t105 = 0
  · rw [if_pos c2] at H
    have c2b0 : (t105 == 0) = true := beq_iff_eq.mpr c2
    have c2b1 : (t105 != 0) = false := bne_eq_false_iff_eq.mpr c2
    clear c2
    by_cases c3 : (t104.length : Int) = 1
    · rw [if_pos c3] at H
      have c3b0 : ((t104.length : Int) == 1) = true := beq_iff_eq.mpr c3
      have c3b1 : ((t104.length : Int) != 1) = false := bne_eq_false_iff_eq.mpr c3
      clear c3
      by_cases c4 : 0 < (t104.length : Int)
      · rw [if_pos c4] at H
        have c4b0 : decide (0 < (t104.length : Int)) = true := decide_eq_true c4
        have c4b1 : decide (0 < t104.length) = true := decide_eq_true (by omega)
        clear c4
        obtain rfl := Option.some.inj H
        go_enter Try.func35, Try.ntmps35
        go_wp2_with (first | ((with_reducible refine gate_dst (N := 5) rfl ?_); (try (refine gate_guard (by rfl) ?_; dsimp only)); refine Kd.R_lit k40 _ 40 ?hg (N := 5) ?hd (xs := ([(⟨8, 7, 0, 0⟩ : S40)] : List (S40))) (inner := [.int .i64 8, .int .u32 7, .int .i64 0, .int .i64 0]) (ok := fun _ => True) (okp := fun _ => True) ?hr ?hp (fun _ hk => hk) trivial (Below.refl _ _) (Nat.le_refl _) (by simp) ?_; (case hd => rfl); (case hg => rfl); (case hr => first | (go_simp; done) | (go_simp; rfl)); (case hp => exact (Reps.c4 (show Kd.M k40 _ _ _ (⟨8, 7, 0, 0⟩ : S40) [.int .i64 8, .int .u32 7, .int .i64 0, .int .i64 0] from (k40_mkM _ _ _ (⟨8, 7, 0, 0⟩ : S40) )) (Reps.none _ _))); intro v102 w5 ho6 hb hg_ hnew_; clear hg_ hnew_; (first | rw [← Ny101.out] at ho6 | (simp only [Int.reduceToNat] at ho6; rw [← Ny101.out] at ho6)); have n0_ := Aside0.mk (Kd.R_lower ho6 (below_size (by repeat (first | (with_reducible first | exact HB.out | apply below_alloc | apply pw_below_drewN | apply below_drew1) | exact HB.out)))); have n1_ := Aside0.mk (below_step (by repeat (first | (with_reducible first | exact HB.out | apply below_alloc | apply pw_below_drewN | apply below_drew1) | exact HB.out)) hb); clear HB; have HO103 := n0_; have HB := n1_; clear n0_ n1_; clear hb ho6; obtain ⟨Ao7, co7, eo7⟩ := Kd.R_slice HO103.out; subst eo7) | ((with_reducible refine gate_callee (f := 34) rfl ?_); refine goesL_ (some 6) rfl rfl Try.func34 (by kernel_rfl) rfl #[.slice Ao7 y101.length co7] rfl (by (try simp only [List.map_toArray, List.map_cons, List.map_nil]); first | done | rfl | (simp only [List.length_drop, List.length_take]; rfl)) ?_; (with_reducible refine (emit_Assemble.calls _ _ y101 t104 t105 _ ?side1 ?side2 A1.out).mono ?_); (case side1 => repeat (first | exact (Kd.R_reads' HO103.out).2.2 | (with_reducible refine Kd.C_alloc ?_ _) | (with_reducible refine Kd.C_drewN ?_ _) | (with_reducible refine Kd.C_drew ?_))); (case side2 => exact (Kd.R_reads' HO103.out).2.1); rintro e w8 ⟨v106, rfl, ho0, hb⟩; refine ⟨_, rfl, ?_⟩; have n0_ := Aside0.mk (Kd.R_below (by (with_reducible repeat (first | apply Kd.R_alloc | apply Kd.R_drewN | apply Kd.R_drew)); exact HO103.out) hb); have n1_ := Aside0.mk (Kd.R_lower ho0 (below_size (by repeat (first | (with_reducible first | exact HB.out | apply below_alloc | apply pw_below_drewN | apply below_drew1) | exact HB.out)))); have n2_ := Aside0.mk (below_step (by repeat (first | (with_reducible first | exact HB.out | apply below_alloc | apply pw_below_drewN | apply below_drew1) | exact HB.out)) hb); clear HO103; clear HB; have HO103 := n0_; have HO107 := n1_; have HB := n2_; clear n0_ n1_ n2_; (try clear hb); (try clear hb2); (try clear hk); (try clear hi); (try clear ho0); obtain ⟨Ao9, co9, eo9⟩ := Kd.R_slice HO107.out; subst eo9; have p108 : 0 ≤ (0 : Int) := (by omega); have q108 : 0 < (t104.length : Int) := of_decide_eq_true (by first | (with_reducible assumption) | assumption); obtain ⟨ad108, e108, hx108_0, hx108_1, hx108_2, hx108_3⟩ := at_T28 (Kd.R_reads' HO107.out).2.2 0 p108 q108; cases e108; have qi108 : (0 < t104.length) = True := eq_true (by omega); (try rw [show ((0 : Int)).toNat = 0 from rfl] at hx108_0); (try rw [show 0 * 4 = 0 from rfl] at hx108_0); (try rw [Addr.add_zero'] at hx108_0); (try rw [show ((0 : Int)).toNat = 0 from rfl] at hx108_1); (try rw [show 0 * 4 = 0 from rfl] at hx108_1); (try rw [Addr.add_zero'] at hx108_1); (try rw [show ((0 : Int)).toNat = 0 from rfl] at hx108_2); (try rw [show 0 * 4 = 0 from rfl] at hx108_2); (try rw [Addr.add_zero'] at hx108_2); (try rw [show ((0 : Int)).toNat = 0 from rfl] at hx108_3); (try rw [show 0 * 4 = 0 from rfl] at hx108_3); (try rw [Addr.add_zero'] at hx108_3); replace p108 := eq_true p108; replace q108 := eq_true q108))
        go_ret
        exact ⟨by first | rfl | (simp [errW_none, errW_some] <;> rfl) | (simp [*, errW_none, errW_some] <;> rfl), by repeat (first | (with_reducible first | exact HB.out | apply below_alloc | apply pw_below_drewN | apply below_drew1) | exact HB.out)⟩
      · rw [if_neg c4] at H
        exact absurd H (by simp)
    · rw [if_neg c3] at H
      have c3b0 : ((t104.length : Int) == 1) = false := beq_eq_false_iff_ne.mpr c3
      have c3b1 : ((t104.length : Int) != 1) = true := bne_iff_ne.mpr c3
      obtain rfl := Option.some.inj H
      go_enter Try.func35, Try.ntmps35
      go_wp2_with (first | ((with_reducible refine gate_dst (N := 5) rfl ?_); (try (refine gate_guard (by rfl) ?_; dsimp only)); refine Kd.R_lit k40 _ 40 ?hg (N := 5) ?hd (xs := ([(⟨8, 7, 0, 0⟩ : S40)] : List (S40))) (inner := [.int .i64 8, .int .u32 7, .int .i64 0, .int .i64 0]) (ok := fun _ => True) (okp := fun _ => True) ?hr ?hp (fun _ hk => hk) trivial (Below.refl _ _) (Nat.le_refl _) (by simp) ?_; (case hd => rfl); (case hg => rfl); (case hr => first | (go_simp; done) | (go_simp; rfl)); (case hp => exact (Reps.c4 (show Kd.M k40 _ _ _ (⟨8, 7, 0, 0⟩ : S40) [.int .i64 8, .int .u32 7, .int .i64 0, .int .i64 0] from (k40_mkM _ _ _ (⟨8, 7, 0, 0⟩ : S40) )) (Reps.none _ _))); intro v102 w10 ho11 hb hg_ hnew_; clear hg_ hnew_; (first | rw [← Ny101.out] at ho11 | (simp only [Int.reduceToNat] at ho11; rw [← Ny101.out] at ho11)); have n0_ := Aside0.mk (Kd.R_lower ho11 (below_size (by repeat (first | (with_reducible first | exact HB.out | apply below_alloc | apply pw_below_drewN | apply below_drew1) | exact HB.out)))); have n1_ := Aside0.mk (below_step (by repeat (first | (with_reducible first | exact HB.out | apply below_alloc | apply pw_below_drewN | apply below_drew1) | exact HB.out)) hb); clear HB; have HO103 := n0_; have HB := n1_; clear n0_ n1_; clear hb ho11; obtain ⟨Ao12, co12, eo12⟩ := Kd.R_slice HO103.out; subst eo12) | ((with_reducible refine gate_callee (f := 34) rfl ?_); refine goesL_ (some 6) rfl rfl Try.func34 (by kernel_rfl) rfl #[.slice Ao12 y101.length co12] rfl (by (try simp only [List.map_toArray, List.map_cons, List.map_nil]); first | done | rfl | (simp only [List.length_drop, List.length_take]; rfl)) ?_; (with_reducible refine (emit_Assemble.calls _ _ y101 t104 t105 _ ?side1 ?side2 A1.out).mono ?_); (case side1 => repeat (first | exact (Kd.R_reads' HO103.out).2.2 | (with_reducible refine Kd.C_alloc ?_ _) | (with_reducible refine Kd.C_drewN ?_ _) | (with_reducible refine Kd.C_drew ?_))); (case side2 => exact (Kd.R_reads' HO103.out).2.1); rintro e w13 ⟨v106, rfl, ho0, hb⟩; refine ⟨_, rfl, ?_⟩; have n0_ := Aside0.mk (Kd.R_below (by (with_reducible repeat (first | apply Kd.R_alloc | apply Kd.R_drewN | apply Kd.R_drew)); exact HO103.out) hb); have n1_ := Aside0.mk (Kd.R_lower ho0 (below_size (by repeat (first | (with_reducible first | exact HB.out | apply below_alloc | apply pw_below_drewN | apply below_drew1) | exact HB.out)))); have n2_ := Aside0.mk (below_step (by repeat (first | (with_reducible first | exact HB.out | apply below_alloc | apply pw_below_drewN | apply below_drew1) | exact HB.out)) hb); clear HO103; clear HB; have HO103 := n0_; have HO107 := n1_; have HB := n2_; clear n0_ n1_ n2_; (try clear hb); (try clear hb2); (try clear hk); (try clear hi); (try clear ho0); obtain ⟨Ao14, co14, eo14⟩ := Kd.R_slice HO107.out; subst eo14))
      go_ret
      exact ⟨by first | rfl | (simp [errW_none, errW_some] <;> rfl) | (simp [*, errW_none, errW_some] <;> rfl), by repeat (first | (with_reducible first | exact HB.out | apply below_alloc | apply pw_below_drewN | apply below_drew1) | exact HB.out)⟩
  · rw [if_neg c2] at H
    have c2b0 : (t105 == 0) = false := beq_eq_false_iff_ne.mpr c2
    have c2b1 : (t105 != 0) = true := bne_iff_ne.mpr c2
    obtain rfl := Option.some.inj H
    go_enter Try.func35, Try.ntmps35
    go_wp2_with (first | ((with_reducible refine gate_dst (N := 5) rfl ?_); (try (refine gate_guard (by rfl) ?_; dsimp only)); refine Kd.R_lit k40 _ 40 ?hg (N := 5) ?hd (xs := ([(⟨8, 7, 0, 0⟩ : S40)] : List (S40))) (inner := [.int .i64 8, .int .u32 7, .int .i64 0, .int .i64 0]) (ok := fun _ => True) (okp := fun _ => True) ?hr ?hp (fun _ hk => hk) trivial (Below.refl _ _) (Nat.le_refl _) (by simp) ?_; (case hd => rfl); (case hg => rfl); (case hr => first | (go_simp; done) | (go_simp; rfl)); (case hp => exact (Reps.c4 (show Kd.M k40 _ _ _ (⟨8, 7, 0, 0⟩ : S40) [.int .i64 8, .int .u32 7, .int .i64 0, .int .i64 0] from (k40_mkM _ _ _ (⟨8, 7, 0, 0⟩ : S40) )) (Reps.none _ _))); intro v102 w15 ho16 hb hg_ hnew_; clear hg_ hnew_; (first | rw [← Ny101.out] at ho16 | (simp only [Int.reduceToNat] at ho16; rw [← Ny101.out] at ho16)); have n0_ := Aside0.mk (Kd.R_lower ho16 (below_size (by repeat (first | (with_reducible first | exact HB.out | apply below_alloc | apply pw_below_drewN | apply below_drew1) | exact HB.out)))); have n1_ := Aside0.mk (below_step (by repeat (first | (with_reducible first | exact HB.out | apply below_alloc | apply pw_below_drewN | apply below_drew1) | exact HB.out)) hb); clear HB; have HO103 := n0_; have HB := n1_; clear n0_ n1_; clear hb ho16; obtain ⟨Ao17, co17, eo17⟩ := Kd.R_slice HO103.out; subst eo17) | ((with_reducible refine gate_callee (f := 34) rfl ?_); refine goesL_ (some 6) rfl rfl Try.func34 (by kernel_rfl) rfl #[.slice Ao17 y101.length co17] rfl (by (try simp only [List.map_toArray, List.map_cons, List.map_nil]); first | done | rfl | (simp only [List.length_drop, List.length_take]; rfl)) ?_; (with_reducible refine (emit_Assemble.calls _ _ y101 t104 t105 _ ?side1 ?side2 A1.out).mono ?_); (case side1 => repeat (first | exact (Kd.R_reads' HO103.out).2.2 | (with_reducible refine Kd.C_alloc ?_ _) | (with_reducible refine Kd.C_drewN ?_ _) | (with_reducible refine Kd.C_drew ?_))); (case side2 => exact (Kd.R_reads' HO103.out).2.1); rintro e w18 ⟨v106, rfl, ho0, hb⟩; refine ⟨_, rfl, ?_⟩; have n0_ := Aside0.mk (Kd.R_below (by (with_reducible repeat (first | apply Kd.R_alloc | apply Kd.R_drewN | apply Kd.R_drew)); exact HO103.out) hb); have n1_ := Aside0.mk (Kd.R_lower ho0 (below_size (by repeat (first | (with_reducible first | exact HB.out | apply below_alloc | apply pw_below_drewN | apply below_drew1) | exact HB.out)))); have n2_ := Aside0.mk (below_step (by repeat (first | (with_reducible first | exact HB.out | apply below_alloc | apply pw_below_drewN | apply below_drew1) | exact HB.out)) hb); clear HO103; clear HB; have HO103 := n0_; have HO107 := n1_; have HB := n2_; clear n0_ n1_ n2_; (try clear hb); (try clear hb2); (try clear hk); (try clear hi); (try clear ho0)))
    go_ret
    exact ⟨by first | rfl | (simp [errW_none, errW_some] <;> rfl) | (simp [*, errW_none, errW_some] <;> rfl), by repeat (first | (with_reducible first | exact HB.out | apply below_alloc | apply pw_below_drewN | apply below_drew1) | exact HB.out)⟩
end Go.Proofs.Ytefkhcijgiagdaa.E2
end
section
namespace Go.Proofs.Ytefkhcijgiagdaa.QNum
open Go.RowKit Go.Proofs.YtefkhcijgiagdaaW.PrintWords Go.Proofs.YtefkhcijgiagdaaW.PrintLast Go.Proofs.YtefkhcijgiagdaaW.PrintMore Go.Proofs.Ytefkhcijgiagdaa.QLe
set_option linter.unusedVariables false
set_option linter.unusedSimpArgs false
/-- a row of small numbers, as bytes. -/
def by8 (xs : List Int) : List UInt8 := xs.map fun n => UInt8.ofNat n.toNat
theorem wf_i64 {x : Int} (h : (Lit.int .i64 x).wf = true) : -9223372036854775808 ≤ x ∧ x ≤ 9223372036854775807 := by
  simp [Lit.wf, IntKind.min, IntKind.max, IntKind.bits, IntKind.signed] at h; omega
end Go.Proofs.Ytefkhcijgiagdaa.QNum
end
section
namespace Go.Proofs.Ytefkhcijgiagdaa.QIn
open Go.RowKit Go.Proofs.YtefkhcijgiagdaaW.PrintWords Go.Proofs.YtefkhcijgiagdaaW.PrintLast Go.Proofs.YtefkhcijgiagdaaW.PrintMore Go.Proofs.Ytefkhcijgiagdaa.Le Go.Proofs.Ytefkhcijgiagdaa.QLe Go.Proofs.Ytefkhcijgiagdaa.QNum Go.Proofs.Ytefkhcijgiagdaa.HKnown Go.Proofs.Ytefkhcijgiagdaa.I1
set_option linter.unusedVariables false
set_option linter.unusedSimpArgs false
theorem alive_ok : doorwardlaw10_alive.f = some true := by rfl
def bytes (a b c d : Int) : List UInt8 := by8 (leB a 2) ++ by8 (leB b 1) ++ by8 (leB c 1) ++ by8 (leB d 4)
end Go.Proofs.Ytefkhcijgiagdaa.QIn
end
section
namespace Go.Proofs.Ytefkhcijgiagdaa.QEmit
open Go.RowKit Go.Proofs.YtefkhcijgiagdaaW.PrintWords Go.Proofs.YtefkhcijgiagdaaW.PrintLast Go.Proofs.YtefkhcijgiagdaaW.PrintMore Go.Proofs.Ytefkhcijgiagdaa.QLe Go.Proofs.Ytefkhcijgiagdaa.I1 Go.Proofs.Ytefkhcijgiagdaa.E1 Go.Proofs.Ytefkhcijgiagdaa.E2 Go.Proofs.Ytefkhcijgiagdaa.HAsm
set_option linter.unusedVariables false
set_option linter.unusedSimpArgs false
set_option maxRecDepth 100000
def init : WS := ⟨[], fun _ => none, 0, false⟩
def foldR (s : WS) : List S40 → WS
  | [] => s
  | o :: l => stepS (foldR s l) o
theorem rd40_get (l : List S40) (i : Nat) (h : i < l.length) : rd_T40 l (i : Int) = l[i] := by
  unfold rd_T40; simp [List.getD, h]
theorem runS_fold (l : List S40) : ∀ j, j ≤ l.length → runS l j = foldR init (l.drop (l.length - j)) := by
  intro j
  induction j with
  | zero => intro _; rw [Nat.sub_zero, List.drop_length]; rfl
  | succ j ih =>
    intro hj
    have hlt : l.length - (j + 1) < l.length := by omega
    rw [List.drop_eq_getElem_cons hlt]
    show stepS (runS l j) _ = stepS _ _
    rw [ih (by omega), show l.length - 1 - j = l.length - (j + 1) by omega, rd40_get l _ hlt, show l.length - (j + 1) + 1 = l.length - j by omega]
def asmR (l : List S40) : List S28 × Int :=
  if (foldR init l).bad = true then ([], 1) else if 4096 < (foldR init l).xs.length then ([], 64) else ((foldR init l).xs.reverse, 0)
theorem asm_asmR (l : List S40) : asm l = asmR l := by
  unfold asm asmR
  rw [runS_fold l l.length (Nat.le_refl _), Nat.sub_self, List.drop_zero]
def OkOp (o : S40) : Prop := inI o.f2 = true ∧ inI o.f3 = true
theorem emit_f (l : List S40) (hl : l.length ≤ 100000) (hw : ∀ o ∈ l, OkOp o) : emit_Assemble.f l = some (asmR l) := by
  unfold emit_Assemble.f
  rw [if_pos ⟨hl, List.all_eq_true.2 (fun o ho => by rw [(hw o ho).1, (hw o ho).2]; rfl)⟩, asm_asmR]
theorem alive_ok : doorwardlaw21_alive.f = some true := by
  unfold doorwardlaw21_alive.f
  rw [emit_f _ (by simp) (by intro o ho; simp at ho; subst ho; exact ⟨by decide, by decide⟩)]
  have e : asmR [(⟨8, 7, 0, 0⟩ : S40)] = ([⟨6, 0, 0, 7⟩], 0) := rfl
  rw [e]; rfl
theorem like_loop (a : List S28) (hl : a.length < 1000000) : ∀ n i : Nat, i + n = a.length → ∀ k, n < k → doorwardref10_Like.l0 k a a (a.length : Int) i = some true := by
  intro n
  induction n with
  | zero =>
    intro i hi k hk
    obtain ⟨k, rfl⟩ : ∃ m, k = m + 1 := ⟨k - 1, by omega⟩
    simp only [doorwardref10_Like.l0]
    rw [if_neg (by omega)]
  | succ n ih =>
    intro i hi k hk
    obtain ⟨k, rfl⟩ : ∃ m, k = m + 1 := ⟨k - 1, by omega⟩
    simp only [doorwardref10_Like.l0]
    rw [if_pos (by omega), if_pos (by omega), if_pos (by omega), if_pos (by omega), w64 _ (by omega) (by omega)]
    simp only [beq_self_eq_true, Bool.not_true, Bool.or_self]
    rw [if_neg (by decide)]
    exact ih (i + 1) (by omega) k (by omega)
theorem like_self (a : List S28) (hl : a.length < 1000000) (k : Nat) (hk : a.length < k) : doorwardref10_Like.f k a a = some true := by
  unfold doorwardref10_Like.f
  rw [if_pos rfl]
  exact like_loop a hl a.length 0 (by omega) k hk
end Go.Proofs.Ytefkhcijgiagdaa.QEmit
end
section
namespace Go.Proofs.Ytefkhcijgiagdaa.QNames
open Go.RowKit Go.Proofs.YtefkhcijgiagdaaW.PrintWords Go.Proofs.YtefkhcijgiagdaaW.PrintLast Go.Proofs.YtefkhcijgiagdaaW.PrintMore Go.Proofs.Ytefkhcijgiagdaa.I1 Go.Proofs.Ytefkhcijgiagdaa.E1 Go.Proofs.Ytefkhcijgiagdaa.HAsm Go.Proofs.Ytefkhcijgiagdaa.QEmit
set_option linter.unusedVariables false
set_option linter.unusedSimpArgs false
def ren (b : Int) (o : S40) : S40 := ⟨o.f0, o.f1, 3 * o.f2 + b, 3 * o.f3 + b⟩
structure Rel (b : Int) (s' s : WS) : Prop where
  xs : s'.xs = s.xs
  bad : s'.bad = s.bad
  L : ∀ lb, s'.L (3 * lb + b) = s.L lb
theorem Rel.put {b : Int} {s' s : WS} (h : Rel b s' s) (x : S28) : Rel b (s'.put x) (s.put x) := ⟨by show s'.xs ++ [x] = s.xs ++ [x]; rw [h.xs], h.bad, h.L⟩
theorem Rel.go {b : Int} {s' s : WS} (h : Rel b s' s) (lb : Int) : Rel b (s'.go (3 * lb + b)) (s.go lb) := by
  refine ⟨?_, ?_, h.L⟩
  · show s'.xs ++ [goI s'.xs s'.L (3 * lb + b)] = s.xs ++ [goI s.xs s.L lb]
    unfold goI
    rw [h.xs, h.L]
  · show (s'.bad || !(s'.L (3 * lb + b)).isSome) = (s.bad || !(s.L lb).isSome)
    rw [h.bad, h.L]
theorem Rel.step {b : Int} {s' s : WS} (h : Rel b s' s) (o : S40) : Rel b (stepS s' (ren b o)) (stepS s o) := by
  unfold stepS
  show Rel b (if o.f0 = 1 then s'.put ⟨32, 0, 0, o.f1⟩ else if o.f0 = 2 then s'.put ⟨84, 0, 0, o.f1⟩ else if o.f0 = 3 ∨ o.f0 = 4 ∨ o.f0 = 5 then ((s'.go (3 * o.f3 + b)).go (3 * o.f2 + b)).put ⟨codeB o.f0, 0, 1, o.f1⟩ else if o.f0 = 6 then ⟨s'.xs, fun x => if x = 3 * o.f2 + b then some (s'.xs.length : Int) else s'.L x, s'.n + 1, s'.bad⟩ else if o.f0 = 7 then s'.go (3 * o.f2 + b) else if o.f0 = 8 then s'.put ⟨6, 0, 0, o.f1⟩ else ⟨s'.xs, s'.L, s'.n, true⟩) _
  by_cases h1 : o.f0 = 1
  · rw [if_pos h1, if_pos h1]; exact h.put _
  rw [if_neg h1, if_neg h1]
  by_cases h2 : o.f0 = 2
  · rw [if_pos h2, if_pos h2]; exact h.put _
  rw [if_neg h2, if_neg h2]
  by_cases h3 : o.f0 = 3 ∨ o.f0 = 4 ∨ o.f0 = 5
  · rw [if_pos h3, if_pos h3]; exact ((h.go _).go _).put _
  rw [if_neg h3, if_neg h3]
  by_cases h6 : o.f0 = 6
  · rw [if_pos h6, if_pos h6]
    refine ⟨h.xs, h.bad, fun lb => ?_⟩
    show (if 3 * lb + b = 3 * o.f2 + b then some (s'.xs.length : Int) else s'.L (3 * lb + b)) = (if lb = o.f2 then some (s.xs.length : Int) else s.L lb)
    by_cases e : lb = o.f2
    · rw [if_pos (by rw [e]), if_pos e, h.xs]
    · rw [if_neg (by omega), if_neg e, h.L]
  rw [if_neg h6, if_neg h6]
  by_cases h7 : o.f0 = 7
  · rw [if_pos h7, if_pos h7]; exact h.go _
  rw [if_neg h7, if_neg h7]
  by_cases h8 : o.f0 = 8
  · rw [if_pos h8, if_pos h8]; exact h.put _
  rw [if_neg h8, if_neg h8]
  exact ⟨h.xs, rfl, h.L⟩
theorem fold_ren (b : Int) : ∀ l : List S40, Rel b (foldR init (l.map (ren b))) (foldR init l) := by
  intro l
  induction l with
  | nil => exact ⟨rfl, rfl, fun _ => rfl⟩
  | cons o l ih => exact ih.step o
theorem asm_ren (b : Int) (l : List S40) : asmR (l.map (ren b)) = asmR l := by
  have h := fold_ren b l
  unfold asmR
  rw [h.xs, h.bad]
theorem asm_lab (T K F : Int) (l : List S40) : asmR (⟨6, K, T, F⟩ :: l) = asmR l := by
  have e : foldR init ((⟨6, K, T, F⟩ : S40) :: l) = stepS (foldR init l) ⟨6, K, T, F⟩ := rfl
  have e2 : stepS (foldR init l) ⟨6, K, T, F⟩ = ⟨(foldR init l).xs, fun x => if x = T then some ((foldR init l).xs.length : Int) else (foldR init l).L x, (foldR init l).n + 1, (foldR init l).bad⟩ := rfl
  unfold asmR
  rw [e, e2]
end Go.Proofs.Ytefkhcijgiagdaa.QNames
end
section
namespace Go.Proofs.Ytefkhcijgiagdaa.PEmitNames
open Go.RowKit Go.Proofs.YtefkhcijgiagdaaW.PrintWords Go.Proofs.YtefkhcijgiagdaaW.PrintLast Go.Proofs.YtefkhcijgiagdaaW.PrintMore Go.Proofs.Ytefkhcijgiagdaa.Le Go.Proofs.Ytefkhcijgiagdaa.QLe Go.Proofs.Ytefkhcijgiagdaa.HKnown Go.Proofs.Ytefkhcijgiagdaa.I1 Go.Proofs.Ytefkhcijgiagdaa.E1 Go.Proofs.Ytefkhcijgiagdaa.HAsm Go.Proofs.Ytefkhcijgiagdaa.E2 Go.Proofs.Ytefkhcijgiagdaa.QEmit Go.Proofs.Ytefkhcijgiagdaa.QNames
set_option linter.unusedVariables false
set_option linter.unusedSimpArgs false
set_option maxRecDepth 100000
attribute [local go_sem] max2_int min2_int max_two min_two IntKind.wrap_u32
def mix (b : Int) (y : List S40) (i : Nat) : List S40 := (y.take i).map (ren b) ++ y.drop i
theorem mix_len (b : Int) (y : List S40) (i : Nat) (hi : i ≤ y.length) : (mix b y i).length = y.length := by
  unfold mix
  rw [List.length_append, List.length_map, List.length_take, List.length_drop]; omega
theorem mix_all (b : Int) (y : List S40) : mix b y y.length = y.map (ren b) := by
  unfold mix
  rw [List.take_of_length_le (Nat.le_refl _), List.drop_of_length_le (Nat.le_refl _), List.append_nil]
theorem mix_step (b : Int) (y : List S40) (i : Nat) (hi : i < y.length) : (mix b y i).set i (ren b y[i]) = mix b y (i + 1) := by
  have hl : ((y.take i).map (ren b)).length = i := by rw [List.length_map, List.length_take]; omega
  unfold mix
  rw [List.set_append_right _ _ (by omega), hl, Nat.sub_self, List.drop_eq_getElem_cons hi, List.set_cons_zero, List.take_succ_eq_append_getElem hi, List.map_append, List.append_assoc]
  rfl
theorem mix_get (b : Int) (y : List S40) (i : Nat) (hi : i < y.length) : rd_T40 (mix b y i) (i : Int) = y[i] := by
  have hl : ((y.take i).map (ren b)).length = i := by rw [List.length_map, List.length_take]; omega
  unfold rd_T40 mix
  rw [Int.toNat_natCast, List.getD_eq_getElem?_getD, List.getElem?_append_right (by omega), hl, Nat.sub_self, List.drop_eq_getElem_cons hi]
  rfl
theorem asm_len (l : List S40) : (asmR l).1.length ≤ 4096 := by
  unfold asmR
  split
  · simp
  · split
    · simp
    · simp; omega
def clampB (a : Int) : Int := if 1000 < (if a < -1000 then -1000 else a) then 1000 else (if a < -1000 then -1000 else a)
theorem clamp_b (a : Int) : -1000 ≤ clampB a ∧ clampB a ≤ 1000 := by
  unfold clampB
  split <;> split <;> omega
theorem ren_ok {b : Int} {o : S40} (hb : -1000 ≤ b ∧ b ≤ 1000) (h : (-1099511627776 ≤ o.f2 ∧ o.f2 ≤ 1099511627776) ∧ (-1099511627776 ≤ o.f3 ∧ o.f3 ≤ 1099511627776)) : OkOp (ren b o) := by
  refine ⟨decide_eq_true ?_, decide_eq_true ?_⟩
  · show -9223372036854775808 ≤ 3 * o.f2 + b ∧ 3 * o.f2 + b ≤ 9223372036854775807
    omega
  · show -9223372036854775808 ≤ 3 * o.f3 + b ∧ 3 * o.f3 + b ≤ 9223372036854775807
    omega
theorem put2 {w : World} {B g n cap : Nat} {zs : List S40} (hR : Kd.R k40 40 w B (fun _ => True) (.slice (some ⟨g, 0, none⟩) n cap) zs) (i : Nat) (hi : i < n) (u v : Int) :
    Kd.R k40 40 ((w.setCell ⟨g, i * 4 + 2, none⟩ (.int .i64 u)).setCell ⟨g, i * 4 + 3, none⟩ (.int .i64 v)) B (fun _ => True) (.slice (some ⟨g, 0, none⟩) n cap) (zs.set i ⟨(rd_T40 zs (i : Int)).f0, (rd_T40 zs (i : Int)).f1, u, v⟩) := by
  obtain ⟨ad, eA, h0, h1, h2, h3⟩ := at_T40 (Kd.R_reads' hR).2.2 (i : Int) (by omega) (by have := (Kd.R_reads' hR).1; omega)
  obtain rfl := Option.some.inj eA
  rw [Int.toNat_natCast, add_plain] at h0 h1 h2 h3
  have h := (Kd.R_seg hR (i : Int) (by omega) (by omega) (c := [.int .i64 (rd_T40 zs (i : Int)).f0, .int .u32 (rd_T40 zs (i : Int)).f1, .int .i64 (rd_T40 zs (i : Int)).f2, .int .i64 (rd_T40 zs (i : Int)).f3]) (seg := [.int .i64 u, .int .i64 v]) (j := 2) (x' := ⟨(rd_T40 zs (i : Int)).f0, (rd_T40 zs (i : Int)).f1, u, v⟩) (okp := fun _ => False) rfl (fun j u hj => ?_) (by show 2 + 2 ≤ 4; decide) (k40_mkM _ _ _ _) (fun _ hk => hk.elim)).1
  · rw [Int.toNat_natCast] at h
    exact h
  · rw [Int.toNat_natCast]
    match j, hj with
    | 0, hj => cases hj; exact h0
    | 1, hj => cases hj; exact h1
    | 2, hj => cases hj; exact h2
    | 3, hj => cases hj; exact h3
def doorwardlaw21_EmitNames.f (l0 : List S40) (a1 : Int) : Option Bool := if (l0.all fun o => inI o.f2 && inI o.f3) = true then some true else none
structure MidN (w wr : World) (g : Option Addr) (cap : Nat) (A0 : Option Addr) (c0 : Nat) (b : Int) (y : List S40) (i : Nat) : Prop where
  R : Kd.R k40 40 wr w.heap.size (fun _ => True) (.slice g y.length cap) (mix b y i)
  C : Kd.C k40 wr A0 y.length y
  hb : Below w.heap.size w wr
theorem MidN.below {w wr w' : World} {g : Option Addr} {cap : Nat} {A0 : Option Addr} {c0 : Nat} {b : Int} {y : List S40} {i : Nat} (h : MidN w wr g cap A0 c0 b y i) (hb : Below wr.heap.size wr w') : MidN w w' g cap A0 c0 b y i := ⟨Kd.R_below h.R hb, Kd.C_below h.C hb, below_step h.hb hb⟩
theorem frozen_R {w : World} {B g n cap : Nat} {zs : List S40} (hR : Kd.R k40 40 w B (fun _ => True) (.slice (some ⟨g, 0, none⟩) n cap) zs) (j : Nat) : w.frozen? ⟨g, j, none⟩ = false := by
  obtain ⟨cells, h⟩ := Kd.R_typed hR g rfl
  exact blk_frozen h j
theorem MidN.step {w wr : World} {g cap : Nat} {A0 : Option Addr} {c0 : Nat} {b : Int} {y : List S40} {i : Nat} (hC : Kd.C k40 w A0 y.length y) (h : MidN w wr (some ⟨g, 0, none⟩) cap A0 c0 b y i) (hi : i < y.length) :
    MidN w ((wr.setCell ⟨g, i * 4 + 2, none⟩ (.int .i64 (3 * y[i].f2 + b))).setCell ⟨g, i * 4 + 3, none⟩ (.int .i64 (3 * y[i].f3 + b))) (some ⟨g, 0, none⟩) cap A0 c0 b y (i + 1) := by
  have hg : w.heap.size ≤ g := Kd.R_base h.R g rfl
  have hb2 : Below w.heap.size w ((wr.setCell ⟨g, i * 4 + 2, none⟩ (.int .i64 (3 * y[i].f2 + b))).setCell ⟨g, i * 4 + 3, none⟩ (.int .i64 (3 * y[i].f3 + b))) := (h.hb.setCell (p := ⟨g, i * 4 + 2, none⟩) hg _).setCell (p := ⟨g, i * 4 + 3, none⟩) hg _
  refine ⟨?_, Kd.C_below hC hb2, hb2⟩
  have := put2 h.R i hi (3 * y[i].f2 + b) (3 * y[i].f3 + b)
  rw [mix_get b y i hi] at this
  rw [← mix_step b y i hi]
  exact this
theorem add0' (g j : Nat) : (⟨g, 0, none⟩ : Addr).add j = ⟨g, j, none⟩ := add_plain g j
def okT (o : S40) : Prop := (-1099511627776 ≤ o.f2 ∧ o.f2 ≤ 1099511627776) ∧ (-1099511627776 ≤ o.f3 ∧ o.f3 ≤ 1099511627776)
set_option maxHeartbeats 2000000 in
theorem names_c {w : World} {A0 : Option Addr} {c0 : Nat} {l0 : List S40} (a1 : Int) (hC : Kd.C k40 w A0 l0.length l0) (hc0 : l0.length ≤ c0) (hok : ∀ o ∈ l0, OkOp o) :
    Calls Try.prog 6 #[.slice A0 l0.length c0, .int .i64 a1] w fun e w' => e = .returned (.bool true) ∧ Below w.heap.size w w' := by
  obtain ⟨j, hji⟩ : ∃ j : Int, (if 200 < (l0.length : Int) then 200 else (l0.length : Int)) = j := ⟨_, rfl⟩
  have hj : 0 ≤ j ∧ j ≤ l0.length ∧ j ≤ 200 := by rw [← hji]; split <;> omega
  obtain ⟨i0, hi0, _, hsz0, _⟩ := info_parts info40
  have hcut := cut_to (P := Try.prog) 33 40 .i64 Try.underlying33 hi0 A0 l0.length c0 j hj.1 hj.2.1 hc0
  have hCy := Kd.C_take (m := j.toNat) hC (by omega)
  obtain ⟨y, hy⟩ : ∃ y, l0.take j.toNat = y := ⟨_, rfl⟩
  rw [hy] at hCy
  have hyl : y.length = j.toNat := by rw [← hy, List.length_take]; omega
  rw [← hyl] at hcut
  have hoky : ∀ o ∈ y, OkOp o := fun o ho => hok o (List.mem_of_mem_take (hy ▸ ho))
  have hyc : y.length ≤ c0 := by omega
  have hy2 : y.length ≤ 200 := by omega
  obtain ⟨b, hb0⟩ : ∃ b, clampB a1 = b := ⟨_, rfl⟩
  have hbb := clamp_b a1
  rw [hb0] at hbb
  unfold clampB at hb0
  obtain ⟨b1, hb1⟩ : ∃ b1, (if a1 < -1000 then -1000 else a1) = b1 := ⟨_, rfl⟩
  rw [hb1] at hb0
  have HC := Aside0.mk hCy
  have HCAP := Aside0.mk hyc
  have HLN := Aside0.mk hy2
  have HOK := Aside0.mk hoky
  have HBB := Aside0.mk hbb
  have HB := Aside0.mk (Below.refl w.heap.size w)
  have HY0 := Aside0.mk hyl
  obtain ⟨y117, hy117⟩ : ∃ y_ : List (S40), y_ = (([] : List (S40))) := ⟨_, rfl⟩
  have Ny117 := Aside0.mk hy117
  obtain ⟨y120, hy120⟩ : ∃ y_ : List (S40), y_ = y117 ++ y := ⟨_, rfl⟩
  have Ny120 := Aside0.mk hy120
  have HE0 := Aside0.mk (show y120 = y by rw [hy120, hy117]; rfl)
  have LM := Aside0.mk (show y117.length + y.length < 4398046511104 by rw [hy117]; simp; omega)
  clear hy117 hy120 hC hCy hyc hy2 hoky hok hbb hyl hy
  replace hj := Aside0.mk hj
  go_enter Try.func6, Try.ntmps6
  go_upto_region 4 with (first | ((with_reducible refine gate_dst (N := 22) rfl ?_); (try (refine gate_guard (by rfl) ?_; dsimp only)); refine Kd.R_lit k40 _ 40 ?hg (N := 22) ?hd (xs := ([] : List (S40))) (inner := []) (ok := fun _ => True) (okp := fun _ => True) ?hr ?hp (fun _ hk => hk) trivial (Below.refl _ _) (Nat.le_refl _) (by simp) ?_; (case hd => rfl); (case hg => rfl); (case hr => first | (go_simp; done) | (go_simp; rfl)); (case hp => exact (Reps.none _ _)); intro v118 w19 ho20 hb hg_ hnew_; clear hg_ hnew_; (first | rw [← Ny117.out] at ho20 | (simp only [Int.reduceToNat] at ho20; rw [← Ny117.out] at ho20)); have n2_ := Aside0.mk (Kd.R_lower ho20 (below_size (by repeat (first | (with_reducible first | exact HB.out | apply below_alloc | apply pw_below_drewN | apply below_drew1) | exact HB.out)))); have n3_ := Aside0.mk (below_step (by repeat (first | (with_reducible first | exact HB.out | apply below_alloc | apply pw_below_drewN | apply below_drew1) | exact HB.out)) hb); clear HB; have HO119 := n2_; have HB := n3_; clear n2_ n3_; clear hb ho20) | ((with_reducible refine gate_builtin (b := .append) (xs := #[.tmp 22, .tmp 23]) rfl ?_); (try (refine gate_guard (by rfl) ?_; dsimp only)); at_builtin; (try (refine gate_guard (by rfl) ?_; dsimp only)); refine Kd.R_append_rows k40 (w0 := w) w.heap.size rfl (.tmp 22) (.tmp 23) 33 40 (.agg #[(.int .i64 0), (.int .u32 0), (.int .i64 0), (.int .i64 0)]) 32 rfl Try.underlying33 info40 rfl (by decide) (by omega) v118 y117 y _ _ _ (fun _ => True) (fun _ => False) rfl rfl ?aO ?aR (fun _ _ h => h) (fun _ h => h.elim) ?aF ?aB ?aS ?aL ?_; (case aR => repeat (first | exact (Kd.C_below HC.out HB.out) | (with_reducible refine Kd.C_alloc ?_ _) | (with_reducible refine Kd.C_drewN ?_ _) | (with_reducible refine Kd.C_drew ?_))); (case aB => exact (by repeat (first | (with_reducible first | exact HB.out | apply below_alloc | apply pw_below_drewN | apply below_drew1) | exact HB.out))); (case aF => exact (fun _ _ => trivial)); (case aO => exact (by (with_reducible repeat (first | apply Kd.R_alloc | apply Kd.R_drewN | apply Kd.R_drew)); exact HO119.out)); (case aS => exact (below_size (by repeat (first | (with_reducible first | exact HB.out | apply below_alloc | apply pw_below_drewN | apply below_drew1) | exact HB.out)))); (case aL => have := LM.out; omega); intro v121 w21 ho hb hg hat; rw [← Ny120.out] at ho; have n2_ := Aside0.mk (hb); have n3_ := Aside0.mk (ho); clear HB; clear HO119; have HB := n2_; have HO122 := n3_; clear n2_ n3_; clear ho hb hg hat))
  obtain ⟨A5, c5, rfl⟩ := Kd.R_slice HO122.out
  have HM0 := Aside0.mk (show MidN w w21 A5 c5 A0 c0 b y 0 from ⟨by have := HO122.out; rw [HE0.out] at this; exact this, Kd.C_below HC.out HB.out, HB.out⟩)
  have hA := doorwardlaw21_alive.calls true
  have HAL := Aside0.mk (fun W => hA W alive_ok)
  have H34 := Aside0.mk (fun (A : Option Addr) (c : Nat) (l : List S40) (W : World) (hC : Kd.C k40 W A l.length l) (hl : l.length ≤ c) (hlen : l.length ≤ 100000) (hw : ∀ o ∈ l, OkOp o) => emit_Assemble.calls A c l (asmR l).1 (asmR l).2 W hC hl (emit_f l hlen hw))
  rw [HE0.out]
  clear hA HO122 Ny120 Ny117 LM HE0 y120 y117 hcut hi0 hsz0 hj HY0 hji hb0 hb1
  go_wp2
  go_loopw [27] (fun i wr => ∃ k : Nat, k ≤ y.length ∧ i = .int .i64 k ∧ Aside0 (MidN w wr A5 c5 A0 c0 b y k) ∧ Aside0 (∀ o ∈ y.take k, okT o)) (fun i _ => y.length - (intOf i).toNat)
  case atStart => exact ⟨0, by omega, rfl, HM0, ⟨fun o ho => by simp at ho⟩⟩
  case round =>
    clear HM0 HB
    obtain ⟨k, hk, rfl, hm, hto⟩ := hrel
    by_cases hlt : k < y.length
    · have hdk : decide ((k : Int) < (y.length : Int)) = true := decide_eq_true (by omega)
      have i0 : (0 : Int) ≤ (k : Int) := by omega
      have i1 : (k : Int) < (y.length : Int) := by omega
      obtain ⟨g, cap, eg, hg, hgl, _⟩ := Kd.R_form hm.out.R (by rw [mix_len b y k hk]; omega)
      obtain ⟨rfl, hzz, rfl⟩ : A5 = some ⟨g, 0, none⟩ ∧ _ ∧ c5 = cap := by injection eg with a b c; exact ⟨a, b, c⟩
      obtain ⟨ad, eA, hx0, hx1, hx2, hx3⟩ := at_T40 (Kd.R_reads' hm.out.R).2.2 (k : Int) (by omega) (by have := (Kd.R_reads' hm.out.R).1; omega)
      obtain rfl := Option.some.inj eA
      rw [Int.toNat_natCast, mix_get b y k hlt] at hx0 hx1 hx2 hx3
      rw [add0'] at hx0 hx1 hx2 hx3
      have hfr := fun o => frozen_R (hm.out.below (below_alloc (Below.refl _ _) o)).R
      have hlx := Kd.R_lt hm.out.R g rfl
      have HST := Aside0.mk (fun w2 (h2 : MidN w w2 (some ⟨g, 0, none⟩) c5 A0 c0 b y k) => MidN.step HC.out h2 hlt)
      have HBW := Aside0.mk (fun o => hm.out.below (below_alloc (Below.refl _ _) o))
      have HTO := Aside0.mk (fun (h : okT y[k]) => show ∀ o ∈ y.take (k + 1), okT o from fun o ho => by
        rw [List.take_succ_eq_append_getElem hlt] at ho
        rcases List.mem_append.1 ho with h1 | h1
        · exact hto.out o h1
        · rw [List.mem_singleton.1 h1]; exact h)
      have HBD := Aside0.mk HBB.out
      clear eg hm hto hg hgl hzz eA
      generalize y[k] = x at *
      by_cases c1 : 1099511627776 < x.f2
      · have d1 : decide (1099511627776 < x.f2) = true := decide_eq_true c1
        clear c1 HST HTO hfr hlx
        go_wp2_with (go_at_call 35; refine (HAL.out _).mono ?_; rintro e w3 ⟨rfl, hb⟩; have HB3 := Aside0.mk (below_step (HBW.out _).hb hb); clear hb)
        go_ret
        exact ⟨rfl, HB3.out⟩
      · by_cases c2 : x.f2 < -1099511627776
        · have d1 : decide (1099511627776 < x.f2) = false := decide_eq_false c1
          have d2 : decide (x.f2 < -1099511627776) = true := decide_eq_true c2
          clear c1 c2 HST HTO hfr hlx
          go_wp2_with (go_at_call 35; refine (HAL.out _).mono ?_; rintro e w3 ⟨rfl, hb⟩; have HB3 := Aside0.mk (below_step (HBW.out _).hb hb); clear hb)
          go_ret
          exact ⟨rfl, HB3.out⟩
        · by_cases c3 : 1099511627776 < x.f3
          · have d1 : decide (1099511627776 < x.f2) = false := decide_eq_false c1
            have d2 : decide (x.f2 < -1099511627776) = false := decide_eq_false c2
            have d3 : decide (1099511627776 < x.f3) = true := decide_eq_true c3
            clear c1 c2 c3 HST HTO hfr hlx
            go_wp2_with (go_at_call 35; refine (HAL.out _).mono ?_; rintro e w3 ⟨rfl, hb⟩; have HB3 := Aside0.mk (below_step (HBW.out _).hb hb); clear hb)
            go_ret
            exact ⟨rfl, HB3.out⟩
          · by_cases c4 : x.f3 < -1099511627776
            · have d1 : decide (1099511627776 < x.f2) = false := decide_eq_false c1
              have d2 : decide (x.f2 < -1099511627776) = false := decide_eq_false c2
              have d3 : decide (1099511627776 < x.f3) = false := decide_eq_false c3
              have d4 : decide (x.f3 < -1099511627776) = true := decide_eq_true c4
              clear c1 c2 c3 c4 HST HTO hfr hlx
              go_wp2_with (go_at_call 35; refine (HAL.out _).mono ?_; rintro e w3 ⟨rfl, hb⟩; have HB3 := Aside0.mk (below_step (HBW.out _).hb hb); clear hb)
              go_ret
              exact ⟨rfl, HB3.out⟩
            · have d1 : decide (1099511627776 < x.f2) = false := decide_eq_false c1
              have d2 : decide (x.f2 < -1099511627776) = false := decide_eq_false c2
              have d3 : decide (1099511627776 < x.f3) = false := decide_eq_false c3
              have d4 : decide (x.f3 < -1099511627776) = false := decide_eq_false c4
              have HOT := Aside0.mk (show okT x from ⟨⟨by omega, by omega⟩, ⟨by omega, by omega⟩⟩)
              have hb2 := HBD.out
              have hln := HLN.out
              have m2 : wrap64 (3 * x.f2) = 3 * x.f2 := w64 _ (by omega) (by omega)
              have m3 : wrap64 (3 * x.f3) = 3 * x.f3 := w64 _ (by omega) (by omega)
              have n2 : wrap64 (3 * x.f2 + b) = 3 * x.f2 + b := w64 _ (by omega) (by omega)
              have n3 : wrap64 (3 * x.f3 + b) = 3 * x.f3 + b := w64 _ (by omega) (by omega)
              clear c1 c2 c3 c4 hb2
              have kx0 := blk_cell (heap_alloc_new wr (.cells #[.int .i64 x.f0, .int .u32 x.f1, .int .i64 x.f2, .int .i64 x.f3] 40))
              have kx2 := kx0 2
              have kx3 := kx0 3
              have fr2 := hfr (.cells #[.int .i64 x.f0, .int .u32 x.f1, .int .i64 x.f2, .int .i64 x.f3] 40) (k * 4 + 2)
              have fr3 := hfr (.cells #[.int .i64 x.f0, .int .u32 x.f1, .int .i64 x.f2, .int .i64 x.f3] 40) (k * 4 + 3)
              have kg2 := pw_cell_below (below_alloc (Below.refl _ _) (.cells #[.int .i64 x.f0, .int .u32 x.f1, .int .i64 x.f2, .int .i64 x.f3] 40)) hx2
              have kg3 := pw_cell_below (below_alloc (Below.refl _ _) (.cells #[.int .i64 x.f0, .int .u32 x.f1, .int .i64 x.f2, .int .i64 x.f3] 40)) hx3
              have HM2 := Aside0.mk (HBW.out (.cells #[.int .i64 x.f0, .int .u32 x.f1, .int .i64 x.f2, .int .i64 x.f3] 40))
              have kz : g ≠ wr.heap.size := by omega
              have kz2 : wr.heap.size ≠ g := by omega
              clear hfr HBW kx0 hlx
              go_wp2
              generalize hw2 : wr.alloc (.cells #[.int .i64 x.f0, .int .u32 x.f1, .int .i64 x.f2, .int .i64 x.f3] 40) = w2 at *
              generalize hg2 : wr.heap.size = g2 at *
              clear hx0 hx1 hx2 hx3 hw2 hg2
              go_region
              go_wp2
              go_roundw
              case rel => exact ⟨k + 1, by omega, by go_num, ⟨(HST.out _ HM2.out).below (below_drew (Below.refl _ _))⟩, ⟨HTO.out HOT.out⟩⟩
              case measure => simp [intOf]; omega
    · obtain rfl : k = y.length := by omega
      have hdk : decide ((y.length : Int) < (y.length : Int)) = false := decide_eq_false (by omega)
      have HT2 := Aside0.mk (show ∀ o ∈ y.map (ren b), OkOp o from fun o ho => by
        obtain ⟨x, hx, rfl⟩ := List.mem_map.1 ho
        exact ren_ok HBB.out (hto.out x (by rw [List.take_of_length_le (Nat.le_refl _)]; exact hx)))
      have HM := Aside0.mk (show Kd.R k40 40 wr w.heap.size (fun _ => True) (.slice A5 (y.map (ren b)).length c5) (y.map (ren b)) ∧ Kd.C k40 wr A0 y.length y ∧ Below w.heap.size w wr from ⟨by have := hm.out.R; rw [mix_all] at this; rw [List.length_map]; exact this, hm.out.C, hm.out.hb⟩)
      have HLM := Aside0.mk (show (y.map (ren b)).length = y.length from List.length_map ..)
      have HP2 := Aside0.mk (show asmR (y.map (ren b)) = asmR y from asm_ren b y)
      have HP3 := Aside0.mk (show asmR (⟨6, 0, 2199023255552, 0⟩ :: y) = asmR y from asm_lab 2199023255552 0 0 y)
      have HPL := Aside0.mk (asm_len y)
      clear hm hto
      go_wp2_with fail
      refine (H34.out _ _ y wr HM.out.2.1 HCAP.out (by have := HLN.out; omega) HOK.out).mono ?_
      rintro e w1 ⟨v1, rfl, ho, hb⟩
      have HO1 := Aside0.mk (Kd.R_lower ho (below_size HM.out.2.2))
      have HB1 := Aside0.mk (below_step HM.out.2.2 hb)
      have HM1 := Aside0.mk (Kd.C_below (Kd.R_reads' HM.out.1).2.2 hb)
      have HC1 := Aside0.mk (Kd.C_below HM.out.2.1 hb)
      have HCP := Aside0.mk (Kd.R_reads' HM.out.1).2.1
      clear ho hb HM
      generalize hp1 : (asmR y).1 = p1 at *
      generalize hp2 : (asmR y).2 = p2 at *
      have HQ1 := Aside0.mk hp1
      have HQ2 := Aside0.mk hp2
      clear hp1 hp2
      go_wp2_with fail
      have h34 := H34.out A5 c5 (y.map (ren b)) w1 HM1.out HCP.out (by rw [HLM.out]; have := HLN.out; omega) HT2.out
      rw [HLM.out, HP2.out, HQ1.out, HQ2.out] at h34
      refine h34.mono ?_
      rintro e w2 ⟨v2, rfl, ho, hb⟩
      have HO2 := Aside0.mk (Kd.R_lower ho (below_size HB1.out))
      have HO1b := Aside0.mk (Kd.R_below HO1.out hb)
      have HB2 := Aside0.mk (below_step HB1.out hb)
      have HC2 := Aside0.mk (Kd.C_below HC1.out hb)
      clear ho hb h34 HM1 HC1 HO1 HB1
      obtain ⟨y101, hy101⟩ : ∃ y_ : List (S40), y_ = [(⟨6, 0, 2199023255552, 0⟩ : S40)] := ⟨_, rfl⟩
      have Ny101 := Aside0.mk hy101
      obtain ⟨y102, hy102⟩ : ∃ y_ : List (S40), y_ = y101 ++ y := ⟨_, rfl⟩
      have Ny102 := Aside0.mk hy102
      have LM := Aside0.mk (show y101.length + y.length < 4398046511104 by rw [hy101]; have := HLN.out; simp; omega)
      have HE2 := Aside0.mk (show y102 = ⟨6, 0, 2199023255552, 0⟩ :: y by rw [hy102, hy101]; rfl)
      clear hy101 hy102
      go_wp2_with (first | ((with_reducible refine gate_dst (N := 82) rfl ?_); (try (refine gate_guard (by rfl) ?_; dsimp only)); refine Kd.R_lit k40 _ 40 ?hg (N := 82) ?hd (xs := ([(⟨6, 0, 2199023255552, 0⟩ : S40)] : List (S40))) (inner := [.int .i64 6, .int .u32 0, .int .i64 2199023255552, .int .i64 0]) (ok := fun _ => True) (okp := fun _ => True) ?hr ?hp (fun _ hk => hk) trivial (Below.refl _ _) (Nat.le_refl _) (by simp) ?_; (case hd => rfl); (case hg => rfl); (case hr => first | (go_simp; done) | (go_simp; rfl)); (case hp => exact (Reps.c4 (show Kd.M k40 _ _ _ (⟨6, 0, 2199023255552, 0⟩ : S40) [.int .i64 6, .int .u32 0, .int .i64 2199023255552, .int .i64 0] from (k40_mkM _ _ _ (⟨6, 0, 2199023255552, 0⟩ : S40) )) (Reps.none _ _))); intro v118 w19 ho20 hb hg_ hnew_; clear hg_ hnew_; (first | rw [← Ny101.out] at ho20 | (simp only [Int.reduceToNat] at ho20; rw [← Ny101.out] at ho20)); have n2_ := Aside0.mk (Kd.R_lower ho20 (below_size (by repeat (first | (with_reducible first | exact HB2.out | apply below_alloc | apply pw_below_drewN | apply below_drew1) | exact HB2.out)))); have n3_ := Aside0.mk (below_step (by repeat (first | (with_reducible first | exact HB2.out | apply below_alloc | apply pw_below_drewN | apply below_drew1) | exact HB2.out)) hb); have HB := n3_; have n4_ := Aside0.mk (Kd.R_below HO1b.out hb); have n5_ := Aside0.mk (Kd.R_below HO2.out hb); have n6_ := Aside0.mk (Kd.C_below HC2.out hb); clear HB2 HO1b HO2 HC2; have HO119 := n2_; have HO1b := n4_; have HO2 := n5_; have HC2 := n6_; clear n2_ n3_ n4_ n5_ n6_; clear hb ho20) | ((with_reducible refine gate_builtin (b := .append) (xs := #[.tmp 82, .tmp 83]) rfl ?_); (try (refine gate_guard (by rfl) ?_; dsimp only)); at_builtin; (try (refine gate_guard (by rfl) ?_; dsimp only)); refine Kd.R_append_rows k40 (w0 := w) w.heap.size rfl (.tmp 82) (.tmp 83) 33 40 (.agg #[(.int .i64 0), (.int .u32 0), (.int .i64 0), (.int .i64 0)]) 32 rfl Try.underlying33 info40 rfl (by decide) (by omega) v118 y101 y _ _ _ (fun _ => True) (fun _ => False) rfl rfl ?aO ?aR (fun _ _ h => h) (fun _ h => h.elim) ?aF ?aB ?aS ?aL ?_; (case aR => repeat (first | exact HC2.out | (with_reducible refine Kd.C_alloc ?_ _) | (with_reducible refine Kd.C_drewN ?_ _) | (with_reducible refine Kd.C_drew ?_))); (case aB => exact (by repeat (first | (with_reducible first | exact HB.out | apply below_alloc | apply pw_below_drewN | apply below_drew1) | exact HB.out))); (case aF => exact (fun _ _ => trivial)); (case aO => exact (by (with_reducible repeat (first | apply Kd.R_alloc | apply Kd.R_drewN | apply Kd.R_drew)); exact HO119.out)); (case aS => exact (below_size (by repeat (first | (with_reducible first | exact HB.out | apply below_alloc | apply pw_below_drewN | apply below_drew1) | exact HB.out)))); (case aL => have := LM.out; omega); intro v121 w21 ho hb hg hat; rw [← Ny102.out] at ho; have n0_ := Aside0.mk (Kd.R_over' HO1b.out (Kd.R_typed (by (with_reducible repeat (first | apply Kd.R_alloc | apply Kd.R_drewN | apply Kd.R_drew)); exact HO119.out)) (by decide) hg); have n1_ := Aside0.mk (Kd.R_over' HO2.out (Kd.R_typed (by (with_reducible repeat (first | apply Kd.R_alloc | apply Kd.R_drewN | apply Kd.R_drew)); exact HO119.out)) (by decide) hg); have n2_ := Aside0.mk (hb); have n3_ := Aside0.mk (ho); clear HB HO1b HO2 HC2; clear HO119; have HB := n2_; have HO122 := n3_; have HO1b := n0_; have HO2 := n1_; clear n0_ n1_ n2_ n3_; clear ho hb hg hat; obtain ⟨A6, c6, rfl⟩ := Kd.R_slice HO122.out))
      have h34 := H34.out A6 c6 y102 w21 (Kd.R_reads' HO122.out).2.2 (Kd.R_reads' HO122.out).2.1 (by rw [HE2.out, List.length_cons]; have := HLN.out; omega) (by
        rw [HE2.out]
        intro o ho
        rcases List.mem_cons.1 ho with rfl | h
        · exact ⟨by decide, by decide⟩
        · exact HOK.out o h)
      have e3 : asmR y102 = asmR y := by rw [HE2.out]; exact HP3.out
      rw [e3, HQ1.out, HQ2.out] at h34
      refine h34.mono ?_
      rintro e w3 ⟨v3, rfl, ho, hb⟩
      obtain ⟨A1, c1, rfl⟩ := Kd.R_slice HO1b.out
      obtain ⟨A2, c2, rfl⟩ := Kd.R_slice HO2.out
      obtain ⟨A3, c3, rfl⟩ := Kd.R_slice ho
      have HK1 := Aside0.mk (Kd.C_below (Kd.R_reads' HO1b.out).2.2 hb)
      have HK2 := Aside0.mk (Kd.C_below (Kd.R_reads' HO2.out).2.2 hb)
      have HK3 := Aside0.mk (Kd.R_reads' ho).2.2
      have HL1 := Aside0.mk (Kd.R_reads' HO1b.out).2.1
      have HL2 := Aside0.mk (Kd.R_reads' HO2.out).2.1
      have HL3 := Aside0.mk (Kd.R_reads' ho).2.1
      have HB3 := Aside0.mk (below_step HB.out hb)
      clear ho hb h34 e3 HO1b HO2 HO122 HB LM HE2 Ny101 Ny102
      have H36 := Aside0.mk (fun A c A' c' W (hC : Kd.C k28 W A p1.length p1) (hl : p1.length ≤ c) (hC' : Kd.C k28 W A' p1.length p1) (hl' : p1.length ≤ c') => doorwardref10_Like.calls (p1.length + 1) A c p1 A' c' p1 true W hC hl hC' hl' (like_self p1 (by have := HPL.out; omega) _ (Nat.lt_succ_self _)))
      go_wp2_with fail
      refine (HAL.out w3).mono ?_
      rintro e w4 ⟨rfl, hb⟩
      have HK1 := Aside0.mk (Kd.C_below HK1.out hb)
      have HK2 := Aside0.mk (Kd.C_below HK2.out hb)
      have HK3 := Aside0.mk (Kd.C_below HK3.out hb)
      have HB4 := Aside0.mk (below_step HB3.out hb)
      clear hb
      go_wp2_with fail
      refine (H36.out _ _ _ _ w4 HK1.out HL1.out HK2.out HL2.out).mono ?_
      rintro e w5 ⟨rfl, hb0⟩
      have hb := hb0.below
      have HK1 := Aside0.mk (Kd.C_below HK1.out hb)
      have HK3 := Aside0.mk (Kd.C_below HK3.out hb)
      have HB5 := Aside0.mk (below_step HB4.out hb)
      clear hb hb0
      go_wp2_with fail
      refine (H36.out _ _ _ _ w5 HK1.out HL1.out HK3.out HL3.out).mono ?_
      rintro e w6 ⟨rfl, hb⟩
      have HB6 := Aside0.mk (below_step HB5.out hb.below)
      clear hb
      go_wp2
      go_ret
      exact ⟨rfl, HB6.out⟩
theorem doorwardlaw21_EmitNames.calls (A0 : Option Addr) (c0 : Nat) (l0 : List (S40)) (a1 : Int) (r : Bool) (w : World) (hr0 : Kd.C k40 w A0 l0.length l0) (hc0 : l0.length ≤ c0) (h : doorwardlaw21_EmitNames.f l0 a1 = some r) :
    Calls Try.prog 6 #[.slice A0 l0.length c0, .int .i64 a1] w fun e w' => e = .returned (.bool r) ∧ Below w.heap.size w w' := by
  unfold doorwardlaw21_EmitNames.f at h
  split at h
  · rename_i hall
    obtain rfl := Option.some.inj h
    refine names_c a1 hr0 hc0 (fun o ho => ?_)
    have := List.all_eq_true.1 hall o ho
    rw [Bool.and_eq_true] at this
    exact this
  · cases h
end Go.Proofs.Ytefkhcijgiagdaa.PEmitNames
end
section
namespace Go.Proofs.Ytefkhcijgiagdaa.Open
open Go.RowKit Go.Proofs.YtefkhcijgiagdaaW.PrintWords
set_option linter.unusedVariables false
set_option linter.unusedSimpArgs false
variable {α β : Type}
/-- A reading (of so much fuel at most) of cells at type t tells a value of kind d, of which Q. -/
def OpensN (P : Program) (fuel : Nat) (d : Kd α) (t : TypeId) (Q : α → Prop) : Prop :=
  P.cellsOf t = d.sz ∧ ∀ (H : Type) (enc : TypeId × Value → H) (W : World) (cs : List Value) (x : DataW H × List MemPlace),
    DataW.trod enc P W 0 (fun _ => true) true fuel t cs = some x → ∃ y, d.K W y cs ∧ Q y
def Opens (P : Program) (d : Kd α) (t : TypeId) (Q : α → Prop) : Prop := ∀ fuel, OpensN P fuel d t Q
section
variable {P : Program} {t e : TypeId} {d : Kd α} {Q : α → Prop} {fuel : Nat}
theorem OpensN.none (h : P.cellsOf t = d.sz) : OpensN P 0 d t Q := ⟨h, fun H enc W cs x hx => by simp [DataW.trod] at hx⟩
theorem one_cell {H : Type} {enc : TypeId × Value → H} {W : World} {cs : List Value} {x : DataW H × List MemPlace} {u : TypeDesc} (hu : P.underlying t = some u) (h1 : (match u with | .struct _ | .array _ _ => true | _ => false) = false)
    (hx : DataW.trod enc P W 0 (fun _ => true) true (fuel + 1) t cs = some x) : ∃ c, cs = [c] := by
  unfold DataW.trod at hx
  rcases cs with _ | ⟨c, _ | ⟨c2, r⟩⟩
  · cases u <;> simp [hu] at hx h1
  · exact ⟨c, rfl⟩
  · cases u <;> simp [hu] at hx h1
theorem Opens.int (k : IntKind) (hu : P.underlying t = some (.int k)) (hc : P.cellsOf t = 1) : Opens P (Kd.int k) t (fun x => (Lit.int k x).wf = true) := by
  intro fuel
  cases fuel with
  | zero => exact OpensN.none hc
  | succ fuel =>
    refine ⟨hc, fun H enc W cs x hx => ?_⟩
    obtain ⟨c, rfl⟩ := one_cell hu rfl hx
    unfold DataW.trod at hx
    cases c <;> simp [hu] at hx
    rename_i k' n
    obtain ⟨⟨rfl, hw⟩, _⟩ := hx
    exact ⟨n, rfl, hw⟩
theorem Opens.bool (hu : P.underlying t = some .bool) (hc : P.cellsOf t = 1) : Opens P Kd.bool t (fun _ => True) := by
  intro fuel
  cases fuel with
  | zero => exact OpensN.none hc
  | succ fuel =>
    refine ⟨hc, fun H enc W cs x hx => ?_⟩
    obtain ⟨c, rfl⟩ := one_cell hu rfl hx
    unfold DataW.trod at hx
    cases c <;> simp [hu] at hx
    rename_i b
    exact ⟨b, rfl, trivial⟩
/-- The cells of a slice. -/
theorem slice_cell {H : Type} {enc : TypeId × Value → H} {W : World} {cs : List Value} {x : DataW H × List MemPlace} (hu : P.underlying t = some (.slice e)) (hx : DataW.trod enc P W 0 (fun _ => true) true (fuel + 1) t cs = some x) :
    cs = [.slice none 0 0] ∨ ∃ a len cap, cs = [.slice (some a) len cap] ∧ len ≤ cap ∧ cap ≤ maxLen ∧
      ∃ els rest, (List.range len).mapM (fun i => (W.cells? 0 (a.add (i * P.cellsOf e)) (P.cellsOf e)).bind (DataW.trod enc P W 0 (fun _ => true) true fuel e)) = some els ∧ x.1 = .slice (els.map (·.1)) rest := by
  obtain ⟨c, rfl⟩ := one_cell hu rfl hx
  unfold DataW.trod at hx
  cases c <;> try (simp [hu] at hx; done)
  rename_i A len cap
  cases A with
  | none =>
    by_cases h0 : len = 0 ∧ cap = 0
    · obtain ⟨rfl, rfl⟩ := h0
      exact .inl rfl
    · exfalso
      rcases len with _ | len <;> rcases cap with _ | cap <;> simp [hu] at hx h0
  | some a =>
    right
    simp only [hu] at hx
    split at hx
    · rename_i hcnd
      rw [Option.bind_eq_some_iff] at hx
      obtain ⟨els, hels, hx⟩ := hx
      rw [Option.map_eq_some_iff] at hx
      obtain ⟨rest, _, hx⟩ := hx
      exact ⟨a, len, cap, rfl, hcnd.2.1, hcnd.2.2, els, rest.map (·.1), hels, by rw [← hx]⟩
    · simp at hx
theorem OpensN.slice (hu : P.underlying t = some (.slice e)) (hc : P.cellsOf t = 1) (h : OpensN P fuel d e Q) : OpensN P (fuel + 1) (Kd.slice e d) t (fun xs => xs.length ≤ maxLen ∧ ∀ x ∈ xs, Q x) := by
  obtain ⟨hsz, h⟩ := h
  refine ⟨hc, fun H enc W cs x hx => ?_⟩
  rcases slice_cell hu hx with rfl | ⟨a, len, cap, rfl, hlc, hcm, els, rest, hels, _⟩
  · refine ⟨[], ⟨Option.none, 0, rfl, Nat.le_refl _, ?_⟩, by simp, by simp⟩
    exact ⟨rfl, by simp, fun h => absurd h (by simp)⟩
  · skip
    · skip
      have hlen : els.length = len := by simpa using mapM_some_length hels
      have hget := fun i (hi : i < len) => mapM_some_get hels i i (by simp [hi])
      have hall : ∀ i, i < len → ∃ (y : α) (c : List Value), d.K W y c ∧ Q y ∧ c.length = d.sz ∧ ∀ j u, c[j]? = some u → W.cell? (a.add (i * d.sz + j)) = some u := by
        intro i hi
        have hi2 := hget i hi
        rw [List.getElem?_eq_getElem (by omega : i < els.length), Option.bind_eq_some_iff] at hi2
        obtain ⟨c, hcs, hr⟩ := hi2
        obtain ⟨y, hy, hq⟩ := h H enc W c _ hr
        obtain ⟨_, hcl, hcell⟩ := World.cells?_some hcs
        refine ⟨y, c, hy, hq, d.K_len hy, fun j u hj => ?_⟩
        have hjl : j < P.cellsOf e := by
          have : j < c.length := by
            rcases Nat.lt_or_ge j c.length with hlt | hge
            · exact hlt
            · rw [List.getElem?_eq_none hge] at hj; simp at hj
          omega
        have := hcell j hjl
        rw [hj, hsz, Addr.add_add] at this
        exact this
      obtain ⟨ys, hys⟩ : ∃ ys : List α, ys.length = len ∧ ∀ i (hi : i < ys.length), (∃ c : List Value, d.K W ys[i] c ∧ Q ys[i] ∧ c.length = d.sz ∧ ∀ j u, c[j]? = some u → W.cell? (a.add (i * d.sz + j)) = some u) := by
        clear hels hget hlen hlc hcm hx
        induction len with
        | zero => exact ⟨[], rfl, fun i hi => absurd hi (by simp)⟩
        | succ n ih =>
          obtain ⟨ys, hl, hy⟩ := ih (fun i hi => hall i (by omega))
          obtain ⟨y, c, hk, hq, hcl, hcc⟩ := hall n (by omega)
          refine ⟨ys ++ [y], by simp [hl], fun i hi => ?_⟩
          by_cases hin : i < ys.length
          · have := hy i hin
            rw [List.getElem_append_left hin]
            exact this
          · have hie : i = n := by simp at hi; omega
            subst hie
            rw [List.getElem_append_right (by omega)]
            simp only [hl, Nat.sub_self, List.getElem_cons_zero]
            exact ⟨c, hk, hq, hcl, hcc⟩
      obtain ⟨hyl, hy⟩ := hys
      refine ⟨ys, ⟨some a, cap, by rw [hyl], by omega, ?_⟩, by omega, ?_⟩
      · refine ⟨rfl, by rw [hyl]; exact Nat.le_trans hlc hcm, fun _ => ⟨a, rfl, fun j p hj => ?_⟩⟩
        have hjl : j < ys.length := by
          rcases Nat.lt_or_ge j ys.length with hlt | hge
          · exact hlt
          · rw [List.getElem?_eq_none hge] at hj; simp at hj
        obtain ⟨c, hk, hq, hcl, hcc⟩ := hy j hjl
        rw [List.getElem?_eq_getElem hjl] at hj
        obtain rfl := Option.some.inj hj
        exact ⟨c, hcl, hk, hcc⟩
      · intro x hx
        obtain ⟨i, hi, rfl⟩ := List.getElem_of_mem hx
        obtain ⟨c, hk, hq, _⟩ := hy i hi
        exact hq
theorem Opens.slice (hu : P.underlying t = some (.slice e)) (hc : P.cellsOf t = 1) (h : Opens P d e Q) : Opens P (Kd.slice e d) t (fun xs => xs.length ≤ maxLen ∧ ∀ x ∈ xs, Q x) := by
  intro fuel
  cases fuel with
  | zero => exact OpensN.none hc
  | succ fuel => exact OpensN.slice hu hc (h fuel)
end
/-- The fields from one on, read one by one, tell a value of kind d out of the cells from o on. -/
def OpensF (P : Program) (fuel : Nat) (fs : List Field) (o : Nat) (d : Kd α) (Q : α → Prop) : Prop :=
  ∀ (H : Type) (enc : TypeId × Value → H) (W : World) (cs : List Value) (xs : List (DataW H × List MemPlace)),
    (fs.mapM fun f => DataW.trod enc P W 0 (fun _ => true) true fuel f.type ((cs.drop f.offset).take (P.cellsOf f.type))) = some xs → cs.length = o + d.sz → ∃ y, d.K W y (cs.drop o) ∧ Q y
section
variable {P : Program} {t : TypeId} {a : Kd α} {b : Kd β} {Q : α → Prop} {R : β → Prop} {fuel o : Nat} {f : Field} {fs : List Field}
theorem OpensF.last (ho : f.offset = o) (h : OpensN P fuel a f.type Q) : OpensF P fuel [f] o a Q := by
  intro H enc W cs xs hx hl
  simp only [List.mapM_cons, List.mapM_nil] at hx
  rw [Option.bind_eq_bind, Option.bind_eq_some_iff] at hx
  obtain ⟨y, hy, _⟩ := hx
  rw [ho, h.1, List.take_of_length_le (by rw [List.length_drop]; omega)] at hy
  exact h.2 H enc W _ _ hy
theorem OpensF.cons (ho : f.offset = o) (h : OpensN P fuel a f.type Q) (hs : OpensF P fuel fs (o + a.sz) b R) : OpensF P fuel (f :: fs) o (Kd.pair a b) (fun x => Q x.1 ∧ R x.2) := by
  intro H enc W cs xs hx hl
  simp only [List.mapM_cons] at hx
  rw [Option.bind_eq_bind, Option.bind_eq_some_iff] at hx
  obtain ⟨y, hy, hx⟩ := hx
  rw [Option.bind_eq_bind, Option.bind_eq_some_iff] at hx
  obtain ⟨ys, hys, _⟩ := hx
  rw [ho, h.1] at hy
  obtain ⟨u, hu, hq⟩ := h.2 H enc W _ _ hy
  obtain ⟨v, hv, hr⟩ := hs H enc W cs ys hys (by have : (Kd.pair a b).sz = a.sz + b.sz := rfl; omega)
  refine ⟨(u, v), ⟨(cs.drop o).take a.sz, (cs.drop o).drop a.sz, (List.take_append_drop _ _).symm, hu, ?_⟩, hq, hr⟩
  rw [List.drop_drop]
  exact hv
theorem OpensF.iso {γ : Type} (g : γ → α) (inv : α → γ) (hg : ∀ x, g (inv x) = x) (h : OpensF P fuel fs o a Q) : OpensF P fuel fs o (Kd.iso a g) (fun x => Q (g x)) := by
  intro H enc W cs xs hx hl
  obtain ⟨y, hy, hq⟩ := h H enc W cs xs hx hl
  exact ⟨inv y, by show a.K W (g (inv y)) _; rw [hg]; exact hy, by show Q (g (inv y)); rw [hg]; exact hq⟩
theorem OpensN.struct {gs : Array Field} (hu : P.underlying t = some (.struct gs)) (hc : P.cellsOf t = a.sz) (h : OpensF P fuel gs.toList 0 a Q) : OpensN P (fuel + 1) a t Q := by
  refine ⟨hc, fun H enc W cs x hx => ?_⟩
  have hx2 : (if cs.length = P.cellsOf t then (gs.toList.mapM fun f => DataW.trod enc P W 0 (fun _ => true) true fuel f.type ((cs.drop f.offset).take (P.cellsOf f.type))).map fun xs => (DataW.agg (xs.map (·.1)), xs.flatMap (·.2)) else Option.none) = some x := by
    rw [← hx]
    conv => rhs; unfold DataW.trod
    simp only [hu]
  split at hx2
  · rename_i hl
    rw [Option.map_eq_some_iff] at hx2
    obtain ⟨xs, hxs, _⟩ := hx2
    have := h H enc W cs xs hxs (by omega)
    simpa using this
  · simp at hx2
/-- The places of an array, read one by one. -/
def OpensA (P : Program) (fuel : Nat) (e : TypeId) (is : List Nat) (o : Nat) (d : Kd α) (Q : α → Prop) : Prop :=
  ∀ (H : Type) (enc : TypeId × Value → H) (W : World) (cs : List Value) (xs : List (DataW H × List MemPlace)),
    (is.mapM fun i => DataW.trod enc P W 0 (fun _ => true) true fuel e ((cs.drop (i * P.cellsOf e)).take (P.cellsOf e))) = some xs → cs.length = o + d.sz → ∃ y, d.K W y (cs.drop o) ∧ Q y
theorem OpensA.last {e : TypeId} {i : Nat} (ho : i * P.cellsOf e = o) (h : OpensN P fuel a e Q) : OpensA P fuel e [i] o a Q := by
  intro H enc W cs xs hx hl
  simp only [List.mapM_cons, List.mapM_nil] at hx
  rw [Option.bind_eq_bind, Option.bind_eq_some_iff] at hx
  obtain ⟨y, hy, _⟩ := hx
  rw [ho, h.1, List.take_of_length_le (by rw [List.length_drop]; omega)] at hy
  exact h.2 H enc W _ _ hy
theorem OpensA.cons {e : TypeId} {i : Nat} {is : List Nat} (ho : i * P.cellsOf e = o) (h : OpensN P fuel a e Q) (hs : OpensA P fuel e is (o + a.sz) b R) : OpensA P fuel e (i :: is) o (Kd.pair a b) (fun x => Q x.1 ∧ R x.2) := by
  intro H enc W cs xs hx hl
  simp only [List.mapM_cons] at hx
  rw [Option.bind_eq_bind, Option.bind_eq_some_iff] at hx
  obtain ⟨y, hy, hx⟩ := hx
  rw [Option.bind_eq_bind, Option.bind_eq_some_iff] at hx
  obtain ⟨ys, hys, _⟩ := hx
  rw [ho, h.1] at hy
  obtain ⟨u, hu, hq⟩ := h.2 H enc W _ _ hy
  obtain ⟨v, hv, hr⟩ := hs H enc W cs ys hys (by have : (Kd.pair a b).sz = a.sz + b.sz := rfl; omega)
  refine ⟨(u, v), ⟨(cs.drop o).take a.sz, (cs.drop o).drop a.sz, (List.take_append_drop _ _).symm, hu, ?_⟩, hq, hr⟩
  rw [List.drop_drop]
  exact hv
theorem OpensA.iso {γ : Type} {e : TypeId} {is : List Nat} (g : γ → α) (inv : α → γ) (hg : ∀ x, g (inv x) = x) (h : OpensA P fuel e is o a Q) : OpensA P fuel e is o (Kd.iso a g) (fun x => Q (g x)) := by
  intro H enc W cs xs hx hl
  obtain ⟨y, hy, hq⟩ := h H enc W cs xs hx hl
  exact ⟨inv y, by show a.K W (g (inv y)) _; rw [hg]; exact hy, by show Q (g (inv y)); rw [hg]; exact hq⟩
theorem OpensN.array {n : Nat} {e : TypeId} (hu : P.underlying t = some (.array n e)) (hc : P.cellsOf t = a.sz) (h : OpensA P fuel e (List.range n) 0 a Q) : OpensN P (fuel + 1) a t Q := by
  refine ⟨hc, fun H enc W cs x hx => ?_⟩
  have hx2 : (if cs.length = P.cellsOf t then ((List.range n).mapM fun i => DataW.trod enc P W 0 (fun _ => true) true fuel e ((cs.drop (i * P.cellsOf e)).take (P.cellsOf e))).map fun xs => (DataW.agg (xs.map (·.1)), xs.flatMap (·.2)) else Option.none) = some x := by
    rw [← hx]
    conv => rhs; unfold DataW.trod
    simp only [hu]
  split at hx2
  · rename_i hl
    rw [Option.map_eq_some_iff] at hx2
    obtain ⟨xs, hxs, _⟩ := hx2
    have := h H enc W cs xs hxs (by omega)
    simpa using this
  · simp at hx2
end
section
variable {P : Program} {t e : TypeId} {d : Kd α} {Q : α → Prop} {H : Type} {enc : TypeId × Value → H} {W : World} {D : DataW H} {p : List MemPlace} {v : Value}
/-- A slice that came in. -/
theorem slice_of {r : Reach} {base : Nat} (hu : P.underlying t = some (.slice e)) (hc : P.cellsOf t = 1) (hv : Value.okWide P W r base t v) (ho : Opens P d e Q) (h : DataW.Trod enc P W 0 (fun _ => true) true t v D p) :
    ∃ A c xs, v = .slice A (List.length xs) c ∧ xs.length ≤ c ∧ d.C W A xs.length xs ∧ xs.length ≤ maxLen ∧ ∀ x ∈ xs, Q x := by
  obtain ⟨a, len, cap, rfl⟩ := Go.WideShapes.okWide_slice hu hv
  obtain ⟨fuel, hf⟩ := h
  obtain ⟨xs, ⟨A, c, hcs, hl, hC⟩, hq, hall⟩ := (Opens.slice hu hc ho fuel).2 H enc W _ _ hf
  have he : Value.slice a len cap = .slice A xs.length c := by
    have : (Value.slice a len cap).cells.toList = [Value.slice a len cap] := rfl
    rw [this] at hcs
    exact (List.cons.inj hcs).1
  exact ⟨A, c, xs, he, hl, hC, hq, hall⟩
/-- .. and how long it is. -/
theorem slice_sized {ts : List TypeId} {ds : List (DataW H)} {j B : Nat} {A : Option Addr} {n c : Nat} (hsz : (DataW.weightsEach P ts ds).all (· ≤ reachBytes) = true) (ht : ts[j]? = some t) (hd : ds[j]? = some D) (hu : P.underlying t = some (.slice e)) (hB : P.bytesOf e = B)
    (h : DataW.Trod enc P W 0 (fun _ => true) true t (.slice A n c) D p) : n * B ≤ 140737488351232 := by
  obtain ⟨fuel, hf⟩ := h
  cases fuel with
  | zero => simp [DataW.trod] at hf
  | succ fuel =>
    have hcl : (Value.slice A n c).cells.toList = [Value.slice A n c] := rfl
    rw [hcl] at hf
    rcases slice_cell hu hf with hs | ⟨a, len, cap, hs, hlc, hcm, els, rest, hels, hx⟩
    · have := (List.cons.inj hs).1
      injection this with _ h2 _
      rw [h2, Nat.zero_mul]
      omega
    · have h1 := (List.cons.inj hs).1
      injection h1 with _ h2 _
      have hlen : els.length = len := by simpa using mapM_some_length hels
      have hx2 : D = .slice (els.map (·.1)) rest := hx
      subst hx2
      have z := sized_slice hsz ht hd hu
      rw [hB, List.length_map, hlen, ← h2] at z
      exact Nat.le_trans (Nat.mul_le_mul_right _ (Nat.le_add_right _ _)) z
end
end Go.Proofs.Ytefkhcijgiagdaa.Open
end
section
namespace Go.Proofs.Ytefkhcijgiagdaa.StatEmitNames
open Go.RowKit Go.Proofs.YtefkhcijgiagdaaW.PrintWords Go.Proofs.Ytefkhcijgiagdaa.Open Go.Proofs.Ytefkhcijgiagdaa.PEmitNames Go.Proofs.Ytefkhcijgiagdaa.Le Go.Proofs.Ytefkhcijgiagdaa.HKnown Go.Proofs.Ytefkhcijgiagdaa.I1 Go.Proofs.Ytefkhcijgiagdaa.E1 Go.Proofs.Ytefkhcijgiagdaa.HAsm Go.Proofs.Ytefkhcijgiagdaa.E2
set_option maxRecDepth 100000
def Q3 (x : Int) : Prop := (Lit.int .i64 x).wf = true
theorem opens3 : Opens Try.prog (Kd.int .i64) 3 Q3 := Opens.int .i64 Try.underlying3 (by kernel_rfl)
def Q24 (x : Int) : Prop := (Lit.int .u32 x).wf = true
theorem opens24 : Opens Try.prog (Kd.int .u32) 24 Q24 := Opens.int .u32 Try.underlying24 (by kernel_rfl)
def Q40 (x : S40) : Prop := Q3 x.f0 ∧ Q24 x.f1 ∧ Q3 x.f2 ∧ Q3 x.f3
theorem opens40 : Opens Try.prog k40 40 Q40 := by
  intro fuel
  cases fuel with
  | zero => exact OpensN.none (by kernel_rfl)
  | succ fuel => exact OpensN.struct Try.underlying40 (by kernel_rfl) (OpensF.iso (fun x : S40 => (x.f0, x.f1, x.f2, x.f3)) (fun p => ⟨p.1, p.2.1, p.2.2.1, p.2.2.2⟩) (fun _ => rfl) (OpensF.cons (by kernel_rfl) (opens3 fuel) (OpensF.cons (by kernel_rfl) (opens24 fuel) (OpensF.cons (by kernel_rfl) (opens3 fuel) (OpensF.last (by kernel_rfl) (opens3 fuel))))))
def Stat : Prop := ∀ (a0 : List S40) (a1 : Int), a0.length ≤ maxLen → a0.length * 32 ≤ 140737488351232 → (∀ x ∈ a0, Q40 x) → Q3 a1 → doorwardlaw21_EmitNames.f a0 a1 = some true
end Go.Proofs.Ytefkhcijgiagdaa.StatEmitNames
end
section
namespace Go.Proofs.Ytefkhcijgiagdaa.Pure
open Go.RowKit Go.Proofs.Ytefkhcijgiagdaa.StatEmitNames Go.Proofs.YtefkhcijgiagdaaW.PrintWords Go.Proofs.YtefkhcijgiagdaaW.PrintLast Go.Proofs.YtefkhcijgiagdaaW.PrintMore Go.Proofs.Ytefkhcijgiagdaa.PEmitNames Go.Proofs.Ytefkhcijgiagdaa.Le Go.Proofs.Ytefkhcijgiagdaa.HKnown Go.Proofs.Ytefkhcijgiagdaa.I1 Go.Proofs.Ytefkhcijgiagdaa.E1 Go.Proofs.Ytefkhcijgiagdaa.HAsm Go.Proofs.Ytefkhcijgiagdaa.E2 Go.Proofs.Ytefkhcijgiagdaa.QNum
theorem EmitNames : StatEmitNames.Stat := by
  intro l a _ _ hq _
  unfold doorwardlaw21_EmitNames.f
  refine if_pos (List.all_eq_true.2 fun o ho => ?_)
  rw [Bool.and_eq_true]
  exact ⟨decide_eq_true (wf_i64 (hq o ho).2.2.1), decide_eq_true (wf_i64 (hq o ho).2.2.2)⟩
end Go.Proofs.Ytefkhcijgiagdaa.Pure
end
section
namespace Go.Proofs.Ytefkhcijgiagdaa.emitNames
open Go.ChangeShapes Go.WideShapes Go.ChangeAt Go.RowKit Go.Proofs.Ytefkhcijgiagdaa.Open Go.Proofs.Ytefkhcijgiagdaa.StatEmitNames Go.Proofs.YtefkhcijgiagdaaW.PrintWords Go.Proofs.Ytefkhcijgiagdaa.PEmitNames Go.Proofs.Ytefkhcijgiagdaa.Le Go.Proofs.Ytefkhcijgiagdaa.HKnown Go.Proofs.Ytefkhcijgiagdaa.I1 Go.Proofs.Ytefkhcijgiagdaa.E1 Go.Proofs.Ytefkhcijgiagdaa.HAsm Go.Proofs.Ytefkhcijgiagdaa.E2
open Go.ChangeMaps (open_string shut_string)
set_option linter.unusedVariables false
open Go.Proofs.Ytefkhcijgiagdaa.Order (own laidOut)
open Go.Proofs.Ytefkhcijgiagdaa
set_option maxRecDepth 100000 in
set_option maxHeartbeats 1000000 in
theorem lifted (os : Os) (started : os.Started) (H : Type) (enc : TypeId × Value → H) :
    ReturnsInHanded {} Try.checked os 6 .any (Rows.emitNamesSpec.pre6 enc Try.prog Try.f6 Rows.emitNamesRow.domain false) (Rows.emitNamesSpec.post enc Try.prog Try.f6 false true false false) := by
  refine returnsInHanded_of_change_sized (C := Try.checked) own started (by kernel_rfl) Try.func6
    (ChangeSpec.witness6 (enc := enc) (C := Try.checked) false ⟨#[], #[.slice none 0 0, .int .i64 0], []⟩ 20 (by kernel_rfl) (by kernel_rfl) (by kernel_rfl) (by kernel_rfl)) ?_
  intro W base args ds gs before hval0 hW hcnd hsz0 _
  have hsz : (DataW.weightsEach Try.prog (Try.f6.params.toList ++ Rows.emitNamesSpec.plain.varTypes Try.prog) (ds ++ gs)).all (· ≤ reachBytes) = true := hsz0
  have hval : ∀ (j : Nat) t v, Try.f6.params[j]? = some t → args[j]? = some v → Value.okWide Try.prog W .any base t v := hval0
  have hW' := hW
  obtain ⟨p, q, hA0, hV, rfl, hfz, hnd⟩ := hW
  have hA : DataW.TrodAll enc Try.prog W 0 (fun _ => true) true Try.f6.params.toList args.toList ds p := hA0
  rw [Try.params6] at hA hval hsz
  obtain ⟨v0, vs0, d0, ds0, p0, q0, hargs, rfl, rfl, h0, r0⟩ := trodAll_cons hA
  obtain ⟨v1, vs1, d1, ds1, p1, q1, rfl, rfl, rfl, h1, r1⟩ := trodAll_cons r0
  obtain ⟨rfl, rfl, rfl⟩ := trodAll_nil r1
  obtain rfl : args = #[v0, v1] := by cases args; simp_all
  obtain ⟨rfl, rfl⟩ := trodVars_none hV
  have k0_ := h0
  have lt0 : ∀ x ∈ p0, x.block < W.heap.size := by obtain ⟨m, hm⟩ := k0_; exact DataW.trod_lt m _ _ _ hm
  obtain ⟨A0, c0, x0, rfl, hc0, hr0, hm0, hq0⟩ := slice_of Try.underlying33 (by kernel_rfl) (hval 0 33 v0 rfl rfl) opens40 h0
  have y0 : x0.length * 32 ≤ 140737488351232 := slice_sized hsz (j := 0) (t := 33) rfl rfl Try.underlying33 (by kernel_rfl) h0
  obtain ⟨x1, rfl, rfl, rfl, w1⟩ := open_int Try.underlying3 (hval 1 3 v1 rfl rfl) h1
  clear hA0 hval0 hsz0 hsz
  have hk := Pure.EmitNames x0 x1 hm0 y0 hq0 w1
  refine (doorwardlaw21_EmitNames.calls (hr0 := hr0) (hc0 := hc0) (r := true) (w := W) (h := hk)).mono ?_
  rintro e W' ⟨rfl, bel0⟩
  have bel := bel0
  exact ⟨_, rfl, _, _, _, [], _, [], hW', trodAll_mk1 (shut_bool Try.underlying4 _), (trodAll_cons_mk (Below.trod laidOut (by kernel_rfl) (of_decide_eq_true (by kernel_rfl)) k0_ bel lt0) (trodAll_cons_mk (shut_int Try.underlying3 w1) trodAll_mk0)), rfl, bel.frame _, fun h => by cases h⟩
set_option maxHeartbeats 4000000 in
theorem facts : joinedFacts Try.prog 6 Try.f6 Rows.emitNamesSpec Rows.emitNamesRow = true := by
  unfold joinedFacts
  repeat' (with_reducible refine (Bool.and_eq_true_iff).mpr ⟨?_, ?_⟩)
  all_goals first | (with_reducible exact Order.laidOut) | (with_reducible exact Order.mapsRowed) | (with_reducible exact Order.noStops) | (with_reducible exact Order.noKnobs) | (with_reducible exact Order.enter) | (with_reducible exact Order.heard) | (rw [Order.makes]; rfl) | (rw [Order.lifts]; rfl) | (as_aux_lemma => kernel_rfl)
theorem named : Try.prog.funcNamed "doorward/doorwardlaw21.EmitNames" = some 6 := by kernel_rfl
theorem inst : Try.f6.isInstance Try.prog Rows.emitNamesRow.origin Rows.emitNamesRow.targs := of_decide_eq_true (by kernel_rfl)
theorem wrap : Try.f6.isWrapper Try.prog Rows.emitNamesRow.wrapper Rows.emitNamesRow.mainSum := by unfold Func.isWrapper; first | (rw [if_pos (by decide +kernel)]; kernel_rfl) | (rw [if_neg (by decide +kernel)]; exact ⟨rfl, rfl⟩)
theorem over : Rows.emitNamesRow.holds Try.pinned (OpenSpec.ofChange Rows.emitNamesSpec) :=
  OpenClaim.holds_of_wide 6 Try.f6 rfl rfl rfl rfl rfl rfl rfl ⟨rfl, rfl, rfl, rfl, rfl⟩ rfl rfl rfl rfl rfl named Try.func6 facts inst wrap
    (fun os started H enc _ => lifted os started H enc)
theorem proved : Rows.EmitNamesSaid := over
#print axioms proved
end Go.Proofs.Ytefkhcijgiagdaa.emitNames
namespace Go.Proofs.Ytefkhcijgiagdaa
/-- The row, under a short name, for the claim. -/
theorem emitNames_holds : Rows.EmitNamesSaid := emitNames.proved
end Go.Proofs.Ytefkhcijgiagdaa
end
