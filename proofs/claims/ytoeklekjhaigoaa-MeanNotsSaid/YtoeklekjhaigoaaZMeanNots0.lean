/- MeanNots: a condition and the one that says it is not so: not both hold, one does. -/
import Derived.Test.YtoeklekjhaigoaaProg
import Derived.Below
import Derived.Deep.Draws
import Derived.Deep.AppendLies
import Derived.Maps.AppendAt
import Derived.OwnWalk
import Derived.Laws.BytesArg
import Derived.Laws.MakeOwn
import Derived.Laws.OwnMore
import Derived.Deep.OwnRows
import Derived.Tactics
import Derived.Lib.ConvBytes
import Derived.Laws.Slices
import Derived.WalkKit
import Derived.KernelRfl
import Derived.RowKit3
import Derived.Deep.LoopGhost
import Derived.Deep.QuietTactic
import Derived.BigQuiet
import Derived.WideLaws
import Derived.Deep.DeepCutAuto
import Derived.Deep.CutBlock
import Derived.Deep.RegionHeld3
import Derived.Laws.Rows
import Derived.Lib.AppendStr
import Derived.ArgAppend
import Derived.Laws.IdiomCopy
import Derived.OrdersHeld
import Derived.Laws.BitsLemmas
import Derived.RowKit
import Derived.Test.YtoeklekjhaigoaaWWords
import Derived.Test.YtoeklekjhaigoaaWLast
import Derived.Test.YtoeklekjhaigoaaWTab
import Derived.Test.YtoeklekjhaigoaaWApart
import Derived.Test.YtoeklekjhaigoaaWFoot
import Derived.Test.YtoeklekjhaigoaaWKept
import Derived.Test.YtoeklekjhaigoaaWShare
import Derived.Test.YtoeklekjhaigoaaWN
import Derived.Test.YtoeklekjhaigoaaWRepsOne
import Derived.Test.YtoeklekjhaigoaaWGuard
import Derived.Test.YtoeklekjhaigoaaWNEv
import Derived.Test.YtoeklekjhaigoaaWMore
import Derived.Maps.OwnSet
import Derived.StringKeys
import Derived.Laws.Tables
import Derived.Laws.CopyOwn
import Derived.Deep.WholeRow
import Derived.ChangeKeysEq
import Derived.Shelf.Abstract
import Derived.Deep.RegionLaw
import Derived.Laws.EntriesVeiled
import Derived.DataReads
import Derived.DataElems
import Derived.SizedLaws
import Derived.ProofKit
import Derived.Test.YtoeklekjhaigoaaRows
import Derived.Test.YtoeklekjhaigoaaOrder
import Derived.OpenShut
import Derived.ShutString
import Derived.ChangeOld
namespace Go.Proofs.Ytoeklekjhaigoaa.Al
open Go.RowKit Go.Proofs.YtoeklekjhaigoaaW.PrintWords
theorem amk {p : Prop} (h : p) : Aside0 p := ⟨h⟩
theorem pbd {B : Nat} {w W : World} (h : Below B w W) (n : Nat) : Below B w (W.drewN n) := pw_below_drewN h n
theorem bal {w W : World} (h : Below w.heap.size w W) (o : Obj) : Below w.heap.size w (W.alloc o) := below_alloc h o
end Go.Proofs.Ytoeklekjhaigoaa.Al
section
namespace Go.Proofs.Ytoeklekjhaigoaa.Le
open Go.Proofs.Ytoeklekjhaigoaa.Al Go.RowKit Go.Proofs.YtoeklekjhaigoaaW.PrintWords Go.Proofs.YtoeklekjhaigoaaW.PrintLast Go.Proofs.YtoeklekjhaigoaaW.PrintMore
attribute [local go_sem] max2_int min2_int max_two min_two max_three min_three max_four min_four IntKind.wrap_u32 IntKind.wrap_u8   -- for this text's walks alone
set_option linter.unusedVariables false
set_option linter.unusedSimpArgs false
def errW : Option Int → Value
  | none => .nilIface
  | some c => .iface 0 (.int .i64 c)
theorem errW_none : errW none = .nilIface := rfl
theorem errW_some (c : Int) : errW (some c) = .iface 0 (.int .i64 c) := rfl
end Go.Proofs.Ytoeklekjhaigoaa.Le
end
section
namespace Go.Proofs.Ytoeklekjhaigoaa.Le
open Go.Proofs.Ytoeklekjhaigoaa.Al Go.RowKit Go.Proofs.YtoeklekjhaigoaaW.PrintWords Go.Proofs.YtoeklekjhaigoaaW.PrintLast Go.Proofs.YtoeklekjhaigoaaW.PrintMore
attribute [local go_sem] max2_int min2_int max_two min_two max_three min_three max_four min_four IntKind.wrap_u32 IntKind.wrap_u8   -- for this text's walks alone
set_option linter.unusedVariables false
set_option linter.unusedSimpArgs false
mutual
def le_Get.j0 : Nat → ByteArray → Int → Int → Bool → Option (Int × Int × Int)
  | 0, _, _, _, _ => none
  | k + 1, x0, x1, x2, x11 => if x11 = true then (some (0, 0, 1)) else (if x1 > (x0.size : Int) then (some (0, 0, 3)) else (if (wrap64 ((x0.size : Int) - x1)) < x2 then (some (0, 0, 3)) else (le_Get.l0 k x0 x1 x2 0 x2 0)))
def le_Get.l0 : Nat → ByteArray → Int → Int → Int → Int → Int → Option (Int × Int × Int)
  | 0, _, _, _, _, _, _ => none
  | k + 1, x0, x1, x2, x9, x35, x36 => if x36 < x35 then (if 0 ≤ (wrap64 (x1 + x36)) then (if (wrap64 (x1 + x36)) < (x0.size : Int) then (if 0 ≤ (wrap64 (8 * x36)) then (le_Get.l0 k x0 x1 x2 (Go.bits .or .u64 x9 (shl .u64 (IntKind.u64.wrap (bt x0 (wrap64 (x1 + x36)))) (wrap64 (8 * x36)))) x35 (wrap64 (x36 + 1))) else (none)) else (none)) else (none)) else (some (x9, wrap64 (x1 + x2), 0))
end
def le_Get.f (k : Nat) (a0 : ByteArray) (a1 : Int) (a2 : Int) : Option (Int × Int × Int) := if a2 < 1 then (le_Get.j0 k a0 a1 a2 true) else (if a2 > 8 then (le_Get.j0 k a0 a1 a2 true) else (le_Get.j0 k a0 a1 a2 (decide (a1 < 0))))
set_option maxHeartbeats 8000000 in
set_option maxRecDepth 100000 in
theorem le_Get.calls (k : Nat) (a0 : ByteArray) (a1 : Int) (a2 : Int) (r1 : Int) (r2 : Int) (r3 : Int) (w : World) (h : le_Get.f k a0 a1 a2 = some (r1, r2, r3)) :
    Calls Try.prog 95 #[.string a0, .int .i64 a1, .int .i64 a2] w fun e w' => e = .returned (.tuple #[.int .u64 r1, .int .i64 r2, .int .i64 r3]) ∧ Drawn0 w w' := by
  have H : (if a2 < 1 then (le_Get.j0 k a0 a1 a2 true) else (if a2 > 8 then (le_Get.j0 k a0 a1 a2 true) else (le_Get.j0 k a0 a1 a2 (decide (a1 < 0))))) = some (r1, r2, r3) := h
  clear h
  have HC4 := amk H
  clear H
  go_enter Try.func95, Try.ntmps95
  go_upto_region 1 with (fail)
  go_cut [11] (fun v11 wc => ∃ (kq : Nat) (x11_3 : Bool), v11 = .bool x11_3 ∧ Aside0 (le_Get.j0 kq a0 a1 a2 x11_3 = some (r1, r2, r3)) ∧ Aside0 (kq ≤ k) ∧ Drawn0 w wc)
  case first =>
    have H := HC4.out
    clear HC4
    by_cases c5 : a2 < 1
    · rw [if_pos c5] at H
      have c5b0 : decide (a2 < 1) = true := decide_eq_true c5
      clear c5
      (first | rw [c5b0] | (simp only [i64_w, i32_w]; rw [c5b0]) | skip)
      have H' := amk H
      clear H
      go_wp2
      go_meet
      case rel => exact ⟨_, (true), (by first | rfl | (simp; done) | (simp [*]; done)), H', ⟨by first | omega | exact Nat.le_refl _⟩, by repeat (first | exact Drawn0.refl _ | apply Drawn0.step)⟩
    · rw [if_neg c5] at H
      have c5b0 : decide (a2 < 1) = false := decide_eq_false c5
      clear c5
      (first | rw [c5b0] | (simp only [i64_w, i32_w]; rw [c5b0]) | skip)
      by_cases c6 : a2 > 8
      · rw [if_pos c6] at H
        have c6b0 : decide (8 < a2) = true := decide_eq_true c6
        clear c6
        have H' := amk H
        clear H
        go_wp2
        go_meet
        case rel => exact ⟨_, (true), (by first | rfl | (simp; done) | (simp [*]; done)), H', ⟨by first | omega | exact Nat.le_refl _⟩, by repeat (first | exact Drawn0.refl _ | apply Drawn0.step)⟩
      · rw [if_neg c6] at H
        have c6b0 : decide (8 < a2) = false := decide_eq_false c6
        clear c6
        have H' := amk H
        clear H
        go_wp2
        go_meet
        case rel => exact ⟨_, (decide (a1 < 0)), (by first | rfl | (simp; done) | (simp [*]; done)), H', ⟨by first | omega | exact Nat.le_refl _⟩, by repeat (first | exact Drawn0.refl _ | apply Drawn0.step)⟩
  case rest =>
    clear HC4
    try clear p2
    try clear c5
    try clear c5b0
    try clear c6
    try clear c6b0
    obtain ⟨kq, x11_3, rfl, HA, HJ3, ⟨mc3, rfl⟩⟩ := hcut
    cases kq with
    | zero => exact absurd HA.out (by simp [le_Get.j0])
    | succ kj3 =>
      have H := HA.out
      clear HA
      simp only [le_Get.j0] at H
      by_cases c7 : x11_3 = true
      · subst c7
        have H1 : (some (0, 0, 1)) = some (r1, r2, r3) := by rw [if_pos rfl] at H; exact H
        clear H
        have H := H1
        clear H1
        simp only [Option.some.injEq, Prod.mk.injEq] at H
        obtain ⟨rfl, rfl, rfl⟩ := H
        go_wp2
        go_ret3
        exact ⟨by first | rfl | (simp; done) | (simp [*]; done), by repeat (first | exact Drawn0.refl _ | apply Drawn0.step)⟩
      · replace c7 := Bool.eq_false_iff.mpr c7
        subst c7
        have H1 : (if a1 > (a0.size : Int) then (some (0, 0, 3)) else (if (wrap64 ((a0.size : Int) - a1)) < a2 then (some (0, 0, 3)) else (le_Get.l0 kj3 a0 a1 a2 0 a2 0))) = some (r1, r2, r3) := by rw [if_neg (show ¬ (false = true) by decide)] at H; exact H
        clear H
        have H := H1
        clear H1
        by_cases c8 : a1 > (a0.size : Int)
        · rw [if_pos c8] at H
          have c8b0 : decide ((a0.size : Int) < a1) = true := decide_eq_true c8
          clear c8
          simp only [Option.some.injEq, Prod.mk.injEq] at H
          obtain ⟨rfl, rfl, rfl⟩ := H
          go_wp2
          go_ret3
          exact ⟨by first | rfl | (simp; done) | (simp [*]; done), by repeat (first | exact Drawn0.refl _ | apply Drawn0.step)⟩
        · rw [if_neg c8] at H
          have c8b0 : decide ((a0.size : Int) < a1) = false := decide_eq_false c8
          clear c8
          by_cases c9 : (wrap64 ((a0.size : Int) - a1)) < a2
          · rw [if_pos c9] at H
            have c9b0 : decide ((wrap64 ((a0.size : Int) - a1)) < a2) = true := decide_eq_true c9
            clear c9
            simp only [Option.some.injEq, Prod.mk.injEq] at H
            obtain ⟨rfl, rfl, rfl⟩ := H
            go_wp2
            go_ret3
            exact ⟨by first | rfl | (simp; done) | (simp [*]; done), by repeat (first | exact Drawn0.refl _ | apply Drawn0.step)⟩
          · rw [if_neg c9] at H
            have c9b0 : decide ((wrap64 ((a0.size : Int) - a1)) < a2) = false := decide_eq_false c9
            clear c9
            have H' := amk H
            clear H
            go_wp2
            go_loopg [9, 36] kj3 (fun kq v9 v36 w' => ∃ (x9_2 : Int) (x36_2 : Int), v9 = .int .u64 x9_2 ∧ v36 = .int .i64 x36_2 ∧ Aside0 (le_Get.l0 kq a0 a1 a2 x9_2 a2 x36_2 = some (r1, r2, r3)) ∧ Aside0 (kq ≤ kj3) ∧ Drawn0 w w')
            case atStart => exact ⟨(0), (0), (by first | rfl | (simp; done) | (simp [*]; done)), (by first | rfl | (simp; done) | (simp [*]; done)), H', ⟨Nat.le_refl _⟩, by repeat (first | exact Drawn0.refl _ | apply Drawn0.step)⟩
            case round =>
              clear H'
              try clear p2
              try clear c3
              try clear c5
              try clear c5b0
              try clear c6
              try clear c6b0
              try clear p6
              try clear c7
              try clear c8
              try clear c8b0
              try clear c9
              try clear c9b0
              try clear p2
              obtain ⟨x9_2, x36_2, rfl, rfl, HA, HK2, ⟨m2, rfl⟩⟩ := hrel
              cases gk with
              | zero => exact absurd HA.out (by simp [le_Get.l0])
              | succ k2 =>
                have H := HA.out
                clear HA
                simp only [le_Get.l0] at H
                by_cases c10 : x36_2 < a2
                · rw [if_pos c10] at H
                  have c10b0 : decide (x36_2 < a2) = true := decide_eq_true c10
                  clear c10
                  obtain ⟨ji11, hji11⟩ : ∃ j_ : Int, (wrap64 (a1 + x36_2)) = j_ := ⟨_, rfl⟩
                  replace H : (if 0 ≤ (ji11) then (if (ji11) < (a0.size : Int) then (if 0 ≤ (wrap64 (8 * x36_2)) then (le_Get.l0 k2 a0 a1 a2 (Go.bits .or .u64 x9_2 (shl .u64 (IntKind.u64.wrap (bt a0 (ji11))) (wrap64 (8 * x36_2)))) a2 (wrap64 (x36_2 + 1))) else (none)) else (none)) else (none)) = some (r1, r2, r3) := by first | (rw [hji11] at H; exact H) | (simp only [hji11] at H ⊢; exact H)
                  have hji11w : (IntKind.i64.wrap (a1 + x36_2)) = ji11 := (i64_w _).trans hji11
                  by_cases c12 : 0 ≤ (ji11)
                  · rw [if_pos c12] at H
                    have c12b0 : decide (0 ≤ (ji11)) = true := decide_eq_true c12
                    clear c12
                    by_cases c13 : (ji11) < (a0.size : Int)
                    · rw [if_pos c13] at H
                      have c13b0 : decide ((ji11) < (a0.size : Int)) = true := decide_eq_true c13
                      clear c13
                      obtain ⟨ji15, hji15⟩ : ∃ j_ : Int, (wrap64 (8 * x36_2)) = j_ := ⟨_, rfl⟩
                      replace H : (if 0 ≤ (ji15) then (le_Get.l0 k2 a0 a1 a2 (Go.bits .or .u64 x9_2 (shl .u64 (IntKind.u64.wrap (bt a0 (ji11))) (ji15))) a2 (wrap64 (x36_2 + 1))) else (none)) = some (r1, r2, r3) := by first | (rw [hji15] at H; exact H) | (simp only [hji15] at H ⊢; exact H)
                      have hji15w : (IntKind.i64.wrap (8 * x36_2)) = ji15 := (i64_w _).trans hji15
                      by_cases c16 : 0 ≤ (ji15)
                      · rw [if_pos c16] at H
                        have c16b0 := eq_true c16
                        have c16b1 : decide (0 ≤ (ji15)) = true := decide_eq_true c16
                        clear c16
                        obtain ⟨ji17, hji17⟩ : ∃ j_ : Int, (shl .u64 (IntKind.u64.wrap (bt a0 (ji11))) (ji15)) = j_ := ⟨_, rfl⟩
                        replace H : (le_Get.l0 k2 a0 a1 a2 (Go.bits .or .u64 x9_2 (ji17)) a2 (wrap64 (x36_2 + 1))) = some (r1, r2, r3) := by first | (rw [hji17] at H; exact H) | (simp only [hji17] at H ⊢; exact H)
                        have hji17_ : (IntKind.u64.wrap ((IntKind.u64.wrap (bt a0 (ji11))) * 2 ^ min (ji15).toNat 64)) = ji17 := hji17
                        have hji17z : (ji15) ≤ 64 → (IntKind.u64.wrap ((IntKind.u64.wrap (bt a0 (ji11))) * 2 ^ (ji15).toNat)) = ji17 := shl_small hji17
                        have H' := amk H
                        clear H
                        have p14 : 0 ≤ ((ji11) : Int) := of_decide_eq_true (by first | (with_reducible assumption) | assumption)
                        have q14 : (ji11) < (a0.size : Int) := of_decide_eq_true (by first | (with_reducible assumption) | assumption)
                        have hx14 := bt_at a0 (ji11)
                        replace p14 := eq_true p14
                        replace q14 := eq_true q14
                        go_wp2
                        go_roundg k2
                        case measure => have := HJ3.out; have := HK2.out; omega
                        case rel => exact ⟨(Go.bits .or .u64 x9_2 (ji17)), (wrap64 (x36_2 + 1)), (by first | rfl | (simp; done) | (simp only [← hji17] <;> (first | rfl | simp)) | (simp [*]; done)), (by first | rfl | (simp; done) | (simp [*]; done)), H', ⟨by have := HJ3.out; have := HK2.out; omega⟩, by repeat (first | exact Drawn0.refl _ | apply Drawn0.step)⟩
                      · rw [if_neg c16] at H
                        exact absurd H (by simp)
                    · rw [if_neg c13] at H
                      exact absurd H (by simp)
                  · rw [if_neg c12] at H
                    exact absurd H (by simp)
                · rw [if_neg c10] at H
                  have c10b0 : decide (x36_2 < a2) = false := decide_eq_false c10
                  clear c10
                  simp only [Option.some.injEq, Prod.mk.injEq] at H
                  obtain ⟨rfl, rfl, rfl⟩ := H
                  go_wp2
                  go_ret3
                  exact ⟨by first | rfl | (simp; done) | (simp [*]; done), by repeat (first | exact Drawn0.refl _ | apply Drawn0.step)⟩
end Go.Proofs.Ytoeklekjhaigoaa.Le
end
section
namespace Go.Proofs.Ytoeklekjhaigoaa.C1
open Go.Proofs.Ytoeklekjhaigoaa.Al Go.RowKit Go.Proofs.YtoeklekjhaigoaaW.PrintWords Go.Proofs.YtoeklekjhaigoaaW.PrintLast Go.Proofs.YtoeklekjhaigoaaW.PrintMore
attribute [local go_sem] max2_int min2_int max_two min_two max_three min_three max_four min_four IntKind.wrap_u32 IntKind.wrap_u8   -- for this text's walks alone
set_option linter.unusedVariables false
open Go.Proofs.Ytoeklekjhaigoaa.Le
set_option linter.unusedSimpArgs false
def errW : Option Int → Value
  | none => .nilIface
  | some c => .iface 0 (.int .i64 c)
theorem errW_none : errW none = .nilIface := rfl
theorem errW_some (c : Int) : errW (some c) = .iface 0 (.int .i64 c) := rfl
end Go.Proofs.Ytoeklekjhaigoaa.C1
end
section
namespace Go.Proofs.Ytoeklekjhaigoaa.C2
open Go.Proofs.Ytoeklekjhaigoaa.Al Go.RowKit Go.Proofs.YtoeklekjhaigoaaW.PrintWords Go.Proofs.YtoeklekjhaigoaaW.PrintLast Go.Proofs.YtoeklekjhaigoaaW.PrintMore
attribute [local go_sem] max2_int min2_int max_two min_two max_three min_three max_four min_four IntKind.wrap_u32 IntKind.wrap_u8   -- for this text's walks alone
set_option linter.unusedVariables false
open Go.Proofs.Ytoeklekjhaigoaa.Le Go.Proofs.Ytoeklekjhaigoaa.C1
set_option linter.unusedSimpArgs false
def errW : Option Int → Value
  | none => .nilIface
  | some c => .iface 0 (.int .i64 c)
theorem errW_none : errW none = .nilIface := rfl
theorem errW_some (c : Int) : errW (some c) = .iface 0 (.int .i64 c) := rfl
end Go.Proofs.Ytoeklekjhaigoaa.C2
end
section
namespace Go.Proofs.Ytoeklekjhaigoaa.WMap
open Go.RowKit
set_option linter.unusedVariables false
/-- Block b of w is a map of at most n entries; at key k it has L k. -/
def MapV (P : Program) (K : TypeId) (w : World) (b n : Nat) (L : Lit → Option Value) : Prop :=
  ∃ D : DataW Value, w.ownsMap P K (fun v => some (.held v, [])) b n D ∧ Maps.IsMap D ∧ ∀ (k : Lit) (z : DataW Value), D.atKey k z = match L k with | some v => .held v | none => z
section
variable {P : Program} {K : TypeId} {w : World} {b n : Nat} {L : Lit → Option Value}
theorem MapV.made (P : Program) (K : TypeId) (w : World) : MapV P K (w.alloc (.map #[] 0)) w.heap.size 0 (fun _ => none) := ⟨.map [], World.ownsMap_made _ _ _ _, Maps.isMap_empty, fun _ _ => rfl⟩
theorem MapV.store {t e : TypeId} (h : MapV P K w b n L) (hK : Maps.Keyed P K) (ht : P.underlying t = some (.map K e)) (hn : n < 1000000) {key val : Value} {kl : Lit} (hkey : keyOf P K key = some kl) (hk : WideAt.IsKeyLit kl) :
    ∃ w', (Instr.mapUpdate t (.map (some b)) key val).run P w = .ok () w' ∧ MapV P K w' b (n + 1) (fun x => if x.sameKey kl = true then some val else L x) ∧ w.grownBy w' (some b) := by
  obtain ⟨D, ho, hm, hat⟩ := h
  obtain ⟨w', hrun, ho', hg⟩ := ho.update (t := t) (e := e) hK ht (by unfold maxLen; omega) hkey (val := val) (d := .held val) (ps := []) rfl
  refine ⟨w', hrun, ⟨_, ho', hm.put _ _, fun x z => ?_⟩, hg⟩
  show _ = match (if x.sameKey kl = true then some val else L x) with | some v => _ | none => _
  by_cases hx : x = kl
  · subst hx
    rw [if_pos (WideAt.sameKey_self hk), Maps.atKey_put_same hm hk]
  · rw [if_neg (fun h => hx ((WideAt.sameKey_iff hk).1 h)), Maps.atKey_put_other hx, hat]
end
end Go.Proofs.Ytoeklekjhaigoaa.WMap
end
section
namespace Go.Proofs.Ytoeklekjhaigoaa.HAct
open Go.Proofs.Ytoeklekjhaigoaa.Al Go.RowKit Go.Proofs.YtoeklekjhaigoaaW.PrintWords Go.Proofs.YtoeklekjhaigoaaW.PrintLast Go.Proofs.YtoeklekjhaigoaaW.PrintMore Go.Proofs.Ytoeklekjhaigoaa.WMap
set_option linter.unusedVariables false
set_option linter.unusedSimpArgs false
set_option maxRecDepth 100000
theorem keyed9 : Maps.Keyed Try.prog 9 := Maps.string_keyed Try.underlying9
theorem keyS (s : ByteArray) (h : s.size ≤ maxLen) : keyOf Try.prog 9 (.string s) = some (.string s.data.toList) := by
  exact Go.WideMaps.keyOf_string_mk Try.underlying9 h
end Go.Proofs.Ytoeklekjhaigoaa.HAct
end
section
namespace Go.Proofs.Ytoeklekjhaigoaa.W0
open Go.Proofs.Ytoeklekjhaigoaa.Al Go.RowKit Go.Proofs.YtoeklekjhaigoaaW.PrintWords Go.Proofs.YtoeklekjhaigoaaW.PrintLast Go.Proofs.YtoeklekjhaigoaaW.PrintMore
attribute [local go_sem] max2_int min2_int max_two min_two max_three min_three max_four min_four IntKind.wrap_u32 IntKind.wrap_u8   -- for this text's walks alone
set_option linter.unusedVariables false
open Go.Proofs.Ytoeklekjhaigoaa.Le Go.Proofs.Ytoeklekjhaigoaa.C1 Go.Proofs.Ytoeklekjhaigoaa.C2 Go.Proofs.Ytoeklekjhaigoaa.HAct
set_option linter.unusedSimpArgs false
def errW : Option Int → Value
  | none => .nilIface
  | some c => .iface 0 (.int .i64 c)
theorem errW_none : errW none = .nilIface := rfl
theorem errW_some (c : Int) : errW (some c) = .iface 0 (.int .i64 c) := rfl
structure S40 where
  f0 : Int
  f1 : Int
  f2 : Int
  f3 : Int
def z40 : S40 := ⟨(0 : Int), (0 : Int), (0 : Int), (0 : Int)⟩
def k40 : Kd S40 := Kd.iso (Kd.pair (Kd.int .i64) (Kd.pair (Kd.int .u32) (Kd.pair (Kd.int .i64) (Kd.int .i64)))) (fun x : S40 => (x.f0, x.f1, x.f2, x.f3))
theorem k40_open {w : World} {x : S40} {cs : List Value} (h : k40.K w x cs) : cs = [.int .i64 x.f0, .int .u32 x.f1, .int .i64 x.f2, .int .i64 x.f3] := by
  obtain ⟨_, _, rfl, rfl, ⟨_, _, rfl, rfl, ⟨_, _, rfl, rfl, rfl⟩⟩⟩ := h
  exact rfl
def rd_T40 (xs : List S40) (i : Int) : S40 := xs.getD i.toNat z40
theorem at_T40 {w : World} {A : Option Addr} {n : Nat} {xs : List S40} (h : Kd.C k40 w A n xs) (i : Int) (h0 : 0 ≤ i) (h1 : i < n) : ∃ ad , A = some ad ∧ w.cell? (ad.add (i.toNat * 4)) = some (.int .i64 (rd_T40 xs i).f0) ∧ w.cell? ⟨(ad.add (i.toNat * 4)).block, (ad.add (i.toNat * 4)).off + 1, none⟩ = some (.int .u32 (rd_T40 xs i).f1) ∧ w.cell? ⟨(ad.add (i.toNat * 4)).block, (ad.add (i.toNat * 4)).off + 2, none⟩ = some (.int .i64 (rd_T40 xs i).f2) ∧ w.cell? ⟨(ad.add (i.toNat * 4)).block, (ad.add (i.toNat * 4)).off + 3, none⟩ = some (.int .i64 (rd_T40 xs i).f3) := by
  obtain ⟨ad, c, e, _, hK, hc0⟩ := Kd.C_get h z40 i h0 h1
  have hc : ∀ j u, c[j]? = some u → w.cell? (ad.add (i.toNat * 4 + j)) = some u := hc0
  obtain rfl := k40_open hK
  exact ⟨ad, e, hc 0 _ rfl, by rw [← add_field _ _ 1 (by omega)]; exact hc 1 _ rfl, by rw [← add_field _ _ 2 (by omega)]; exact hc 2 _ rfl, by rw [← add_field _ _ 3 (by omega)]; exact hc 3 _ rfl⟩
end Go.Proofs.Ytoeklekjhaigoaa.W0
end
section
namespace Go.Proofs.Ytoeklekjhaigoaa.HFrom
open Go.Proofs.Ytoeklekjhaigoaa.Al Go.RowKit Go.Proofs.YtoeklekjhaigoaaW.PrintWords Go.Proofs.YtoeklekjhaigoaaW.PrintLast Go.Proofs.YtoeklekjhaigoaaW.PrintMore Go.Proofs.Ytoeklekjhaigoaa.W0
set_option linter.unusedVariables false
set_option linter.unusedSimpArgs false
set_option maxRecDepth 100000
def idxN {α : Type} (p : α → Bool) : List α → Option Nat
  | [] => none
  | x :: l => if p x = true then some 0 else (idxN p l).map (· + 1)
def idxI {α : Type} (p : α → Bool) (l : List α) : Int := match idxN p l with | some i => (i : Int) | none => -1
theorem idxN_hit {α : Type} (p : α → Bool) (z : α) : ∀ (l : List α) (k : Nat), k < l.length → (∀ j, j < k → p (l.getD j z) = false) → p (l.getD k z) = true → idxN p l = some k := by
  intro l
  induction l with
  | nil => intro k h; exact absurd h (Nat.not_lt_zero _)
  | cons x l ih =>
    intro k h h1 h2
    unfold idxN
    cases k with
    | zero => rw [if_pos (by simpa using h2)]
    | succ k =>
      have h0 := h1 0 (by omega)
      rw [if_neg (by simpa using h0), ih k (by simpa using h) (fun j hj => by simpa using h1 (j + 1) (by omega)) (by simpa using h2)]
      rfl
theorem idxN_miss {α : Type} (p : α → Bool) (z : α) : ∀ (l : List α), (∀ j, j < l.length → p (l.getD j z) = false) → idxN p l = none := by
  intro l
  induction l with
  | nil => intro _; rfl
  | cons x l ih =>
    intro h1
    unfold idxN
    have h0 := h1 0 (by simp)
    rw [if_neg (by simpa using h0), ih (fun j hj => by simpa using h1 (j + 1) (by simpa using hj))]
    rfl
set_option maxHeartbeats 2000000 in
theorem idx_c {g : Nat} {lb : Array Value} (p : S40 → Bool) (eg : ∀ args w, (callFunc g args).run Try.prog w = .ok (.enter g args) w) (A : Option Addr) (c0 : Nat) (l : List S40) (w : World) (hC : Kd.C k40 w A l.length l) (hl : l.length ≤ 1000000)
    (hp : ∀ (W : World) (x : S40), Below w.heap.size w W → Calls Try.prog g (#[.agg #[.int .i64 x.f0, .int .u32 x.f1, .int .i64 x.f2, .int .i64 x.f3]] ++ lb) W fun e w' => e = .returned (.bool (p x)) ∧ Below W.heap.size W w') :
    Calls Try.prog 117 #[.slice A l.length c0, .func (.func g) #[] lb] w fun e w' => e = .returned (.int .i64 (idxI p l)) ∧ Below w.heap.size w w' := by
  go_enter Try.func117, Try.ntmps117
  go_wp2
  go_loopg [5, 8] l.length (fun gg _ s8 wr => ∃ kk : Nat, kk ≤ l.length ∧ l.length - kk ≤ gg ∧ s8 = .int .i64 kk ∧ Aside0 (Below w.heap.size w wr) ∧ Aside0 (∀ j, j < kk → p (l.getD j z40) = false))
  case atStart => exact ⟨0, Nat.zero_le _, by omega, rfl, ⟨Below.refl _ w⟩, ⟨fun j hj => absurd hj (Nat.not_lt_zero _)⟩⟩
  case round =>
    obtain ⟨kk, hkk, hg, rfl, BW, AA⟩ := hrel
    by_cases hlt : kk < l.length
    · have hltz : (kk : Int) < (l.length : Int) := by omega
      obtain ⟨ad, e102, hx0, hx1, hx2, hx3⟩ := at_T40 (Kd.C_below hC BW.out) (kk : Int) (by omega) (by omega)
      cases e102
      have hcall := hp wr (l.getD kk z40) BW.out
      have hrd : rd_T40 l (kk : Int) = l.getD kk z40 := rfl
      rw [hrd] at hx0 hx1 hx2 hx3
      simp only [Int.toNat_natCast] at hx0 hx1 hx2 hx3
      clear hrd hC hp
      generalize hy : l.getD kk z40 = y at hx0 hx1 hx2 hx3 hcall
      have B : Aside0 (l.getD kk z40 = y) := ⟨hy⟩
      clear hy
      cases hq : p y with
      | true =>
        rw [hq] at hcall
        go_wp2_with (go_at_fn g; refine hcall.mono ?_; rintro e w' ⟨rfl, hb'⟩)
        go_ret
        refine ⟨?_, below_step BW.out hb'⟩
        unfold idxI
        rw [idxN_hit p z40 l kk hlt AA.out (by rw [B.out]; exact hq)]; rfl
      | false =>
        rw [hq] at hcall
        go_wp2_with (go_at_fn g; refine hcall.mono ?_; rintro e w' ⟨rfl, hb'⟩)
        go_roundg (l.length - (kk + 1))
        case measure => omega
        case rel =>
          refine ⟨kk + 1, by omega, by omega, by go_num, ⟨below_step BW.out hb'⟩, ⟨fun j hj => ?_⟩⟩
          by_cases e : j = kk
          · subst e
            rw [B.out]; exact hq
          · exact AA.out j (by omega)
    · have hltz : ¬ (kk : Int) < (l.length : Int) := by omega
      obtain rfl : kk = l.length := by omega
      clear hC hp
      go_wp2
      go_ret
      refine ⟨?_, BW.out⟩
      unfold idxI
      rw [idxN_miss p z40 l AA.out]; rfl
end Go.Proofs.Ytoeklekjhaigoaa.HFrom
end
section
namespace Go.Proofs.Ytoeklekjhaigoaa.W1
open Go.Proofs.Ytoeklekjhaigoaa.Al Go.RowKit Go.Proofs.YtoeklekjhaigoaaW.PrintWords Go.Proofs.YtoeklekjhaigoaaW.PrintLast Go.Proofs.YtoeklekjhaigoaaW.PrintMore
attribute [local go_sem] max2_int min2_int max_two min_two max_three min_three max_four min_four IntKind.wrap_u32 IntKind.wrap_u8   -- for this text's walks alone
set_option linter.unusedVariables false
open Go.Proofs.Ytoeklekjhaigoaa.Le Go.Proofs.Ytoeklekjhaigoaa.C1 Go.Proofs.Ytoeklekjhaigoaa.C2 Go.Proofs.Ytoeklekjhaigoaa.HAct Go.Proofs.Ytoeklekjhaigoaa.W0 Go.Proofs.Ytoeklekjhaigoaa.HFrom
set_option linter.unusedSimpArgs false
def errW : Option Int → Value
  | none => .nilIface
  | some c => .iface 0 (.int .i64 c)
theorem errW_none : errW none = .nilIface := rfl
theorem errW_some (c : Int) : errW (some c) = .iface 0 (.int .i64 c) := rfl
end Go.Proofs.Ytoeklekjhaigoaa.W1
end
section
namespace Go.Proofs.Ytoeklekjhaigoaa.R01
open Go.Proofs.Ytoeklekjhaigoaa.Al Go.RowKit Go.Proofs.YtoeklekjhaigoaaW.PrintWords Go.Proofs.YtoeklekjhaigoaaW.PrintLast Go.Proofs.YtoeklekjhaigoaaW.PrintMore
attribute [local go_sem] max2_int min2_int max_two min_two max_three min_three max_four min_four IntKind.wrap_u32 IntKind.wrap_u8   -- for this text's walks alone
set_option linter.unusedVariables false
open Go.Proofs.Ytoeklekjhaigoaa.Le Go.Proofs.Ytoeklekjhaigoaa.C1 Go.Proofs.Ytoeklekjhaigoaa.C2 Go.Proofs.Ytoeklekjhaigoaa.HAct Go.Proofs.Ytoeklekjhaigoaa.W0 Go.Proofs.Ytoeklekjhaigoaa.HFrom Go.Proofs.Ytoeklekjhaigoaa.W1
set_option linter.unusedSimpArgs false
def errW : Option Int → Value
  | none => .nilIface
  | some c => .iface 0 (.int .i64 c)
theorem errW_none : errW none = .nilIface := rfl
theorem errW_some (c : Int) : errW (some c) = .iface 0 (.int .i64 c) := rfl
end Go.Proofs.Ytoeklekjhaigoaa.R01
end
section
namespace Go.Proofs.Ytoeklekjhaigoaa.QLe
open Go.Proofs.Ytoeklekjhaigoaa.Al Go.RowKit Go.Proofs.YtoeklekjhaigoaaW.PrintWords Go.Proofs.YtoeklekjhaigoaaW.PrintLast Go.Proofs.YtoeklekjhaigoaaW.PrintMore Go.Proofs.Ytoeklekjhaigoaa.Le
set_option linter.unusedVariables false
set_option linter.unusedSimpArgs false
def leval (s : ByteArray) (p : Int) : Nat → Int
  | 0 => 0
  | j + 1 => leval s p j + bt s (p + j) * 256 ^ j
theorem pow256 (j : Nat) : (0 : Int) < 256 ^ j := Int.pow_pos (by decide)
theorem p7 (i : Nat) (h : i < 8) : (256 : Int) ^ i ≤ 72057594037927936 := by
  match i, h with
  | 0, _ | 1, _ | 2, _ | 3, _ | 4, _ | 5, _ | 6, _ | 7, _ => decide
theorem leval_range (s : ByteArray) (p : Int) (j : Nat) : 0 ≤ leval s p j ∧ leval s p j < 256 ^ j := by
  induction j with
  | zero => simp [leval]
  | succ j ih =>
    have hb := bt_range s (p + j)
    have hp := pow256 j
    have h1 : bt s (p + j) * 256 ^ j ≤ 255 * 256 ^ j := Int.mul_le_mul_of_nonneg_right hb.2 (Int.le_of_lt hp)
    have h2 : 0 ≤ bt s (p + j) * 256 ^ j := Int.mul_nonneg hb.1 (Int.le_of_lt hp)
    have h3 : (256 : Int) ^ (j + 1) = 256 ^ j * 256 := Int.pow_succ ..
    simp only [leval]
    omega
theorem w64 (x : Int) (h : -9223372036854775808 ≤ x) (h2 : x ≤ 9223372036854775807) : wrap64 x = x := by unfold wrap64; omega
theorem u64_small (x : Int) (h0 : 0 ≤ x) (h1 : x < 18446744073709551616) : IntKind.u64.wrap x = x := by
  have e : IntKind.u64.wrap x = x % 18446744073709551616 := rfl
  rw [e]; exact Int.emod_eq_of_lt h0 h1
theorem or_low (i : Nat) (x y : Int) (hx0 : 0 ≤ x) (hx : x < 2 ^ i) (hy0 : 0 ≤ y) (hy : y % 2 ^ i = 0) (hx1 : x < 2 ^ 64) (hy1 : y < 2 ^ 64) : Go.bits .or .u64 x y = x + y := by
  have hw : ∀ n : Int, 0 ≤ n → n < 2 ^ 64 → IntKind.u64.wrap n = n := by
    intro n a b
    exact u64_small n a (by have e64 : (2 : Int) ^ 64 = 18446744073709551616 := by decide
                            omega)
  have h := Go.bits_join .u64 64 (by decide) hw i y x hy0 hy hy1 hx0 hx hx1
  have hc : Go.bits .or .u64 x y = Go.bits .or .u64 y x := by
    simp only [Go.bits]
    rw [BitVec.or_comm]
  rw [hc, h]; omega
theorem pow_shift (i : Nat) : (2 : Int) ^ (8 * i) = 256 ^ i := by rw [Int.pow_mul]; rfl
theorem shl_byte (c : Int) (i : Nat) (h0 : 0 ≤ c) (h1 : c ≤ 255) (hi : i < 8) : shl .u64 (IntKind.u64.wrap c) (wrap64 (8 * (i : Int))) = c * 256 ^ i := by
  have e : (wrap64 (8 * (i : Int))).toNat = 8 * i := by rw [w64 _ (by omega) (by omega)]; omega
  have hm : min (8 * i) 64 = 8 * i := by omega
  have hp := pow256 i
  have h8 := p7 i hi
  have h2 : c * 256 ^ i ≤ 255 * 256 ^ i := Int.mul_le_mul_of_nonneg_right h1 (Int.le_of_lt hp)
  have h3 : 0 ≤ c * 256 ^ i := Int.mul_nonneg h0 (Int.le_of_lt hp)
  unfold shl
  rw [u64_small c h0 (by omega), e, show IntKind.u64.bits = 64 from rfl, hm, pow_shift, u64_small _ h3 (by omega)]
theorem get_loop (s : ByteArray) (p : Int) (sz : Nat) (hp : 0 ≤ p) (hs : p + sz ≤ s.size) (hz : s.size ≤ 4611686018427387904) (h8 : sz ≤ 8) :
    ∀ d i : Nat, i + d = sz → ∀ k, d < k → le_Get.l0 k s p sz (leval s p i) sz i = some (leval s p sz, p + sz, 0) := by
  intro d
  induction d with
  | zero =>
    intro i hi k hk
    obtain ⟨k, rfl⟩ : ∃ m, k = m + 1 := ⟨k - 1, by omega⟩
    obtain rfl : i = sz := by omega
    simp only [le_Get.l0]
    rw [if_neg (by omega), w64 _ (by omega) (by omega)]
  | succ d ih =>
    intro i hi k hk
    obtain ⟨k, rfl⟩ : ∃ m, k = m + 1 := ⟨k - 1, by omega⟩
    have hb := bt_range s (p + i)
    have hl := leval_range s p i
    simp only [le_Get.l0]
    rw [if_pos (by omega), w64 (p + i) (by omega) (by omega), if_pos (by omega), if_pos (by omega), if_pos (by rw [w64 _ (by omega) (by omega)]; omega), shl_byte _ i hb.1 hb.2 (by omega), w64 ((i : Int) + 1) (by omega) (by omega)]
    have hpp := pow256 i
    have h7 := p7 i (by omega)
    have e64 : (2 : Int) ^ 64 = 18446744073709551616 := by decide
    have h1 : bt s (p + i) * 256 ^ i ≤ 255 * 256 ^ i := Int.mul_le_mul_of_nonneg_right hb.2 (Int.le_of_lt hpp)
    have h2 : 0 ≤ bt s (p + i) * 256 ^ i := Int.mul_nonneg hb.1 (Int.le_of_lt hpp)
    rw [or_low (8 * i) _ _ hl.1 (by rw [pow_shift]; exact hl.2) h2 (by rw [pow_shift]; exact Int.mul_emod_left ..) (by omega) (by omega)]
    have := ih (i + 1) (by omega) k (by omega)
    simpa [leval] using this
theorem get_ok (s : ByteArray) (p : Int) (sz : Nat) (h1 : 1 ≤ sz) (h8 : sz ≤ 8) (hp : 0 ≤ p) (hs : p + sz ≤ s.size) (hz : s.size ≤ 4611686018427387904) :
    ∀ k, 10 ≤ k → le_Get.f k s p sz = some (leval s p sz, p + sz, 0) := by
  intro k hk
  obtain ⟨k, rfl⟩ : ∃ m, k = m + 1 := ⟨k - 1, by omega⟩
  unfold le_Get.f
  rw [if_neg (by omega), if_neg (by omega), decide_eq_false (by omega)]
  simp only [le_Get.j0]
  rw [if_neg (by decide), if_neg (by omega), if_neg (by rw [w64 _ (by omega) (by omega)]; omega)]
  exact get_loop s p sz hp hs hz h8 sz 0 (by omega) k (by omega)
end Go.Proofs.Ytoeklekjhaigoaa.QLe
end
section
namespace Go.Proofs.Ytoeklekjhaigoaa.HPack
open Go.Proofs.Ytoeklekjhaigoaa.Al Go.RowKit Go.Proofs.YtoeklekjhaigoaaW.PrintWords Go.Proofs.YtoeklekjhaigoaaW.PrintLast Go.Proofs.YtoeklekjhaigoaaW.PrintMore Go.Proofs.Ytoeklekjhaigoaa.Le Go.Proofs.Ytoeklekjhaigoaa.QLe
set_option linter.unusedVariables false
set_option linter.unusedSimpArgs false
set_option maxRecDepth 100000
/-- The arguments of a call. -/
def ar (a0 a1 a2 a3 a4 a5 : Int) : Nat → Int
  | 0 => a0
  | 1 => a1
  | 2 => a2
  | 3 => a3
  | 4 => a4
  | _ => a5
end Go.Proofs.Ytoeklekjhaigoaa.HPack
end
section
namespace Go.Proofs.Ytoeklekjhaigoaa.HUnpack
open Go.Proofs.Ytoeklekjhaigoaa.Al Go.RowKit Go.Proofs.YtoeklekjhaigoaaW.PrintWords Go.Proofs.YtoeklekjhaigoaaW.PrintLast Go.Proofs.YtoeklekjhaigoaaW.PrintMore Go.Proofs.Ytoeklekjhaigoaa.Le Go.Proofs.Ytoeklekjhaigoaa.QLe Go.Proofs.Ytoeklekjhaigoaa.HPack
set_option linter.unusedVariables false
set_option linter.unusedSimpArgs false
set_option maxRecDepth 100000
theorem get_any (s : ByteArray) (p : Nat) (sz : Nat) (w : World) (h1 : 1 ≤ sz) (h8 : sz ≤ 8) (hp : p + sz ≤ s.size) (hz : s.size ≤ 1000) :
    Calls Try.prog 95 #[.string s, .int .i64 (p : Int), .int .i64 (sz : Int)] w fun e w' => e = .returned (.tuple #[.int .u64 (leval s p sz), .int .i64 ((p : Int) + (sz : Int)), .int .i64 0]) ∧ Below w.heap.size w w' :=
  (le_Get.calls 20 s (p : Int) (sz : Int) (leval s p sz) ((p : Int) + (sz : Int)) 0 w (get_ok s (p : Int) sz h1 h8 (by omega) (by omega) (by omega) 20 (by omega))).mono (fun e w' h => ⟨h.1, by obtain ⟨n, rfl⟩ := h.2.out; exact pbd (Below.refl _ _) n⟩)
def NextPost (sb ab : Nat) (s : ByteArray) (p n : Int) (w : World) (e : Ending) (w' : World) : Prop := e = .returned (.int .u64 n) ∧ w'.heap[ab]? = some (.cells #[.int .i64 p] 3 (0, 0)) ∧ Below ab w w' ∧ KeepBut w w' ab none
set_option maxHeartbeats 1000000 in
theorem next_c {w : World} {sb ab : Nat} {s : ByteArray} {p : Nat} (hs : w.heap[sb]? = some (.cells #[.string s] 9 (0, 0))) (ha : w.heap[ab]? = some (.cells #[.int .i64 (p : Int)] 3 (0, 0))) (sz : Nat) (h1 : 1 ≤ sz) (h8 : sz ≤ 8) (hp : p + sz ≤ s.size) (hz : s.size ≤ 1000) :
    Calls Try.prog 96 #[.int .i64 (sz : Int), .pointer (some ⟨sb, 0, none⟩), .pointer (some ⟨ab, 0, none⟩)] w (NextPost sb ab s ((p : Int) + (sz : Int)) (leval s p sz) w) := by
  have hget := fun W => get_any s p sz W h1 h8 hp hz
  have k1 := blk_cell hs 0
  have k2 := blk_cell ha 0
  have l1 := blk_lt hs
  have l2 := blk_lt ha
  have HA := amk ha
  clear hs ha
  generalize leval s p sz = n at *
  go_enter Try.func96, Try.ntmps96
  go_wp2_with (go_at_call 95; refine (hget _).mono ?_; rintro e w1 ⟨rfl, hb1⟩; have hw1 := blk_below HA.out hb1; have k0 := blk_cell hw1 0; have f0 := blk_frozen hw1 0; have HW1 := amk hw1; clear hw1)
  go_ret
  exact ⟨rfl, blk_put HW1.out 0 _ rfl, (below_then (Below.refl ab w) (Nat.le_of_lt l2) hb1).setCell (p := ⟨ab, 0, none⟩) (Nat.le_refl _) _, by simp [World.setCell]; exact hb1.size, fun i hi hne _ => (Below.heap_setCell _ _ _ _ hne).trans (hb1.block i hi)⟩
structure US (w0 w : World) (cb : Nat) (s : ByteArray) (p : Nat) (cs : Array Value) : Prop where
  hs : w.heap[w0.heap.size]? = some (.cells #[.string s] 9 (0, 0))
  hr : w.heap[w0.heap.size + 1]? = some (.cells #[.int .u32 0, .int .u32 0, .int .u64 0, .int .u64 0, .int .u64 0, .int .u64 0, .int .u64 0, .int .u64 0, .int .u64 0] 49 (0, 0))
  ha : w.heap[w0.heap.size + 1 + 1]? = some (.cells #[.int .i64 (p : Int)] 3 (0, 0))
  hc : w.heap[cb]? = some (.cells cs 49 (0, 0))
  hb : Below w0.heap.size w0 w
  hlt : w0.heap.size + 1 + 1 < cb
theorem US.next {w0 w w' : World} {cb : Nat} {s : ByteArray} {p q : Nat} {cs : Array Value} {n : Int} {e : Ending} (h : US w0 w cb s p cs) (k : NextPost w0.heap.size (w0.heap.size + 1 + 1) s (q : Int) n w e w') : US w0 w' cb s q cs := by
  obtain ⟨_, k1, k2, k3⟩ := k
  have := h.hlt
  exact ⟨(k3.2 _ (blk_lt h.hs) (by omega) (by simp)).trans h.hs, (k3.2 _ (blk_lt h.hr) (by omega) (by simp)).trans h.hr, k1, (k3.2 _ (blk_lt h.hc) (by omega) (by simp)).trans h.hc, below_weaken h.hb (by omega) k2, h.hlt⟩
theorem US.put {w0 w : World} {cb : Nat} {s : ByteArray} {p : Nat} {cs cs' : Array Value} (h : US w0 w cb s p cs) (i : Nat) (u : Value) (e : cs.setIfInBounds i u = cs') : US w0 (w.setCell ⟨cb, i, none⟩ u) cb s p cs' := by
  have := h.hlt
  exact ⟨(Below.heap_setCell _ _ _ _ (by simp only; omega)).trans h.hs, (Below.heap_setCell _ _ _ _ (by simp only; omega)).trans h.hr, (Below.heap_setCell _ _ _ _ (by simp only; omega)).trans h.ha, blk_put h.hc i u e, h.hb.setCell (p := ⟨cb, i, none⟩) (by simp only; omega) _, h.hlt⟩
theorem US.call {w0 w : World} {cb : Nat} {s : ByteArray} {p : Nat} {cs : Array Value} (h : US w0 w cb s p cs) (sz : Nat) (h1 : 1 ≤ sz) (h8 : sz ≤ 8) (hp : p + sz ≤ s.size) (hz : s.size ≤ 1000) :
    Calls Try.prog 96 #[.int .i64 (sz : Int), .pointer (some ⟨w0.heap.size, 0, none⟩), .pointer (some ⟨w0.heap.size + 1 + 1, 0, none⟩)] w fun e w' => e = .returned (.int .u64 (leval s p sz)) ∧ US w0 w' cb s (p + sz) cs :=
  (next_c h.hs h.ha sz h1 h8 hp hz).mono (fun e w' k => ⟨k.1, h.next (q := p + sz) (n := leval s p sz) (by have k' := k; unfold NextPost at k' ⊢; rw [Int.natCast_add]; exact k')⟩)
theorem nine {w : World} {g : Nat} (h : w.heap[g]? = some (.cells #[.int .u32 0, .int .u32 0, .int .u64 0, .int .u64 0, .int .u64 0, .int .u64 0, .int .u64 0, .int .u64 0, .int .u64 0] 49 (0, 0))) (v0 v1 v2 v3 v4 v5 v6 v7 v8 : Value) : (((((((((w.setCell ⟨g, 0, none⟩ v0).setCell ⟨g, 1, none⟩ v1).setCell ⟨g, 2, none⟩ v2).setCell ⟨g, 3, none⟩ v3).setCell ⟨g, 4, none⟩ v4).setCell ⟨g, 5, none⟩ v5).setCell ⟨g, 6, none⟩ v6).setCell ⟨g, 7, none⟩ v7).setCell ⟨g, 8, none⟩ v8).heap[g]? = some (.cells #[v0, v1, v2, v3, v4, v5, v6, v7, v8] 49 (0, 0)) := by
  have h0 := blk_put (cs' := #[v0, .int .u32 0, .int .u64 0, .int .u64 0, .int .u64 0, .int .u64 0, .int .u64 0, .int .u64 0, .int .u64 0]) h 0 v0 rfl
  have h1 := blk_put (cs' := #[v0, v1, .int .u64 0, .int .u64 0, .int .u64 0, .int .u64 0, .int .u64 0, .int .u64 0, .int .u64 0]) h0 1 v1 rfl
  have h2 := blk_put (cs' := #[v0, v1, v2, .int .u64 0, .int .u64 0, .int .u64 0, .int .u64 0, .int .u64 0, .int .u64 0]) h1 2 v2 rfl
  have h3 := blk_put (cs' := #[v0, v1, v2, v3, .int .u64 0, .int .u64 0, .int .u64 0, .int .u64 0, .int .u64 0]) h2 3 v3 rfl
  have h4 := blk_put (cs' := #[v0, v1, v2, v3, v4, .int .u64 0, .int .u64 0, .int .u64 0, .int .u64 0]) h3 4 v4 rfl
  have h5 := blk_put (cs' := #[v0, v1, v2, v3, v4, v5, .int .u64 0, .int .u64 0, .int .u64 0]) h4 5 v5 rfl
  have h6 := blk_put (cs' := #[v0, v1, v2, v3, v4, v5, v6, .int .u64 0, .int .u64 0]) h5 6 v6 rfl
  have h7 := blk_put (cs' := #[v0, v1, v2, v3, v4, v5, v6, v7, .int .u64 0]) h6 7 v7 rfl
  have h8 := blk_put (cs' := #[v0, v1, v2, v3, v4, v5, v6, v7, v8]) h7 8 v8 rfl
  exact h8
theorem nine_below {w0 w : World} {B g : Nat} (h : Below B w0 w) (hg : B ≤ g) (v0 v1 v2 v3 v4 v5 v6 v7 v8 : Value) : Below B w0 (((((((((w.setCell ⟨g, 0, none⟩ v0).setCell ⟨g, 1, none⟩ v1).setCell ⟨g, 2, none⟩ v2).setCell ⟨g, 3, none⟩ v3).setCell ⟨g, 4, none⟩ v4).setCell ⟨g, 5, none⟩ v5).setCell ⟨g, 6, none⟩ v6).setCell ⟨g, 7, none⟩ v7).setCell ⟨g, 8, none⟩ v8) :=
  (Below.setCell (Below.setCell (Below.setCell (Below.setCell (Below.setCell (Below.setCell (Below.setCell (Below.setCell (Below.setCell h (p := ⟨g, 0, none⟩) hg v0) (p := ⟨g, 1, none⟩) hg v1) (p := ⟨g, 2, none⟩) hg v2) (p := ⟨g, 3, none⟩) hg v3) (p := ⟨g, 4, none⟩) hg v4) (p := ⟨g, 5, none⟩) hg v5) (p := ⟨g, 6, none⟩) hg v6) (p := ⟨g, 7, none⟩) hg v7) (p := ⟨g, 8, none⟩) hg v8)
end Go.Proofs.Ytoeklekjhaigoaa.HUnpack
end
section
namespace Go.Proofs.Ytoeklekjhaigoaa.HRefPack
open Go.Proofs.Ytoeklekjhaigoaa.Al Go.RowKit Go.Proofs.YtoeklekjhaigoaaW.PrintWords Go.Proofs.YtoeklekjhaigoaaW.PrintLast Go.Proofs.YtoeklekjhaigoaaW.PrintMore Go.Proofs.Ytoeklekjhaigoaa.Le Go.Proofs.Ytoeklekjhaigoaa.R01 Go.Proofs.Ytoeklekjhaigoaa.W0 Go.Proofs.Ytoeklekjhaigoaa.QLe Go.Proofs.Ytoeklekjhaigoaa.HPack Go.Proofs.Ytoeklekjhaigoaa.HUnpack
set_option linter.unusedVariables false
set_option linter.unusedSimpArgs false
set_option maxRecDepth 100000
def CB (w : World) (cb : Nat) (nr arch ip a0 a1 a2 a3 a4 a5 : Int) : Prop := w.heap[cb]? = some (.cells #[.int .u32 nr, .int .u32 arch, .int .u64 ip, .int .u64 a0, .int .u64 a1, .int .u64 a2, .int .u64 a3, .int .u64 a4, .int .u64 a5] 49 (0, 0))
theorem CB.cell {w : World} {cb : Nat} {nr arch ip a0 a1 a2 a3 a4 a5 : Int} (h : CB w cb nr arch ip a0 a1 a2 a3 a4 a5) (j : Nat) (hj : j < 6) : w.cell? ⟨cb, 3 + j, none⟩ = some (.int .u64 (ar a0 a1 a2 a3 a4 a5 j)) := by
  refine (blk_cell h (3 + j)).trans ?_
  match j, hj with
  | 0, _ | 1, _ | 2, _ | 3, _ | 4, _ | 5, _ => rfl
structure UR (w0 w : World) (cs : Array Value) : Prop where
  hr : w.heap[w0.heap.size]? = some (.cells #[.int .u32 0, .int .u32 0, .int .u64 0, .int .u64 0, .int .u64 0, .int .u64 0, .int .u64 0, .int .u64 0, .int .u64 0] 49 (0, 0))
  hc : w.heap[w0.heap.size + 1]? = some (.cells cs 49 (0, 0))
  hb : Below w0.heap.size w0 w
theorem UR.put {w0 w : World} {cs cs' : Array Value} (h : UR w0 w cs) (i : Nat) (u : Value) (e : cs.setIfInBounds i u = cs') : UR w0 (w.setCell ⟨w0.heap.size + 1, i, none⟩ u) cs' :=
  ⟨blk_far h.hr (show w0.heap.size ≠ w0.heap.size + 1 by omega) u, blk_put h.hc i u e, Below.setCell h.hb (p := ⟨w0.heap.size + 1, i, none⟩) (Nat.le_succ _) u⟩
theorem UR.nine {w0 w : World} (h : UR w0 w #[.int .u32 0, .int .u32 0, .int .u64 0, .int .u64 0, .int .u64 0, .int .u64 0, .int .u64 0, .int .u64 0, .int .u64 0]) (v0 v1 v2 v3 v4 v5 v6 v7 v8 : Value) : UR w0 (((((((((w.setCell ⟨w0.heap.size + 1, 0, none⟩ v0).setCell ⟨w0.heap.size + 1, 1, none⟩ v1).setCell ⟨w0.heap.size + 1, 2, none⟩ v2).setCell ⟨w0.heap.size + 1, 3, none⟩ v3).setCell ⟨w0.heap.size + 1, 4, none⟩ v4).setCell ⟨w0.heap.size + 1, 5, none⟩ v5).setCell ⟨w0.heap.size + 1, 6, none⟩ v6).setCell ⟨w0.heap.size + 1, 7, none⟩ v7).setCell ⟨w0.heap.size + 1, 8, none⟩ v8) #[v0, v1, v2, v3, v4, v5, v6, v7, v8] :=
  ⟨blk_far (blk_far (blk_far (blk_far (blk_far (blk_far (blk_far (blk_far (blk_far h.hr (p := ⟨w0.heap.size + 1, 0, none⟩) (Nat.ne_of_lt (Nat.lt_succ_self _)) v0) (p := ⟨w0.heap.size + 1, 1, none⟩) (Nat.ne_of_lt (Nat.lt_succ_self _)) v1) (p := ⟨w0.heap.size + 1, 2, none⟩) (Nat.ne_of_lt (Nat.lt_succ_self _)) v2) (p := ⟨w0.heap.size + 1, 3, none⟩) (Nat.ne_of_lt (Nat.lt_succ_self _)) v3) (p := ⟨w0.heap.size + 1, 4, none⟩) (Nat.ne_of_lt (Nat.lt_succ_self _)) v4) (p := ⟨w0.heap.size + 1, 5, none⟩) (Nat.ne_of_lt (Nat.lt_succ_self _)) v5) (p := ⟨w0.heap.size + 1, 6, none⟩) (Nat.ne_of_lt (Nat.lt_succ_self _)) v6) (p := ⟨w0.heap.size + 1, 7, none⟩) (Nat.ne_of_lt (Nat.lt_succ_self _)) v7) (p := ⟨w0.heap.size + 1, 8, none⟩) (Nat.ne_of_lt (Nat.lt_succ_self _)) v8, Go.Proofs.Ytoeklekjhaigoaa.HUnpack.nine h.hc _ _ _ _ _ _ _ _ _, nine_below h.hb (Nat.le_succ _) _ _ _ _ _ _ _ _ _⟩
end Go.Proofs.Ytoeklekjhaigoaa.HRefPack
end
section
namespace Go.Proofs.Ytoeklekjhaigoaa.M0
open Go.Proofs.Ytoeklekjhaigoaa.Al Go.RowKit Go.Proofs.YtoeklekjhaigoaaW.PrintWords Go.Proofs.YtoeklekjhaigoaaW.PrintLast Go.Proofs.YtoeklekjhaigoaaW.PrintMore
attribute [local go_sem] max2_int min2_int max_two min_two max_three min_three max_four min_four IntKind.wrap_u32 IntKind.wrap_u8   -- for this text's walks alone
set_option linter.unusedVariables false
open Go.Proofs.Ytoeklekjhaigoaa.Le Go.Proofs.Ytoeklekjhaigoaa.C1 Go.Proofs.Ytoeklekjhaigoaa.C2 Go.Proofs.Ytoeklekjhaigoaa.HAct Go.Proofs.Ytoeklekjhaigoaa.W0 Go.Proofs.Ytoeklekjhaigoaa.HFrom Go.Proofs.Ytoeklekjhaigoaa.W1 Go.Proofs.Ytoeklekjhaigoaa.R01 Go.Proofs.Ytoeklekjhaigoaa.HPack Go.Proofs.Ytoeklekjhaigoaa.HUnpack Go.Proofs.Ytoeklekjhaigoaa.HRefPack
set_option linter.unusedSimpArgs false
def errW : Option Int → Value
  | none => .nilIface
  | some c => .iface 0 (.int .i64 c)
theorem errW_none : errW none = .nilIface := rfl
theorem errW_some (c : Int) : errW (some c) = .iface 0 (.int .i64 c) := rfl
structure S46 where
  f0 : Int
  f1 : (List S46)
  f2 : Int
  f3 : Int
  f4 : ByteArray
  f5 : Int
def z46 : S46 := ⟨(0 : Int), ([] : List S46), (0 : Int), (0 : Int), (⟨#[]⟩ : ByteArray), (0 : Int)⟩
def F46 (d : Kd S46) : Kd S46 := Kd.iso (Kd.pair (Kd.int .i64) (Kd.pair (Kd.slice 46 d) (Kd.pair (Kd.int .i64) (Kd.pair (Kd.int .u64) (Kd.pair Kd.string (Kd.int .u64)))))) (fun x : S46 => (x.f0, x.f1, x.f2, x.f3, x.f4, x.f5))
theorem mono46 : Kd.Mono F46 := Kd.mono_iso _ (Kd.mono_pair (Kd.mono_const _) (Kd.mono_pair (Kd.mono_slice 46 Kd.mono_id) (Kd.mono_pair (Kd.mono_const _) (Kd.mono_pair (Kd.mono_const _) (Kd.mono_pair (Kd.mono_const _) (Kd.mono_const _))))))
theorem sub46 : Kd.Sub F46 [46] := Kd.sub_iso _ (Kd.sub_pair (Kd.sub_const _ (by decide)) (Kd.sub_pair (Kd.sub_slice 46 (by decide) Kd.sub_id) (Kd.sub_pair (Kd.sub_const _ (by decide)) (Kd.sub_pair (Kd.sub_const _ (by decide)) (Kd.sub_pair (Kd.sub_const _ (by decide)) (Kd.sub_const _ (by decide)))))))
theorem sz46 : ∀ n, (Kd.upto F46 6 [46] n).sz = 6 := Kd.upto_sz (fun _ => rfl)
def k46 : Kd S46 := Kd.fix F46 6 [46] sz46 (Kd.upto_E sub46)
theorem k46_heap : Kd.Heap k46 := Kd.heap_fix (fun _ h_ => Kd.heap_iso _ (Kd.heap_pair (Kd.heap_int .i64) (Kd.heap_pair (Kd.heap_slice 46 h_) (Kd.heap_pair (Kd.heap_int .i64) (Kd.heap_pair (Kd.heap_int .u64) (Kd.heap_pair Kd.heap_string (Kd.heap_int .u64)))))))
theorem k46_open {w : World} {x : S46} {cs : List Value} (h : k46.K w x cs) : ∃ A1 c1, cs = [.int .i64 x.f0, .slice A1 x.f1.length c1, .int .i64 x.f2, .int .u64 x.f3, .string x.f4, .int .u64 x.f5] ∧ x.f1.length ≤ c1 ∧ k46.C w A1 x.f1.length x.f1 := by
  obtain ⟨n, h⟩ := h
  cases n with
  | zero => exact h.elim
  | succ n =>
    obtain ⟨_, _, rfl, rfl, ⟨_, _, rfl, ⟨A1, c1, rfl, l1, g1⟩, ⟨_, _, rfl, rfl, ⟨_, _, rfl, rfl, ⟨_, _, rfl, rfl, rfl⟩⟩⟩⟩⟩ := h
    exact ⟨A1, c1, rfl, l1, Kd.fix_C g1⟩
theorem k46_mk (w : World) (x : S46) {A1 : Option Addr} {c1 : Nat} (l1 : x.f1.length ≤ c1) (g1 : k46.C w A1 x.f1.length x.f1) : k46.K w x [.int .i64 x.f0, .slice A1 x.f1.length c1, .int .i64 x.f2, .int .u64 x.f3, .string x.f4, .int .u64 x.f5] := by
  obtain ⟨n1, q1⟩ := Kd.fix_C_back mono46 g1
  have r1 := Kd.upto_C_le mono46 sz46 (show n1 ≤ n1 by omega) q1
  exact ⟨n1 + 1, ⟨[.int .i64 x.f0], [.slice A1 x.f1.length c1, .int .i64 x.f2, .int .u64 x.f3, .string x.f4, .int .u64 x.f5], rfl, rfl, ⟨[.slice A1 x.f1.length c1], [.int .i64 x.f2, .int .u64 x.f3, .string x.f4, .int .u64 x.f5], rfl, ⟨A1, c1, rfl, l1, r1⟩, ⟨[.int .i64 x.f2], [.int .u64 x.f3, .string x.f4, .int .u64 x.f5], rfl, rfl, ⟨[.int .u64 x.f3], [.string x.f4, .int .u64 x.f5], rfl, rfl, ⟨[.string x.f4], [.int .u64 x.f5], rfl, rfl, rfl⟩⟩⟩⟩⟩⟩
theorem k46_openF {W : World} {ok : Nat → Prop} {x : S46} {cs : List Value} (h : Kd.FK k46 W ok x cs) : ∃ A1 c1, cs = [.int .i64 x.f0, .slice A1 x.f1.length c1, .int .i64 x.f2, .int .u64 x.f3, .string x.f4, .int .u64 x.f5] ∧ x.f1.length ≤ c1 ∧ Kd.F k46 W ok A1 x.f1.length x.f1 := by
  obtain ⟨A1, c1, rfl, l1, _⟩ := k46_open (Kd.FK_now h)
  exact ⟨A1, c1, rfl, l1, (fun W' hW => by obtain ⟨A1_, c1_, he, l1_, g1_⟩ := k46_open (h W' hW); injection (Option.some.inj (show some (Value.slice A1 x.f1.length c1) = some (Value.slice A1_ x.f1.length c1_) from congrArg (fun l => l[1]?) he)) with ha_ _ _; rw [ha_]; exact g1_)⟩
theorem k46_mkF (W : World) (ok : Nat → Prop) (x : S46) {A1 : Option Addr} {c1 : Nat} (l1 : x.f1.length ≤ c1) (g1 : Kd.F k46 W ok A1 x.f1.length x.f1) : Kd.FK k46 W ok x [.int .i64 x.f0, .slice A1 x.f1.length c1, .int .i64 x.f2, .int .u64 x.f3, .string x.f4, .int .u64 x.f5] := fun W2 hW => k46_mk W2 x l1 (g1 W2 hW)
def rd_T46 (xs : List S46) (i : Int) : S46 := xs.getD i.toNat z46
theorem at_T46 {w : World} {A : Option Addr} {n : Nat} {xs : List S46} (h : Kd.C k46 w A n xs) (i : Int) (h0 : 0 ≤ i) (h1 : i < n) : ∃ ad A1 c1, A = some ad ∧ w.cell? (ad.add (i.toNat * 6)) = some (.int .i64 (rd_T46 xs i).f0) ∧ w.cell? ⟨(ad.add (i.toNat * 6)).block, (ad.add (i.toNat * 6)).off + 1, none⟩ = some (.slice A1 (rd_T46 xs i).f1.length c1) ∧ w.cell? ⟨(ad.add (i.toNat * 6)).block, (ad.add (i.toNat * 6)).off + 2, none⟩ = some (.int .i64 (rd_T46 xs i).f2) ∧ w.cell? ⟨(ad.add (i.toNat * 6)).block, (ad.add (i.toNat * 6)).off + 3, none⟩ = some (.int .u64 (rd_T46 xs i).f3) ∧ w.cell? ⟨(ad.add (i.toNat * 6)).block, (ad.add (i.toNat * 6)).off + 4, none⟩ = some (.string (rd_T46 xs i).f4) ∧ w.cell? ⟨(ad.add (i.toNat * 6)).block, (ad.add (i.toNat * 6)).off + 5, none⟩ = some (.int .u64 (rd_T46 xs i).f5) ∧ (rd_T46 xs i).f1.length ≤ c1 ∧ k46.C w A1 (rd_T46 xs i).f1.length (rd_T46 xs i).f1 := by
  obtain ⟨ad, c, e, _, hK, hc0⟩ := Kd.C_get h z46 i h0 h1
  have hc : ∀ j u, c[j]? = some u → w.cell? (ad.add (i.toNat * 6 + j)) = some u := hc0
  obtain ⟨A1, c1, rfl, l1, g1⟩ := k46_open hK
  exact ⟨ad, A1, c1, e, hc 0 _ rfl, by rw [← add_field _ _ 1 (by omega)]; exact hc 1 _ rfl, by rw [← add_field _ _ 2 (by omega)]; exact hc 2 _ rfl, by rw [← add_field _ _ 3 (by omega)]; exact hc 3 _ rfl, by rw [← add_field _ _ 4 (by omega)]; exact hc 4 _ rfl, by rw [← add_field _ _ 5 (by omega)]; exact hc 5 _ rfl, l1, g1⟩
structure S58 where
  f0 : (List Int)
  f1 : S46
  f2 : Int
def z58 : S58 := ⟨([] : List Int), z46, (0 : Int)⟩
def k58 : Kd S58 := Kd.iso (Kd.pair (Kd.slice 22 (Kd.int .u32)) (Kd.pair k46 (Kd.int .u32))) (fun x : S58 => (x.f0, x.f1, x.f2))
theorem k58_open {w : World} {x : S58} {cs : List Value} (h : k58.K w x cs) : ∃ A0 c0 A2 c2, cs = [.slice A0 x.f0.length c0, .int .i64 x.f1.f0, .slice A2 x.f1.f1.length c2, .int .i64 x.f1.f2, .int .u64 x.f1.f3, .string x.f1.f4, .int .u64 x.f1.f5, .int .u32 x.f2] ∧ x.f0.length ≤ c0 ∧ (Kd.int .u32).C w A0 x.f0.length x.f0 ∧ x.f1.f1.length ≤ c2 ∧ k46.C w A2 x.f1.f1.length x.f1.f1 := by
  obtain ⟨_, _, rfl, ⟨A0, c0, rfl, l0, g0⟩, ⟨_, _, rfl, s1, rfl⟩⟩ := h
  obtain ⟨A2, c2, rfl, l2, g2⟩ := k46_open s1
  exact ⟨A0, c0, A2, c2, rfl, l0, g0, l2, g2⟩
def rd_T58 (xs : List S58) (i : Int) : S58 := xs.getD i.toNat z58
theorem at_T58 {w : World} {A : Option Addr} {n : Nat} {xs : List S58} (h : Kd.C k58 w A n xs) (i : Int) (h0 : 0 ≤ i) (h1 : i < n) : ∃ ad A0 c0 A2 c2, A = some ad ∧ w.cell? (ad.add (i.toNat * 8)) = some (.slice A0 (rd_T58 xs i).f0.length c0) ∧ w.cell? ⟨(ad.add (i.toNat * 8)).block, (ad.add (i.toNat * 8)).off + 1, none⟩ = some (.int .i64 (rd_T58 xs i).f1.f0) ∧ w.cell? ⟨(ad.add (i.toNat * 8)).block, (ad.add (i.toNat * 8)).off + 2, none⟩ = some (.slice A2 (rd_T58 xs i).f1.f1.length c2) ∧ w.cell? ⟨(ad.add (i.toNat * 8)).block, (ad.add (i.toNat * 8)).off + 3, none⟩ = some (.int .i64 (rd_T58 xs i).f1.f2) ∧ w.cell? ⟨(ad.add (i.toNat * 8)).block, (ad.add (i.toNat * 8)).off + 4, none⟩ = some (.int .u64 (rd_T58 xs i).f1.f3) ∧ w.cell? ⟨(ad.add (i.toNat * 8)).block, (ad.add (i.toNat * 8)).off + 5, none⟩ = some (.string (rd_T58 xs i).f1.f4) ∧ w.cell? ⟨(ad.add (i.toNat * 8)).block, (ad.add (i.toNat * 8)).off + 6, none⟩ = some (.int .u64 (rd_T58 xs i).f1.f5) ∧ w.cell? ⟨(ad.add (i.toNat * 8)).block, (ad.add (i.toNat * 8)).off + 7, none⟩ = some (.int .u32 (rd_T58 xs i).f2) ∧ (rd_T58 xs i).f0.length ≤ c0 ∧ (Kd.int .u32).C w A0 (rd_T58 xs i).f0.length (rd_T58 xs i).f0 ∧ (rd_T58 xs i).f1.f1.length ≤ c2 ∧ k46.C w A2 (rd_T58 xs i).f1.f1.length (rd_T58 xs i).f1.f1 := by
  obtain ⟨ad, c, e, _, hK, hc0⟩ := Kd.C_get h z58 i h0 h1
  have hc : ∀ j u, c[j]? = some u → w.cell? (ad.add (i.toNat * 8 + j)) = some u := hc0
  obtain ⟨A0, c0, A2, c2, rfl, l0, g0, l2, g2⟩ := k58_open hK
  exact ⟨ad, A0, c0, A2, c2, e, hc 0 _ rfl, by rw [← add_field _ _ 1 (by omega)]; exact hc 1 _ rfl, by rw [← add_field _ _ 2 (by omega)]; exact hc 2 _ rfl, by rw [← add_field _ _ 3 (by omega)]; exact hc 3 _ rfl, by rw [← add_field _ _ 4 (by omega)]; exact hc 4 _ rfl, by rw [← add_field _ _ 5 (by omega)]; exact hc 5 _ rfl, by rw [← add_field _ _ 6 (by omega)]; exact hc 6 _ rfl, by rw [← add_field _ _ 7 (by omega)]; exact hc 7 _ rfl, l0, g0, l2, g2⟩
end Go.Proofs.Ytoeklekjhaigoaa.M0
end
section
namespace Go.Proofs.Ytoeklekjhaigoaa.QCond
open Go.Proofs.Ytoeklekjhaigoaa.Al Go.RowKit Go.Proofs.YtoeklekjhaigoaaW.PrintWords Go.Proofs.YtoeklekjhaigoaaW.PrintLast Go.Proofs.YtoeklekjhaigoaaW.PrintMore Go.Proofs.Ytoeklekjhaigoaa.M0
set_option linter.unusedVariables false
set_option linter.unusedSimpArgs false
mutual
def nodes : S46 → Nat
  | ⟨_, ks, _, _, _, _⟩ => nodesL ks + 1
def nodesL : List S46 → Nat
  | [] => 0
  | c :: l => nodes c + nodesL l
end
theorem nodes_eq (c : S46) : nodes c = nodesL c.f1 + 1 := by cases c; rfl
theorem nodesL_append (a b : List S46) : nodesL (a ++ b) = nodesL a + nodesL b := by
  induction a with
  | nil => simp [nodesL]
  | cons c a ih => rw [List.cons_append, nodesL, nodesL, ih]; omega
theorem nodes_pos (c : S46) : 1 ≤ nodes c := by rw [nodes_eq]; omega
theorem len_nodes (l : List S46) : l.length ≤ nodesL l := by
  induction l with
  | nil => simp [nodesL]
  | cons c l ih => have := nodes_pos c; rw [nodesL, List.length_cons]; omega
def signs : List (List UInt8) := [[61, 61], [33, 61], [60], [60, 61], [62], [62, 61]]
def signOk (s : ByteArray) : Bool := signs.contains s.toList
def bareB (c : S46) : Bool := decide (c.f2 = 0) && decide (c.f3 = 0) && decide (c.f4.toList = []) && decide (c.f5 = 0)
/-- May a condition be, as far as it itself goes? -/
def oneB (c : S46) : Bool :=
  if c.f0 = 4 then decide (0 ≤ c.f2 ∧ c.f2 < 6) && signOk c.f4 && decide (c.f1.length = 0)
  else if c.f0 = 1 ∨ c.f0 = 2 then bareB c && decide (2 ≤ c.f1.length)
  else if c.f0 = 3 then bareB c && decide (c.f1.length = 1)
  else false
mutual
def fitsB : S46 → Bool
  | ⟨a, ks, b, c, d, e⟩ => oneB ⟨a, ks, b, c, d, e⟩ && fitsL ks
def fitsL : List S46 → Bool
  | [] => true
  | c :: l => fitsB c && fitsL l
end
theorem fits_eq (c : S46) : fitsB c = (oneB c && fitsL c.f1) := by cases c; rfl
theorem fitsL_append (a b : List S46) : fitsL (a ++ b) = (fitsL a && fitsL b) := by
  induction a with
  | nil => simp [fitsL]
  | cons c a ih => rw [List.cons_append, fitsL, fitsL, ih, Bool.and_assoc]
mutual
def testsN : S46 → Nat
  | ⟨a, ks, _, _, _, _⟩ => (if a = 4 then 1 else 0) + testsL ks
def testsL : List S46 → Nat
  | [] => 0
  | c :: l => testsN c + testsL l
end
theorem tests_eq (c : S46) : testsN c = (if c.f0 = 4 then 1 else 0) + testsL c.f1 := by cases c; rfl
theorem testsL_append (a b : List S46) : testsL (a ++ b) = testsL a + testsL b := by
  induction a with
  | nil => simp [testsL]
  | cons c a ih => rw [List.cons_append, testsL, testsL, ih]; omega
/-- May a condition be (types.Right)? -/
def rightB (c : S46) : Bool := fitsB c && decide (nodes c ≤ 100)
def countR (c : S46) : Int × Bool := if rightB c = true then ((testsN c : Int), true) else (0, false)
end Go.Proofs.Ytoeklekjhaigoaa.QCond
end
section
namespace Go.Proofs.Ytoeklekjhaigoaa.K49
open Go.Proofs.Ytoeklekjhaigoaa.Al Go.RowKit Go.Proofs.YtoeklekjhaigoaaW.PrintWords Go.Proofs.YtoeklekjhaigoaaW.PrintLast Go.Proofs.YtoeklekjhaigoaaW.PrintMore
structure S47 where
  f0 : Int
  f1 : Int
  f2 : Int
  f3 : Int
  f4 : Int
  f5 : Int
def k47 : Kd S47 := Kd.iso (Kd.pair (Kd.int .u64) (Kd.pair (Kd.int .u64) (Kd.pair (Kd.int .u64) (Kd.pair (Kd.int .u64) (Kd.pair (Kd.int .u64) (Kd.int .u64)))))) (fun x : S47 => (x.f0, x.f1, x.f2, x.f3, x.f4, x.f5))
structure S49 where
  f0 : Int
  f1 : Int
  f2 : Int
  f3 : S47
def k49 : Kd S49 := Kd.iso (Kd.pair (Kd.int .u32) (Kd.pair (Kd.int .u32) (Kd.pair (Kd.int .u64) k47))) (fun x : S49 => (x.f0, x.f1, x.f2, x.f3))
theorem k49_open {w : World} {x : S49} {cs : List Value} (h : k49.K w x cs) : cs = [.int .u32 x.f0, .int .u32 x.f1, .int .u64 x.f2, .int .u64 x.f3.f0, .int .u64 x.f3.f1, .int .u64 x.f3.f2, .int .u64 x.f3.f3, .int .u64 x.f3.f4, .int .u64 x.f3.f5] := by
  obtain ⟨_, _, rfl, rfl, ⟨_, _, rfl, rfl, ⟨_, _, rfl, rfl, ⟨_, _, rfl, rfl, ⟨_, _, rfl, rfl, ⟨_, _, rfl, rfl, ⟨_, _, rfl, rfl, ⟨_, _, rfl, rfl, rfl⟩⟩⟩⟩⟩⟩⟩⟩ := h
  exact rfl
end Go.Proofs.Ytoeklekjhaigoaa.K49
end
section
namespace Go.Proofs.Ytoeklekjhaigoaa.QMean
open Go.Proofs.Ytoeklekjhaigoaa.Al Go.RowKit Go.Proofs.YtoeklekjhaigoaaW.PrintWords Go.Proofs.YtoeklekjhaigoaaW.PrintLast Go.Proofs.YtoeklekjhaigoaaW.PrintMore Go.Proofs.Ytoeklekjhaigoaa.M0 Go.Proofs.Ytoeklekjhaigoaa.QCond Go.Proofs.Ytoeklekjhaigoaa.K49
set_option linter.unusedVariables false
set_option linter.unusedSimpArgs false
def argAt (a : S47) (i : Int) : Int := if i = 0 then a.f0 else if i = 1 then a.f1 else if i = 2 then a.f2 else if i = 3 then a.f3 else if i = 4 then a.f4 else a.f5
/-- What a sign says of two numbers. -/
def signB (s : List UInt8) (a v : Int) : Bool :=
  if s = [61, 61] then decide (a = v) else if s = [33, 61] then !decide (a = v) else if s = [60] then decide (a < v) else if s = [60, 61] then decide (a ≤ v) else if s = [62] then decide (v < a) else decide (v ≤ a)
def testB (x : S49) (c : S46) : Bool := signB c.f4.toList (bits BinOp.and IntKind.u64 (argAt x.f3 c.f2) c.f3) c.f5
mutual
def semB (x : S49) : S46 → Bool
  | ⟨a, ks, b, c, d, e⟩ => if a = 4 then testB x ⟨a, ks, b, c, d, e⟩ else if a = 1 then semA x ks else if a = 3 then !semO x ks else semO x ks
def semA (x : S49) : List S46 → Bool
  | [] => true
  | c :: l => semB x c && semA x l
def semO (x : S49) : List S46 → Bool
  | [] => false
  | c :: l => semB x c || semO x l
end
theorem sem_eq (x : S49) (c : S46) : semB x c = if c.f0 = 4 then testB x c else if c.f0 = 1 then semA x c.f1 else if c.f0 = 3 then !semO x c.f1 else semO x c.f1 := by cases c; rfl
theorem semA_all (x : S49) (l : List S46) : semA x l = l.all (semB x) := by
  induction l with
  | nil => rfl
  | cons c l ih => rw [semA, ih]; rfl
theorem semO_any (x : S49) (l : List S46) : semO x l = l.any (semB x) := by
  induction l with
  | nil => rfl
  | cons c l ih => rw [semO, ih]; rfl
theorem nodes_mem {l : List S46} {c : S46} (h : c ∈ l) : nodes c ≤ nodesL l := by
  induction l with
  | nil => cases h
  | cons d l ih =>
    rw [nodesL]
    rcases List.mem_cons.1 h with rfl | h
    · omega
    · have := ih h; omega
/-- Is there no condition? -/
def noneB (c : S46) : Bool := decide (c.f0 = 0) && bareB c && decide (c.f1.length = 0)
/-- Does a condition hold? -/
def holdsB (x : S49) (c : S46) : Bool := noneB c || (rightB c && semB x c)
theorem right_fits {c : S46} (h : rightB c = true) : fitsB c = true ∧ nodes c ≤ 100 := by
  unfold rightB at h
  rw [Bool.and_eq_true, decide_eq_true_eq] at h; exact h
theorem right_of {c : S46} (h : fitsB c = true) (g : nodes c ≤ 100) : rightB c = true := by
  unfold rightB
  rw [h, decide_eq_true g]; rfl
theorem one_kind {c : S46} (h : oneB c = true) : c.f0 = 1 ∨ c.f0 = 2 ∨ c.f0 = 3 ∨ c.f0 = 4 := by
  unfold oneB at h
  split at h
  · omega
  · split at h
    · omega
    · split at h
      · omega
      · cases h
theorem fits_one {c : S46} (h : fitsB c = true) : oneB c = true ∧ fitsL c.f1 = true := by
  rw [fits_eq, Bool.and_eq_true] at h; exact h
theorem fitsL_all (l : List S46) : fitsL l = l.all fitsB := by
  induction l with
  | nil => rfl
  | cons c l ih => rw [fitsL, ih]; rfl
theorem fits_mem {l : List S46} (h : fitsL l = true) {c : S46} (hc : c ∈ l) : fitsB c = true := by
  rw [fitsL_all] at h; exact List.all_eq_true.1 h c hc
theorem right_none {c : S46} (h : rightB c = true) : noneB c = false := by
  have := one_kind (fits_one (right_fits h).1).1
  unfold noneB
  rw [decide_eq_false (by omega)]; rfl
theorem holds_right {x : S49} {c : S46} (h : rightB c = true) : holdsB x c = semB x c := by
  unfold holdsB
  rw [right_none h, h]; simp
theorem one_test {c : S46} (h : oneB c = true) (h4 : c.f0 = 4) : 0 ≤ c.f2 ∧ c.f2 < 6 ∧ signOk c.f4 = true := by
  unfold oneB at h
  rw [if_pos h4, Bool.and_eq_true, Bool.and_eq_true, decide_eq_true_eq] at h
  exact ⟨h.1.1.1, h.1.1.2, h.1.2⟩
theorem one_kids {c : S46} (h : oneB c = true) (h4 : c.f0 ≠ 4) : c.f1 ≠ [] ∧ (c.f0 = 3 → c.f1.length = 1) := by
  unfold oneB at h
  rw [if_neg h4] at h
  split at h
  · rw [Bool.and_eq_true, decide_eq_true_eq] at h
    exact ⟨fun e => by rw [e] at h; simp at h, fun e => by omega⟩
  · split at h
    · rw [Bool.and_eq_true, decide_eq_true_eq] at h
      exact ⟨fun e => by rw [e] at h; simp at h, fun _ => h.2⟩
    · cases h
def notC (c : S46) : S46 := ⟨3, [c], 0, 0, ⟨#[]⟩, 0⟩
def manyC (k : Int) (l : List S46) : S46 := ⟨k, l, 0, 0, ⟨#[]⟩, 0⟩
theorem bare_many (k : Int) (l : List S46) : bareB (manyC k l) = true := by
  unfold bareB manyC; simp [ByteArray.toList_empty]
theorem nodes_many (k : Int) (l : List S46) : nodes (manyC k l) = nodesL l + 1 := nodes_eq _
theorem nodes_not (c : S46) : nodes (notC c) = nodes c + 1 := by
  rw [nodes_eq]; show nodesL [c] + 1 = _
  rw [nodesL, nodesL]
theorem fits_many {k : Int} {l : List S46} (hk : k = 1 ∨ k = 2) (hl : 2 ≤ l.length) (h : fitsL l = true) : fitsB (manyC k l) = true := by
  rw [fits_eq, show (manyC k l).f1 = l from rfl, h, Bool.and_true]
  unfold oneB
  rw [if_neg (show ¬ (manyC k l).f0 = 4 by show ¬ k = 4; omega), if_pos (show (manyC k l).f0 = 1 ∨ (manyC k l).f0 = 2 from hk), bare_many, Bool.true_and]
  exact decide_eq_true hl
theorem fits_not {c : S46} (h : fitsB c = true) : fitsB (notC c) = true := by
  rw [fits_eq]
  have e : fitsL (notC c).f1 = true := by show fitsL [c] = true; rw [fitsL, fitsL, h]; rfl
  rw [e, Bool.and_true]
  unfold oneB
  rw [if_neg (show ¬ (notC c).f0 = 4 from (show ¬ (3 : Int) = 4 by decide)), if_neg (show ¬ ((notC c).f0 = 1 ∨ (notC c).f0 = 2) from (show ¬ ((3 : Int) = 1 ∨ (3 : Int) = 2) by decide)), if_pos (show (notC c).f0 = 3 from rfl), show bareB (notC c) = true from bare_many 3 [c]]
  rfl
theorem sem_not (x : S49) (c : S46) : semB x (notC c) = !semB x c := by
  rw [sem_eq, if_neg (show ¬ (notC c).f0 = 4 from (show ¬ (3 : Int) = 4 by decide)), if_neg (show ¬ (notC c).f0 = 1 from (show ¬ (3 : Int) = 1 by decide)), if_pos (show (notC c).f0 = 3 from rfl)]
  show (!semO x [c]) = _
  rw [semO, semO, Bool.or_false]
theorem sem_and (x : S49) (l : List S46) : semB x (manyC 1 l) = l.all (semB x) := by
  rw [sem_eq, if_neg (show ¬ (manyC 1 l).f0 = 4 from (show ¬ (1 : Int) = 4 by decide)), if_pos (show (manyC 1 l).f0 = 1 from rfl)]
  exact semA_all x l
theorem sem_or (x : S49) (l : List S46) : semB x (manyC 2 l) = l.any (semB x) := by
  rw [sem_eq, if_neg (show ¬ (manyC 2 l).f0 = 4 from (show ¬ (2 : Int) = 4 by decide)), if_neg (show ¬ (manyC 2 l).f0 = 1 from (show ¬ (2 : Int) = 1 by decide)), if_neg (show ¬ (manyC 2 l).f0 = 3 from (show ¬ (2 : Int) = 3 by decide))]
  exact semO_any x l
theorem right_not {c : S46} (h : fitsB c = true) (hn : nodes c ≤ 99) : rightB (notC c) = true := right_of (fits_not h) (by rw [nodes_not]; omega)
theorem nodesL_not (l : List S46) : nodesL (l.map notC) = nodesL l + l.length := by
  induction l with
  | nil => rfl
  | cons c l ih => rw [List.map_cons, nodesL, nodesL, ih, nodes_not, List.length_cons]; omega
theorem fitsL_not {l : List S46} (h : fitsL l = true) : fitsL (l.map notC) = true := by
  rw [fitsL_all, List.all_eq_true]
  intro d hd
  obtain ⟨c, hc, rfl⟩ := List.mem_map.1 hd
  exact fits_not (fits_mem h hc)
/-- All is not, just if one is not: the other kind of the conditions' contraries. -/
theorem sem_morgan (x : S49) (c : S46) (h : fitsB c = true) (hk : c.f0 = 1 ∨ c.f0 = 2) : semB x (manyC (3 - c.f0) (c.f1.map notC)) = !semB x c := by
  rcases hk with hk | hk
  · rw [hk, show (3 : Int) - 1 = 2 from rfl, sem_or, sem_eq x c, if_neg (by omega), if_pos hk, semA_all]
    induction c.f1 with
    | nil => rfl
    | cons d l ih => simp only [List.map_cons, List.any_cons, List.all_cons, sem_not, ih, Bool.not_and]
  · rw [hk, show (3 : Int) - 2 = 1 from rfl, sem_and, sem_eq x c, if_neg (by omega), if_neg (by omega), if_neg (by omega), semO_any]
    induction c.f1 with
    | nil => rfl
    | cons d l ih => simp only [List.map_cons, List.any_cons, List.all_cons, sem_not, ih, Bool.not_or]
theorem right_morgan {c : S46} (h : fitsB c = true) (hk : c.f0 = 1 ∨ c.f0 = 2) (hn : nodes c ≤ 40) : rightB (manyC (3 - c.f0) (c.f1.map notC)) = true := by
  have h1 := fits_one h
  have e := nodes_eq c
  have e2 := len_nodes c.f1
  refine right_of (fits_many (by omega) ?_ (fitsL_not h1.2)) (by rw [nodes_many, nodesL_not]; omega)
  have ho := h1.1
  unfold oneB at ho
  rw [if_neg (by omega), if_pos hk, Bool.and_eq_true, decide_eq_true_eq] at ho
  rw [List.length_map]; exact ho.2
end Go.Proofs.Ytoeklekjhaigoaa.QMean
end
section
namespace Go.Proofs.Ytoeklekjhaigoaa.M0
open Go.Proofs.Ytoeklekjhaigoaa.Al Go.RowKit Go.Proofs.YtoeklekjhaigoaaW.PrintWords Go.Proofs.YtoeklekjhaigoaaW.PrintLast Go.Proofs.YtoeklekjhaigoaaW.PrintMore
attribute [local go_sem] max2_int min2_int max_two min_two max_three min_three max_four min_four IntKind.wrap_u32 IntKind.wrap_u8   -- for this text's walks alone
set_option linter.unusedVariables false
open Go.Proofs.Ytoeklekjhaigoaa.Le Go.Proofs.Ytoeklekjhaigoaa.C1 Go.Proofs.Ytoeklekjhaigoaa.C2 Go.Proofs.Ytoeklekjhaigoaa.HAct Go.Proofs.Ytoeklekjhaigoaa.W0 Go.Proofs.Ytoeklekjhaigoaa.HFrom Go.Proofs.Ytoeklekjhaigoaa.W1 Go.Proofs.Ytoeklekjhaigoaa.R01 Go.Proofs.Ytoeklekjhaigoaa.HPack Go.Proofs.Ytoeklekjhaigoaa.HUnpack Go.Proofs.Ytoeklekjhaigoaa.HRefPack
set_option linter.unusedSimpArgs false
def doorwardref16_bare.f (a0_0 : Int) (l0_1 : List (S46)) (a0_2 : Int) (a0_3 : Int) (a0_4 : ByteArray) (a0_5 : Int) : Option (Bool) := if a0_2 = 0 then (if a0_3 = 0 then (if a0_4.toList = ([] : List UInt8) then (some (a0_5 == 0)) else (some false)) else (some false)) else (some false)
set_option maxHeartbeats 8000000 in
set_option maxRecDepth 100000 in
theorem doorwardref16_bare.calls (a0_0 : Int) (A0_1 : Option Addr) (c0_1 : Nat) (l0_1 : List (S46)) (a0_2 : Int) (a0_3 : Int) (a0_4 : ByteArray) (a0_5 : Int) (r : Bool) (w : World) (hr0_1 : Kd.C k46 w A0_1 l0_1.length l0_1) (hc0_1 : l0_1.length ≤ c0_1) (h : doorwardref16_bare.f a0_0 l0_1 a0_2 a0_3 a0_4 a0_5 = some r) :
    Calls Try.prog 107 #[.agg #[.int .i64 a0_0, .slice A0_1 l0_1.length c0_1, .int .i64 a0_2, .int .u64 a0_3, .string a0_4, .int .u64 a0_5]] w fun e w' => e = .returned (.bool r) ∧ Below w.heap.size w w' := by
  have hu46 := Try.underlying46
  have HR0_1 := amk hr0_1
  have HC0_1 := amk hc0_1
  clear hr0_1 hc0_1
  have HB := amk (Below.refl w.heap.size w)
  have H : (if a0_2 = 0 then (if a0_3 = 0 then (if a0_4.toList = ([] : List UInt8) then (some (a0_5 == 0)) else (some false)) else (some false)) else (some false)) = some r := h
  clear h
  by_cases c2 : a0_2 = 0
  · rw [if_pos c2] at H
    have c2b0 : (a0_2 == 0) = true := beq_iff_eq.mpr c2
    have c2b1 : (a0_2 != 0) = false := bne_eq_false_iff_eq.mpr c2
    clear c2
    by_cases c3 : a0_3 = 0
    · rw [if_pos c3] at H
      have c3b0 : (a0_3 == 0) = true := beq_iff_eq.mpr c3
      have c3b1 : (a0_3 != 0) = false := bne_eq_false_iff_eq.mpr c3
      clear c3
      by_cases c4 : a0_4.toList = ([] : List UInt8)
      · rw [if_pos c4] at H
        have c4b0 : (a0_4.toList == ([] : List UInt8)) = true := beq_iff_eq.mpr c4
        have c4b1 : (a0_4.toList != ([] : List UInt8)) = false := bne_eq_false_iff_eq.mpr c4
        clear c4
        obtain rfl := Option.some.inj H
        go_enter Try.func107, Try.ntmps107
        go_wp2_with (first | ((with_reducible refine gate_dst (N := 1) rfl ?_); refine box_event ?hg (N := 1) ?hd (cs := #[.int .i64 a0_0, .slice A0_1 l0_1.length c0_1, .int .i64 a0_2, .int .u64 a0_3, .string a0_4, .int .u64 a0_5]) (t := 46) ?hr ?_; (case hd => rfl); (case hg => rfl); (case hr => first | (go_simp; done) | (go_simp; rfl)); intro gb108 hg w5 hbox hb; have n0_ := amk (below_step (by repeat (first | (with_reducible first | exact HB.out | apply bal | apply pbd | apply below_drew1) | exact HB.out)) hb); have n1_ := amk (hbox); have n2_ := amk ((by rw [hg]; exact (below_size (by repeat (first | (with_reducible first | exact HB.out | apply bal | apply pbd | apply below_drew1) | exact HB.out))) : w.heap.size ≤ gb108)); have n3_ := amk ((by rw [hg]; exact (below_size (by repeat (first | (with_reducible first | exact HB.out | apply bal | apply pbd | apply below_drew1) | exact HB.out))) : w.heap.size ≤ gb108)); clear HB; have HB := n0_; have BK108 := n1_; have GW108 := n2_; have GE108 := n3_; clear n0_ n1_ n2_ n3_; clear hb hbox hg; have hcz6_0 : w5.cell? ⟨gb108, 0, none⟩ = some (.int .i64 a0_0) := (blk_cell BK108.out 0).trans rfl; have hcz6_1 : w5.cell? ⟨gb108, 1, none⟩ = some (.slice A0_1 l0_1.length c0_1) := (blk_cell BK108.out 1).trans rfl; have hcz6_2 : w5.cell? ⟨gb108, 2, none⟩ = some (.int .i64 a0_2) := (blk_cell BK108.out 2).trans rfl; have hcz6_3 : w5.cell? ⟨gb108, 3, none⟩ = some (.int .u64 a0_3) := (blk_cell BK108.out 3).trans rfl; have hcz6_4 : w5.cell? ⟨gb108, 4, none⟩ = some (.string a0_4) := (blk_cell BK108.out 4).trans rfl; have hcz6_5 : w5.cell? ⟨gb108, 5, none⟩ = some (.int .u64 a0_5) := (blk_cell BK108.out 5).trans rfl; have hfz6_0 := blk_frozen BK108.out 0; have hfz6_1 := blk_frozen BK108.out 1; have hfz6_2 := blk_frozen BK108.out 2; have hfz6_3 := blk_frozen BK108.out 3; have hfz6_4 := blk_frozen BK108.out 4; have hfz6_5 := blk_frozen BK108.out 5))
        go_ret
        exact ⟨by first | rfl | (simp [errW_none, errW_some] <;> rfl) | (simp [*, errW_none, errW_some] <;> rfl), by repeat (first | (with_reducible first | exact HB.out | apply bal | apply pbd | apply below_drew1 | refine below_set ?_ GE108.out) | exact HB.out)⟩
      · rw [if_neg c4] at H
        have c4b0 : (a0_4.toList == ([] : List UInt8)) = false := beq_eq_false_iff_ne.mpr c4
        have c4b1 : (a0_4.toList != ([] : List UInt8)) = true := bne_iff_ne.mpr c4
        obtain rfl := Option.some.inj H
        go_enter Try.func107, Try.ntmps107
        go_wp2_with (first | ((with_reducible refine gate_dst (N := 1) rfl ?_); refine box_event ?hg (N := 1) ?hd (cs := #[.int .i64 a0_0, .slice A0_1 l0_1.length c0_1, .int .i64 a0_2, .int .u64 a0_3, .string a0_4, .int .u64 a0_5]) (t := 46) ?hr ?_; (case hd => rfl); (case hg => rfl); (case hr => first | (go_simp; done) | (go_simp; rfl)); intro gb108 hg w7 hbox hb; have n0_ := amk (below_step (by repeat (first | (with_reducible first | exact HB.out | apply bal | apply pbd | apply below_drew1) | exact HB.out)) hb); have n1_ := amk (hbox); have n2_ := amk ((by rw [hg]; exact (below_size (by repeat (first | (with_reducible first | exact HB.out | apply bal | apply pbd | apply below_drew1) | exact HB.out))) : w.heap.size ≤ gb108)); have n3_ := amk ((by rw [hg]; exact (below_size (by repeat (first | (with_reducible first | exact HB.out | apply bal | apply pbd | apply below_drew1) | exact HB.out))) : w.heap.size ≤ gb108)); clear HB; have HB := n0_; have BK108 := n1_; have GW108 := n2_; have GE108 := n3_; clear n0_ n1_ n2_ n3_; clear hb hbox hg; have hcz8_0 : w7.cell? ⟨gb108, 0, none⟩ = some (.int .i64 a0_0) := (blk_cell BK108.out 0).trans rfl; have hcz8_1 : w7.cell? ⟨gb108, 1, none⟩ = some (.slice A0_1 l0_1.length c0_1) := (blk_cell BK108.out 1).trans rfl; have hcz8_2 : w7.cell? ⟨gb108, 2, none⟩ = some (.int .i64 a0_2) := (blk_cell BK108.out 2).trans rfl; have hcz8_3 : w7.cell? ⟨gb108, 3, none⟩ = some (.int .u64 a0_3) := (blk_cell BK108.out 3).trans rfl; have hcz8_4 : w7.cell? ⟨gb108, 4, none⟩ = some (.string a0_4) := (blk_cell BK108.out 4).trans rfl; have hcz8_5 : w7.cell? ⟨gb108, 5, none⟩ = some (.int .u64 a0_5) := (blk_cell BK108.out 5).trans rfl; have hfz8_0 := blk_frozen BK108.out 0; have hfz8_1 := blk_frozen BK108.out 1; have hfz8_2 := blk_frozen BK108.out 2; have hfz8_3 := blk_frozen BK108.out 3; have hfz8_4 := blk_frozen BK108.out 4; have hfz8_5 := blk_frozen BK108.out 5))
        go_ret
        exact ⟨by first | rfl | (simp [errW_none, errW_some] <;> rfl) | (simp [*, errW_none, errW_some] <;> rfl), by repeat (first | (with_reducible first | exact HB.out | apply bal | apply pbd | apply below_drew1 | refine below_set ?_ GE108.out) | exact HB.out)⟩
    · rw [if_neg c3] at H
      have c3b0 : (a0_3 == 0) = false := beq_eq_false_iff_ne.mpr c3
      have c3b1 : (a0_3 != 0) = true := bne_iff_ne.mpr c3
      obtain rfl := Option.some.inj H
      go_enter Try.func107, Try.ntmps107
      go_wp2_with (first | ((with_reducible refine gate_dst (N := 1) rfl ?_); refine box_event ?hg (N := 1) ?hd (cs := #[.int .i64 a0_0, .slice A0_1 l0_1.length c0_1, .int .i64 a0_2, .int .u64 a0_3, .string a0_4, .int .u64 a0_5]) (t := 46) ?hr ?_; (case hd => rfl); (case hg => rfl); (case hr => first | (go_simp; done) | (go_simp; rfl)); intro gb108 hg w9 hbox hb; have n0_ := amk (below_step (by repeat (first | (with_reducible first | exact HB.out | apply bal | apply pbd | apply below_drew1) | exact HB.out)) hb); have n1_ := amk (hbox); have n2_ := amk ((by rw [hg]; exact (below_size (by repeat (first | (with_reducible first | exact HB.out | apply bal | apply pbd | apply below_drew1) | exact HB.out))) : w.heap.size ≤ gb108)); have n3_ := amk ((by rw [hg]; exact (below_size (by repeat (first | (with_reducible first | exact HB.out | apply bal | apply pbd | apply below_drew1) | exact HB.out))) : w.heap.size ≤ gb108)); clear HB; have HB := n0_; have BK108 := n1_; have GW108 := n2_; have GE108 := n3_; clear n0_ n1_ n2_ n3_; clear hb hbox hg; have hcz10_0 : w9.cell? ⟨gb108, 0, none⟩ = some (.int .i64 a0_0) := (blk_cell BK108.out 0).trans rfl; have hcz10_1 : w9.cell? ⟨gb108, 1, none⟩ = some (.slice A0_1 l0_1.length c0_1) := (blk_cell BK108.out 1).trans rfl; have hcz10_2 : w9.cell? ⟨gb108, 2, none⟩ = some (.int .i64 a0_2) := (blk_cell BK108.out 2).trans rfl; have hcz10_3 : w9.cell? ⟨gb108, 3, none⟩ = some (.int .u64 a0_3) := (blk_cell BK108.out 3).trans rfl; have hcz10_4 : w9.cell? ⟨gb108, 4, none⟩ = some (.string a0_4) := (blk_cell BK108.out 4).trans rfl; have hcz10_5 : w9.cell? ⟨gb108, 5, none⟩ = some (.int .u64 a0_5) := (blk_cell BK108.out 5).trans rfl; have hfz10_0 := blk_frozen BK108.out 0; have hfz10_1 := blk_frozen BK108.out 1; have hfz10_2 := blk_frozen BK108.out 2; have hfz10_3 := blk_frozen BK108.out 3; have hfz10_4 := blk_frozen BK108.out 4; have hfz10_5 := blk_frozen BK108.out 5))
      go_ret
      exact ⟨by first | rfl | (simp [errW_none, errW_some] <;> rfl) | (simp [*, errW_none, errW_some] <;> rfl), by repeat (first | (with_reducible first | exact HB.out | apply bal | apply pbd | apply below_drew1 | refine below_set ?_ GE108.out) | exact HB.out)⟩
  · rw [if_neg c2] at H
    have c2b0 : (a0_2 == 0) = false := beq_eq_false_iff_ne.mpr c2
    have c2b1 : (a0_2 != 0) = true := bne_iff_ne.mpr c2
    obtain rfl := Option.some.inj H
    go_enter Try.func107, Try.ntmps107
    go_wp2_with (first | ((with_reducible refine gate_dst (N := 1) rfl ?_); refine box_event ?hg (N := 1) ?hd (cs := #[.int .i64 a0_0, .slice A0_1 l0_1.length c0_1, .int .i64 a0_2, .int .u64 a0_3, .string a0_4, .int .u64 a0_5]) (t := 46) ?hr ?_; (case hd => rfl); (case hg => rfl); (case hr => first | (go_simp; done) | (go_simp; rfl)); intro gb108 hg w11 hbox hb; have n0_ := amk (below_step (by repeat (first | (with_reducible first | exact HB.out | apply bal | apply pbd | apply below_drew1) | exact HB.out)) hb); have n1_ := amk (hbox); have n2_ := amk ((by rw [hg]; exact (below_size (by repeat (first | (with_reducible first | exact HB.out | apply bal | apply pbd | apply below_drew1) | exact HB.out))) : w.heap.size ≤ gb108)); have n3_ := amk ((by rw [hg]; exact (below_size (by repeat (first | (with_reducible first | exact HB.out | apply bal | apply pbd | apply below_drew1) | exact HB.out))) : w.heap.size ≤ gb108)); clear HB; have HB := n0_; have BK108 := n1_; have GW108 := n2_; have GE108 := n3_; clear n0_ n1_ n2_ n3_; clear hb hbox hg; have hcz12_0 : w11.cell? ⟨gb108, 0, none⟩ = some (.int .i64 a0_0) := (blk_cell BK108.out 0).trans rfl; have hcz12_1 : w11.cell? ⟨gb108, 1, none⟩ = some (.slice A0_1 l0_1.length c0_1) := (blk_cell BK108.out 1).trans rfl; have hcz12_2 : w11.cell? ⟨gb108, 2, none⟩ = some (.int .i64 a0_2) := (blk_cell BK108.out 2).trans rfl; have hcz12_3 : w11.cell? ⟨gb108, 3, none⟩ = some (.int .u64 a0_3) := (blk_cell BK108.out 3).trans rfl; have hcz12_4 : w11.cell? ⟨gb108, 4, none⟩ = some (.string a0_4) := (blk_cell BK108.out 4).trans rfl; have hcz12_5 : w11.cell? ⟨gb108, 5, none⟩ = some (.int .u64 a0_5) := (blk_cell BK108.out 5).trans rfl; have hfz12_0 := blk_frozen BK108.out 0; have hfz12_1 := blk_frozen BK108.out 1; have hfz12_2 := blk_frozen BK108.out 2; have hfz12_3 := blk_frozen BK108.out 3; have hfz12_4 := blk_frozen BK108.out 4; have hfz12_5 := blk_frozen BK108.out 5))
    go_ret
    exact ⟨by first | rfl | (simp [errW_none, errW_some] <;> rfl) | (simp [*, errW_none, errW_some] <;> rfl), by repeat (first | (with_reducible first | exact HB.out | apply bal | apply pbd | apply below_drew1 | refine below_set ?_ GE108.out) | exact HB.out)⟩
def doorwardref16_sign.f (a0 : ByteArray) : Option (Bool) := if a0.toList = ([61, 61] : List UInt8) then (some true) else (if a0.toList = ([33, 61] : List UInt8) then (some true) else (if a0.toList = ([60] : List UInt8) then (some true) else (if a0.toList = ([60, 61] : List UInt8) then (some true) else (if a0.toList = ([62] : List UInt8) then (some true) else (some (a0.toList == ([62, 61] : List UInt8)))))))
set_option maxHeartbeats 8000000 in
set_option maxRecDepth 100000 in
theorem doorwardref16_sign.calls (a0 : ByteArray) (r : Bool) (w : World) (h : doorwardref16_sign.f a0 = some r) :
    Calls Try.prog 126 #[.string a0] w fun e w' => e = .returned (.bool r) ∧ Drawn0 w w' := by
  have H : (if a0.toList = ([61, 61] : List UInt8) then (some true) else (if a0.toList = ([33, 61] : List UInt8) then (some true) else (if a0.toList = ([60] : List UInt8) then (some true) else (if a0.toList = ([60, 61] : List UInt8) then (some true) else (if a0.toList = ([62] : List UInt8) then (some true) else (some (a0.toList == ([62, 61] : List UInt8)))))))) = some r := h
  clear h
  by_cases c2 : a0.toList = ([61, 61] : List UInt8)
  · rw [if_pos c2] at H
    have c2b0 : (a0.toList == ([61, 61] : List UInt8)) = true := beq_iff_eq.mpr c2
    have c2b1 : (a0.toList != ([61, 61] : List UInt8)) = false := bne_eq_false_iff_eq.mpr c2
    clear c2
    obtain rfl := Option.some.inj H
    go_enter Try.func126, Try.ntmps126
    go_wp2
    go_ret
    exact ⟨by first | rfl | (simp; done) | (simp [*]; done), by repeat (first | exact Drawn0.refl _ | apply Drawn0.step)⟩
  · rw [if_neg c2] at H
    have c2b0 : (a0.toList == ([61, 61] : List UInt8)) = false := beq_eq_false_iff_ne.mpr c2
    have c2b1 : (a0.toList != ([61, 61] : List UInt8)) = true := bne_iff_ne.mpr c2
    by_cases c3 : a0.toList = ([33, 61] : List UInt8)
    · rw [if_pos c3] at H
      have c3b0 : (a0.toList == ([33, 61] : List UInt8)) = true := beq_iff_eq.mpr c3
      have c3b1 : (a0.toList != ([33, 61] : List UInt8)) = false := bne_eq_false_iff_eq.mpr c3
      clear c3
      obtain rfl := Option.some.inj H
      go_enter Try.func126, Try.ntmps126
      go_wp2
      go_ret
      exact ⟨by first | rfl | (simp; done) | (simp [*]; done), by repeat (first | exact Drawn0.refl _ | apply Drawn0.step)⟩
    · rw [if_neg c3] at H
      have c3b0 : (a0.toList == ([33, 61] : List UInt8)) = false := beq_eq_false_iff_ne.mpr c3
      have c3b1 : (a0.toList != ([33, 61] : List UInt8)) = true := bne_iff_ne.mpr c3
      by_cases c4 : a0.toList = ([60] : List UInt8)
      · rw [if_pos c4] at H
        have c4b0 : (a0.toList == ([60] : List UInt8)) = true := beq_iff_eq.mpr c4
        have c4b1 : (a0.toList != ([60] : List UInt8)) = false := bne_eq_false_iff_eq.mpr c4
        clear c4
        obtain rfl := Option.some.inj H
        go_enter Try.func126, Try.ntmps126
        go_wp2
        go_ret
        exact ⟨by first | rfl | (simp; done) | (simp [*]; done), by repeat (first | exact Drawn0.refl _ | apply Drawn0.step)⟩
      · rw [if_neg c4] at H
        have c4b0 : (a0.toList == ([60] : List UInt8)) = false := beq_eq_false_iff_ne.mpr c4
        have c4b1 : (a0.toList != ([60] : List UInt8)) = true := bne_iff_ne.mpr c4
        by_cases c5 : a0.toList = ([60, 61] : List UInt8)
        · rw [if_pos c5] at H
          have c5b0 : (a0.toList == ([60, 61] : List UInt8)) = true := beq_iff_eq.mpr c5
          have c5b1 : (a0.toList != ([60, 61] : List UInt8)) = false := bne_eq_false_iff_eq.mpr c5
          clear c5
          obtain rfl := Option.some.inj H
          go_enter Try.func126, Try.ntmps126
          go_wp2
          go_ret
          exact ⟨by first | rfl | (simp; done) | (simp [*]; done), by repeat (first | exact Drawn0.refl _ | apply Drawn0.step)⟩
        · rw [if_neg c5] at H
          have c5b0 : (a0.toList == ([60, 61] : List UInt8)) = false := beq_eq_false_iff_ne.mpr c5
          have c5b1 : (a0.toList != ([60, 61] : List UInt8)) = true := bne_iff_ne.mpr c5
          by_cases c6 : a0.toList = ([62] : List UInt8)
          · rw [if_pos c6] at H
            have c6b0 : (a0.toList == ([62] : List UInt8)) = true := beq_iff_eq.mpr c6
            have c6b1 : (a0.toList != ([62] : List UInt8)) = false := bne_eq_false_iff_eq.mpr c6
            clear c6
            obtain rfl := Option.some.inj H
            go_enter Try.func126, Try.ntmps126
            go_wp2
            go_ret
            exact ⟨by first | rfl | (simp; done) | (simp [*]; done), by repeat (first | exact Drawn0.refl _ | apply Drawn0.step)⟩
          · rw [if_neg c6] at H
            have c6b0 : (a0.toList == ([62] : List UInt8)) = false := beq_eq_false_iff_ne.mpr c6
            have c6b1 : (a0.toList != ([62] : List UInt8)) = true := bne_iff_ne.mpr c6
            obtain rfl := Option.some.inj H
            go_enter Try.func126, Try.ntmps126
            go_wp2
            go_ret
            exact ⟨by first | rfl | (simp; done) | (simp [*]; done), by repeat (first | exact Drawn0.refl _ | apply Drawn0.step)⟩
end Go.Proofs.Ytoeklekjhaigoaa.M0
end
section
namespace Go.Proofs.Ytoeklekjhaigoaa.M0
open Go.Proofs.Ytoeklekjhaigoaa.Al Go.RowKit Go.Proofs.YtoeklekjhaigoaaW.PrintWords Go.Proofs.YtoeklekjhaigoaaW.PrintLast Go.Proofs.YtoeklekjhaigoaaW.PrintMore
attribute [local go_sem] max2_int min2_int max_two min_two max_three min_three max_four min_four IntKind.wrap_u32 IntKind.wrap_u8   -- for this text's walks alone
set_option linter.unusedVariables false
open Go.Proofs.Ytoeklekjhaigoaa.Le Go.Proofs.Ytoeklekjhaigoaa.C1 Go.Proofs.Ytoeklekjhaigoaa.C2 Go.Proofs.Ytoeklekjhaigoaa.HAct Go.Proofs.Ytoeklekjhaigoaa.W0 Go.Proofs.Ytoeklekjhaigoaa.HFrom Go.Proofs.Ytoeklekjhaigoaa.W1 Go.Proofs.Ytoeklekjhaigoaa.R01 Go.Proofs.Ytoeklekjhaigoaa.HPack Go.Proofs.Ytoeklekjhaigoaa.HUnpack Go.Proofs.Ytoeklekjhaigoaa.HRefPack
set_option linter.unusedSimpArgs false
mutual
def doorwardref16_fits.j0 : Nat → Int → Bool → Int → List (S46) → Int → Int → ByteArray → Int → Option (Bool)
  | 0, _, _, _, _, _, _, _, _ => none
  | k + 1, x3, x46, x110000, x110001, x110002, x110003, x110004, x110005 => if x46 = true then (some false) else (if x110000 = 3 then (if x3 = 1 then (doorwardref16_fits.j1 k false x110000 x110001 x110002 x110003 x110004 x110005) else (doorwardref16_fits.j1 k true x110000 x110001 x110002 x110003 x110004 x110005)) else (doorwardref16_fits.j1 k (decide (x3 < 2)) x110000 x110001 x110002 x110003 x110004 x110005))
def doorwardref16_fits.j1 : Nat → Bool → Int → List (S46) → Int → Int → ByteArray → Int → Option (Bool)
  | 0, _, _, _, _, _, _, _ => none
  | k + 1, x62, x110000, x110001, x110002, x110003, x110004, x110005 => if x62 = true then (some false) else (doorwardref16_fits.l0 k x110001 (x110001.length : Int) 0)
def doorwardref16_fits.l0 : Nat → List (S46) → Int → Int → Option (Bool)
  | 0, _, _, _ => none
  | k + 1, x64, x65, x66 => if x66 < x65 then (if 0 ≤ x66 then (if x66 < (x64.length : Int) then ((doorwardref16_fits.f k ((rd_T46 x64 x66).f0) ((rd_T46 x64 x66).f1) ((rd_T46 x64 x66).f2) ((rd_T46 x64 x66).f3) ((rd_T46 x64 x66).f4) ((rd_T46 x64 x66).f5)).bind fun t114 => (if t114 = true then (doorwardref16_fits.l0 k x64 x65 (wrap64 (x66 + 1))) else (some false))) else (none)) else (none)) else (some true)
def doorwardref16_fits.f : Nat → Int → List (S46) → Int → Int → ByteArray → Int → Option (Bool)
  | 0, _, _, _, _, _, _ => none
  | k + 1, a0_0, l0_1, a0_2, a0_3, a0_4, a0_5 => if a0_0 = 4 then (if a0_2 ≥ 0 then (if a0_2 ≤ 5 then ((doorwardref16_sign.f a0_4).bind fun t110 => (if t110 = true then (some ((l0_1.length : Int) == 0)) else (some false))) else (some false)) else (some false)) else ((doorwardref16_bare.f a0_0 l0_1 a0_2 a0_3 a0_4 a0_5).bind fun t111 => (if t111 = true then (if a0_0 = 1 then (doorwardref16_fits.j0 k (l0_1.length : Int) false a0_0 l0_1 a0_2 a0_3 a0_4 a0_5) else (if a0_0 = 2 then (doorwardref16_fits.j0 k (l0_1.length : Int) false a0_0 l0_1 a0_2 a0_3 a0_4 a0_5) else (doorwardref16_fits.j0 k (l0_1.length : Int) (a0_0 != 3) a0_0 l0_1 a0_2 a0_3 a0_4 a0_5))) else (doorwardref16_fits.j0 k (l0_1.length : Int) true a0_0 l0_1 a0_2 a0_3 a0_4 a0_5)))
end
set_option maxHeartbeats 8000000 in
set_option maxRecDepth 100000 in
theorem doorwardref16_fits.calls (k : Nat) : ∀ (a0_0 : Int) (A0_1 : Option Addr) (c0_1 : Nat) (l0_1 : List (S46)) (a0_2 : Int) (a0_3 : Int) (a0_4 : ByteArray) (a0_5 : Int) (r : Bool) (w : World) (hr0_1 : Kd.C k46 w A0_1 l0_1.length l0_1) (hc0_1 : l0_1.length ≤ c0_1) (h : doorwardref16_fits.f k a0_0 l0_1 a0_2 a0_3 a0_4 a0_5 = some r),
    Calls Try.prog 91 #[.agg #[.int .i64 a0_0, .slice A0_1 l0_1.length c0_1, .int .i64 a0_2, .int .u64 a0_3, .string a0_4, .int .u64 a0_5]] w fun e w' => e = .returned (.bool r) ∧ Below w.heap.size w w' := by
  induction k using Nat.strongRecOn with
  | _ k ih =>
  intro a0_0 A0_1 c0_1 l0_1 a0_2 a0_3 a0_4 a0_5 r w hr0_1 hc0_1 h
  cases k with
  | zero => exact absurd h (by simp [doorwardref16_fits.f])
  | succ k =>
  simp only [doorwardref16_fits.f] at h
  have hu46 := Try.underlying46
  have HR0_1 := amk hr0_1
  have HC0_1 := amk hc0_1
  clear hr0_1 hc0_1
  have HB := amk (Below.refl w.heap.size w)
  have H : (if a0_0 = 4 then (if a0_2 ≥ 0 then (if a0_2 ≤ 5 then ((doorwardref16_sign.f a0_4).bind fun t110 => (if t110 = true then (some ((l0_1.length : Int) == 0)) else (some false))) else (some false)) else (some false)) else ((doorwardref16_bare.f a0_0 l0_1 a0_2 a0_3 a0_4 a0_5).bind fun t111 => (if t111 = true then (if a0_0 = 1 then (doorwardref16_fits.j0 k (l0_1.length : Int) false a0_0 l0_1 a0_2 a0_3 a0_4 a0_5) else (if a0_0 = 2 then (doorwardref16_fits.j0 k (l0_1.length : Int) false a0_0 l0_1 a0_2 a0_3 a0_4 a0_5) else (doorwardref16_fits.j0 k (l0_1.length : Int) (a0_0 != 3) a0_0 l0_1 a0_2 a0_3 a0_4 a0_5))) else (doorwardref16_fits.j0 k (l0_1.length : Int) true a0_0 l0_1 a0_2 a0_3 a0_4 a0_5)))) = some r := h
  clear h
  by_cases c2 : a0_0 = 4
  · rw [if_pos c2] at H
    have c2b0 : (a0_0 == 4) = true := beq_iff_eq.mpr c2
    have c2b1 : (a0_0 != 4) = false := bne_eq_false_iff_eq.mpr c2
    clear c2
    by_cases c3 : a0_2 ≥ 0
    · rw [if_pos c3] at H
      have c3b0 : decide (0 ≤ a0_2) = true := decide_eq_true c3
      clear c3
      by_cases c4 : a0_2 ≤ 5
      · rw [if_pos c4] at H
        have c4b0 : decide (a0_2 ≤ 5) = true := decide_eq_true c4
        clear c4
        replace H := Option.bind_eq_some_iff.mp H
        obtain ⟨t110, A50, H⟩ := H
        replace H : (if t110 = true then (some ((l0_1.length : Int) == 0)) else (some false)) = some r := H
        have A5 := amk A50
        clear A50
        by_cases c6 : t110 = true
        · subst c6
          have H1 : (some ((l0_1.length : Int) == 0)) = some r := by rw [if_pos rfl] at H; exact H
          clear H
          have H := H1
          clear H1
          obtain rfl := Option.some.inj H
          go_enter Try.func91, Try.ntmps91
          go_wp2_with (first | ((with_reducible refine gate_dst (N := 1) rfl ?_); refine box_event ?hg (N := 1) ?hd (cs := #[.int .i64 a0_0, .slice A0_1 l0_1.length c0_1, .int .i64 a0_2, .int .u64 a0_3, .string a0_4, .int .u64 a0_5]) (t := 46) ?hr ?_; (case hd => rfl); (case hg => rfl); (case hr => first | (go_simp; done) | (go_simp; rfl)); intro gb109 hg w7 hbox hb; have n0_ := amk (below_step (by repeat (first | (with_reducible first | exact HB.out | apply bal | apply pbd | apply below_drew1) | exact HB.out)) hb); have n1_ := amk (hbox); have n2_ := amk ((by rw [hg]; exact (below_size (by repeat (first | (with_reducible first | exact HB.out | apply bal | apply pbd | apply below_drew1) | exact HB.out))) : w.heap.size ≤ gb109)); have n3_ := amk ((by rw [hg]; exact (below_size (by repeat (first | (with_reducible first | exact HB.out | apply bal | apply pbd | apply below_drew1) | exact HB.out))) : w.heap.size ≤ gb109)); clear HB; have HB := n0_; have BK109 := n1_; have GW109 := n2_; have GE109 := n3_; clear n0_ n1_ n2_ n3_; clear hb hbox hg; have hcz8_0 : w7.cell? ⟨gb109, 0, none⟩ = some (.int .i64 a0_0) := (blk_cell BK109.out 0).trans rfl; have hcz8_1 : w7.cell? ⟨gb109, 1, none⟩ = some (.slice A0_1 l0_1.length c0_1) := (blk_cell BK109.out 1).trans rfl; have hcz8_2 : w7.cell? ⟨gb109, 2, none⟩ = some (.int .i64 a0_2) := (blk_cell BK109.out 2).trans rfl; have hcz8_3 : w7.cell? ⟨gb109, 3, none⟩ = some (.int .u64 a0_3) := (blk_cell BK109.out 3).trans rfl; have hcz8_4 : w7.cell? ⟨gb109, 4, none⟩ = some (.string a0_4) := (blk_cell BK109.out 4).trans rfl; have hcz8_5 : w7.cell? ⟨gb109, 5, none⟩ = some (.int .u64 a0_5) := (blk_cell BK109.out 5).trans rfl; have hfz8_0 := blk_frozen BK109.out 0; have hfz8_1 := blk_frozen BK109.out 1; have hfz8_2 := blk_frozen BK109.out 2; have hfz8_3 := blk_frozen BK109.out 3; have hfz8_4 := blk_frozen BK109.out 4; have hfz8_5 := blk_frozen BK109.out 5) | (go_at_call 126; (with_reducible refine (doorwardref16_sign.calls a0_4 true _ A5.out).mono ?_); rintro e w' ⟨rfl, ⟨nd, rfl⟩⟩))
          go_ret
          exact ⟨by first | rfl | (simp [errW_none, errW_some] <;> rfl) | (simp [*, errW_none, errW_some] <;> rfl), by repeat (first | (with_reducible first | exact HB.out | apply bal | apply pbd | apply below_drew1 | refine below_set ?_ GE109.out) | exact HB.out)⟩
        · replace c6 := Bool.eq_false_iff.mpr c6
          subst c6
          have H1 : (some false) = some r := by rw [if_neg (show ¬ (false = true) by decide)] at H; exact H
          clear H
          have H := H1
          clear H1
          obtain rfl := Option.some.inj H
          go_enter Try.func91, Try.ntmps91
          go_wp2_with (first | ((with_reducible refine gate_dst (N := 1) rfl ?_); refine box_event ?hg (N := 1) ?hd (cs := #[.int .i64 a0_0, .slice A0_1 l0_1.length c0_1, .int .i64 a0_2, .int .u64 a0_3, .string a0_4, .int .u64 a0_5]) (t := 46) ?hr ?_; (case hd => rfl); (case hg => rfl); (case hr => first | (go_simp; done) | (go_simp; rfl)); intro gb109 hg w9 hbox hb; have n0_ := amk (below_step (by repeat (first | (with_reducible first | exact HB.out | apply bal | apply pbd | apply below_drew1) | exact HB.out)) hb); have n1_ := amk (hbox); have n2_ := amk ((by rw [hg]; exact (below_size (by repeat (first | (with_reducible first | exact HB.out | apply bal | apply pbd | apply below_drew1) | exact HB.out))) : w.heap.size ≤ gb109)); have n3_ := amk ((by rw [hg]; exact (below_size (by repeat (first | (with_reducible first | exact HB.out | apply bal | apply pbd | apply below_drew1) | exact HB.out))) : w.heap.size ≤ gb109)); clear HB; have HB := n0_; have BK109 := n1_; have GW109 := n2_; have GE109 := n3_; clear n0_ n1_ n2_ n3_; clear hb hbox hg; have hcz10_0 : w9.cell? ⟨gb109, 0, none⟩ = some (.int .i64 a0_0) := (blk_cell BK109.out 0).trans rfl; have hcz10_1 : w9.cell? ⟨gb109, 1, none⟩ = some (.slice A0_1 l0_1.length c0_1) := (blk_cell BK109.out 1).trans rfl; have hcz10_2 : w9.cell? ⟨gb109, 2, none⟩ = some (.int .i64 a0_2) := (blk_cell BK109.out 2).trans rfl; have hcz10_3 : w9.cell? ⟨gb109, 3, none⟩ = some (.int .u64 a0_3) := (blk_cell BK109.out 3).trans rfl; have hcz10_4 : w9.cell? ⟨gb109, 4, none⟩ = some (.string a0_4) := (blk_cell BK109.out 4).trans rfl; have hcz10_5 : w9.cell? ⟨gb109, 5, none⟩ = some (.int .u64 a0_5) := (blk_cell BK109.out 5).trans rfl; have hfz10_0 := blk_frozen BK109.out 0; have hfz10_1 := blk_frozen BK109.out 1; have hfz10_2 := blk_frozen BK109.out 2; have hfz10_3 := blk_frozen BK109.out 3; have hfz10_4 := blk_frozen BK109.out 4; have hfz10_5 := blk_frozen BK109.out 5) | (go_at_call 126; (with_reducible refine (doorwardref16_sign.calls a0_4 false _ A5.out).mono ?_); rintro e w' ⟨rfl, ⟨nd, rfl⟩⟩))
          go_ret
          exact ⟨by first | rfl | (simp [errW_none, errW_some] <;> rfl) | (simp [*, errW_none, errW_some] <;> rfl), by repeat (first | (with_reducible first | exact HB.out | apply bal | apply pbd | apply below_drew1 | refine below_set ?_ GE109.out) | exact HB.out)⟩
      · rw [if_neg c4] at H
        have c4b0 : decide (a0_2 ≤ 5) = false := decide_eq_false c4
        clear c4
        obtain rfl := Option.some.inj H
        go_enter Try.func91, Try.ntmps91
        go_wp2_with (first | ((with_reducible refine gate_dst (N := 1) rfl ?_); refine box_event ?hg (N := 1) ?hd (cs := #[.int .i64 a0_0, .slice A0_1 l0_1.length c0_1, .int .i64 a0_2, .int .u64 a0_3, .string a0_4, .int .u64 a0_5]) (t := 46) ?hr ?_; (case hd => rfl); (case hg => rfl); (case hr => first | (go_simp; done) | (go_simp; rfl)); intro gb109 hg w11 hbox hb; have n0_ := amk (below_step (by repeat (first | (with_reducible first | exact HB.out | apply bal | apply pbd | apply below_drew1) | exact HB.out)) hb); have n1_ := amk (hbox); have n2_ := amk ((by rw [hg]; exact (below_size (by repeat (first | (with_reducible first | exact HB.out | apply bal | apply pbd | apply below_drew1) | exact HB.out))) : w.heap.size ≤ gb109)); have n3_ := amk ((by rw [hg]; exact (below_size (by repeat (first | (with_reducible first | exact HB.out | apply bal | apply pbd | apply below_drew1) | exact HB.out))) : w.heap.size ≤ gb109)); clear HB; have HB := n0_; have BK109 := n1_; have GW109 := n2_; have GE109 := n3_; clear n0_ n1_ n2_ n3_; clear hb hbox hg; have hcz12_0 : w11.cell? ⟨gb109, 0, none⟩ = some (.int .i64 a0_0) := (blk_cell BK109.out 0).trans rfl; have hcz12_1 : w11.cell? ⟨gb109, 1, none⟩ = some (.slice A0_1 l0_1.length c0_1) := (blk_cell BK109.out 1).trans rfl; have hcz12_2 : w11.cell? ⟨gb109, 2, none⟩ = some (.int .i64 a0_2) := (blk_cell BK109.out 2).trans rfl; have hcz12_3 : w11.cell? ⟨gb109, 3, none⟩ = some (.int .u64 a0_3) := (blk_cell BK109.out 3).trans rfl; have hcz12_4 : w11.cell? ⟨gb109, 4, none⟩ = some (.string a0_4) := (blk_cell BK109.out 4).trans rfl; have hcz12_5 : w11.cell? ⟨gb109, 5, none⟩ = some (.int .u64 a0_5) := (blk_cell BK109.out 5).trans rfl; have hfz12_0 := blk_frozen BK109.out 0; have hfz12_1 := blk_frozen BK109.out 1; have hfz12_2 := blk_frozen BK109.out 2; have hfz12_3 := blk_frozen BK109.out 3; have hfz12_4 := blk_frozen BK109.out 4; have hfz12_5 := blk_frozen BK109.out 5))
        go_ret
        exact ⟨by first | rfl | (simp [errW_none, errW_some] <;> rfl) | (simp [*, errW_none, errW_some] <;> rfl), by repeat (first | (with_reducible first | exact HB.out | apply bal | apply pbd | apply below_drew1 | refine below_set ?_ GE109.out) | exact HB.out)⟩
    · rw [if_neg c3] at H
      have c3b0 : decide (0 ≤ a0_2) = false := decide_eq_false c3
      clear c3
      obtain rfl := Option.some.inj H
      go_enter Try.func91, Try.ntmps91
      go_wp2_with (first | ((with_reducible refine gate_dst (N := 1) rfl ?_); refine box_event ?hg (N := 1) ?hd (cs := #[.int .i64 a0_0, .slice A0_1 l0_1.length c0_1, .int .i64 a0_2, .int .u64 a0_3, .string a0_4, .int .u64 a0_5]) (t := 46) ?hr ?_; (case hd => rfl); (case hg => rfl); (case hr => first | (go_simp; done) | (go_simp; rfl)); intro gb109 hg w13 hbox hb; have n0_ := amk (below_step (by repeat (first | (with_reducible first | exact HB.out | apply bal | apply pbd | apply below_drew1) | exact HB.out)) hb); have n1_ := amk (hbox); have n2_ := amk ((by rw [hg]; exact (below_size (by repeat (first | (with_reducible first | exact HB.out | apply bal | apply pbd | apply below_drew1) | exact HB.out))) : w.heap.size ≤ gb109)); have n3_ := amk ((by rw [hg]; exact (below_size (by repeat (first | (with_reducible first | exact HB.out | apply bal | apply pbd | apply below_drew1) | exact HB.out))) : w.heap.size ≤ gb109)); clear HB; have HB := n0_; have BK109 := n1_; have GW109 := n2_; have GE109 := n3_; clear n0_ n1_ n2_ n3_; clear hb hbox hg; have hcz14_0 : w13.cell? ⟨gb109, 0, none⟩ = some (.int .i64 a0_0) := (blk_cell BK109.out 0).trans rfl; have hcz14_1 : w13.cell? ⟨gb109, 1, none⟩ = some (.slice A0_1 l0_1.length c0_1) := (blk_cell BK109.out 1).trans rfl; have hcz14_2 : w13.cell? ⟨gb109, 2, none⟩ = some (.int .i64 a0_2) := (blk_cell BK109.out 2).trans rfl; have hcz14_3 : w13.cell? ⟨gb109, 3, none⟩ = some (.int .u64 a0_3) := (blk_cell BK109.out 3).trans rfl; have hcz14_4 : w13.cell? ⟨gb109, 4, none⟩ = some (.string a0_4) := (blk_cell BK109.out 4).trans rfl; have hcz14_5 : w13.cell? ⟨gb109, 5, none⟩ = some (.int .u64 a0_5) := (blk_cell BK109.out 5).trans rfl; have hfz14_0 := blk_frozen BK109.out 0; have hfz14_1 := blk_frozen BK109.out 1; have hfz14_2 := blk_frozen BK109.out 2; have hfz14_3 := blk_frozen BK109.out 3; have hfz14_4 := blk_frozen BK109.out 4; have hfz14_5 := blk_frozen BK109.out 5))
      go_ret
      exact ⟨by first | rfl | (simp [errW_none, errW_some] <;> rfl) | (simp [*, errW_none, errW_some] <;> rfl), by repeat (first | (with_reducible first | exact HB.out | apply bal | apply pbd | apply below_drew1 | refine below_set ?_ GE109.out) | exact HB.out)⟩
  · rw [if_neg c2] at H
    have c2b0 : (a0_0 == 4) = false := beq_eq_false_iff_ne.mpr c2
    have c2b1 : (a0_0 != 4) = true := bne_iff_ne.mpr c2
    have HC15 := amk H
    clear H
    go_enter Try.func91, Try.ntmps91
    go_upto_region 4 with (first | ((with_reducible refine gate_dst (N := 1) rfl ?_); refine box_event ?hg (N := 1) ?hd (cs := #[.int .i64 a0_0, .slice A0_1 l0_1.length c0_1, .int .i64 a0_2, .int .u64 a0_3, .string a0_4, .int .u64 a0_5]) (t := 46) ?hr ?_; (case hd => rfl); (case hg => rfl); (case hr => first | (go_simp; done) | (go_simp; rfl)); intro gb109 hg w16 hbox hb; have n0_ := amk (below_step (by repeat (first | (with_reducible first | exact HB.out | apply bal | apply pbd | apply below_drew1) | exact HB.out)) hb); have n1_ := amk (hbox); have n2_ := amk ((by rw [hg]; exact (below_size (by repeat (first | (with_reducible first | exact HB.out | apply bal | apply pbd | apply below_drew1) | exact HB.out))) : w.heap.size ≤ gb109)); have n3_ := amk ((by rw [hg]; exact (below_size (by repeat (first | (with_reducible first | exact HB.out | apply bal | apply pbd | apply below_drew1) | exact HB.out))) : w.heap.size ≤ gb109)); clear HB; have HB := n0_; have BK109 := n1_; have GW109 := n2_; have GE109 := n3_; clear n0_ n1_ n2_ n3_; clear hb hbox hg; have hcz17_0 : w16.cell? ⟨gb109, 0, none⟩ = some (.int .i64 a0_0) := (blk_cell BK109.out 0).trans rfl; have hcz17_1 : w16.cell? ⟨gb109, 1, none⟩ = some (.slice A0_1 l0_1.length c0_1) := (blk_cell BK109.out 1).trans rfl; have hcz17_2 : w16.cell? ⟨gb109, 2, none⟩ = some (.int .i64 a0_2) := (blk_cell BK109.out 2).trans rfl; have hcz17_3 : w16.cell? ⟨gb109, 3, none⟩ = some (.int .u64 a0_3) := (blk_cell BK109.out 3).trans rfl; have hcz17_4 : w16.cell? ⟨gb109, 4, none⟩ = some (.string a0_4) := (blk_cell BK109.out 4).trans rfl; have hcz17_5 : w16.cell? ⟨gb109, 5, none⟩ = some (.int .u64 a0_5) := (blk_cell BK109.out 5).trans rfl; have hfz17_0 := blk_frozen BK109.out 0; have hfz17_1 := blk_frozen BK109.out 1; have hfz17_2 := blk_frozen BK109.out 2; have hfz17_3 := blk_frozen BK109.out 3; have hfz17_4 := blk_frozen BK109.out 4; have hfz17_5 := blk_frozen BK109.out 5))
    (try simp only [Act.put, List.setIfInBounds_toArray, List.set_cons_zero, List.set_cons_succ])
    go_cut [46] (fun v46 wc => ∃ (kq : Nat) (x46_14 : Bool), v46 = .bool x46_14 ∧ Aside0 (doorwardref16_fits.j0 kq (l0_1.length : Int) x46_14 a0_0 l0_1 a0_2 a0_3 a0_4 a0_5 = some r) ∧ Aside0 (kq ≤ k) ∧ Aside0 (wc.heap[gb109]? = some (.cells #[.int .i64 a0_0, (.slice A0_1 l0_1.length c0_1), .int .i64 a0_2, .int .u64 a0_3, .string a0_4, .int .u64 a0_5] 46 (0, 0))) ∧ Aside0 (Below w.heap.size w wc))
    case first =>
      have H := HC15.out
      clear HC15
      replace H := Option.bind_eq_some_iff.mp H
      obtain ⟨t111, A180, H⟩ := H
      replace H : (if t111 = true then (if a0_0 = 1 then (doorwardref16_fits.j0 k (l0_1.length : Int) false a0_0 l0_1 a0_2 a0_3 a0_4 a0_5) else (if a0_0 = 2 then (doorwardref16_fits.j0 k (l0_1.length : Int) false a0_0 l0_1 a0_2 a0_3 a0_4 a0_5) else (doorwardref16_fits.j0 k (l0_1.length : Int) (a0_0 != 3) a0_0 l0_1 a0_2 a0_3 a0_4 a0_5))) else (doorwardref16_fits.j0 k (l0_1.length : Int) true a0_0 l0_1 a0_2 a0_3 a0_4 a0_5)) = some r := H
      have A18 := amk A180
      clear A180
      by_cases c19 : t111 = true
      · subst c19
        have H1 : (if a0_0 = 1 then (doorwardref16_fits.j0 k (l0_1.length : Int) false a0_0 l0_1 a0_2 a0_3 a0_4 a0_5) else (if a0_0 = 2 then (doorwardref16_fits.j0 k (l0_1.length : Int) false a0_0 l0_1 a0_2 a0_3 a0_4 a0_5) else (doorwardref16_fits.j0 k (l0_1.length : Int) (a0_0 != 3) a0_0 l0_1 a0_2 a0_3 a0_4 a0_5))) = some r := by rw [if_pos rfl] at H; exact H
        clear H
        have H := H1
        clear H1
        by_cases c20 : a0_0 = 1
        · rw [if_pos c20] at H
          have c20b0 : (a0_0 == 1) = true := beq_iff_eq.mpr c20
          have c20b1 : (a0_0 != 1) = false := bne_eq_false_iff_eq.mpr c20
          clear c20
          (first | rw [c20b0] | (simp only [i64_w, i32_w]; rw [c20b0]) | skip)
          have H' := amk H
          clear H
          have hcz21_0 : w16.cell? ⟨gb109, 0, none⟩ = some (.int .i64 a0_0) := (blk_cell BK109.out 0).trans rfl
          have hcz21_1 : w16.cell? ⟨gb109, 1, none⟩ = some (.slice A0_1 l0_1.length c0_1) := (blk_cell BK109.out 1).trans rfl
          have hcz21_2 : w16.cell? ⟨gb109, 2, none⟩ = some (.int .i64 a0_2) := (blk_cell BK109.out 2).trans rfl
          have hcz21_3 : w16.cell? ⟨gb109, 3, none⟩ = some (.int .u64 a0_3) := (blk_cell BK109.out 3).trans rfl
          have hcz21_4 : w16.cell? ⟨gb109, 4, none⟩ = some (.string a0_4) := (blk_cell BK109.out 4).trans rfl
          have hcz21_5 : w16.cell? ⟨gb109, 5, none⟩ = some (.int .u64 a0_5) := (blk_cell BK109.out 5).trans rfl
          have hfz21_0 := blk_frozen BK109.out 0
          have hfz21_1 := blk_frozen BK109.out 1
          have hfz21_2 := blk_frozen BK109.out 2
          have hfz21_3 := blk_frozen BK109.out 3
          have hfz21_4 := blk_frozen BK109.out 4
          have hfz21_5 := blk_frozen BK109.out 5
          go_wp2_with (first | ((with_reducible refine gate_callee (f := 107) rfl ?_); refine goesL_ (some 30) rfl rfl Try.func107 (by kernel_rfl) rfl #[.agg #[.int .i64 a0_0, .slice A0_1 l0_1.length c0_1, .int .i64 a0_2, .int .u64 a0_3, .string a0_4, .int .u64 a0_5]] rfl (by (try simp only [List.map_toArray, List.map_cons, List.map_nil]); first | done | rfl | (simp only [List.length_drop, List.length_take]; rfl)) ?_; (with_reducible refine (doorwardref16_bare.calls a0_0 _ _ l0_1 a0_2 a0_3 a0_4 a0_5 true _ ?side1 ?side2 A18.out).mono ?_); (case side1 => repeat (first | exact (Kd.C_below HR0_1.out HB.out) | (with_reducible refine Kd.C_alloc ?_ _) | (with_reducible refine Kd.C_drewN ?_ _) | (with_reducible refine Kd.C_drew ?_))); (case side2 => exact HC0_1.out); rintro e w22 ⟨rfl, hb⟩; refine ⟨_, rfl, ?_⟩; have n0_ := amk (blk_below (g := gb109) (o := .cells #[.int .i64 a0_0, .slice A0_1 l0_1.length c0_1, .int .i64 a0_2, .int .u64 a0_3, .string a0_4, .int .u64 a0_5] 46 (0, 0)) (by (with_reducible repeat (first | refine blk_drewN ?_ _ | refine blk_drew ?_ | refine blk_alloc ?_ _)); exact BK109.out) hb); have n1_ := amk (below_step (by repeat (first | (with_reducible first | exact HB.out | apply bal | apply pbd | apply below_drew1 | refine below_set ?_ GE109.out) | exact HB.out)) hb); clear BK109; clear HB; have BK109 := n0_; have HB := n1_; clear n0_ n1_; (try clear hb); (try clear hb2); (try clear hk); (try clear hi); have hcz23_0 : w22.cell? ⟨gb109, 0, none⟩ = some (.int .i64 a0_0) := (blk_cell BK109.out 0).trans rfl; have hcz23_1 : w22.cell? ⟨gb109, 1, none⟩ = some (.slice A0_1 l0_1.length c0_1) := (blk_cell BK109.out 1).trans rfl; have hcz23_2 : w22.cell? ⟨gb109, 2, none⟩ = some (.int .i64 a0_2) := (blk_cell BK109.out 2).trans rfl; have hcz23_3 : w22.cell? ⟨gb109, 3, none⟩ = some (.int .u64 a0_3) := (blk_cell BK109.out 3).trans rfl; have hcz23_4 : w22.cell? ⟨gb109, 4, none⟩ = some (.string a0_4) := (blk_cell BK109.out 4).trans rfl; have hcz23_5 : w22.cell? ⟨gb109, 5, none⟩ = some (.int .u64 a0_5) := (blk_cell BK109.out 5).trans rfl; have hfz23_0 := blk_frozen BK109.out 0; have hfz23_1 := blk_frozen BK109.out 1; have hfz23_2 := blk_frozen BK109.out 2; have hfz23_3 := blk_frozen BK109.out 3; have hfz23_4 := blk_frozen BK109.out 4; have hfz23_5 := blk_frozen BK109.out 5))
          go_meet
          case rel => exact ⟨_, (false), (by first | rfl | (simp; done) | (simp [*]; done)), H', ⟨by first | omega | exact Nat.le_refl _⟩, ⟨by (with_reducible repeat (first | refine blk_drewN ?_ _ | refine blk_drew ?_ | refine blk_alloc ?_ _)); exact BK109.out⟩, ⟨by repeat (first | (with_reducible first | exact HB.out | apply bal | apply pbd | apply below_drew1 | refine below_set ?_ GE109.out) | exact HB.out)⟩⟩
        · rw [if_neg c20] at H
          have c20b0 : (a0_0 == 1) = false := beq_eq_false_iff_ne.mpr c20
          have c20b1 : (a0_0 != 1) = true := bne_iff_ne.mpr c20
          (first | rw [c20b0] | (simp only [i64_w, i32_w]; rw [c20b0]) | skip)
          by_cases c24 : a0_0 = 2
          · rw [if_pos c24] at H
            have c24b0 : (a0_0 == 2) = true := beq_iff_eq.mpr c24
            have c24b1 : (a0_0 != 2) = false := bne_eq_false_iff_eq.mpr c24
            clear c24
            have H' := amk H
            clear H
            have hcz25_0 : w16.cell? ⟨gb109, 0, none⟩ = some (.int .i64 a0_0) := (blk_cell BK109.out 0).trans rfl
            have hcz25_1 : w16.cell? ⟨gb109, 1, none⟩ = some (.slice A0_1 l0_1.length c0_1) := (blk_cell BK109.out 1).trans rfl
            have hcz25_2 : w16.cell? ⟨gb109, 2, none⟩ = some (.int .i64 a0_2) := (blk_cell BK109.out 2).trans rfl
            have hcz25_3 : w16.cell? ⟨gb109, 3, none⟩ = some (.int .u64 a0_3) := (blk_cell BK109.out 3).trans rfl
            have hcz25_4 : w16.cell? ⟨gb109, 4, none⟩ = some (.string a0_4) := (blk_cell BK109.out 4).trans rfl
            have hcz25_5 : w16.cell? ⟨gb109, 5, none⟩ = some (.int .u64 a0_5) := (blk_cell BK109.out 5).trans rfl
            have hfz25_0 := blk_frozen BK109.out 0
            have hfz25_1 := blk_frozen BK109.out 1
            have hfz25_2 := blk_frozen BK109.out 2
            have hfz25_3 := blk_frozen BK109.out 3
            have hfz25_4 := blk_frozen BK109.out 4
            have hfz25_5 := blk_frozen BK109.out 5
            go_wp2_with (first | ((with_reducible refine gate_callee (f := 107) rfl ?_); refine goesL_ (some 30) rfl rfl Try.func107 (by kernel_rfl) rfl #[.agg #[.int .i64 a0_0, .slice A0_1 l0_1.length c0_1, .int .i64 a0_2, .int .u64 a0_3, .string a0_4, .int .u64 a0_5]] rfl (by (try simp only [List.map_toArray, List.map_cons, List.map_nil]); first | done | rfl | (simp only [List.length_drop, List.length_take]; rfl)) ?_; (with_reducible refine (doorwardref16_bare.calls a0_0 _ _ l0_1 a0_2 a0_3 a0_4 a0_5 true _ ?side1 ?side2 A18.out).mono ?_); (case side1 => repeat (first | exact (Kd.C_below HR0_1.out HB.out) | (with_reducible refine Kd.C_alloc ?_ _) | (with_reducible refine Kd.C_drewN ?_ _) | (with_reducible refine Kd.C_drew ?_))); (case side2 => exact HC0_1.out); rintro e w26 ⟨rfl, hb⟩; refine ⟨_, rfl, ?_⟩; have n0_ := amk (blk_below (g := gb109) (o := .cells #[.int .i64 a0_0, .slice A0_1 l0_1.length c0_1, .int .i64 a0_2, .int .u64 a0_3, .string a0_4, .int .u64 a0_5] 46 (0, 0)) (by (with_reducible repeat (first | refine blk_drewN ?_ _ | refine blk_drew ?_ | refine blk_alloc ?_ _)); exact BK109.out) hb); have n1_ := amk (below_step (by repeat (first | (with_reducible first | exact HB.out | apply bal | apply pbd | apply below_drew1 | refine below_set ?_ GE109.out) | exact HB.out)) hb); clear BK109; clear HB; have BK109 := n0_; have HB := n1_; clear n0_ n1_; (try clear hb); (try clear hb2); (try clear hk); (try clear hi); have hcz27_0 : w26.cell? ⟨gb109, 0, none⟩ = some (.int .i64 a0_0) := (blk_cell BK109.out 0).trans rfl; have hcz27_1 : w26.cell? ⟨gb109, 1, none⟩ = some (.slice A0_1 l0_1.length c0_1) := (blk_cell BK109.out 1).trans rfl; have hcz27_2 : w26.cell? ⟨gb109, 2, none⟩ = some (.int .i64 a0_2) := (blk_cell BK109.out 2).trans rfl; have hcz27_3 : w26.cell? ⟨gb109, 3, none⟩ = some (.int .u64 a0_3) := (blk_cell BK109.out 3).trans rfl; have hcz27_4 : w26.cell? ⟨gb109, 4, none⟩ = some (.string a0_4) := (blk_cell BK109.out 4).trans rfl; have hcz27_5 : w26.cell? ⟨gb109, 5, none⟩ = some (.int .u64 a0_5) := (blk_cell BK109.out 5).trans rfl; have hfz27_0 := blk_frozen BK109.out 0; have hfz27_1 := blk_frozen BK109.out 1; have hfz27_2 := blk_frozen BK109.out 2; have hfz27_3 := blk_frozen BK109.out 3; have hfz27_4 := blk_frozen BK109.out 4; have hfz27_5 := blk_frozen BK109.out 5))
            go_meet
            case rel => exact ⟨_, (false), (by first | rfl | (simp; done) | (simp [*]; done)), H', ⟨by first | omega | exact Nat.le_refl _⟩, ⟨by (with_reducible repeat (first | refine blk_drewN ?_ _ | refine blk_drew ?_ | refine blk_alloc ?_ _)); exact BK109.out⟩, ⟨by repeat (first | (with_reducible first | exact HB.out | apply bal | apply pbd | apply below_drew1 | refine below_set ?_ GE109.out) | exact HB.out)⟩⟩
          · rw [if_neg c24] at H
            have c24b0 : (a0_0 == 2) = false := beq_eq_false_iff_ne.mpr c24
            have c24b1 : (a0_0 != 2) = true := bne_iff_ne.mpr c24
            have H' := amk H
            clear H
            have hcz28_0 : w16.cell? ⟨gb109, 0, none⟩ = some (.int .i64 a0_0) := (blk_cell BK109.out 0).trans rfl
            have hcz28_1 : w16.cell? ⟨gb109, 1, none⟩ = some (.slice A0_1 l0_1.length c0_1) := (blk_cell BK109.out 1).trans rfl
            have hcz28_2 : w16.cell? ⟨gb109, 2, none⟩ = some (.int .i64 a0_2) := (blk_cell BK109.out 2).trans rfl
            have hcz28_3 : w16.cell? ⟨gb109, 3, none⟩ = some (.int .u64 a0_3) := (blk_cell BK109.out 3).trans rfl
            have hcz28_4 : w16.cell? ⟨gb109, 4, none⟩ = some (.string a0_4) := (blk_cell BK109.out 4).trans rfl
            have hcz28_5 : w16.cell? ⟨gb109, 5, none⟩ = some (.int .u64 a0_5) := (blk_cell BK109.out 5).trans rfl
            have hfz28_0 := blk_frozen BK109.out 0
            have hfz28_1 := blk_frozen BK109.out 1
            have hfz28_2 := blk_frozen BK109.out 2
            have hfz28_3 := blk_frozen BK109.out 3
            have hfz28_4 := blk_frozen BK109.out 4
            have hfz28_5 := blk_frozen BK109.out 5
            go_wp2_with (first | ((with_reducible refine gate_callee (f := 107) rfl ?_); refine goesL_ (some 30) rfl rfl Try.func107 (by kernel_rfl) rfl #[.agg #[.int .i64 a0_0, .slice A0_1 l0_1.length c0_1, .int .i64 a0_2, .int .u64 a0_3, .string a0_4, .int .u64 a0_5]] rfl (by (try simp only [List.map_toArray, List.map_cons, List.map_nil]); first | done | rfl | (simp only [List.length_drop, List.length_take]; rfl)) ?_; (with_reducible refine (doorwardref16_bare.calls a0_0 _ _ l0_1 a0_2 a0_3 a0_4 a0_5 true _ ?side1 ?side2 A18.out).mono ?_); (case side1 => repeat (first | exact (Kd.C_below HR0_1.out HB.out) | (with_reducible refine Kd.C_alloc ?_ _) | (with_reducible refine Kd.C_drewN ?_ _) | (with_reducible refine Kd.C_drew ?_))); (case side2 => exact HC0_1.out); rintro e w29 ⟨rfl, hb⟩; refine ⟨_, rfl, ?_⟩; have n0_ := amk (blk_below (g := gb109) (o := .cells #[.int .i64 a0_0, .slice A0_1 l0_1.length c0_1, .int .i64 a0_2, .int .u64 a0_3, .string a0_4, .int .u64 a0_5] 46 (0, 0)) (by (with_reducible repeat (first | refine blk_drewN ?_ _ | refine blk_drew ?_ | refine blk_alloc ?_ _)); exact BK109.out) hb); have n1_ := amk (below_step (by repeat (first | (with_reducible first | exact HB.out | apply bal | apply pbd | apply below_drew1 | refine below_set ?_ GE109.out) | exact HB.out)) hb); clear BK109; clear HB; have BK109 := n0_; have HB := n1_; clear n0_ n1_; (try clear hb); (try clear hb2); (try clear hk); (try clear hi); have hcz30_0 : w29.cell? ⟨gb109, 0, none⟩ = some (.int .i64 a0_0) := (blk_cell BK109.out 0).trans rfl; have hcz30_1 : w29.cell? ⟨gb109, 1, none⟩ = some (.slice A0_1 l0_1.length c0_1) := (blk_cell BK109.out 1).trans rfl; have hcz30_2 : w29.cell? ⟨gb109, 2, none⟩ = some (.int .i64 a0_2) := (blk_cell BK109.out 2).trans rfl; have hcz30_3 : w29.cell? ⟨gb109, 3, none⟩ = some (.int .u64 a0_3) := (blk_cell BK109.out 3).trans rfl; have hcz30_4 : w29.cell? ⟨gb109, 4, none⟩ = some (.string a0_4) := (blk_cell BK109.out 4).trans rfl; have hcz30_5 : w29.cell? ⟨gb109, 5, none⟩ = some (.int .u64 a0_5) := (blk_cell BK109.out 5).trans rfl; have hfz30_0 := blk_frozen BK109.out 0; have hfz30_1 := blk_frozen BK109.out 1; have hfz30_2 := blk_frozen BK109.out 2; have hfz30_3 := blk_frozen BK109.out 3; have hfz30_4 := blk_frozen BK109.out 4; have hfz30_5 := blk_frozen BK109.out 5))
            go_meet
            case rel => exact ⟨_, ((a0_0 != 3)), (by first | rfl | (simp; done) | (simp [*]; done)), H', ⟨by first | omega | exact Nat.le_refl _⟩, ⟨by (with_reducible repeat (first | refine blk_drewN ?_ _ | refine blk_drew ?_ | refine blk_alloc ?_ _)); exact BK109.out⟩, ⟨by repeat (first | (with_reducible first | exact HB.out | apply bal | apply pbd | apply below_drew1 | refine below_set ?_ GE109.out) | exact HB.out)⟩⟩
      · replace c19 := Bool.eq_false_iff.mpr c19
        subst c19
        have H1 : (doorwardref16_fits.j0 k (l0_1.length : Int) true a0_0 l0_1 a0_2 a0_3 a0_4 a0_5) = some r := by rw [if_neg (show ¬ (false = true) by decide)] at H; exact H
        clear H
        have H := H1
        clear H1
        have H' := amk H
        clear H
        have hcz31_0 : w16.cell? ⟨gb109, 0, none⟩ = some (.int .i64 a0_0) := (blk_cell BK109.out 0).trans rfl
        have hcz31_1 : w16.cell? ⟨gb109, 1, none⟩ = some (.slice A0_1 l0_1.length c0_1) := (blk_cell BK109.out 1).trans rfl
        have hcz31_2 : w16.cell? ⟨gb109, 2, none⟩ = some (.int .i64 a0_2) := (blk_cell BK109.out 2).trans rfl
        have hcz31_3 : w16.cell? ⟨gb109, 3, none⟩ = some (.int .u64 a0_3) := (blk_cell BK109.out 3).trans rfl
        have hcz31_4 : w16.cell? ⟨gb109, 4, none⟩ = some (.string a0_4) := (blk_cell BK109.out 4).trans rfl
        have hcz31_5 : w16.cell? ⟨gb109, 5, none⟩ = some (.int .u64 a0_5) := (blk_cell BK109.out 5).trans rfl
        have hfz31_0 := blk_frozen BK109.out 0
        have hfz31_1 := blk_frozen BK109.out 1
        have hfz31_2 := blk_frozen BK109.out 2
        have hfz31_3 := blk_frozen BK109.out 3
        have hfz31_4 := blk_frozen BK109.out 4
        have hfz31_5 := blk_frozen BK109.out 5
        go_wp2_with (first | ((with_reducible refine gate_callee (f := 107) rfl ?_); refine goesL_ (some 30) rfl rfl Try.func107 (by kernel_rfl) rfl #[.agg #[.int .i64 a0_0, .slice A0_1 l0_1.length c0_1, .int .i64 a0_2, .int .u64 a0_3, .string a0_4, .int .u64 a0_5]] rfl (by (try simp only [List.map_toArray, List.map_cons, List.map_nil]); first | done | rfl | (simp only [List.length_drop, List.length_take]; rfl)) ?_; (with_reducible refine (doorwardref16_bare.calls a0_0 _ _ l0_1 a0_2 a0_3 a0_4 a0_5 false _ ?side1 ?side2 A18.out).mono ?_); (case side1 => repeat (first | exact (Kd.C_below HR0_1.out HB.out) | (with_reducible refine Kd.C_alloc ?_ _) | (with_reducible refine Kd.C_drewN ?_ _) | (with_reducible refine Kd.C_drew ?_))); (case side2 => exact HC0_1.out); rintro e w32 ⟨rfl, hb⟩; refine ⟨_, rfl, ?_⟩; have n0_ := amk (blk_below (g := gb109) (o := .cells #[.int .i64 a0_0, .slice A0_1 l0_1.length c0_1, .int .i64 a0_2, .int .u64 a0_3, .string a0_4, .int .u64 a0_5] 46 (0, 0)) (by (with_reducible repeat (first | refine blk_drewN ?_ _ | refine blk_drew ?_ | refine blk_alloc ?_ _)); exact BK109.out) hb); have n1_ := amk (below_step (by repeat (first | (with_reducible first | exact HB.out | apply bal | apply pbd | apply below_drew1 | refine below_set ?_ GE109.out) | exact HB.out)) hb); clear BK109; clear HB; have BK109 := n0_; have HB := n1_; clear n0_ n1_; (try clear hb); (try clear hb2); (try clear hk); (try clear hi)))
        go_meet
        case rel => exact ⟨_, (true), (by first | rfl | (simp; done) | (simp [*]; done)), H', ⟨by first | omega | exact Nat.le_refl _⟩, ⟨by (with_reducible repeat (first | refine blk_drewN ?_ _ | refine blk_drew ?_ | refine blk_alloc ?_ _)); exact BK109.out⟩, ⟨by repeat (first | (with_reducible first | exact HB.out | apply bal | apply pbd | apply below_drew1 | refine below_set ?_ GE109.out) | exact HB.out)⟩⟩
    case rest =>
      clear HC15
      try clear c1
      try clear c2
      try clear c2b0
      try clear c2b1
      try clear p2
      try clear c3
      try clear c3b0
      try clear c4
      try clear c4b0
      try clear c6
      try clear c9
      try clear c10
      try clear c19
      try clear c20
      try clear c20b0
      try clear c20b1
      try clear c24
      try clear c24b0
      try clear c24b1
      try clear hcz10_0
      try clear hcz10_1
      try clear hcz10_2
      try clear hcz10_3
      try clear hcz10_4
      try clear hcz10_5
      try clear hcz12_0
      try clear hcz12_1
      try clear hcz12_2
      try clear hcz12_3
      try clear hcz12_4
      try clear hcz12_5
      try clear hcz14_0
      try clear hcz14_1
      try clear hcz14_2
      try clear hcz14_3
      try clear hcz14_4
      try clear hcz14_5
      try clear hcz17_0
      try clear hcz17_1
      try clear hcz17_2
      try clear hcz17_3
      try clear hcz17_4
      try clear hcz17_5
      try clear hcz21_0
      try clear hcz21_1
      try clear hcz21_2
      try clear hcz21_3
      try clear hcz21_4
      try clear hcz21_5
      try clear hcz23_0
      try clear hcz23_1
      try clear hcz23_2
      try clear hcz23_3
      try clear hcz23_4
      try clear hcz23_5
      try clear hcz25_0
      try clear hcz25_1
      try clear hcz25_2
      try clear hcz25_3
      try clear hcz25_4
      try clear hcz25_5
      try clear hcz27_0
      try clear hcz27_1
      try clear hcz27_2
      try clear hcz27_3
      try clear hcz27_4
      try clear hcz27_5
      try clear hcz28_0
      try clear hcz28_1
      try clear hcz28_2
      try clear hcz28_3
      try clear hcz28_4
      try clear hcz28_5
      try clear hcz30_0
      try clear hcz30_1
      try clear hcz30_2
      try clear hcz30_3
      try clear hcz30_4
      try clear hcz30_5
      try clear hcz31_0
      try clear hcz31_1
      try clear hcz31_2
      try clear hcz31_3
      try clear hcz31_4
      try clear hcz31_5
      try clear hcz8_0
      try clear hcz8_1
      try clear hcz8_2
      try clear hcz8_3
      try clear hcz8_4
      try clear hcz8_5
      try clear hfz10_0
      try clear hfz10_1
      try clear hfz10_2
      try clear hfz10_3
      try clear hfz10_4
      try clear hfz10_5
      try clear hfz12_0
      try clear hfz12_1
      try clear hfz12_2
      try clear hfz12_3
      try clear hfz12_4
      try clear hfz12_5
      try clear hfz14_0
      try clear hfz14_1
      try clear hfz14_2
      try clear hfz14_3
      try clear hfz14_4
      try clear hfz14_5
      try clear hfz17_0
      try clear hfz17_1
      try clear hfz17_2
      try clear hfz17_3
      try clear hfz17_4
      try clear hfz17_5
      try clear hfz21_0
      try clear hfz21_1
      try clear hfz21_2
      try clear hfz21_3
      try clear hfz21_4
      try clear hfz21_5
      try clear hfz23_0
      try clear hfz23_1
      try clear hfz23_2
      try clear hfz23_3
      try clear hfz23_4
      try clear hfz23_5
      try clear hfz25_0
      try clear hfz25_1
      try clear hfz25_2
      try clear hfz25_3
      try clear hfz25_4
      try clear hfz25_5
      try clear hfz27_0
      try clear hfz27_1
      try clear hfz27_2
      try clear hfz27_3
      try clear hfz27_4
      try clear hfz27_5
      try clear hfz28_0
      try clear hfz28_1
      try clear hfz28_2
      try clear hfz28_3
      try clear hfz28_4
      try clear hfz28_5
      try clear hfz30_0
      try clear hfz30_1
      try clear hfz30_2
      try clear hfz30_3
      try clear hfz30_4
      try clear hfz30_5
      try clear hfz31_0
      try clear hfz31_1
      try clear hfz31_2
      try clear hfz31_3
      try clear hfz31_4
      try clear hfz31_5
      try clear hfz8_0
      try clear hfz8_1
      try clear hfz8_2
      try clear hfz8_3
      try clear hfz8_4
      try clear hfz8_5
      obtain ⟨kq, x46_14, rfl, HA, HJ14, BK109, HB⟩ := hcut
      cases kq with
      | zero => exact absurd HA.out (by simp [doorwardref16_fits.j0])
      | succ kj14 =>
        have H := HA.out
        clear HA
        simp only [doorwardref16_fits.j0] at H
        by_cases c33 : x46_14 = true
        · subst c33
          have H1 : (some false) = some r := by rw [if_pos rfl] at H; exact H
          clear H
          have H := H1
          clear H1
          obtain rfl := Option.some.inj H
          go_wp2
          go_ret
          exact ⟨by first | rfl | (simp [errW_none, errW_some] <;> rfl) | (simp [*, errW_none, errW_some] <;> rfl), by repeat (first | (with_reducible first | exact HB.out | apply bal | apply pbd | apply below_drew1 | refine below_set ?_ GE109.out) | exact HB.out)⟩
        · replace c33 := Bool.eq_false_iff.mpr c33
          subst c33
          have H1 : (if a0_0 = 3 then (if (l0_1.length : Int) = 1 then (doorwardref16_fits.j1 kj14 false a0_0 l0_1 a0_2 a0_3 a0_4 a0_5) else (doorwardref16_fits.j1 kj14 true a0_0 l0_1 a0_2 a0_3 a0_4 a0_5)) else (doorwardref16_fits.j1 kj14 (decide ((l0_1.length : Int) < 2)) a0_0 l0_1 a0_2 a0_3 a0_4 a0_5)) = some r := by rw [if_neg (show ¬ (false = true) by decide)] at H; exact H
          clear H
          have H := H1
          clear H1
          have HC34 := amk H
          clear H
          go_upto_region 6 with (fail)
          go_cut [62] (fun v62 wc => ∃ (kq : Nat) (x62_33 : Bool), v62 = .bool x62_33 ∧ Aside0 (doorwardref16_fits.j1 kq x62_33 a0_0 l0_1 a0_2 a0_3 a0_4 a0_5 = some r) ∧ Aside0 (kq ≤ kj14) ∧ Aside0 (wc.heap[gb109]? = some (.cells #[.int .i64 a0_0, (.slice A0_1 l0_1.length c0_1), .int .i64 a0_2, .int .u64 a0_3, .string a0_4, .int .u64 a0_5] 46 (0, 0))) ∧ Aside0 (Below w.heap.size w wc))
          case first =>
            have H := HC34.out
            clear HC34
            by_cases c35 : a0_0 = 3
            · rw [if_pos c35] at H
              have c35b0 : (a0_0 == 3) = true := beq_iff_eq.mpr c35
              have c35b1 : (a0_0 != 3) = false := bne_eq_false_iff_eq.mpr c35
              clear c35
              (first | rw [c35b0] | (simp only [i64_w, i32_w]; rw [c35b0]) | skip)
              by_cases c36 : (l0_1.length : Int) = 1
              · rw [if_pos c36] at H
                have c36b0 : ((l0_1.length : Int) == 1) = true := beq_iff_eq.mpr c36
                have c36b1 : ((l0_1.length : Int) != 1) = false := bne_eq_false_iff_eq.mpr c36
                clear c36
                have H' := amk H
                clear H
                have hcz37_0 : wc.cell? ⟨gb109, 0, none⟩ = some (.int .i64 a0_0) := (blk_cell BK109.out 0).trans rfl
                have hcz37_1 : wc.cell? ⟨gb109, 1, none⟩ = some (.slice A0_1 l0_1.length c0_1) := (blk_cell BK109.out 1).trans rfl
                have hcz37_2 : wc.cell? ⟨gb109, 2, none⟩ = some (.int .i64 a0_2) := (blk_cell BK109.out 2).trans rfl
                have hcz37_3 : wc.cell? ⟨gb109, 3, none⟩ = some (.int .u64 a0_3) := (blk_cell BK109.out 3).trans rfl
                have hcz37_4 : wc.cell? ⟨gb109, 4, none⟩ = some (.string a0_4) := (blk_cell BK109.out 4).trans rfl
                have hcz37_5 : wc.cell? ⟨gb109, 5, none⟩ = some (.int .u64 a0_5) := (blk_cell BK109.out 5).trans rfl
                have hfz37_0 := blk_frozen BK109.out 0
                have hfz37_1 := blk_frozen BK109.out 1
                have hfz37_2 := blk_frozen BK109.out 2
                have hfz37_3 := blk_frozen BK109.out 3
                have hfz37_4 := blk_frozen BK109.out 4
                have hfz37_5 := blk_frozen BK109.out 5
                go_wp2
                go_meet
                case rel => exact ⟨_, (false), (by first | rfl | (simp; done) | (simp [*]; done)), H', ⟨by have := HJ14.out; first | omega | exact Nat.le_refl _⟩, ⟨by (with_reducible repeat (first | refine blk_drewN ?_ _ | refine blk_drew ?_ | refine blk_alloc ?_ _)); exact BK109.out⟩, ⟨by repeat (first | (with_reducible first | exact HB.out | apply bal | apply pbd | apply below_drew1 | refine below_set ?_ GE109.out) | exact HB.out)⟩⟩
              · rw [if_neg c36] at H
                have c36b0 : ((l0_1.length : Int) == 1) = false := beq_eq_false_iff_ne.mpr c36
                have c36b1 : ((l0_1.length : Int) != 1) = true := bne_iff_ne.mpr c36
                have H' := amk H
                clear H
                have hcz38_0 : wc.cell? ⟨gb109, 0, none⟩ = some (.int .i64 a0_0) := (blk_cell BK109.out 0).trans rfl
                have hcz38_1 : wc.cell? ⟨gb109, 1, none⟩ = some (.slice A0_1 l0_1.length c0_1) := (blk_cell BK109.out 1).trans rfl
                have hcz38_2 : wc.cell? ⟨gb109, 2, none⟩ = some (.int .i64 a0_2) := (blk_cell BK109.out 2).trans rfl
                have hcz38_3 : wc.cell? ⟨gb109, 3, none⟩ = some (.int .u64 a0_3) := (blk_cell BK109.out 3).trans rfl
                have hcz38_4 : wc.cell? ⟨gb109, 4, none⟩ = some (.string a0_4) := (blk_cell BK109.out 4).trans rfl
                have hcz38_5 : wc.cell? ⟨gb109, 5, none⟩ = some (.int .u64 a0_5) := (blk_cell BK109.out 5).trans rfl
                have hfz38_0 := blk_frozen BK109.out 0
                have hfz38_1 := blk_frozen BK109.out 1
                have hfz38_2 := blk_frozen BK109.out 2
                have hfz38_3 := blk_frozen BK109.out 3
                have hfz38_4 := blk_frozen BK109.out 4
                have hfz38_5 := blk_frozen BK109.out 5
                go_wp2
                go_meet
                case rel => exact ⟨_, (true), (by first | rfl | (simp; done) | (simp [*]; done)), H', ⟨by have := HJ14.out; first | omega | exact Nat.le_refl _⟩, ⟨by (with_reducible repeat (first | refine blk_drewN ?_ _ | refine blk_drew ?_ | refine blk_alloc ?_ _)); exact BK109.out⟩, ⟨by repeat (first | (with_reducible first | exact HB.out | apply bal | apply pbd | apply below_drew1 | refine below_set ?_ GE109.out) | exact HB.out)⟩⟩
            · rw [if_neg c35] at H
              have c35b0 : (a0_0 == 3) = false := beq_eq_false_iff_ne.mpr c35
              have c35b1 : (a0_0 != 3) = true := bne_iff_ne.mpr c35
              (first | rw [c35b0] | (simp only [i64_w, i32_w]; rw [c35b0]) | skip)
              have H' := amk H
              clear H
              have hcz39_0 : wc.cell? ⟨gb109, 0, none⟩ = some (.int .i64 a0_0) := (blk_cell BK109.out 0).trans rfl
              have hcz39_1 : wc.cell? ⟨gb109, 1, none⟩ = some (.slice A0_1 l0_1.length c0_1) := (blk_cell BK109.out 1).trans rfl
              have hcz39_2 : wc.cell? ⟨gb109, 2, none⟩ = some (.int .i64 a0_2) := (blk_cell BK109.out 2).trans rfl
              have hcz39_3 : wc.cell? ⟨gb109, 3, none⟩ = some (.int .u64 a0_3) := (blk_cell BK109.out 3).trans rfl
              have hcz39_4 : wc.cell? ⟨gb109, 4, none⟩ = some (.string a0_4) := (blk_cell BK109.out 4).trans rfl
              have hcz39_5 : wc.cell? ⟨gb109, 5, none⟩ = some (.int .u64 a0_5) := (blk_cell BK109.out 5).trans rfl
              have hfz39_0 := blk_frozen BK109.out 0
              have hfz39_1 := blk_frozen BK109.out 1
              have hfz39_2 := blk_frozen BK109.out 2
              have hfz39_3 := blk_frozen BK109.out 3
              have hfz39_4 := blk_frozen BK109.out 4
              have hfz39_5 := blk_frozen BK109.out 5
              go_wp2
              go_meet
              case rel => exact ⟨_, (decide ((l0_1.length : Int) < 2)), (by first | rfl | (simp; done) | (simp [*]; done)), H', ⟨by have := HJ14.out; first | omega | exact Nat.le_refl _⟩, ⟨by (with_reducible repeat (first | refine blk_drewN ?_ _ | refine blk_drew ?_ | refine blk_alloc ?_ _)); exact BK109.out⟩, ⟨by repeat (first | (with_reducible first | exact HB.out | apply bal | apply pbd | apply below_drew1 | refine below_set ?_ GE109.out) | exact HB.out)⟩⟩
          case rest =>
            clear HC34
            try clear c1
            try clear c2
            try clear c2b0
            try clear c2b1
            try clear p2
            try clear c3
            try clear c3b0
            try clear c4
            try clear c4b0
            try clear c6
            try clear c9
            try clear c10
            try clear c19
            try clear c20
            try clear c20b0
            try clear c20b1
            try clear c24
            try clear c24b0
            try clear c24b1
            try clear c33
            try clear c35
            try clear c35b0
            try clear c35b1
            try clear c36
            try clear c36b0
            try clear c36b1
            try clear hcz10_0
            try clear hcz10_1
            try clear hcz10_2
            try clear hcz10_3
            try clear hcz10_4
            try clear hcz10_5
            try clear hcz12_0
            try clear hcz12_1
            try clear hcz12_2
            try clear hcz12_3
            try clear hcz12_4
            try clear hcz12_5
            try clear hcz14_0
            try clear hcz14_1
            try clear hcz14_2
            try clear hcz14_3
            try clear hcz14_4
            try clear hcz14_5
            try clear hcz17_0
            try clear hcz17_1
            try clear hcz17_2
            try clear hcz17_3
            try clear hcz17_4
            try clear hcz17_5
            try clear hcz21_0
            try clear hcz21_1
            try clear hcz21_2
            try clear hcz21_3
            try clear hcz21_4
            try clear hcz21_5
            try clear hcz23_0
            try clear hcz23_1
            try clear hcz23_2
            try clear hcz23_3
            try clear hcz23_4
            try clear hcz23_5
            try clear hcz25_0
            try clear hcz25_1
            try clear hcz25_2
            try clear hcz25_3
            try clear hcz25_4
            try clear hcz25_5
            try clear hcz27_0
            try clear hcz27_1
            try clear hcz27_2
            try clear hcz27_3
            try clear hcz27_4
            try clear hcz27_5
            try clear hcz28_0
            try clear hcz28_1
            try clear hcz28_2
            try clear hcz28_3
            try clear hcz28_4
            try clear hcz28_5
            try clear hcz30_0
            try clear hcz30_1
            try clear hcz30_2
            try clear hcz30_3
            try clear hcz30_4
            try clear hcz30_5
            try clear hcz31_0
            try clear hcz31_1
            try clear hcz31_2
            try clear hcz31_3
            try clear hcz31_4
            try clear hcz31_5
            try clear hcz37_0
            try clear hcz37_1
            try clear hcz37_2
            try clear hcz37_3
            try clear hcz37_4
            try clear hcz37_5
            try clear hcz38_0
            try clear hcz38_1
            try clear hcz38_2
            try clear hcz38_3
            try clear hcz38_4
            try clear hcz38_5
            try clear hcz39_0
            try clear hcz39_1
            try clear hcz39_2
            try clear hcz39_3
            try clear hcz39_4
            try clear hcz39_5
            try clear hcz8_0
            try clear hcz8_1
            try clear hcz8_2
            try clear hcz8_3
            try clear hcz8_4
            try clear hcz8_5
            try clear hfz10_0
            try clear hfz10_1
            try clear hfz10_2
            try clear hfz10_3
            try clear hfz10_4
            try clear hfz10_5
            try clear hfz12_0
            try clear hfz12_1
            try clear hfz12_2
            try clear hfz12_3
            try clear hfz12_4
            try clear hfz12_5
            try clear hfz14_0
            try clear hfz14_1
            try clear hfz14_2
            try clear hfz14_3
            try clear hfz14_4
            try clear hfz14_5
            try clear hfz17_0
            try clear hfz17_1
            try clear hfz17_2
            try clear hfz17_3
            try clear hfz17_4
            try clear hfz17_5
            try clear hfz21_0
            try clear hfz21_1
            try clear hfz21_2
            try clear hfz21_3
            try clear hfz21_4
            try clear hfz21_5
            try clear hfz23_0
            try clear hfz23_1
            try clear hfz23_2
            try clear hfz23_3
            try clear hfz23_4
            try clear hfz23_5
            try clear hfz25_0
            try clear hfz25_1
            try clear hfz25_2
            try clear hfz25_3
            try clear hfz25_4
            try clear hfz25_5
            try clear hfz27_0
            try clear hfz27_1
            try clear hfz27_2
            try clear hfz27_3
            try clear hfz27_4
            try clear hfz27_5
            try clear hfz28_0
            try clear hfz28_1
            try clear hfz28_2
            try clear hfz28_3
            try clear hfz28_4
            try clear hfz28_5
            try clear hfz30_0
            try clear hfz30_1
            try clear hfz30_2
            try clear hfz30_3
            try clear hfz30_4
            try clear hfz30_5
            try clear hfz31_0
            try clear hfz31_1
            try clear hfz31_2
            try clear hfz31_3
            try clear hfz31_4
            try clear hfz31_5
            try clear hfz37_0
            try clear hfz37_1
            try clear hfz37_2
            try clear hfz37_3
            try clear hfz37_4
            try clear hfz37_5
            try clear hfz38_0
            try clear hfz38_1
            try clear hfz38_2
            try clear hfz38_3
            try clear hfz38_4
            try clear hfz38_5
            try clear hfz39_0
            try clear hfz39_1
            try clear hfz39_2
            try clear hfz39_3
            try clear hfz39_4
            try clear hfz39_5
            try clear hfz8_0
            try clear hfz8_1
            try clear hfz8_2
            try clear hfz8_3
            try clear hfz8_4
            try clear hfz8_5
            try clear p2
            obtain ⟨kq, x62_33, rfl, HA, HJ33, BK109, HB⟩ := hcut
            cases kq with
            | zero => exact absurd HA.out (by simp [doorwardref16_fits.j1])
            | succ kj33 =>
              have H := HA.out
              clear HA
              simp only [doorwardref16_fits.j1] at H
              by_cases c40 : x62_33 = true
              · subst c40
                have H1 : (some false) = some r := by rw [if_pos rfl] at H; exact H
                clear H
                have H := H1
                clear H1
                obtain rfl := Option.some.inj H
                go_wp2
                go_ret
                exact ⟨by first | rfl | (simp [errW_none, errW_some] <;> rfl) | (simp [*, errW_none, errW_some] <;> rfl), by repeat (first | (with_reducible first | exact HB.out | apply bal | apply pbd | apply below_drew1 | refine below_set ?_ GE109.out) | exact HB.out)⟩
              · replace c40 := Bool.eq_false_iff.mpr c40
                subst c40
                have H1 : (doorwardref16_fits.l0 kj33 l0_1 (l0_1.length : Int) 0) = some r := by rw [if_neg (show ¬ (false = true) by decide)] at H; exact H
                clear H
                have H := H1
                clear H1
                have H' := amk H
                clear H
                have hcz41_0 : wc.cell? ⟨gb109, 0, none⟩ = some (.int .i64 a0_0) := (blk_cell BK109.out 0).trans rfl
                have hcz41_1 : wc.cell? ⟨gb109, 1, none⟩ = some (.slice A0_1 l0_1.length c0_1) := (blk_cell BK109.out 1).trans rfl
                have hcz41_2 : wc.cell? ⟨gb109, 2, none⟩ = some (.int .i64 a0_2) := (blk_cell BK109.out 2).trans rfl
                have hcz41_3 : wc.cell? ⟨gb109, 3, none⟩ = some (.int .u64 a0_3) := (blk_cell BK109.out 3).trans rfl
                have hcz41_4 : wc.cell? ⟨gb109, 4, none⟩ = some (.string a0_4) := (blk_cell BK109.out 4).trans rfl
                have hcz41_5 : wc.cell? ⟨gb109, 5, none⟩ = some (.int .u64 a0_5) := (blk_cell BK109.out 5).trans rfl
                have hfz41_0 := blk_frozen BK109.out 0
                have hfz41_1 := blk_frozen BK109.out 1
                have hfz41_2 := blk_frozen BK109.out 2
                have hfz41_3 := blk_frozen BK109.out 3
                have hfz41_4 := blk_frozen BK109.out 4
                have hfz41_5 := blk_frozen BK109.out 5
                go_wp2
                go_loopg [66] kj33 (fun kq v66 w' => ∃ (x66_3 : Int), v66 = .int .i64 x66_3 ∧ Aside0 (doorwardref16_fits.l0 kq l0_1 (l0_1.length : Int) x66_3 = some r) ∧ Aside0 (kq ≤ kj33) ∧ Aside0 (w'.heap[gb109]? = some (.cells #[.int .i64 a0_0, (.slice A0_1 l0_1.length c0_1), .int .i64 a0_2, .int .u64 a0_3, .string a0_4, .int .u64 a0_5] 46 (0, 0))) ∧ Aside0 (Below w.heap.size w w'))
                case atStart => exact ⟨(0), (by first | rfl | (simp; done) | (simp [*]; done)), H', ⟨Nat.le_refl _⟩, ⟨by (with_reducible repeat (first | refine blk_drewN ?_ _ | refine blk_drew ?_ | refine blk_alloc ?_ _)); exact BK109.out⟩, ⟨by repeat (first | (with_reducible first | exact HB.out | apply bal | apply pbd | apply below_drew1 | refine below_set ?_ GE109.out) | exact HB.out)⟩⟩
                case round =>
                  clear H'
                  try clear c1
                  try clear c2
                  try clear c2b0
                  try clear c2b1
                  try clear p2
                  try clear c3
                  try clear c3b0
                  try clear c4
                  try clear c4b0
                  try clear c6
                  try clear c9
                  try clear c10
                  try clear c19
                  try clear c20
                  try clear c20b0
                  try clear c20b1
                  try clear c24
                  try clear c24b0
                  try clear c24b1
                  try clear c33
                  try clear c35
                  try clear c35b0
                  try clear c35b1
                  try clear c36
                  try clear c36b0
                  try clear c36b1
                  try clear c40
                  try clear hcz10_0
                  try clear hcz10_1
                  try clear hcz10_2
                  try clear hcz10_3
                  try clear hcz10_4
                  try clear hcz10_5
                  try clear hcz12_0
                  try clear hcz12_1
                  try clear hcz12_2
                  try clear hcz12_3
                  try clear hcz12_4
                  try clear hcz12_5
                  try clear hcz14_0
                  try clear hcz14_1
                  try clear hcz14_2
                  try clear hcz14_3
                  try clear hcz14_4
                  try clear hcz14_5
                  try clear hcz17_0
                  try clear hcz17_1
                  try clear hcz17_2
                  try clear hcz17_3
                  try clear hcz17_4
                  try clear hcz17_5
                  try clear hcz21_0
                  try clear hcz21_1
                  try clear hcz21_2
                  try clear hcz21_3
                  try clear hcz21_4
                  try clear hcz21_5
                  try clear hcz23_0
                  try clear hcz23_1
                  try clear hcz23_2
                  try clear hcz23_3
                  try clear hcz23_4
                  try clear hcz23_5
                  try clear hcz25_0
                  try clear hcz25_1
                  try clear hcz25_2
                  try clear hcz25_3
                  try clear hcz25_4
                  try clear hcz25_5
                  try clear hcz27_0
                  try clear hcz27_1
                  try clear hcz27_2
                  try clear hcz27_3
                  try clear hcz27_4
                  try clear hcz27_5
                  try clear hcz28_0
                  try clear hcz28_1
                  try clear hcz28_2
                  try clear hcz28_3
                  try clear hcz28_4
                  try clear hcz28_5
                  try clear hcz30_0
                  try clear hcz30_1
                  try clear hcz30_2
                  try clear hcz30_3
                  try clear hcz30_4
                  try clear hcz30_5
                  try clear hcz31_0
                  try clear hcz31_1
                  try clear hcz31_2
                  try clear hcz31_3
                  try clear hcz31_4
                  try clear hcz31_5
                  try clear hcz37_0
                  try clear hcz37_1
                  try clear hcz37_2
                  try clear hcz37_3
                  try clear hcz37_4
                  try clear hcz37_5
                  try clear hcz38_0
                  try clear hcz38_1
                  try clear hcz38_2
                  try clear hcz38_3
                  try clear hcz38_4
                  try clear hcz38_5
                  try clear hcz39_0
                  try clear hcz39_1
                  try clear hcz39_2
                  try clear hcz39_3
                  try clear hcz39_4
                  try clear hcz39_5
                  try clear hcz41_0
                  try clear hcz41_1
                  try clear hcz41_2
                  try clear hcz41_3
                  try clear hcz41_4
                  try clear hcz41_5
                  try clear hcz8_0
                  try clear hcz8_1
                  try clear hcz8_2
                  try clear hcz8_3
                  try clear hcz8_4
                  try clear hcz8_5
                  try clear hfz10_0
                  try clear hfz10_1
                  try clear hfz10_2
                  try clear hfz10_3
                  try clear hfz10_4
                  try clear hfz10_5
                  try clear hfz12_0
                  try clear hfz12_1
                  try clear hfz12_2
                  try clear hfz12_3
                  try clear hfz12_4
                  try clear hfz12_5
                  try clear hfz14_0
                  try clear hfz14_1
                  try clear hfz14_2
                  try clear hfz14_3
                  try clear hfz14_4
                  try clear hfz14_5
                  try clear hfz17_0
                  try clear hfz17_1
                  try clear hfz17_2
                  try clear hfz17_3
                  try clear hfz17_4
                  try clear hfz17_5
                  try clear hfz21_0
                  try clear hfz21_1
                  try clear hfz21_2
                  try clear hfz21_3
                  try clear hfz21_4
                  try clear hfz21_5
                  try clear hfz23_0
                  try clear hfz23_1
                  try clear hfz23_2
                  try clear hfz23_3
                  try clear hfz23_4
                  try clear hfz23_5
                  try clear hfz25_0
                  try clear hfz25_1
                  try clear hfz25_2
                  try clear hfz25_3
                  try clear hfz25_4
                  try clear hfz25_5
                  try clear hfz27_0
                  try clear hfz27_1
                  try clear hfz27_2
                  try clear hfz27_3
                  try clear hfz27_4
                  try clear hfz27_5
                  try clear hfz28_0
                  try clear hfz28_1
                  try clear hfz28_2
                  try clear hfz28_3
                  try clear hfz28_4
                  try clear hfz28_5
                  try clear hfz30_0
                  try clear hfz30_1
                  try clear hfz30_2
                  try clear hfz30_3
                  try clear hfz30_4
                  try clear hfz30_5
                  try clear hfz31_0
                  try clear hfz31_1
                  try clear hfz31_2
                  try clear hfz31_3
                  try clear hfz31_4
                  try clear hfz31_5
                  try clear hfz37_0
                  try clear hfz37_1
                  try clear hfz37_2
                  try clear hfz37_3
                  try clear hfz37_4
                  try clear hfz37_5
                  try clear hfz38_0
                  try clear hfz38_1
                  try clear hfz38_2
                  try clear hfz38_3
                  try clear hfz38_4
                  try clear hfz38_5
                  try clear hfz39_0
                  try clear hfz39_1
                  try clear hfz39_2
                  try clear hfz39_3
                  try clear hfz39_4
                  try clear hfz39_5
                  try clear hfz41_0
                  try clear hfz41_1
                  try clear hfz41_2
                  try clear hfz41_3
                  try clear hfz41_4
                  try clear hfz41_5
                  try clear hfz8_0
                  try clear hfz8_1
                  try clear hfz8_2
                  try clear hfz8_3
                  try clear hfz8_4
                  try clear hfz8_5
                  try clear p2
                  obtain ⟨x66_3, rfl, HA, HK3, BK109, HB⟩ := hrel
                  cases gk with
                  | zero => exact absurd HA.out (by simp [doorwardref16_fits.l0])
                  | succ k3 =>
                    have H := HA.out
                    clear HA
                    simp only [doorwardref16_fits.l0] at H
                    by_cases c42 : x66_3 < (l0_1.length : Int)
                    · rw [if_pos c42] at H
                      have c42b0 : decide (x66_3 < (l0_1.length : Int)) = true := decide_eq_true c42
                      clear c42
                      by_cases c43 : 0 ≤ x66_3
                      · rw [if_pos c43] at H
                        have c43b0 : decide (0 ≤ x66_3) = true := decide_eq_true c43
                        clear c43
                        by_cases c44 : x66_3 < (l0_1.length : Int)
                        · rw [if_pos c44] at H
                          have c44b0 : decide (x66_3 < (l0_1.length : Int)) = true := decide_eq_true c44
                          clear c44
                          replace H := Option.bind_eq_some_iff.mp H
                          obtain ⟨t114, A450, H⟩ := H
                          replace H : (if t114 = true then (doorwardref16_fits.l0 k3 l0_1 (l0_1.length : Int) (wrap64 (x66_3 + 1))) else (some false)) = some r := H
                          have A45 := amk A450
                          clear A450
                          by_cases c46 : t114 = true
                          · subst c46
                            have H1 : (doorwardref16_fits.l0 k3 l0_1 (l0_1.length : Int) (wrap64 (x66_3 + 1))) = some r := by rw [if_pos rfl] at H; exact H
                            clear H
                            have H := H1
                            clear H1
                            have H' := amk H
                            clear H
                            have p112 : 0 ≤ (x66_3 : Int) := of_decide_eq_true (by first | (with_reducible assumption) | assumption)
                            have q112 : x66_3 < (l0_1.length : Int) := of_decide_eq_true (by first | (with_reducible assumption) | assumption)
                            obtain ⟨ad112, A112_1, c112_1, e112, hx112_0, hx112_1, hx112_2, hx112_3, hx112_4, hx112_5, hl112_1, hi112_1⟩ := at_T46 HR0_1.out x66_3 p112 q112
                            cases e112
                            replace hx112_0 := (HB.out.cell (World.block_lt_of_cell? w _ hx112_0)).trans hx112_0
                            replace hx112_1 := (HB.out.cell (World.block_lt_of_cell? w _ hx112_1)).trans hx112_1
                            replace hx112_2 := (HB.out.cell (World.block_lt_of_cell? w _ hx112_2)).trans hx112_2
                            replace hx112_3 := (HB.out.cell (World.block_lt_of_cell? w _ hx112_3)).trans hx112_3
                            replace hx112_4 := (HB.out.cell (World.block_lt_of_cell? w _ hx112_4)).trans hx112_4
                            replace hx112_5 := (HB.out.cell (World.block_lt_of_cell? w _ hx112_5)).trans hx112_5
                            have HR112_1 := amk hi112_1
                            have HC112_1 := amk hl112_1
                            clear hi112_1 hl112_1
                            replace p112 := eq_true p112
                            replace q112 := eq_true q112
                            go_wp2_with (first | ((with_reducible refine gate_dst (N := 5) rfl ?_); refine box_event ?hg (N := 5) ?hd (cs := #[.int .i64 0, .slice none 0 0, .int .i64 0, .int .u64 0, .string (⟨#[]⟩ : ByteArray), .int .u64 0]) (t := 46) ?hr ?_; (case hd => rfl); (case hg => rfl); (case hr => first | (go_simp; done) | (go_simp; rfl)); intro gb113 hg w47 hbox hb; have n0_ := amk (blk_below (g := gb109) (o := .cells #[.int .i64 a0_0, .slice (some ad112) l0_1.length c0_1, .int .i64 a0_2, .int .u64 a0_3, .string a0_4, .int .u64 a0_5] 46 (0, 0)) (by (with_reducible repeat (first | refine blk_drewN ?_ _ | refine blk_drew ?_ | refine blk_alloc ?_ _)); exact BK109.out) hb); have n1_ := amk (below_step (by repeat (first | (with_reducible first | exact HB.out | apply bal | apply pbd | apply below_drew1 | refine below_set ?_ GE109.out) | exact HB.out)) hb); have n2_ := amk (hbox); have n3_ := amk ((by rw [hg]; exact (below_size (by repeat (first | (with_reducible first | exact HB.out | apply bal | apply pbd | apply below_drew1 | refine below_set ?_ GE109.out) | exact HB.out))) : w.heap.size ≤ gb113)); have n4_ := amk ((by rw [hg]; exact (below_size (by repeat (first | (with_reducible first | exact HB.out | apply bal | apply pbd | apply below_drew1 | refine below_set ?_ GE109.out) | exact HB.out))) : w.heap.size ≤ gb113)); have n5_ := amk ((by rw [hg]; exact Nat.ne_of_lt (blk_lt (g := gb109) (o := .cells #[.int .i64 a0_0, .slice (some ad112) l0_1.length c0_1, .int .i64 a0_2, .int .u64 a0_3, .string a0_4, .int .u64 a0_5] 46 (0, 0)) (by (with_reducible repeat (first | refine blk_drewN ?_ _ | refine blk_drew ?_ | refine blk_alloc ?_ _)); exact BK109.out)) : gb109 ≠ gb113)); have n6_ := amk ((by rw [hg]; exact Nat.ne_of_gt (blk_lt (g := gb109) (o := .cells #[.int .i64 a0_0, .slice (some ad112) l0_1.length c0_1, .int .i64 a0_2, .int .u64 a0_3, .string a0_4, .int .u64 a0_5] 46 (0, 0)) (by (with_reducible repeat (first | refine blk_drewN ?_ _ | refine blk_drew ?_ | refine blk_alloc ?_ _)); exact BK109.out)) : gb113 ≠ gb109)); clear BK109; clear HB; have BK109 := n0_; have HB := n1_; have BK113 := n2_; have GW113 := n3_; have GE113 := n4_; have NB109_113 := n5_; have NB113_109 := n6_; clear n0_ n1_ n2_ n3_ n4_ n5_ n6_; clear hb hbox hg; have hnb48 := NB113_109.out; have hnc48 := NB109_113.out; have hcz49_0 : w47.cell? ⟨gb113, 0, none⟩ = some (.int .i64 0) := (blk_cell BK113.out 0).trans rfl; have hcz49_1 : w47.cell? ⟨gb113, 1, none⟩ = some (.slice none 0 0) := (blk_cell BK113.out 1).trans rfl; have hcz49_2 : w47.cell? ⟨gb113, 2, none⟩ = some (.int .i64 0) := (blk_cell BK113.out 2).trans rfl; have hcz49_3 : w47.cell? ⟨gb113, 3, none⟩ = some (.int .u64 0) := (blk_cell BK113.out 3).trans rfl; have hcz49_4 : w47.cell? ⟨gb113, 4, none⟩ = some (.string (⟨#[]⟩ : ByteArray)) := (blk_cell BK113.out 4).trans rfl; have hcz49_5 : w47.cell? ⟨gb113, 5, none⟩ = some (.int .u64 0) := (blk_cell BK113.out 5).trans rfl; have hfz49_0 := blk_frozen BK113.out 0; have hfz49_1 := blk_frozen BK113.out 1; have hfz49_2 := blk_frozen BK113.out 2; have hfz49_3 := blk_frozen BK113.out 3; have hfz49_4 := blk_frozen BK113.out 4; have hfz49_5 := blk_frozen BK113.out 5) | ((with_reducible refine gate_callee (f := 91) rfl ?_); refine goesL_ (some 71) rfl rfl Try.func91 (by kernel_rfl) rfl #[.agg #[.int .i64 ((rd_T46 l0_1 x66_3).f0), .slice A112_1 ((rd_T46 l0_1 x66_3).f1).length c112_1, .int .i64 ((rd_T46 l0_1 x66_3).f2), .int .u64 ((rd_T46 l0_1 x66_3).f3), .string ((rd_T46 l0_1 x66_3).f4), .int .u64 ((rd_T46 l0_1 x66_3).f5)]] rfl (by (try simp only [List.map_toArray, List.map_cons, List.map_nil]); first | done | rfl | (simp only [List.length_drop, List.length_take]; rfl)) ?_; (with_reducible refine (ih k3 (by have := HJ14.out; have := HJ33.out; have := HK3.out; omega) ((rd_T46 l0_1 x66_3).f0) _ _ ((rd_T46 l0_1 x66_3).f1) ((rd_T46 l0_1 x66_3).f2) ((rd_T46 l0_1 x66_3).f3) ((rd_T46 l0_1 x66_3).f4) ((rd_T46 l0_1 x66_3).f5) true _ ?side1 ?side2 A45.out).mono ?_); (case side1 => exact Kd.C_below HR112_1.out (by repeat (first | (with_reducible first | exact HB.out | apply bal | apply pbd | apply below_drew1 | refine below_set ?_ GE109.out | refine below_set ?_ GE113.out) | exact HB.out))); (case side2 => exact HC112_1.out); rintro e w50 ⟨rfl, hb⟩; refine ⟨_, rfl, ?_⟩; have n0_ := amk (blk_below (g := gb109) (o := .cells #[.int .i64 a0_0, .slice (some ad112) l0_1.length c0_1, .int .i64 a0_2, .int .u64 a0_3, .string a0_4, .int .u64 a0_5] 46 (0, 0)) (by (with_reducible repeat (first | refine blk_drewN ?_ _ | refine blk_drew ?_ | refine blk_alloc ?_ _)); refine blk_far ?_ NB109_113.out _; (with_reducible repeat (first | refine blk_drewN ?_ _ | refine blk_drew ?_ | refine blk_alloc ?_ _)); refine blk_far ?_ NB109_113.out _; (with_reducible repeat (first | refine blk_drewN ?_ _ | refine blk_drew ?_ | refine blk_alloc ?_ _)); refine blk_far ?_ NB109_113.out _; (with_reducible repeat (first | refine blk_drewN ?_ _ | refine blk_drew ?_ | refine blk_alloc ?_ _)); refine blk_far ?_ NB109_113.out _; (with_reducible repeat (first | refine blk_drewN ?_ _ | refine blk_drew ?_ | refine blk_alloc ?_ _)); refine blk_far ?_ NB109_113.out _; (with_reducible repeat (first | refine blk_drewN ?_ _ | refine blk_drew ?_ | refine blk_alloc ?_ _)); refine blk_far ?_ NB109_113.out _; (with_reducible repeat (first | refine blk_drewN ?_ _ | refine blk_drew ?_ | refine blk_alloc ?_ _)); exact BK109.out) hb); have n1_ := amk (blk_below (g := gb113) (o := .cells #[.int .i64 ((rd_T46 l0_1 x66_3).f0), .slice A112_1 ((rd_T46 l0_1 x66_3).f1).length c112_1, .int .i64 ((rd_T46 l0_1 x66_3).f2), .int .u64 ((rd_T46 l0_1 x66_3).f3), .string ((rd_T46 l0_1 x66_3).f4), .int .u64 ((rd_T46 l0_1 x66_3).f5)] 46 (0, 0)) (by (with_reducible repeat (first | refine blk_drewN ?_ _ | refine blk_drew ?_ | refine blk_alloc ?_ _)); refine blk_put (cs := #[.int .i64 ((rd_T46 l0_1 x66_3).f0), .slice A112_1 ((rd_T46 l0_1 x66_3).f1).length c112_1, .int .i64 ((rd_T46 l0_1 x66_3).f2), .int .u64 ((rd_T46 l0_1 x66_3).f3), .string ((rd_T46 l0_1 x66_3).f4), .int .u64 0]) ?_ 5 _ rfl; (with_reducible repeat (first | refine blk_drewN ?_ _ | refine blk_drew ?_ | refine blk_alloc ?_ _)); refine blk_put (cs := #[.int .i64 ((rd_T46 l0_1 x66_3).f0), .slice A112_1 ((rd_T46 l0_1 x66_3).f1).length c112_1, .int .i64 ((rd_T46 l0_1 x66_3).f2), .int .u64 ((rd_T46 l0_1 x66_3).f3), .string (⟨#[]⟩ : ByteArray), .int .u64 0]) ?_ 4 _ rfl; (with_reducible repeat (first | refine blk_drewN ?_ _ | refine blk_drew ?_ | refine blk_alloc ?_ _)); refine blk_put (cs := #[.int .i64 ((rd_T46 l0_1 x66_3).f0), .slice A112_1 ((rd_T46 l0_1 x66_3).f1).length c112_1, .int .i64 ((rd_T46 l0_1 x66_3).f2), .int .u64 0, .string (⟨#[]⟩ : ByteArray), .int .u64 0]) ?_ 3 _ rfl; (with_reducible repeat (first | refine blk_drewN ?_ _ | refine blk_drew ?_ | refine blk_alloc ?_ _)); refine blk_put (cs := #[.int .i64 ((rd_T46 l0_1 x66_3).f0), .slice A112_1 ((rd_T46 l0_1 x66_3).f1).length c112_1, .int .i64 0, .int .u64 0, .string (⟨#[]⟩ : ByteArray), .int .u64 0]) ?_ 2 _ rfl; (with_reducible repeat (first | refine blk_drewN ?_ _ | refine blk_drew ?_ | refine blk_alloc ?_ _)); refine blk_put (cs := #[.int .i64 ((rd_T46 l0_1 x66_3).f0), .slice none 0 0, .int .i64 0, .int .u64 0, .string (⟨#[]⟩ : ByteArray), .int .u64 0]) ?_ 1 _ rfl; (with_reducible repeat (first | refine blk_drewN ?_ _ | refine blk_drew ?_ | refine blk_alloc ?_ _)); refine blk_put (cs := #[.int .i64 0, .slice none 0 0, .int .i64 0, .int .u64 0, .string (⟨#[]⟩ : ByteArray), .int .u64 0]) ?_ 0 _ rfl; (with_reducible repeat (first | refine blk_drewN ?_ _ | refine blk_drew ?_ | refine blk_alloc ?_ _)); exact BK113.out) hb); have n2_ := amk (below_step (by repeat (first | (with_reducible first | exact HB.out | apply bal | apply pbd | apply below_drew1 | refine below_set ?_ GE109.out | refine below_set ?_ GE113.out) | exact HB.out)) hb); clear BK109; clear BK113; clear HB; have BK109 := n0_; have BK113 := n1_; have HB := n2_; clear n0_ n1_ n2_; (try clear hb); (try clear hb2); (try clear hk); (try clear hi)))
                            go_roundg k3
                            case measure => have := HJ14.out; have := HJ33.out; have := HK3.out; omega
                            case rel => exact ⟨(wrap64 (x66_3 + 1)), (by first | rfl | (simp; done) | (simp [*]; done)), H', ⟨by have := HJ14.out; have := HJ33.out; have := HK3.out; omega⟩, ⟨by (with_reducible repeat (first | refine blk_drewN ?_ _ | refine blk_drew ?_ | refine blk_alloc ?_ _)); exact BK109.out⟩, ⟨by repeat (first | (with_reducible first | exact HB.out | apply bal | apply pbd | apply below_drew1 | refine below_set ?_ GE109.out | refine below_set ?_ GE113.out) | exact HB.out)⟩⟩
                          · replace c46 := Bool.eq_false_iff.mpr c46
                            subst c46
                            have H1 : (some false) = some r := by rw [if_neg (show ¬ (false = true) by decide)] at H; exact H
                            clear H
                            have H := H1
                            clear H1
                            obtain rfl := Option.some.inj H
                            have p112 : 0 ≤ (x66_3 : Int) := of_decide_eq_true (by first | (with_reducible assumption) | assumption)
                            have q112 : x66_3 < (l0_1.length : Int) := of_decide_eq_true (by first | (with_reducible assumption) | assumption)
                            obtain ⟨ad112, A112_1, c112_1, e112, hx112_0, hx112_1, hx112_2, hx112_3, hx112_4, hx112_5, hl112_1, hi112_1⟩ := at_T46 HR0_1.out x66_3 p112 q112
                            cases e112
                            replace hx112_0 := (HB.out.cell (World.block_lt_of_cell? w _ hx112_0)).trans hx112_0
                            replace hx112_1 := (HB.out.cell (World.block_lt_of_cell? w _ hx112_1)).trans hx112_1
                            replace hx112_2 := (HB.out.cell (World.block_lt_of_cell? w _ hx112_2)).trans hx112_2
                            replace hx112_3 := (HB.out.cell (World.block_lt_of_cell? w _ hx112_3)).trans hx112_3
                            replace hx112_4 := (HB.out.cell (World.block_lt_of_cell? w _ hx112_4)).trans hx112_4
                            replace hx112_5 := (HB.out.cell (World.block_lt_of_cell? w _ hx112_5)).trans hx112_5
                            have HR112_1 := amk hi112_1
                            have HC112_1 := amk hl112_1
                            clear hi112_1 hl112_1
                            replace p112 := eq_true p112
                            replace q112 := eq_true q112
                            go_wp2_with (first | ((with_reducible refine gate_dst (N := 5) rfl ?_); refine box_event ?hg (N := 5) ?hd (cs := #[.int .i64 0, .slice none 0 0, .int .i64 0, .int .u64 0, .string (⟨#[]⟩ : ByteArray), .int .u64 0]) (t := 46) ?hr ?_; (case hd => rfl); (case hg => rfl); (case hr => first | (go_simp; done) | (go_simp; rfl)); intro gb113 hg w51 hbox hb; have n0_ := amk (blk_below (g := gb109) (o := .cells #[.int .i64 a0_0, .slice (some ad112) l0_1.length c0_1, .int .i64 a0_2, .int .u64 a0_3, .string a0_4, .int .u64 a0_5] 46 (0, 0)) (by (with_reducible repeat (first | refine blk_drewN ?_ _ | refine blk_drew ?_ | refine blk_alloc ?_ _)); exact BK109.out) hb); have n1_ := amk (below_step (by repeat (first | (with_reducible first | exact HB.out | apply bal | apply pbd | apply below_drew1 | refine below_set ?_ GE109.out) | exact HB.out)) hb); have n2_ := amk (hbox); have n3_ := amk ((by rw [hg]; exact (below_size (by repeat (first | (with_reducible first | exact HB.out | apply bal | apply pbd | apply below_drew1 | refine below_set ?_ GE109.out) | exact HB.out))) : w.heap.size ≤ gb113)); have n4_ := amk ((by rw [hg]; exact (below_size (by repeat (first | (with_reducible first | exact HB.out | apply bal | apply pbd | apply below_drew1 | refine below_set ?_ GE109.out) | exact HB.out))) : w.heap.size ≤ gb113)); have n5_ := amk ((by rw [hg]; exact Nat.ne_of_lt (blk_lt (g := gb109) (o := .cells #[.int .i64 a0_0, .slice (some ad112) l0_1.length c0_1, .int .i64 a0_2, .int .u64 a0_3, .string a0_4, .int .u64 a0_5] 46 (0, 0)) (by (with_reducible repeat (first | refine blk_drewN ?_ _ | refine blk_drew ?_ | refine blk_alloc ?_ _)); exact BK109.out)) : gb109 ≠ gb113)); have n6_ := amk ((by rw [hg]; exact Nat.ne_of_gt (blk_lt (g := gb109) (o := .cells #[.int .i64 a0_0, .slice (some ad112) l0_1.length c0_1, .int .i64 a0_2, .int .u64 a0_3, .string a0_4, .int .u64 a0_5] 46 (0, 0)) (by (with_reducible repeat (first | refine blk_drewN ?_ _ | refine blk_drew ?_ | refine blk_alloc ?_ _)); exact BK109.out)) : gb113 ≠ gb109)); clear BK109; clear HB; have BK109 := n0_; have HB := n1_; have BK113 := n2_; have GW113 := n3_; have GE113 := n4_; have NB109_113 := n5_; have NB113_109 := n6_; clear n0_ n1_ n2_ n3_ n4_ n5_ n6_; clear hb hbox hg; have hnb52 := NB113_109.out; have hnc52 := NB109_113.out; have hcz53_0 : w51.cell? ⟨gb113, 0, none⟩ = some (.int .i64 0) := (blk_cell BK113.out 0).trans rfl; have hcz53_1 : w51.cell? ⟨gb113, 1, none⟩ = some (.slice none 0 0) := (blk_cell BK113.out 1).trans rfl; have hcz53_2 : w51.cell? ⟨gb113, 2, none⟩ = some (.int .i64 0) := (blk_cell BK113.out 2).trans rfl; have hcz53_3 : w51.cell? ⟨gb113, 3, none⟩ = some (.int .u64 0) := (blk_cell BK113.out 3).trans rfl; have hcz53_4 : w51.cell? ⟨gb113, 4, none⟩ = some (.string (⟨#[]⟩ : ByteArray)) := (blk_cell BK113.out 4).trans rfl; have hcz53_5 : w51.cell? ⟨gb113, 5, none⟩ = some (.int .u64 0) := (blk_cell BK113.out 5).trans rfl; have hfz53_0 := blk_frozen BK113.out 0; have hfz53_1 := blk_frozen BK113.out 1; have hfz53_2 := blk_frozen BK113.out 2; have hfz53_3 := blk_frozen BK113.out 3; have hfz53_4 := blk_frozen BK113.out 4; have hfz53_5 := blk_frozen BK113.out 5) | ((with_reducible refine gate_callee (f := 91) rfl ?_); refine goesL_ (some 71) rfl rfl Try.func91 (by kernel_rfl) rfl #[.agg #[.int .i64 ((rd_T46 l0_1 x66_3).f0), .slice A112_1 ((rd_T46 l0_1 x66_3).f1).length c112_1, .int .i64 ((rd_T46 l0_1 x66_3).f2), .int .u64 ((rd_T46 l0_1 x66_3).f3), .string ((rd_T46 l0_1 x66_3).f4), .int .u64 ((rd_T46 l0_1 x66_3).f5)]] rfl (by (try simp only [List.map_toArray, List.map_cons, List.map_nil]); first | done | rfl | (simp only [List.length_drop, List.length_take]; rfl)) ?_; (with_reducible refine (ih k3 (by have := HJ14.out; have := HJ33.out; have := HK3.out; omega) ((rd_T46 l0_1 x66_3).f0) _ _ ((rd_T46 l0_1 x66_3).f1) ((rd_T46 l0_1 x66_3).f2) ((rd_T46 l0_1 x66_3).f3) ((rd_T46 l0_1 x66_3).f4) ((rd_T46 l0_1 x66_3).f5) false _ ?side1 ?side2 A45.out).mono ?_); (case side1 => exact Kd.C_below HR112_1.out (by repeat (first | (with_reducible first | exact HB.out | apply bal | apply pbd | apply below_drew1 | refine below_set ?_ GE109.out | refine below_set ?_ GE113.out) | exact HB.out))); (case side2 => exact HC112_1.out); rintro e w54 ⟨rfl, hb⟩; refine ⟨_, rfl, ?_⟩; have n0_ := amk (blk_below (g := gb109) (o := .cells #[.int .i64 a0_0, .slice (some ad112) l0_1.length c0_1, .int .i64 a0_2, .int .u64 a0_3, .string a0_4, .int .u64 a0_5] 46 (0, 0)) (by (with_reducible repeat (first | refine blk_drewN ?_ _ | refine blk_drew ?_ | refine blk_alloc ?_ _)); refine blk_far ?_ NB109_113.out _; (with_reducible repeat (first | refine blk_drewN ?_ _ | refine blk_drew ?_ | refine blk_alloc ?_ _)); refine blk_far ?_ NB109_113.out _; (with_reducible repeat (first | refine blk_drewN ?_ _ | refine blk_drew ?_ | refine blk_alloc ?_ _)); refine blk_far ?_ NB109_113.out _; (with_reducible repeat (first | refine blk_drewN ?_ _ | refine blk_drew ?_ | refine blk_alloc ?_ _)); refine blk_far ?_ NB109_113.out _; (with_reducible repeat (first | refine blk_drewN ?_ _ | refine blk_drew ?_ | refine blk_alloc ?_ _)); refine blk_far ?_ NB109_113.out _; (with_reducible repeat (first | refine blk_drewN ?_ _ | refine blk_drew ?_ | refine blk_alloc ?_ _)); refine blk_far ?_ NB109_113.out _; (with_reducible repeat (first | refine blk_drewN ?_ _ | refine blk_drew ?_ | refine blk_alloc ?_ _)); exact BK109.out) hb); have n1_ := amk (blk_below (g := gb113) (o := .cells #[.int .i64 ((rd_T46 l0_1 x66_3).f0), .slice A112_1 ((rd_T46 l0_1 x66_3).f1).length c112_1, .int .i64 ((rd_T46 l0_1 x66_3).f2), .int .u64 ((rd_T46 l0_1 x66_3).f3), .string ((rd_T46 l0_1 x66_3).f4), .int .u64 ((rd_T46 l0_1 x66_3).f5)] 46 (0, 0)) (by (with_reducible repeat (first | refine blk_drewN ?_ _ | refine blk_drew ?_ | refine blk_alloc ?_ _)); refine blk_put (cs := #[.int .i64 ((rd_T46 l0_1 x66_3).f0), .slice A112_1 ((rd_T46 l0_1 x66_3).f1).length c112_1, .int .i64 ((rd_T46 l0_1 x66_3).f2), .int .u64 ((rd_T46 l0_1 x66_3).f3), .string ((rd_T46 l0_1 x66_3).f4), .int .u64 0]) ?_ 5 _ rfl; (with_reducible repeat (first | refine blk_drewN ?_ _ | refine blk_drew ?_ | refine blk_alloc ?_ _)); refine blk_put (cs := #[.int .i64 ((rd_T46 l0_1 x66_3).f0), .slice A112_1 ((rd_T46 l0_1 x66_3).f1).length c112_1, .int .i64 ((rd_T46 l0_1 x66_3).f2), .int .u64 ((rd_T46 l0_1 x66_3).f3), .string (⟨#[]⟩ : ByteArray), .int .u64 0]) ?_ 4 _ rfl; (with_reducible repeat (first | refine blk_drewN ?_ _ | refine blk_drew ?_ | refine blk_alloc ?_ _)); refine blk_put (cs := #[.int .i64 ((rd_T46 l0_1 x66_3).f0), .slice A112_1 ((rd_T46 l0_1 x66_3).f1).length c112_1, .int .i64 ((rd_T46 l0_1 x66_3).f2), .int .u64 0, .string (⟨#[]⟩ : ByteArray), .int .u64 0]) ?_ 3 _ rfl; (with_reducible repeat (first | refine blk_drewN ?_ _ | refine blk_drew ?_ | refine blk_alloc ?_ _)); refine blk_put (cs := #[.int .i64 ((rd_T46 l0_1 x66_3).f0), .slice A112_1 ((rd_T46 l0_1 x66_3).f1).length c112_1, .int .i64 0, .int .u64 0, .string (⟨#[]⟩ : ByteArray), .int .u64 0]) ?_ 2 _ rfl; (with_reducible repeat (first | refine blk_drewN ?_ _ | refine blk_drew ?_ | refine blk_alloc ?_ _)); refine blk_put (cs := #[.int .i64 ((rd_T46 l0_1 x66_3).f0), .slice none 0 0, .int .i64 0, .int .u64 0, .string (⟨#[]⟩ : ByteArray), .int .u64 0]) ?_ 1 _ rfl; (with_reducible repeat (first | refine blk_drewN ?_ _ | refine blk_drew ?_ | refine blk_alloc ?_ _)); refine blk_put (cs := #[.int .i64 0, .slice none 0 0, .int .i64 0, .int .u64 0, .string (⟨#[]⟩ : ByteArray), .int .u64 0]) ?_ 0 _ rfl; (with_reducible repeat (first | refine blk_drewN ?_ _ | refine blk_drew ?_ | refine blk_alloc ?_ _)); exact BK113.out) hb); have n2_ := amk (below_step (by repeat (first | (with_reducible first | exact HB.out | apply bal | apply pbd | apply below_drew1 | refine below_set ?_ GE109.out | refine below_set ?_ GE113.out) | exact HB.out)) hb); clear BK109; clear BK113; clear HB; have BK109 := n0_; have BK113 := n1_; have HB := n2_; clear n0_ n1_ n2_; (try clear hb); (try clear hb2); (try clear hk); (try clear hi)))
                            go_ret
                            exact ⟨by first | rfl | (simp [errW_none, errW_some] <;> rfl) | (simp [*, errW_none, errW_some] <;> rfl), by repeat (first | (with_reducible first | exact HB.out | apply bal | apply pbd | apply below_drew1 | refine below_set ?_ GE109.out | refine below_set ?_ GE113.out) | exact HB.out)⟩
                        · rw [if_neg c44] at H
                          exact absurd H (by simp)
                      · rw [if_neg c43] at H
                        exact absurd H (by simp)
                    · rw [if_neg c42] at H
                      have c42b0 : decide (x66_3 < (l0_1.length : Int)) = false := decide_eq_false c42
                      clear c42
                      obtain rfl := Option.some.inj H
                      go_wp2
                      go_ret
                      exact ⟨by first | rfl | (simp [errW_none, errW_some] <;> rfl) | (simp [*, errW_none, errW_some] <;> rfl), by repeat (first | (with_reducible first | exact HB.out | apply bal | apply pbd | apply below_drew1 | refine below_set ?_ GE109.out) | exact HB.out)⟩
end Go.Proofs.Ytoeklekjhaigoaa.M0
end
section
namespace Go.Proofs.Ytoeklekjhaigoaa.M0
open Go.Proofs.Ytoeklekjhaigoaa.Al Go.RowKit Go.Proofs.YtoeklekjhaigoaaW.PrintWords Go.Proofs.YtoeklekjhaigoaaW.PrintLast Go.Proofs.YtoeklekjhaigoaaW.PrintMore
attribute [local go_sem] max2_int min2_int max_two min_two max_three min_three max_four min_four IntKind.wrap_u32 IntKind.wrap_u8   -- for this text's walks alone
set_option linter.unusedVariables false
open Go.Proofs.Ytoeklekjhaigoaa.Le Go.Proofs.Ytoeklekjhaigoaa.C1 Go.Proofs.Ytoeklekjhaigoaa.C2 Go.Proofs.Ytoeklekjhaigoaa.HAct Go.Proofs.Ytoeklekjhaigoaa.W0 Go.Proofs.Ytoeklekjhaigoaa.HFrom Go.Proofs.Ytoeklekjhaigoaa.W1 Go.Proofs.Ytoeklekjhaigoaa.R01 Go.Proofs.Ytoeklekjhaigoaa.HPack Go.Proofs.Ytoeklekjhaigoaa.HUnpack Go.Proofs.Ytoeklekjhaigoaa.HRefPack
set_option linter.unusedSimpArgs false
def slices_Index_string_string.l0 : Nat → List ByteArray → ByteArray → Int → Int → Option (Int)
  | 0, _, _, _, _ => none
  | k + 1, x0, x1, x7, x8 => if x8 < x7 then (if 0 ≤ x8 then (if x8 < (x0.length : Int) then (if x1.toList = (rdOf ByteArray.empty x0 x8).toList then (some x8) else (slices_Index_string_string.l0 k x0 x1 x7 (wrap64 (x8 + 1)))) else (none)) else (none)) else (some (-1))
def slices_Index_string_string.f (k : Nat) (l0 : List ByteArray) (a1 : ByteArray) : Option (Int) := slices_Index_string_string.l0 k l0 a1 (l0.length : Int) 0
set_option maxHeartbeats 8000000 in
set_option maxRecDepth 100000 in
theorem slices_Index_string_string.calls (k : Nat) (A0 : Option Addr) (c0 : Nat) (l0 : List ByteArray) (a1 : ByteArray) (r : Int) (w : World) (hr0 : Kd.C Kd.string w A0 l0.length l0) (hc0 : l0.length ≤ c0) (h : slices_Index_string_string.f k l0 a1 = some r) :
    Calls Try.prog 167 #[.slice A0 l0.length c0, .string a1] w fun e w' => e = .returned (.int .i64 r) ∧ Drawn0 w w' := by
  have HR0 := amk hr0
  have HC0 := amk hc0
  clear hr0 hc0
  have H : (slices_Index_string_string.l0 k l0 a1 (l0.length : Int) 0) = some r := h
  clear h
  have H' := amk H
  clear H
  go_enter Try.func167, Try.ntmps167
  go_wp2
  go_loopg [8] k (fun kq v8 w' => ∃ (x8_1 : Int), v8 = .int .i64 x8_1 ∧ Aside0 (slices_Index_string_string.l0 kq l0 a1 (l0.length : Int) x8_1 = some r) ∧ Aside0 (kq ≤ k) ∧ Drawn0 w w')
  case atStart => exact ⟨(0), (by first | rfl | (simp; done) | (simp [*]; done)), H', ⟨Nat.le_refl _⟩, by repeat (first | exact Drawn0.refl _ | apply Drawn0.step)⟩
  case round =>
    clear H'
    try clear c1
    try clear p2
    obtain ⟨x8_1, rfl, HA, HK1, ⟨m1, rfl⟩⟩ := hrel
    cases gk with
    | zero => exact absurd HA.out (by simp [slices_Index_string_string.l0])
    | succ k1 =>
      have H := HA.out
      clear HA
      simp only [slices_Index_string_string.l0] at H
      by_cases c3 : x8_1 < (l0.length : Int)
      · rw [if_pos c3] at H
        have c3b0 : decide (x8_1 < (l0.length : Int)) = true := decide_eq_true c3
        clear c3
        by_cases c4 : 0 ≤ x8_1
        · rw [if_pos c4] at H
          have c4b0 : decide (0 ≤ x8_1) = true := decide_eq_true c4
          clear c4
          by_cases c5 : x8_1 < (l0.length : Int)
          · rw [if_pos c5] at H
            have c5b0 : decide (x8_1 < (l0.length : Int)) = true := decide_eq_true c5
            clear c5
            by_cases c6 : a1.toList = (rdOf ByteArray.empty l0 x8_1).toList
            · rw [if_pos c6] at H
              have c6b0 : (a1.toList == (rdOf ByteArray.empty l0 x8_1).toList) = true := beq_iff_eq.mpr c6
              have c6b1 : (a1.toList != (rdOf ByteArray.empty l0 x8_1).toList) = false := bne_eq_false_iff_eq.mpr c6
              clear c6
              obtain rfl := Option.some.inj H
              have p123 : 0 ≤ (x8_1 : Int) := of_decide_eq_true (by first | (with_reducible assumption) | assumption)
              have q123 : x8_1 < (l0.length : Int) := of_decide_eq_true (by first | (with_reducible assumption) | assumption)
              obtain ⟨ad123, e123, hx123_0⟩ := Kd.at_string HR0.out x8_1 p123 q123
              cases e123
              replace p123 := eq_true p123
              replace q123 := eq_true q123
              go_wp2
              go_ret
              exact ⟨by first | rfl | (simp; done) | (simp [*]; done), by repeat (first | exact Drawn0.refl _ | apply Drawn0.step)⟩
            · rw [if_neg c6] at H
              have c6b0 : (a1.toList == (rdOf ByteArray.empty l0 x8_1).toList) = false := beq_eq_false_iff_ne.mpr c6
              have c6b1 : (a1.toList != (rdOf ByteArray.empty l0 x8_1).toList) = true := bne_iff_ne.mpr c6
              have H' := amk H
              clear H
              have p123 : 0 ≤ (x8_1 : Int) := of_decide_eq_true (by first | (with_reducible assumption) | assumption)
              have q123 : x8_1 < (l0.length : Int) := of_decide_eq_true (by first | (with_reducible assumption) | assumption)
              obtain ⟨ad123, e123, hx123_0⟩ := Kd.at_string HR0.out x8_1 p123 q123
              cases e123
              replace p123 := eq_true p123
              replace q123 := eq_true q123
              go_wp2
              go_roundg k1
              case measure => have := HK1.out; omega
              case rel => exact ⟨(wrap64 (x8_1 + 1)), (by first | rfl | (simp; done) | (simp [*]; done)), H', ⟨by have := HK1.out; omega⟩, by repeat (first | exact Drawn0.refl _ | apply Drawn0.step)⟩
          · rw [if_neg c5] at H
            exact absurd H (by simp)
        · rw [if_neg c4] at H
          exact absurd H (by simp)
      · rw [if_neg c3] at H
        have c3b0 : decide (x8_1 < (l0.length : Int)) = false := decide_eq_false c3
        clear c3
        obtain rfl := Option.some.inj H
        go_wp2
        go_ret
        exact ⟨by first | rfl | (simp; done) | (simp [*]; done), by repeat (first | exact Drawn0.refl _ | apply Drawn0.step)⟩
def slices_Contains_string_string.f (k : Nat) (l0 : List ByteArray) (a1 : ByteArray) : Option (Bool) := (slices_Index_string_string.f k l0 a1).bind fun t124 => (some (decide (t124 ≥ 0)))
set_option maxHeartbeats 8000000 in
set_option maxRecDepth 100000 in
theorem slices_Contains_string_string.calls (k : Nat) (A0 : Option Addr) (c0 : Nat) (l0 : List ByteArray) (a1 : ByteArray) (r : Bool) (w : World) (hr0 : Kd.C Kd.string w A0 l0.length l0) (hc0 : l0.length ≤ c0) (h : slices_Contains_string_string.f k l0 a1 = some r) :
    Calls Try.prog 153 #[.slice A0 l0.length c0, .string a1] w fun e w' => e = .returned (.bool r) ∧ Drawn0 w w' := by
  have HR0 := amk hr0
  have HC0 := amk hc0
  clear hr0 hc0
  have H : ((slices_Index_string_string.f k l0 a1).bind fun t124 => (some (decide (t124 ≥ 0)))) = some r := h
  clear h
  replace H := Option.bind_eq_some_iff.mp H
  obtain ⟨t124, A30, H⟩ := H
  replace H : (some (decide (t124 ≥ 0))) = some r := H
  have A3 := amk A30
  clear A30
  obtain rfl := Option.some.inj H
  go_enter Try.func153, Try.ntmps153
  go_wp2_with (first | ((with_reducible refine gate_callee (f := 167) rfl ?_); refine goesL_ (some 7) rfl rfl Try.func167 (by kernel_rfl) rfl #[.slice A0 l0.length c0, .string a1] rfl (by (try simp only [List.map_toArray, List.map_cons, List.map_nil]); first | done | rfl | (simp only [List.length_drop, List.length_take]; rfl)) ?_; (with_reducible refine (slices_Index_string_string.calls k _ _ l0 a1 t124 _ ?side1 ?side2 A3.out).mono ?_); (case side1 => repeat (first | exact HR0.out | (with_reducible refine Kd.C_alloc ?_ _) | (with_reducible refine Kd.C_drewN ?_ _) | (with_reducible refine Kd.C_drew ?_))); (case side2 => exact HC0.out); rintro e w' ⟨rfl, ⟨nd, rfl⟩⟩; refine ⟨_, rfl, ?_⟩))
  go_ret
  exact ⟨by first | rfl | (simp; done) | (simp [*]; done), by repeat (first | exact Drawn0.refl _ | apply Drawn0.step)⟩
def types_signs.f  : Option (List ByteArray) := some (([(⟨#[61, 61]⟩ : ByteArray), (⟨#[33, 61]⟩ : ByteArray), (⟨#[60]⟩ : ByteArray), (⟨#[60, 61]⟩ : ByteArray), (⟨#[62]⟩ : ByteArray), (⟨#[62, 61]⟩ : ByteArray)] : List ByteArray))
set_option maxHeartbeats 8000000 in
set_option maxRecDepth 100000 in
theorem types_signs.calls  (r : List ByteArray) (w : World) (h : types_signs.f  = some r) :
    Calls Try.prog 154 #[] w fun e w' => ∃ v0_ : Value, e = .returned (v0_) ∧ Kd.R Kd.string 9 w' w.heap.size (fun _ => True) v0_ r ∧ Below w.heap.size w w' := by
  have HB := amk (Below.refl w.heap.size w)
  have H : (some (([(⟨#[61, 61]⟩ : ByteArray), (⟨#[33, 61]⟩ : ByteArray), (⟨#[60]⟩ : ByteArray), (⟨#[60, 61]⟩ : ByteArray), (⟨#[62]⟩ : ByteArray), (⟨#[62, 61]⟩ : ByteArray)] : List ByteArray))) = some r := h
  clear h
  obtain ⟨y125, hy125⟩ : ∃ y_ : List ByteArray, y_ = (([(⟨#[61, 61]⟩ : ByteArray), (⟨#[33, 61]⟩ : ByteArray), (⟨#[60]⟩ : ByteArray), (⟨#[60, 61]⟩ : ByteArray), (⟨#[62]⟩ : ByteArray), (⟨#[62, 61]⟩ : ByteArray)] : List ByteArray)) := ⟨_, rfl⟩
  replace H : (some y125) = some r := by first | (rw [hy125]; with_reducible exact H) | (have H2_ := (Option.bind_some _ _).symm.trans H; rw [hy125]; with_reducible exact H2_) | (have H2_ := (Option.bind_some _ _).symm.trans H; with_reducible exact H2_) | with_reducible exact H | (rw [hy125]; exact H) | exact H
  have Ny125 := amk hy125
  clear hy125
  obtain rfl := Option.some.inj H
  go_enter Try.func154, Try.ntmps154
  go_wp2_with (first | ((with_reducible refine gate_dst (N := 1) rfl ?_); refine Kd.R_lit Kd.string _ 9 ?hg (N := 1) ?hd (xs := ([(⟨#[61, 61]⟩ : ByteArray), (⟨#[33, 61]⟩ : ByteArray), (⟨#[60]⟩ : ByteArray), (⟨#[60, 61]⟩ : ByteArray), (⟨#[62]⟩ : ByteArray), (⟨#[62, 61]⟩ : ByteArray)] : List ByteArray)) (inner := [.string (⟨#[61, 61]⟩ : ByteArray), .string (⟨#[33, 61]⟩ : ByteArray), .string (⟨#[60]⟩ : ByteArray), .string (⟨#[60, 61]⟩ : ByteArray), .string (⟨#[62]⟩ : ByteArray), .string (⟨#[62, 61]⟩ : ByteArray)]) (ok := fun _ => True) (okp := fun _ => True) ?hr ?hp (fun _ hk => hk) trivial (Below.refl _ _) (Nat.le_refl _) (by simp) ?_; (case hd => rfl); (case hg => rfl); (case hr => first | (go_simp; done) | (go_simp; rfl)); (case hp => exact (Reps.one (show Kd.M Kd.string _ _ _ (⟨#[61, 61]⟩ : ByteArray) [.string (⟨#[61, 61]⟩ : ByteArray)] from rfl) (Reps.one (show Kd.M Kd.string _ _ _ (⟨#[33, 61]⟩ : ByteArray) [.string (⟨#[33, 61]⟩ : ByteArray)] from rfl) (Reps.one (show Kd.M Kd.string _ _ _ (⟨#[60]⟩ : ByteArray) [.string (⟨#[60]⟩ : ByteArray)] from rfl) (Reps.one (show Kd.M Kd.string _ _ _ (⟨#[60, 61]⟩ : ByteArray) [.string (⟨#[60, 61]⟩ : ByteArray)] from rfl) (Reps.one (show Kd.M Kd.string _ _ _ (⟨#[62]⟩ : ByteArray) [.string (⟨#[62]⟩ : ByteArray)] from rfl) (Reps.one (show Kd.M Kd.string _ _ _ (⟨#[62, 61]⟩ : ByteArray) [.string (⟨#[62, 61]⟩ : ByteArray)] from rfl) (Reps.none _ _)))))))); intro v126 w1 ho2 hb hg_ hnew_; clear hg_ hnew_; (first | rw [← Ny125.out] at ho2 | (simp only [Int.reduceToNat] at ho2; rw [← Ny125.out] at ho2)); have n0_ := amk (Kd.R_lower ho2 (below_size (by repeat (first | (with_reducible first | exact HB.out | apply bal | apply pbd | apply below_drew1) | exact HB.out)))); have n1_ := amk (below_step (by repeat (first | (with_reducible first | exact HB.out | apply bal | apply pbd | apply below_drew1) | exact HB.out)) hb); clear HB; have HO127 := n0_; have HB := n1_; clear n0_ n1_; clear hb ho2))
  go_ret
  exact ⟨_, by first | rfl | (simp [errW_none, errW_some] <;> rfl) | (simp [*, errW_none, errW_some] <;> rfl), by (with_reducible repeat (first | apply Kd.R_alloc | apply Kd.R_drewN | apply Kd.R_drew)); exact HO127.out, by repeat (first | (with_reducible first | exact HB.out | apply bal | apply pbd | apply below_drew1) | exact HB.out)⟩
end Go.Proofs.Ytoeklekjhaigoaa.M0
end
section
namespace Go.Proofs.Ytoeklekjhaigoaa.M0
open Go.Proofs.Ytoeklekjhaigoaa.Al Go.RowKit Go.Proofs.YtoeklekjhaigoaaW.PrintWords Go.Proofs.YtoeklekjhaigoaaW.PrintLast Go.Proofs.YtoeklekjhaigoaaW.PrintMore
attribute [local go_sem] max2_int min2_int max_two min_two max_three min_three max_four min_four IntKind.wrap_u32 IntKind.wrap_u8   -- for this text's walks alone
set_option linter.unusedVariables false
open Go.Proofs.Ytoeklekjhaigoaa.Le Go.Proofs.Ytoeklekjhaigoaa.C1 Go.Proofs.Ytoeklekjhaigoaa.C2 Go.Proofs.Ytoeklekjhaigoaa.HAct Go.Proofs.Ytoeklekjhaigoaa.W0 Go.Proofs.Ytoeklekjhaigoaa.HFrom Go.Proofs.Ytoeklekjhaigoaa.W1 Go.Proofs.Ytoeklekjhaigoaa.R01 Go.Proofs.Ytoeklekjhaigoaa.HPack Go.Proofs.Ytoeklekjhaigoaa.HUnpack Go.Proofs.Ytoeklekjhaigoaa.HRefPack
set_option linter.unusedSimpArgs false
mutual
def types_one.j0 : Nat → Bool → Int → List (S46) → Int → Int → ByteArray → Int → Option (Bool)
  | 0, _, _, _, _, _, _, _ => none
  | k + 1, x3, x129000, x129001, x129002, x129003, x129004, x129005 => if x129000 = 4 then (if x129002 ≥ 0 then (if x129002 < 6 then ((types_signs.f).bind fun t129 => ((slices_Contains_string_string.f k t129 x129004).bind fun t132 => (if t132 = true then (some ((x129001.length : Int) == 0)) else (some false)))) else (some false)) else (some false)) else (if x129000 = 1 then (types_one.j1 k x3 x129000 (x129000 == 1) x129000 x129001 x129002 x129003 x129004 x129005) else (types_one.j1 k x3 x129000 (x129000 == 2) x129000 x129001 x129002 x129003 x129004 x129005))
def types_one.j1 : Nat → Bool → Int → Bool → Int → List (S46) → Int → Int → ByteArray → Int → Option (Bool)
  | 0, _, _, _, _, _, _, _, _, _ => none
  | k + 1, x3, x23, x46, x129000, x129001, x129002, x129003, x129004, x129005 => if x46 = true then (if x3 = true then (some (decide ((x129001.length : Int) ≥ 2))) else (some false)) else (if x23 = 3 then (if x3 = true then (some ((x129001.length : Int) == 1)) else (some false)) else (some false))
end
def types_one.f (k : Nat) (a0_0 : Int) (l0_1 : List (S46)) (a0_2 : Int) (a0_3 : Int) (a0_4 : ByteArray) (a0_5 : Int) : Option (Bool) := if a0_2 = 0 then (if a0_3 = 0 then (if a0_4.toList = ([] : List UInt8) then (types_one.j0 k (a0_5 == 0) a0_0 l0_1 a0_2 a0_3 a0_4 a0_5) else (types_one.j0 k false a0_0 l0_1 a0_2 a0_3 a0_4 a0_5)) else (types_one.j0 k false a0_0 l0_1 a0_2 a0_3 a0_4 a0_5)) else (types_one.j0 k false a0_0 l0_1 a0_2 a0_3 a0_4 a0_5)
def types_one.T4 : Bool × List (List Nat × List Nat) := (true, [([], []), ([0], [0]), ([1], [1]), ([2], [2]), ([3], [3]), ([4, 3], [3, 4]), ([5, 3], [3, 5]), ([3, 6], [3, 6]), ([7, 3], [7]), ([8, 8], [8]), ([8], [8]), ([10, 8], [8, 10]), ([9, 11, 9, 8], [8, 9, 11]), ([8, 12], [8, 12]), ([13, 12], [13]), ([14], [14]), ([15, 14], [14, 15]), ([16, 14], [14, 16]), ([17, 14], [14, 17]), ([14, 18], [14, 18]), ([19, 14, 0, 1, 2, 3, 4, 5, 6, 7, 8, 9, 10, 11, 12, 13, 14, 15, 16, 17, 18, 19], [19])])
def types_one.B4 : List Nat := [0, 1, 3, 7, 15, 31, 63, 127, 255, 511, 511, 1535, 4095, 8191, 16383, 32767, 65535, 131071, 262143, 524287, 1048575]
theorem types_one.tab4 : rtab .any (opsOf Try.f133 4) = types_one.T4 := by kernel_rfl
theorem types_one.bits4 : waitsOk types_one.T4.2 types_one.B4 = true := by kernel_rfl
set_option maxHeartbeats 8000000 in
set_option maxRecDepth 100000 in
theorem types_one.calls (k : Nat) (a0_0 : Int) (A0_1 : Option Addr) (c0_1 : Nat) (l0_1 : List (S46)) (a0_2 : Int) (a0_3 : Int) (a0_4 : ByteArray) (a0_5 : Int) (r : Bool) (w : World) (hr0_1 : Kd.C k46 w A0_1 l0_1.length l0_1) (hc0_1 : l0_1.length ≤ c0_1) (h : types_one.f k a0_0 l0_1 a0_2 a0_3 a0_4 a0_5 = some r) :
    Calls Try.prog 133 #[.agg #[.int .i64 a0_0, .slice A0_1 l0_1.length c0_1, .int .i64 a0_2, .int .u64 a0_3, .string a0_4, .int .u64 a0_5]] w fun e w' => e = .returned (.bool r) ∧ Below w.heap.size w w' := by
  have hu46 := Try.underlying46
  have HR0_1 := amk hr0_1
  have HC0_1 := amk hc0_1
  clear hr0_1 hc0_1
  have HB := amk (Below.refl w.heap.size w)
  have H : (if a0_2 = 0 then (if a0_3 = 0 then (if a0_4.toList = ([] : List UInt8) then (types_one.j0 k (a0_5 == 0) a0_0 l0_1 a0_2 a0_3 a0_4 a0_5) else (types_one.j0 k false a0_0 l0_1 a0_2 a0_3 a0_4 a0_5)) else (types_one.j0 k false a0_0 l0_1 a0_2 a0_3 a0_4 a0_5)) else (types_one.j0 k false a0_0 l0_1 a0_2 a0_3 a0_4 a0_5)) = some r := h
  clear h
  have HC2 := amk H
  clear H
  go_enter Try.func133, Try.ntmps133
  go_upto_region 1 with (first | ((with_reducible refine gate_dst (N := 1) rfl ?_); (try (refine gate_guard (by rfl) ?_; dsimp only)); refine box_event ?hg (N := 1) ?hd (cs := #[.int .i64 a0_0, .slice A0_1 l0_1.length c0_1, .int .i64 a0_2, .int .u64 a0_3, .string a0_4, .int .u64 a0_5]) (t := 46) ?hr ?_; (case hd => rfl); (case hg => rfl); (case hr => first | (go_simp; done) | (go_simp; rfl)); intro gb128 hg w3 hbox hb; have n0_ := amk (below_step (by repeat (first | (with_reducible first | exact HB.out | apply bal | apply pbd | apply below_drew1) | exact HB.out)) hb); have n1_ := amk (hbox); have n2_ := amk ((by rw [hg]; exact (below_size (by repeat (first | (with_reducible first | exact HB.out | apply bal | apply pbd | apply below_drew1) | exact HB.out))) : w.heap.size ≤ gb128)); have n3_ := amk ((by rw [hg]; exact (below_size (by repeat (first | (with_reducible first | exact HB.out | apply bal | apply pbd | apply below_drew1) | exact HB.out))) : w.heap.size ≤ gb128)); clear HB; have HB := n0_; have BK128 := n1_; have GW128 := n2_; have GE128 := n3_; clear n0_ n1_ n2_ n3_; clear hb hbox hg))
  (try simp only [Act.put, List.setIfInBounds_toArray, List.set_cons_zero, List.set_cons_succ])
  go_cut [3] (fun v3 wc => ∃ (kq : Nat) (x3_1 : Bool), v3 = .bool x3_1 ∧ Aside0 (types_one.j0 kq x3_1 a0_0 l0_1 a0_2 a0_3 a0_4 a0_5 = some r) ∧ Aside0 (kq ≤ k) ∧ Aside0 (wc.heap[gb128]? = some (.cells #[.int .i64 a0_0, (.slice A0_1 l0_1.length c0_1), .int .i64 a0_2, .int .u64 a0_3, .string a0_4, .int .u64 a0_5] 46 (0, 0))) ∧ Aside0 (Below w.heap.size w wc))
  case first =>
    have H := HC2.out
    clear HC2
    by_cases c4 : a0_2 = 0
    · rw [if_pos c4] at H
      have c4b0 : (a0_2 == 0) = true := beq_iff_eq.mpr c4
      have c4b1 : (a0_2 != 0) = false := bne_eq_false_iff_eq.mpr c4
      clear c4
      (first | rw [c4b0] | (simp only [i64_w, i32_w]; rw [c4b0]) | skip)
      by_cases c5 : a0_3 = 0
      · rw [if_pos c5] at H
        have c5b0 : (a0_3 == 0) = true := beq_iff_eq.mpr c5
        have c5b1 : (a0_3 != 0) = false := bne_eq_false_iff_eq.mpr c5
        clear c5
        by_cases c6 : a0_4.toList = ([] : List UInt8)
        · rw [if_pos c6] at H
          have c6b0 : (a0_4.toList == ([] : List UInt8)) = true := beq_iff_eq.mpr c6
          have c6b1 : (a0_4.toList != ([] : List UInt8)) = false := bne_eq_false_iff_eq.mpr c6
          clear c6
          have H' := amk H
          clear H
          have hcz7_0 : w3.cell? ⟨gb128, 0, none⟩ = some (.int .i64 a0_0) := (blk_cell BK128.out 0).trans rfl
          have hcz7_1 : w3.cell? ⟨gb128, 1, none⟩ = some (.slice A0_1 l0_1.length c0_1) := (blk_cell BK128.out 1).trans rfl
          have hcz7_2 : w3.cell? ⟨gb128, 2, none⟩ = some (.int .i64 a0_2) := (blk_cell BK128.out 2).trans rfl
          have hcz7_3 : w3.cell? ⟨gb128, 3, none⟩ = some (.int .u64 a0_3) := (blk_cell BK128.out 3).trans rfl
          have hcz7_4 : w3.cell? ⟨gb128, 4, none⟩ = some (.string a0_4) := (blk_cell BK128.out 4).trans rfl
          have hcz7_5 : w3.cell? ⟨gb128, 5, none⟩ = some (.int .u64 a0_5) := (blk_cell BK128.out 5).trans rfl
          have hfz7_0 := blk_frozen BK128.out 0
          have hfz7_1 := blk_frozen BK128.out 1
          have hfz7_2 := blk_frozen BK128.out 2
          have hfz7_3 := blk_frozen BK128.out 3
          have hfz7_4 := blk_frozen BK128.out 4
          have hfz7_5 := blk_frozen BK128.out 5
          go_wp2
          go_meet
          case rel => exact ⟨_, ((a0_5 == 0)), (by first | rfl | (simp; done) | (simp [*]; done)), H', ⟨by first | omega | exact Nat.le_refl _⟩, ⟨by (with_reducible repeat (first | refine blk_drewN ?_ _ | refine blk_drew ?_ | refine blk_alloc ?_ _)); exact BK128.out⟩, ⟨by repeat (first | (with_reducible first | exact HB.out | apply bal | apply pbd | apply below_drew1 | refine below_set ?_ GE128.out) | exact HB.out)⟩⟩
        · rw [if_neg c6] at H
          have c6b0 : (a0_4.toList == ([] : List UInt8)) = false := beq_eq_false_iff_ne.mpr c6
          have c6b1 : (a0_4.toList != ([] : List UInt8)) = true := bne_iff_ne.mpr c6
          have H' := amk H
          clear H
          have hcz8_0 : w3.cell? ⟨gb128, 0, none⟩ = some (.int .i64 a0_0) := (blk_cell BK128.out 0).trans rfl
          have hcz8_1 : w3.cell? ⟨gb128, 1, none⟩ = some (.slice A0_1 l0_1.length c0_1) := (blk_cell BK128.out 1).trans rfl
          have hcz8_2 : w3.cell? ⟨gb128, 2, none⟩ = some (.int .i64 a0_2) := (blk_cell BK128.out 2).trans rfl
          have hcz8_3 : w3.cell? ⟨gb128, 3, none⟩ = some (.int .u64 a0_3) := (blk_cell BK128.out 3).trans rfl
          have hcz8_4 : w3.cell? ⟨gb128, 4, none⟩ = some (.string a0_4) := (blk_cell BK128.out 4).trans rfl
          have hcz8_5 : w3.cell? ⟨gb128, 5, none⟩ = some (.int .u64 a0_5) := (blk_cell BK128.out 5).trans rfl
          have hfz8_0 := blk_frozen BK128.out 0
          have hfz8_1 := blk_frozen BK128.out 1
          have hfz8_2 := blk_frozen BK128.out 2
          have hfz8_3 := blk_frozen BK128.out 3
          have hfz8_4 := blk_frozen BK128.out 4
          have hfz8_5 := blk_frozen BK128.out 5
          go_wp2
          go_meet
          case rel => exact ⟨_, (false), (by first | rfl | (simp; done) | (simp [*]; done)), H', ⟨by first | omega | exact Nat.le_refl _⟩, ⟨by (with_reducible repeat (first | refine blk_drewN ?_ _ | refine blk_drew ?_ | refine blk_alloc ?_ _)); exact BK128.out⟩, ⟨by repeat (first | (with_reducible first | exact HB.out | apply bal | apply pbd | apply below_drew1 | refine below_set ?_ GE128.out) | exact HB.out)⟩⟩
      · rw [if_neg c5] at H
        have c5b0 : (a0_3 == 0) = false := beq_eq_false_iff_ne.mpr c5
        have c5b1 : (a0_3 != 0) = true := bne_iff_ne.mpr c5
        have H' := amk H
        clear H
        have hcz9_0 : w3.cell? ⟨gb128, 0, none⟩ = some (.int .i64 a0_0) := (blk_cell BK128.out 0).trans rfl
        have hcz9_1 : w3.cell? ⟨gb128, 1, none⟩ = some (.slice A0_1 l0_1.length c0_1) := (blk_cell BK128.out 1).trans rfl
        have hcz9_2 : w3.cell? ⟨gb128, 2, none⟩ = some (.int .i64 a0_2) := (blk_cell BK128.out 2).trans rfl
        have hcz9_3 : w3.cell? ⟨gb128, 3, none⟩ = some (.int .u64 a0_3) := (blk_cell BK128.out 3).trans rfl
        have hcz9_4 : w3.cell? ⟨gb128, 4, none⟩ = some (.string a0_4) := (blk_cell BK128.out 4).trans rfl
        have hcz9_5 : w3.cell? ⟨gb128, 5, none⟩ = some (.int .u64 a0_5) := (blk_cell BK128.out 5).trans rfl
        have hfz9_0 := blk_frozen BK128.out 0
        have hfz9_1 := blk_frozen BK128.out 1
        have hfz9_2 := blk_frozen BK128.out 2
        have hfz9_3 := blk_frozen BK128.out 3
        have hfz9_4 := blk_frozen BK128.out 4
        have hfz9_5 := blk_frozen BK128.out 5
        go_wp2
        go_meet
        case rel => exact ⟨_, (false), (by first | rfl | (simp; done) | (simp [*]; done)), H', ⟨by first | omega | exact Nat.le_refl _⟩, ⟨by (with_reducible repeat (first | refine blk_drewN ?_ _ | refine blk_drew ?_ | refine blk_alloc ?_ _)); exact BK128.out⟩, ⟨by repeat (first | (with_reducible first | exact HB.out | apply bal | apply pbd | apply below_drew1 | refine below_set ?_ GE128.out) | exact HB.out)⟩⟩
    · rw [if_neg c4] at H
      have c4b0 : (a0_2 == 0) = false := beq_eq_false_iff_ne.mpr c4
      have c4b1 : (a0_2 != 0) = true := bne_iff_ne.mpr c4
      (first | rw [c4b0] | (simp only [i64_w, i32_w]; rw [c4b0]) | skip)
      have H' := amk H
      clear H
      have hcz10_0 : w3.cell? ⟨gb128, 0, none⟩ = some (.int .i64 a0_0) := (blk_cell BK128.out 0).trans rfl
      have hcz10_1 : w3.cell? ⟨gb128, 1, none⟩ = some (.slice A0_1 l0_1.length c0_1) := (blk_cell BK128.out 1).trans rfl
      have hcz10_2 : w3.cell? ⟨gb128, 2, none⟩ = some (.int .i64 a0_2) := (blk_cell BK128.out 2).trans rfl
      have hcz10_3 : w3.cell? ⟨gb128, 3, none⟩ = some (.int .u64 a0_3) := (blk_cell BK128.out 3).trans rfl
      have hcz10_4 : w3.cell? ⟨gb128, 4, none⟩ = some (.string a0_4) := (blk_cell BK128.out 4).trans rfl
      have hcz10_5 : w3.cell? ⟨gb128, 5, none⟩ = some (.int .u64 a0_5) := (blk_cell BK128.out 5).trans rfl
      have hfz10_0 := blk_frozen BK128.out 0
      have hfz10_1 := blk_frozen BK128.out 1
      have hfz10_2 := blk_frozen BK128.out 2
      have hfz10_3 := blk_frozen BK128.out 3
      have hfz10_4 := blk_frozen BK128.out 4
      have hfz10_5 := blk_frozen BK128.out 5
      go_wp2
      go_meet
      case rel => exact ⟨_, (false), (by first | rfl | (simp; done) | (simp [*]; done)), H', ⟨by first | omega | exact Nat.le_refl _⟩, ⟨by (with_reducible repeat (first | refine blk_drewN ?_ _ | refine blk_drew ?_ | refine blk_alloc ?_ _)); exact BK128.out⟩, ⟨by repeat (first | (with_reducible first | exact HB.out | apply bal | apply pbd | apply below_drew1 | refine below_set ?_ GE128.out) | exact HB.out)⟩⟩
  case rest =>
    clear HC2
    try clear c1
    try clear p2
    try clear c4
    try clear c4b0
    try clear c4b1
    try clear c5
    try clear c5b0
    try clear c5b1
    try clear c6
    try clear c6b0
    try clear c6b1
    try clear hcz10_0
    try clear hcz10_1
    try clear hcz10_2
    try clear hcz10_3
    try clear hcz10_4
    try clear hcz10_5
    try clear hcz7_0
    try clear hcz7_1
    try clear hcz7_2
    try clear hcz7_3
    try clear hcz7_4
    try clear hcz7_5
    try clear hcz8_0
    try clear hcz8_1
    try clear hcz8_2
    try clear hcz8_3
    try clear hcz8_4
    try clear hcz8_5
    try clear hcz9_0
    try clear hcz9_1
    try clear hcz9_2
    try clear hcz9_3
    try clear hcz9_4
    try clear hcz9_5
    try clear hfz10_0
    try clear hfz10_1
    try clear hfz10_2
    try clear hfz10_3
    try clear hfz10_4
    try clear hfz10_5
    try clear hfz7_0
    try clear hfz7_1
    try clear hfz7_2
    try clear hfz7_3
    try clear hfz7_4
    try clear hfz7_5
    try clear hfz8_0
    try clear hfz8_1
    try clear hfz8_2
    try clear hfz8_3
    try clear hfz8_4
    try clear hfz8_5
    try clear hfz9_0
    try clear hfz9_1
    try clear hfz9_2
    try clear hfz9_3
    try clear hfz9_4
    try clear hfz9_5
    obtain ⟨kq, x3_1, rfl, HA, HJ1, BK128, HB⟩ := hcut
    cases kq with
    | zero => exact absurd HA.out (by simp [types_one.j0])
    | succ kj1 =>
      have H := HA.out
      clear HA
      simp only [types_one.j0] at H
      by_cases c11 : a0_0 = 4
      · rw [if_pos c11] at H
        have c11b0 : (a0_0 == 4) = true := beq_iff_eq.mpr c11
        have c11b1 : (a0_0 != 4) = false := bne_eq_false_iff_eq.mpr c11
        clear c11
        by_cases c12 : a0_2 ≥ 0
        · rw [if_pos c12] at H
          have c12b0 : decide (0 ≤ a0_2) = true := decide_eq_true c12
          clear c12
          by_cases c13 : a0_2 < 6
          · rw [if_pos c13] at H
            have c13b0 : decide (a0_2 < 6) = true := decide_eq_true c13
            clear c13
            replace H := Option.bind_eq_some_iff.mp H
            obtain ⟨t129, A140, H⟩ := H
            replace H : ((slices_Contains_string_string.f kj1 t129 a0_4).bind fun t132 => (if t132 = true then (some ((l0_1.length : Int) == 0)) else (some false))) = some r := H
            have A14 := amk A140
            clear A140
            replace H := Option.bind_eq_some_iff.mp H
            obtain ⟨t132, A150, H⟩ := H
            replace H : (if t132 = true then (some ((l0_1.length : Int) == 0)) else (some false)) = some r := H
            have A15 := amk A150
            clear A150
            by_cases c16 : t132 = true
            · subst c16
              have H1 : (some ((l0_1.length : Int) == 0)) = some r := by rw [if_pos rfl] at H; exact H
              clear H
              have H := H1
              clear H1
              obtain rfl := Option.some.inj H
              have hcz17_0 : wc.cell? ⟨gb128, 0, none⟩ = some (.int .i64 a0_0) := (blk_cell BK128.out 0).trans rfl
              have hcz17_1 : wc.cell? ⟨gb128, 1, none⟩ = some (.slice A0_1 l0_1.length c0_1) := (blk_cell BK128.out 1).trans rfl
              have hcz17_2 : wc.cell? ⟨gb128, 2, none⟩ = some (.int .i64 a0_2) := (blk_cell BK128.out 2).trans rfl
              have hcz17_3 : wc.cell? ⟨gb128, 3, none⟩ = some (.int .u64 a0_3) := (blk_cell BK128.out 3).trans rfl
              have hcz17_4 : wc.cell? ⟨gb128, 4, none⟩ = some (.string a0_4) := (blk_cell BK128.out 4).trans rfl
              have hcz17_5 : wc.cell? ⟨gb128, 5, none⟩ = some (.int .u64 a0_5) := (blk_cell BK128.out 5).trans rfl
              have hfz17_0 := blk_frozen BK128.out 0
              have hfz17_1 := blk_frozen BK128.out 1
              have hfz17_2 := blk_frozen BK128.out 2
              have hfz17_3 := blk_frozen BK128.out 3
              have hfz17_4 := blk_frozen BK128.out 4
              have hfz17_5 := blk_frozen BK128.out 5
              try go_wp2
              have n0_ := amk (blk_drew BK128.out)
              have n1_ := amk (below_drew1 HB.out)
              clear BK128
              clear HB
              have BK128 := n0_
              have HB := n1_
              clear n0_ n1_
              refine start_ (n := 21) (S := fun w' => w'.cell? ⟨gb128, 0, none⟩ = some (.int .i64 a0_0) ∧ w'.cell? ⟨gb128, 1, none⟩ = some (.slice A0_1 l0_1.length c0_1) ∧ w'.cell? ⟨gb128, 2, none⟩ = some (.int .i64 a0_2) ∧ w'.cell? ⟨gb128, 3, none⟩ = some (.int .u64 a0_3) ∧ w'.cell? ⟨gb128, 4, none⟩ = some (.string a0_4) ∧ w'.cell? ⟨gb128, 5, none⟩ = some (.int .u64 a0_5)) (ds := []) #[false, false, false, false, false, false, false, false, false, false, false, false, false, false, false, false, false, false, false, false, false] (by kernel_rfl) rfl rfl ⟨(blk_cell BK128.out 0).trans rfl, (blk_cell BK128.out 1).trans rfl, (blk_cell BK128.out 2).trans rfl, (blk_cell BK128.out 3).trans rfl, (blk_cell BK128.out 4).trans rfl, (blk_cell BK128.out 5).trans rfl⟩ (fun hHeld => ?_); refine with_tabW types_one.tab4 types_one.bits4 (fun HT_ HW_ => ?_)
              generalize wc.drew = w18 at BK128 HB hHeld ⊢
              refine pure_ (i := 0) (N := some 26) (v := ?_) (a' := ?_) #[true, false, false, false, false, false, false, false, false, false, false, false, false, false, false, false, false, false, false, false, false] rfl rfl (any_of HT_.out (by kernel_rfl)) (fun _ _ _ h => h) (Or.inl ⟨by rfl, ?_⟩) ?_ ?_
              rotate_left
              · intro w'
                go_simp
                with_reducible rfl
              rotate_left
              · simp only [Act.put, List.setIfInBounds_toArray, List.set_cons_zero, List.set_cons_succ, i64_w, i32_w]
                rfl
              refine take_ (i := 1) (N := some 27) (v := ?_) (a' := ?_) #[true, true, false, false, false, false, false, false, false, false, false, false, false, false, false, false, false, false, false, false, false] rfl rfl (take_ofW HT_.out HW_.out (by kernel_rfl)) (fun _ _ _ h => h) (Or.inl ⟨by rfl, ?_⟩) hHeld ?_ ?_
              rotate_left
              · rintro w' ⟨s0, s1, s2, s3, s4, s5⟩
                go_simp
                with_reducible rfl
              rotate_left
              · simp only [Act.put, List.setIfInBounds_toArray, List.set_cons_zero, List.set_cons_succ, i64_w, i32_w]
                rfl
              refine pure_ (i := 2) (N := some 28) (v := ?_) (a' := ?_) #[true, true, true, false, false, false, false, false, false, false, false, false, false, false, false, false, false, false, false, false, false] rfl rfl (any_of HT_.out (by kernel_rfl)) (fun _ _ _ h => h) (Or.inl ⟨by rfl, ?_⟩) ?_ ?_
              rotate_left
              · intro w'
                go_simp
                with_reducible rfl
              rotate_left
              · simp only [Act.put, List.setIfInBounds_toArray, List.set_cons_zero, List.set_cons_succ, i64_w, i32_w]
                rfl
              refine pure_ (i := 3) (N := some 29) (v := ?_) (a' := ?_) #[true, true, true, true, false, false, false, false, false, false, false, false, false, false, false, false, false, false, false, false, false] rfl rfl (any_of HT_.out (by kernel_rfl)) (fun _ _ _ h => h) (Or.inl ⟨by rfl, ?_⟩) ?_ ?_
              rotate_left
              · intro w'
                go_simp
                with_reducible rfl
              rotate_left
              · simp only [Act.put, List.setIfInBounds_toArray, List.set_cons_zero, List.set_cons_succ, i64_w, i32_w]
                rfl
              refine pure_ (i := 4) (N := some 30) (v := ?_) (a' := ?_) #[true, true, true, true, true, false, false, false, false, false, false, false, false, false, false, false, false, false, false, false, false] rfl rfl (any_of HT_.out (by kernel_rfl)) (fun _ _ _ h => h) (Or.inl ⟨by rfl, ?_⟩) ?_ ?_
              rotate_left
              · intro w'
                go_simp
                with_reducible rfl
              rotate_left
              · simp only [Act.put, List.setIfInBounds_toArray, List.set_cons_zero, List.set_cons_succ, i64_w, i32_w]
                rfl
              refine take_ (i := 5) (N := some 31) (v := ?_) (a' := ?_) #[true, true, true, true, true, true, false, false, false, false, false, false, false, false, false, false, false, false, false, false, false] rfl rfl (take_ofW HT_.out HW_.out (by kernel_rfl)) (fun _ _ _ h => h) (Or.inl ⟨by rfl, ?_⟩) hHeld ?_ ?_
              rotate_left
              · rintro w' ⟨s0, s1, s2, s3, s4, s5⟩
                go_simp
                with_reducible rfl
              rotate_left
              · simp only [Act.put, List.setIfInBounds_toArray, List.set_cons_zero, List.set_cons_succ, i64_w, i32_w]
                rfl
              refine pure_ (i := 6) (N := some 32) (v := ?_) (a' := ?_) #[true, true, true, true, true, true, true, false, false, false, false, false, false, false, false, false, false, false, false, false, false] rfl rfl (any_of HT_.out (by kernel_rfl)) (fun _ _ _ h => h) (Or.inl ⟨by rfl, ?_⟩) ?_ ?_
              rotate_left
              · intro w'
                go_simp
                with_reducible rfl
              rotate_left
              · simp only [Act.put, List.setIfInBounds_toArray, List.set_cons_zero, List.set_cons_succ, i64_w, i32_w]
                rfl
              refine pure_ (i := 7) (N := some 33) (v := ?_) (a' := ?_) #[true, true, true, true, true, true, true, true, false, false, false, false, false, false, false, false, false, false, false, false, false] rfl rfl (any_of HT_.out (by kernel_rfl)) (fun _ _ _ h => h) (Or.inl ⟨by rfl, ?_⟩) ?_ ?_
              rotate_left
              · intro w'
                go_simp
                with_reducible rfl
              rotate_left
              · simp only [Act.put, List.setIfInBounds_toArray, List.set_cons_zero, List.set_cons_succ, i64_w, i32_w]
                rfl
              refine pure_ (i := 8) (N := some 34) (v := ?_) (a' := ?_) #[true, true, true, true, true, true, true, true, true, false, false, false, false, false, false, false, false, false, false, false, false] rfl rfl (any_of HT_.out (by kernel_rfl)) (fun _ _ _ h => h) (Or.inl ⟨by rfl, ?_⟩) ?_ ?_
              rotate_left
              · intro w'
                go_simp
                with_reducible rfl
              rotate_left
              · simp only [Act.put, List.setIfInBounds_toArray, List.set_cons_zero, List.set_cons_succ, i64_w, i32_w]
                rfl
              refine pure_ (i := 10) (N := some 36) (v := ?_) (a' := ?_) #[true, true, true, true, true, true, true, true, true, false, true, false, false, false, false, false, false, false, false, false, false] rfl rfl (any_of HT_.out (by kernel_rfl)) (fun _ _ _ h => h) (Or.inl ⟨by rfl, ?_⟩) ?_ ?_
              rotate_left
              · intro w'
                go_simp
                with_reducible rfl
              rotate_left
              · simp only [Act.put, List.setIfInBounds_toArray, List.set_cons_zero, List.set_cons_succ, i64_w, i32_w]
                rfl
              refine take_ (i := 11) (N := some 37) (v := ?_) (a' := ?_) #[true, true, true, true, true, true, true, true, true, false, true, true, false, false, false, false, false, false, false, false, false] rfl rfl (take_ofW HT_.out HW_.out (by kernel_rfl)) (fun _ _ _ h => h) (Or.inl ⟨by rfl, ?_⟩) hHeld ?_ ?_
              rotate_left
              · rintro w' ⟨s0, s1, s2, s3, s4, s5⟩
                go_simp
                with_reducible rfl
              rotate_left
              · simp only [Act.put, List.setIfInBounds_toArray, List.set_cons_zero, List.set_cons_succ, i64_w, i32_w]
                rfl
              refine one_ (i := 9) (N := some 35) #[true, true, true, true, true, true, true, true, true, true, true, true, false, false, false, false, false, false, false, false, false] rfl rfl (one_of HT_.out (by kernel_rfl)) (by decide) (fun K hK => ?_)
              refine goes_ Try.func154 (by kernel_rfl) rfl #[] (by rfl) rfl rfl (by (try simp only [List.map_toArray, List.map_cons, List.map_nil]); first | done | rfl | (simp only [List.length_drop, List.length_take]; rfl)) ?_
              with_reducible refine (types_signs.calls  t129 _ A14.out).mono ?_
              rintro e w19 ⟨v130, rfl, ho0, hb⟩
              refine ⟨_, rfl, ?_⟩
              have n0_ := amk (Kd.R_lower ho0 (below_size (by repeat (first | (with_reducible first | exact HB.out | apply bal | apply pbd | apply below_drew1 | refine below_set ?_ GE128.out) | exact HB.out))))
              have n1_ := amk (blk_below (g := gb128) (o := .cells #[.int .i64 a0_0, .slice A0_1 l0_1.length c0_1, .int .i64 a0_2, .int .u64 a0_3, .string a0_4, .int .u64 a0_5] 46 (0, 0)) (by (with_reducible repeat (first | refine blk_drewN ?_ _ | refine blk_drew ?_ | refine blk_alloc ?_ _)); exact BK128.out) hb)
              have n2_ := amk (below_step (by repeat (first | (with_reducible first | exact HB.out | apply bal | apply pbd | apply below_drew1 | refine below_set ?_ GE128.out) | exact HB.out)) hb)
              clear BK128
              clear HB
              have HO131 := n0_
              have BK128 := n1_
              have HB := n2_
              clear n0_ n1_ n2_
              (try clear hb)
              (try clear hb2)
              (try clear hk)
              (try clear hi)
              (try clear ho0)
              obtain ⟨Ao20, co20, eo20⟩ := Kd.R_slice HO131.out
              (first | subst eo20 | (injection eo20 with f1_ f2_ f3_; have f4_ := f1_.symm; have f5_ := f3_.symm; clear f1_ f2_ f3_; subst f4_; subst f5_))
              refine hK.out _ _ ⟨(blk_cell BK128.out 0).trans rfl, (blk_cell BK128.out 1).trans rfl, (blk_cell BK128.out 2).trans rfl, (blk_cell BK128.out 3).trans rfl, (blk_cell BK128.out 4).trans rfl, (blk_cell BK128.out 5).trans rfl⟩ (fun hHeld => ?_)
              clear hK K
              refine norm_ (a' := ?_) ?_ ?_
              rotate_left
              · show Act.put _ (some 35) _ = _
                simp only [Act.put, List.setIfInBounds_toArray, List.set_cons_zero, List.set_cons_succ, i64_w, i32_w]
                rfl
              refine one_ (i := 12) (N := some 38) #[true, true, true, true, true, true, true, true, true, true, true, true, true, false, false, false, false, false, false, false, false] rfl rfl (one_of HT_.out (by kernel_rfl)) (by decide) (fun K hK => ?_)
              refine goes_ Try.func153 (by kernel_rfl) rfl #[.slice Ao20 t129.length co20, .string a0_4] (by rfl) rfl rfl (by (try simp only [List.map_toArray, List.map_cons, List.map_nil]); first | done | rfl | (simp only [List.length_drop, List.length_take]; rfl)) ?_
              with_reducible refine (slices_Contains_string_string.calls kj1 _ _ t129 a0_4 true _ ?side1 ?side2 A15.out).mono ?_
              (case side1 => repeat (first | exact (Kd.R_reads' HO131.out).2.2 | (with_reducible refine Kd.C_alloc ?_ _) | (with_reducible refine Kd.C_drewN ?_ _) | (with_reducible refine Kd.C_drew ?_)))
              (case side2 => exact (Kd.R_reads' HO131.out).2.1)
              rintro e w' ⟨rfl, ⟨nd, rfl⟩⟩
              refine ⟨_, rfl, ?_⟩
              refine hK.out _ _ ⟨(blk_cell BK128.out 0).trans rfl, (blk_cell BK128.out 1).trans rfl, (blk_cell BK128.out 2).trans rfl, (blk_cell BK128.out 3).trans rfl, (blk_cell BK128.out 4).trans rfl, (blk_cell BK128.out 5).trans rfl⟩ (fun hHeld => ?_)
              clear hK K
              refine norm_ (a' := ?_) ?_ ?_
              rotate_left
              · show Act.put _ (some 38) _ = _
                simp only [Act.put, List.setIfInBounds_toArray, List.set_cons_zero, List.set_cons_succ, i64_w, i32_w]
                rfl
              refine pure_ (i := 13) (N := some 39) (v := ?_) (a' := ?_) #[true, true, true, true, true, true, true, true, true, true, true, true, true, true, false, false, false, false, false, false, false] rfl rfl (any_of HT_.out (by kernel_rfl)) (fun _ _ _ h => h) (Or.inl ⟨by rfl, ?_⟩) ?_ ?_
              rotate_left
              · intro w'
                go_simp
                with_reducible rfl
              rotate_left
              · simp only [Act.put, List.setIfInBounds_toArray, List.set_cons_zero, List.set_cons_succ, i64_w, i32_w]
                rfl
              refine pure_ (i := 14) (N := some 40) (v := ?_) (a' := ?_) #[true, true, true, true, true, true, true, true, true, true, true, true, true, true, true, false, false, false, false, false, false] rfl rfl (any_of HT_.out (by kernel_rfl)) (fun _ _ _ h => h) (Or.inl ⟨by rfl, ?_⟩) ?_ ?_
              rotate_left
              · intro w'
                go_simp
                with_reducible rfl
              rotate_left
              · simp only [Act.put, List.setIfInBounds_toArray, List.set_cons_zero, List.set_cons_succ, i64_w, i32_w]
                rfl
              refine pure_ (i := 15) (N := some 41) (v := ?_) (a' := ?_) #[true, true, true, true, true, true, true, true, true, true, true, true, true, true, true, true, false, false, false, false, false] rfl rfl (any_of HT_.out (by kernel_rfl)) (fun _ _ _ h => h) (Or.inl ⟨by rfl, ?_⟩) ?_ ?_
              rotate_left
              · intro w'
                go_simp
                with_reducible rfl
              rotate_left
              · simp only [Act.put, List.setIfInBounds_toArray, List.set_cons_zero, List.set_cons_succ, i64_w, i32_w]
                rfl
              refine take_ (i := 16) (N := some 42) (v := ?_) (a' := ?_) #[true, true, true, true, true, true, true, true, true, true, true, true, true, true, true, true, true, false, false, false, false] rfl rfl (take_ofW HT_.out HW_.out (by kernel_rfl)) (fun _ _ _ h => h) (Or.inl ⟨by rfl, ?_⟩) hHeld ?_ ?_
              rotate_left
              · rintro w' ⟨s0, s1, s2, s3, s4, s5⟩
                go_simp
                with_reducible rfl
              rotate_left
              · simp only [Act.put, List.setIfInBounds_toArray, List.set_cons_zero, List.set_cons_succ, i64_w, i32_w]
                rfl
              refine pure_ (i := 17) (N := some 43) (v := ?_) (a' := ?_) #[true, true, true, true, true, true, true, true, true, true, true, true, true, true, true, true, true, true, false, false, false] rfl rfl (any_of HT_.out (by kernel_rfl)) (fun _ _ _ h => h) (Or.inl ⟨by rfl, ?_⟩) ?_ ?_
              rotate_left
              · intro w'
                go_simp
                with_reducible rfl
              rotate_left
              · simp only [Act.put, List.setIfInBounds_toArray, List.set_cons_zero, List.set_cons_succ, i64_w, i32_w]
                rfl
              refine pure_ (i := 18) (N := some 44) (v := ?_) (a' := ?_) #[true, true, true, true, true, true, true, true, true, true, true, true, true, true, true, true, true, true, true, false, false] rfl rfl (any_of HT_.out (by kernel_rfl)) (fun _ _ _ h => h) (Or.inl ⟨by rfl, ?_⟩) ?_ ?_
              rotate_left
              · intro w'
                go_simp
                with_reducible rfl
              rotate_left
              · simp only [Act.put, List.setIfInBounds_toArray, List.set_cons_zero, List.set_cons_succ, i64_w, i32_w]
                rfl
              refine pure_ (i := 19) (N := some 45) (v := ?_) (a' := ?_) #[true, true, true, true, true, true, true, true, true, true, true, true, true, true, true, true, true, true, true, true, false] rfl rfl (any_of HT_.out (by kernel_rfl)) (fun _ _ _ h => h) (Or.inl ⟨by rfl, ?_⟩) ?_ ?_
              rotate_left
              · intro w'
                go_simp
                with_reducible rfl
              rotate_left
              · simp only [Act.put, List.setIfInBounds_toArray, List.set_cons_zero, List.set_cons_succ, i64_w, i32_w]
                rfl
              refine pure_ (i := 20) (N := some 2) (v := ?_) (a' := ?_) #[true, true, true, true, true, true, true, true, true, true, true, true, true, true, true, true, true, true, true, true, true] rfl rfl (any_of HT_.out (by kernel_rfl)) (fun _ _ _ h => h) (Or.inl ⟨by rfl, ?_⟩) ?_ ?_
              rotate_left
              · intro w'
                go_simp
                with_reducible rfl
              rotate_left
              · simp only [Act.put, List.setIfInBounds_toArray, List.set_cons_zero, List.set_cons_succ, i64_w, i32_w]
                rfl
              refine done_ (done_of HT_.out (by kernel_rfl)) ?_
              try go_wp2
              go_ret
              exact ⟨by first | rfl | (simp [errW_none, errW_some] <;> rfl) | (simp [*, errW_none, errW_some] <;> rfl), by repeat (first | (with_reducible first | exact HB.out | apply bal | apply pbd | apply below_drew1 | refine below_set ?_ GE128.out) | exact HB.out)⟩
            · replace c16 := Bool.eq_false_iff.mpr c16
              subst c16
              have H1 : (some false) = some r := by rw [if_neg (show ¬ (false = true) by decide)] at H; exact H
              clear H
              have H := H1
              clear H1
              obtain rfl := Option.some.inj H
              have hcz21_0 : wc.cell? ⟨gb128, 0, none⟩ = some (.int .i64 a0_0) := (blk_cell BK128.out 0).trans rfl
              have hcz21_1 : wc.cell? ⟨gb128, 1, none⟩ = some (.slice A0_1 l0_1.length c0_1) := (blk_cell BK128.out 1).trans rfl
              have hcz21_2 : wc.cell? ⟨gb128, 2, none⟩ = some (.int .i64 a0_2) := (blk_cell BK128.out 2).trans rfl
              have hcz21_3 : wc.cell? ⟨gb128, 3, none⟩ = some (.int .u64 a0_3) := (blk_cell BK128.out 3).trans rfl
              have hcz21_4 : wc.cell? ⟨gb128, 4, none⟩ = some (.string a0_4) := (blk_cell BK128.out 4).trans rfl
              have hcz21_5 : wc.cell? ⟨gb128, 5, none⟩ = some (.int .u64 a0_5) := (blk_cell BK128.out 5).trans rfl
              have hfz21_0 := blk_frozen BK128.out 0
              have hfz21_1 := blk_frozen BK128.out 1
              have hfz21_2 := blk_frozen BK128.out 2
              have hfz21_3 := blk_frozen BK128.out 3
              have hfz21_4 := blk_frozen BK128.out 4
              have hfz21_5 := blk_frozen BK128.out 5
              try go_wp2
              have n0_ := amk (blk_drew BK128.out)
              have n1_ := amk (below_drew1 HB.out)
              clear BK128
              clear HB
              have BK128 := n0_
              have HB := n1_
              clear n0_ n1_
              refine start_ (n := 21) (S := fun w' => w'.cell? ⟨gb128, 0, none⟩ = some (.int .i64 a0_0) ∧ w'.cell? ⟨gb128, 1, none⟩ = some (.slice A0_1 l0_1.length c0_1) ∧ w'.cell? ⟨gb128, 2, none⟩ = some (.int .i64 a0_2) ∧ w'.cell? ⟨gb128, 3, none⟩ = some (.int .u64 a0_3) ∧ w'.cell? ⟨gb128, 4, none⟩ = some (.string a0_4) ∧ w'.cell? ⟨gb128, 5, none⟩ = some (.int .u64 a0_5)) (ds := []) #[false, false, false, false, false, false, false, false, false, false, false, false, false, false, false, false, false, false, false, false, false] (by kernel_rfl) rfl rfl ⟨(blk_cell BK128.out 0).trans rfl, (blk_cell BK128.out 1).trans rfl, (blk_cell BK128.out 2).trans rfl, (blk_cell BK128.out 3).trans rfl, (blk_cell BK128.out 4).trans rfl, (blk_cell BK128.out 5).trans rfl⟩ (fun hHeld => ?_); refine with_tabW types_one.tab4 types_one.bits4 (fun HT_ HW_ => ?_)
              generalize wc.drew = w22 at BK128 HB hHeld ⊢
              refine pure_ (i := 0) (N := some 26) (v := ?_) (a' := ?_) #[true, false, false, false, false, false, false, false, false, false, false, false, false, false, false, false, false, false, false, false, false] rfl rfl (any_of HT_.out (by kernel_rfl)) (fun _ _ _ h => h) (Or.inl ⟨by rfl, ?_⟩) ?_ ?_
              rotate_left
              · intro w'
                go_simp
                with_reducible rfl
              rotate_left
              · simp only [Act.put, List.setIfInBounds_toArray, List.set_cons_zero, List.set_cons_succ, i64_w, i32_w]
                rfl
              refine take_ (i := 1) (N := some 27) (v := ?_) (a' := ?_) #[true, true, false, false, false, false, false, false, false, false, false, false, false, false, false, false, false, false, false, false, false] rfl rfl (take_ofW HT_.out HW_.out (by kernel_rfl)) (fun _ _ _ h => h) (Or.inl ⟨by rfl, ?_⟩) hHeld ?_ ?_
              rotate_left
              · rintro w' ⟨s0, s1, s2, s3, s4, s5⟩
                go_simp
                with_reducible rfl
              rotate_left
              · simp only [Act.put, List.setIfInBounds_toArray, List.set_cons_zero, List.set_cons_succ, i64_w, i32_w]
                rfl
              refine pure_ (i := 2) (N := some 28) (v := ?_) (a' := ?_) #[true, true, true, false, false, false, false, false, false, false, false, false, false, false, false, false, false, false, false, false, false] rfl rfl (any_of HT_.out (by kernel_rfl)) (fun _ _ _ h => h) (Or.inl ⟨by rfl, ?_⟩) ?_ ?_
              rotate_left
              · intro w'
                go_simp
                with_reducible rfl
              rotate_left
              · simp only [Act.put, List.setIfInBounds_toArray, List.set_cons_zero, List.set_cons_succ, i64_w, i32_w]
                rfl
              refine pure_ (i := 3) (N := some 29) (v := ?_) (a' := ?_) #[true, true, true, true, false, false, false, false, false, false, false, false, false, false, false, false, false, false, false, false, false] rfl rfl (any_of HT_.out (by kernel_rfl)) (fun _ _ _ h => h) (Or.inl ⟨by rfl, ?_⟩) ?_ ?_
              rotate_left
              · intro w'
                go_simp
                with_reducible rfl
              rotate_left
              · simp only [Act.put, List.setIfInBounds_toArray, List.set_cons_zero, List.set_cons_succ, i64_w, i32_w]
                rfl
              refine pure_ (i := 4) (N := some 30) (v := ?_) (a' := ?_) #[true, true, true, true, true, false, false, false, false, false, false, false, false, false, false, false, false, false, false, false, false] rfl rfl (any_of HT_.out (by kernel_rfl)) (fun _ _ _ h => h) (Or.inl ⟨by rfl, ?_⟩) ?_ ?_
              rotate_left
              · intro w'
                go_simp
                with_reducible rfl
              rotate_left
              · simp only [Act.put, List.setIfInBounds_toArray, List.set_cons_zero, List.set_cons_succ, i64_w, i32_w]
                rfl
              refine take_ (i := 5) (N := some 31) (v := ?_) (a' := ?_) #[true, true, true, true, true, true, false, false, false, false, false, false, false, false, false, false, false, false, false, false, false] rfl rfl (take_ofW HT_.out HW_.out (by kernel_rfl)) (fun _ _ _ h => h) (Or.inl ⟨by rfl, ?_⟩) hHeld ?_ ?_
              rotate_left
              · rintro w' ⟨s0, s1, s2, s3, s4, s5⟩
                go_simp
                with_reducible rfl
              rotate_left
              · simp only [Act.put, List.setIfInBounds_toArray, List.set_cons_zero, List.set_cons_succ, i64_w, i32_w]
                rfl
              refine pure_ (i := 6) (N := some 32) (v := ?_) (a' := ?_) #[true, true, true, true, true, true, true, false, false, false, false, false, false, false, false, false, false, false, false, false, false] rfl rfl (any_of HT_.out (by kernel_rfl)) (fun _ _ _ h => h) (Or.inl ⟨by rfl, ?_⟩) ?_ ?_
              rotate_left
              · intro w'
                go_simp
                with_reducible rfl
              rotate_left
              · simp only [Act.put, List.setIfInBounds_toArray, List.set_cons_zero, List.set_cons_succ, i64_w, i32_w]
                rfl
              refine pure_ (i := 7) (N := some 33) (v := ?_) (a' := ?_) #[true, true, true, true, true, true, true, true, false, false, false, false, false, false, false, false, false, false, false, false, false] rfl rfl (any_of HT_.out (by kernel_rfl)) (fun _ _ _ h => h) (Or.inl ⟨by rfl, ?_⟩) ?_ ?_
              rotate_left
              · intro w'
                go_simp
                with_reducible rfl
              rotate_left
              · simp only [Act.put, List.setIfInBounds_toArray, List.set_cons_zero, List.set_cons_succ, i64_w, i32_w]
                rfl
              refine pure_ (i := 8) (N := some 34) (v := ?_) (a' := ?_) #[true, true, true, true, true, true, true, true, true, false, false, false, false, false, false, false, false, false, false, false, false] rfl rfl (any_of HT_.out (by kernel_rfl)) (fun _ _ _ h => h) (Or.inl ⟨by rfl, ?_⟩) ?_ ?_
              rotate_left
              · intro w'
                go_simp
                with_reducible rfl
              rotate_left
              · simp only [Act.put, List.setIfInBounds_toArray, List.set_cons_zero, List.set_cons_succ, i64_w, i32_w]
                rfl
              refine pure_ (i := 10) (N := some 36) (v := ?_) (a' := ?_) #[true, true, true, true, true, true, true, true, true, false, true, false, false, false, false, false, false, false, false, false, false] rfl rfl (any_of HT_.out (by kernel_rfl)) (fun _ _ _ h => h) (Or.inl ⟨by rfl, ?_⟩) ?_ ?_
              rotate_left
              · intro w'
                go_simp
                with_reducible rfl
              rotate_left
              · simp only [Act.put, List.setIfInBounds_toArray, List.set_cons_zero, List.set_cons_succ, i64_w, i32_w]
                rfl
              refine take_ (i := 11) (N := some 37) (v := ?_) (a' := ?_) #[true, true, true, true, true, true, true, true, true, false, true, true, false, false, false, false, false, false, false, false, false] rfl rfl (take_ofW HT_.out HW_.out (by kernel_rfl)) (fun _ _ _ h => h) (Or.inl ⟨by rfl, ?_⟩) hHeld ?_ ?_
              rotate_left
              · rintro w' ⟨s0, s1, s2, s3, s4, s5⟩
                go_simp
                with_reducible rfl
              rotate_left
              · simp only [Act.put, List.setIfInBounds_toArray, List.set_cons_zero, List.set_cons_succ, i64_w, i32_w]
                rfl
              refine one_ (i := 9) (N := some 35) #[true, true, true, true, true, true, true, true, true, true, true, true, false, false, false, false, false, false, false, false, false] rfl rfl (one_of HT_.out (by kernel_rfl)) (by decide) (fun K hK => ?_)
              refine goes_ Try.func154 (by kernel_rfl) rfl #[] (by rfl) rfl rfl (by (try simp only [List.map_toArray, List.map_cons, List.map_nil]); first | done | rfl | (simp only [List.length_drop, List.length_take]; rfl)) ?_
              with_reducible refine (types_signs.calls  t129 _ A14.out).mono ?_
              rintro e w23 ⟨v130, rfl, ho0, hb⟩
              refine ⟨_, rfl, ?_⟩
              have n0_ := amk (Kd.R_lower ho0 (below_size (by repeat (first | (with_reducible first | exact HB.out | apply bal | apply pbd | apply below_drew1 | refine below_set ?_ GE128.out) | exact HB.out))))
              have n1_ := amk (blk_below (g := gb128) (o := .cells #[.int .i64 a0_0, .slice A0_1 l0_1.length c0_1, .int .i64 a0_2, .int .u64 a0_3, .string a0_4, .int .u64 a0_5] 46 (0, 0)) (by (with_reducible repeat (first | refine blk_drewN ?_ _ | refine blk_drew ?_ | refine blk_alloc ?_ _)); exact BK128.out) hb)
              have n2_ := amk (below_step (by repeat (first | (with_reducible first | exact HB.out | apply bal | apply pbd | apply below_drew1 | refine below_set ?_ GE128.out) | exact HB.out)) hb)
              clear BK128
              clear HB
              have HO131 := n0_
              have BK128 := n1_
              have HB := n2_
              clear n0_ n1_ n2_
              (try clear hb)
              (try clear hb2)
              (try clear hk)
              (try clear hi)
              (try clear ho0)
              obtain ⟨Ao24, co24, eo24⟩ := Kd.R_slice HO131.out
              (first | subst eo24 | (injection eo24 with f1_ f2_ f3_; have f4_ := f1_.symm; have f5_ := f3_.symm; clear f1_ f2_ f3_; subst f4_; subst f5_))
              refine hK.out _ _ ⟨(blk_cell BK128.out 0).trans rfl, (blk_cell BK128.out 1).trans rfl, (blk_cell BK128.out 2).trans rfl, (blk_cell BK128.out 3).trans rfl, (blk_cell BK128.out 4).trans rfl, (blk_cell BK128.out 5).trans rfl⟩ (fun hHeld => ?_)
              clear hK K
              refine norm_ (a' := ?_) ?_ ?_
              rotate_left
              · show Act.put _ (some 35) _ = _
                simp only [Act.put, List.setIfInBounds_toArray, List.set_cons_zero, List.set_cons_succ, i64_w, i32_w]
                rfl
              refine one_ (i := 12) (N := some 38) #[true, true, true, true, true, true, true, true, true, true, true, true, true, false, false, false, false, false, false, false, false] rfl rfl (one_of HT_.out (by kernel_rfl)) (by decide) (fun K hK => ?_)
              refine goes_ Try.func153 (by kernel_rfl) rfl #[.slice Ao24 t129.length co24, .string a0_4] (by rfl) rfl rfl (by (try simp only [List.map_toArray, List.map_cons, List.map_nil]); first | done | rfl | (simp only [List.length_drop, List.length_take]; rfl)) ?_
              with_reducible refine (slices_Contains_string_string.calls kj1 _ _ t129 a0_4 false _ ?side1 ?side2 A15.out).mono ?_
              (case side1 => repeat (first | exact (Kd.R_reads' HO131.out).2.2 | (with_reducible refine Kd.C_alloc ?_ _) | (with_reducible refine Kd.C_drewN ?_ _) | (with_reducible refine Kd.C_drew ?_)))
              (case side2 => exact (Kd.R_reads' HO131.out).2.1)
              rintro e w' ⟨rfl, ⟨nd, rfl⟩⟩
              refine ⟨_, rfl, ?_⟩
              refine hK.out _ _ ⟨(blk_cell BK128.out 0).trans rfl, (blk_cell BK128.out 1).trans rfl, (blk_cell BK128.out 2).trans rfl, (blk_cell BK128.out 3).trans rfl, (blk_cell BK128.out 4).trans rfl, (blk_cell BK128.out 5).trans rfl⟩ (fun hHeld => ?_)
              clear hK K
              refine norm_ (a' := ?_) ?_ ?_
              rotate_left
              · show Act.put _ (some 38) _ = _
                simp only [Act.put, List.setIfInBounds_toArray, List.set_cons_zero, List.set_cons_succ, i64_w, i32_w]
                rfl
              refine pure_ (i := 13) (N := some 39) (v := ?_) (a' := ?_) #[true, true, true, true, true, true, true, true, true, true, true, true, true, true, false, false, false, false, false, false, false] rfl rfl (any_of HT_.out (by kernel_rfl)) (fun _ _ _ h => h) (Or.inl ⟨by rfl, ?_⟩) ?_ ?_
              rotate_left
              · intro w'
                go_simp
                with_reducible rfl
              rotate_left
              · simp only [Act.put, List.setIfInBounds_toArray, List.set_cons_zero, List.set_cons_succ, i64_w, i32_w]
                rfl
              refine pure_ (i := 14) (N := some 40) (v := ?_) (a' := ?_) #[true, true, true, true, true, true, true, true, true, true, true, true, true, true, true, false, false, false, false, false, false] rfl rfl (any_of HT_.out (by kernel_rfl)) (fun _ _ _ h => h) (Or.inl ⟨by rfl, ?_⟩) ?_ ?_
              rotate_left
              · intro w'
                go_simp
                with_reducible rfl
              rotate_left
              · simp only [Act.put, List.setIfInBounds_toArray, List.set_cons_zero, List.set_cons_succ, i64_w, i32_w]
                rfl
              refine pure_ (i := 15) (N := some 41) (v := undef) (a' := ?_) #[true, true, true, true, true, true, true, true, true, true, true, true, true, true, true, true, false, false, false, false, false] rfl rfl (any_of HT_.out (by kernel_rfl)) (fun _ _ _ h => h) (Or.inr ⟨by rfl, rfl⟩) ?_ ?_
              rotate_left
              · simp only [Act.put, List.setIfInBounds_toArray, List.set_cons_zero, List.set_cons_succ, i64_w, i32_w]
                rfl
              refine pure_ (i := 16) (N := some 42) (v := undef) (a' := ?_) #[true, true, true, true, true, true, true, true, true, true, true, true, true, true, true, true, true, false, false, false, false] rfl rfl (any_of HT_.out (by kernel_rfl)) (fun _ _ _ h => h) (Or.inr ⟨by rfl, rfl⟩) ?_ ?_
              rotate_left
              · simp only [Act.put, List.setIfInBounds_toArray, List.set_cons_zero, List.set_cons_succ, i64_w, i32_w]
                rfl
              refine pure_ (i := 17) (N := some 43) (v := undef) (a' := ?_) #[true, true, true, true, true, true, true, true, true, true, true, true, true, true, true, true, true, true, false, false, false] rfl rfl (any_of HT_.out (by kernel_rfl)) (fun _ _ _ h => h) (Or.inr ⟨by rfl, rfl⟩) ?_ ?_
              rotate_left
              · simp only [Act.put, List.setIfInBounds_toArray, List.set_cons_zero, List.set_cons_succ, i64_w, i32_w]
                rfl
              refine pure_ (i := 18) (N := some 44) (v := undef) (a' := ?_) #[true, true, true, true, true, true, true, true, true, true, true, true, true, true, true, true, true, true, true, false, false] rfl rfl (any_of HT_.out (by kernel_rfl)) (fun _ _ _ h => h) (Or.inr ⟨by rfl, rfl⟩) ?_ ?_
              rotate_left
              · simp only [Act.put, List.setIfInBounds_toArray, List.set_cons_zero, List.set_cons_succ, i64_w, i32_w]
                rfl
              refine pure_ (i := 19) (N := some 45) (v := ?_) (a' := ?_) #[true, true, true, true, true, true, true, true, true, true, true, true, true, true, true, true, true, true, true, true, false] rfl rfl (any_of HT_.out (by kernel_rfl)) (fun _ _ _ h => h) (Or.inl ⟨by rfl, ?_⟩) ?_ ?_
              rotate_left
              · intro w'
                go_simp
                with_reducible rfl
              rotate_left
              · simp only [Act.put, List.setIfInBounds_toArray, List.set_cons_zero, List.set_cons_succ, i64_w, i32_w]
                rfl
              refine pure_ (i := 20) (N := some 2) (v := ?_) (a' := ?_) #[true, true, true, true, true, true, true, true, true, true, true, true, true, true, true, true, true, true, true, true, true] rfl rfl (any_of HT_.out (by kernel_rfl)) (fun _ _ _ h => h) (Or.inl ⟨by rfl, ?_⟩) ?_ ?_
              rotate_left
              · intro w'
                go_simp
                with_reducible rfl
              rotate_left
              · simp only [Act.put, List.setIfInBounds_toArray, List.set_cons_zero, List.set_cons_succ, i64_w, i32_w]
                rfl
              refine done_ (done_of HT_.out (by kernel_rfl)) ?_
              try go_wp2
              go_ret
              exact ⟨by first | rfl | (simp [errW_none, errW_some] <;> rfl) | (simp [*, errW_none, errW_some] <;> rfl), by repeat (first | (with_reducible first | exact HB.out | apply bal | apply pbd | apply below_drew1 | refine below_set ?_ GE128.out) | exact HB.out)⟩
          · rw [if_neg c13] at H
            have c13b0 : decide (a0_2 < 6) = false := decide_eq_false c13
            clear c13
            obtain rfl := Option.some.inj H
            have hcz25_0 : wc.cell? ⟨gb128, 0, none⟩ = some (.int .i64 a0_0) := (blk_cell BK128.out 0).trans rfl
            have hcz25_1 : wc.cell? ⟨gb128, 1, none⟩ = some (.slice A0_1 l0_1.length c0_1) := (blk_cell BK128.out 1).trans rfl
            have hcz25_2 : wc.cell? ⟨gb128, 2, none⟩ = some (.int .i64 a0_2) := (blk_cell BK128.out 2).trans rfl
            have hcz25_3 : wc.cell? ⟨gb128, 3, none⟩ = some (.int .u64 a0_3) := (blk_cell BK128.out 3).trans rfl
            have hcz25_4 : wc.cell? ⟨gb128, 4, none⟩ = some (.string a0_4) := (blk_cell BK128.out 4).trans rfl
            have hcz25_5 : wc.cell? ⟨gb128, 5, none⟩ = some (.int .u64 a0_5) := (blk_cell BK128.out 5).trans rfl
            have hfz25_0 := blk_frozen BK128.out 0
            have hfz25_1 := blk_frozen BK128.out 1
            have hfz25_2 := blk_frozen BK128.out 2
            have hfz25_3 := blk_frozen BK128.out 3
            have hfz25_4 := blk_frozen BK128.out 4
            have hfz25_5 := blk_frozen BK128.out 5
            try go_wp2
            have n0_ := amk (blk_drew BK128.out)
            have n1_ := amk (below_drew1 HB.out)
            clear BK128
            clear HB
            have BK128 := n0_
            have HB := n1_
            clear n0_ n1_
            refine start_ (n := 21) (S := fun w' => w'.cell? ⟨gb128, 0, none⟩ = some (.int .i64 a0_0) ∧ w'.cell? ⟨gb128, 1, none⟩ = some (.slice A0_1 l0_1.length c0_1) ∧ w'.cell? ⟨gb128, 2, none⟩ = some (.int .i64 a0_2) ∧ w'.cell? ⟨gb128, 3, none⟩ = some (.int .u64 a0_3) ∧ w'.cell? ⟨gb128, 4, none⟩ = some (.string a0_4) ∧ w'.cell? ⟨gb128, 5, none⟩ = some (.int .u64 a0_5)) (ds := []) #[false, false, false, false, false, false, false, false, false, false, false, false, false, false, false, false, false, false, false, false, false] (by kernel_rfl) rfl rfl ⟨(blk_cell BK128.out 0).trans rfl, (blk_cell BK128.out 1).trans rfl, (blk_cell BK128.out 2).trans rfl, (blk_cell BK128.out 3).trans rfl, (blk_cell BK128.out 4).trans rfl, (blk_cell BK128.out 5).trans rfl⟩ (fun hHeld => ?_); refine with_tabW types_one.tab4 types_one.bits4 (fun HT_ HW_ => ?_)
            generalize wc.drew = w26 at BK128 HB hHeld ⊢
            refine pure_ (i := 0) (N := some 26) (v := ?_) (a' := ?_) #[true, false, false, false, false, false, false, false, false, false, false, false, false, false, false, false, false, false, false, false, false] rfl rfl (any_of HT_.out (by kernel_rfl)) (fun _ _ _ h => h) (Or.inl ⟨by rfl, ?_⟩) ?_ ?_
            rotate_left
            · intro w'
              go_simp
              with_reducible rfl
            rotate_left
            · simp only [Act.put, List.setIfInBounds_toArray, List.set_cons_zero, List.set_cons_succ, i64_w, i32_w]
              rfl
            refine take_ (i := 1) (N := some 27) (v := ?_) (a' := ?_) #[true, true, false, false, false, false, false, false, false, false, false, false, false, false, false, false, false, false, false, false, false] rfl rfl (take_ofW HT_.out HW_.out (by kernel_rfl)) (fun _ _ _ h => h) (Or.inl ⟨by rfl, ?_⟩) hHeld ?_ ?_
            rotate_left
            · rintro w' ⟨s0, s1, s2, s3, s4, s5⟩
              go_simp
              with_reducible rfl
            rotate_left
            · simp only [Act.put, List.setIfInBounds_toArray, List.set_cons_zero, List.set_cons_succ, i64_w, i32_w]
              rfl
            refine pure_ (i := 2) (N := some 28) (v := ?_) (a' := ?_) #[true, true, true, false, false, false, false, false, false, false, false, false, false, false, false, false, false, false, false, false, false] rfl rfl (any_of HT_.out (by kernel_rfl)) (fun _ _ _ h => h) (Or.inl ⟨by rfl, ?_⟩) ?_ ?_
            rotate_left
            · intro w'
              go_simp
              with_reducible rfl
            rotate_left
            · simp only [Act.put, List.setIfInBounds_toArray, List.set_cons_zero, List.set_cons_succ, i64_w, i32_w]
              rfl
            refine pure_ (i := 3) (N := some 29) (v := ?_) (a' := ?_) #[true, true, true, true, false, false, false, false, false, false, false, false, false, false, false, false, false, false, false, false, false] rfl rfl (any_of HT_.out (by kernel_rfl)) (fun _ _ _ h => h) (Or.inl ⟨by rfl, ?_⟩) ?_ ?_
            rotate_left
            · intro w'
              go_simp
              with_reducible rfl
            rotate_left
            · simp only [Act.put, List.setIfInBounds_toArray, List.set_cons_zero, List.set_cons_succ, i64_w, i32_w]
              rfl
            refine pure_ (i := 4) (N := some 30) (v := ?_) (a' := ?_) #[true, true, true, true, true, false, false, false, false, false, false, false, false, false, false, false, false, false, false, false, false] rfl rfl (any_of HT_.out (by kernel_rfl)) (fun _ _ _ h => h) (Or.inl ⟨by rfl, ?_⟩) ?_ ?_
            rotate_left
            · intro w'
              go_simp
              with_reducible rfl
            rotate_left
            · simp only [Act.put, List.setIfInBounds_toArray, List.set_cons_zero, List.set_cons_succ, i64_w, i32_w]
              rfl
            refine take_ (i := 5) (N := some 31) (v := ?_) (a' := ?_) #[true, true, true, true, true, true, false, false, false, false, false, false, false, false, false, false, false, false, false, false, false] rfl rfl (take_ofW HT_.out HW_.out (by kernel_rfl)) (fun _ _ _ h => h) (Or.inl ⟨by rfl, ?_⟩) hHeld ?_ ?_
            rotate_left
            · rintro w' ⟨s0, s1, s2, s3, s4, s5⟩
              go_simp
              with_reducible rfl
            rotate_left
            · simp only [Act.put, List.setIfInBounds_toArray, List.set_cons_zero, List.set_cons_succ, i64_w, i32_w]
              rfl
            refine pure_ (i := 6) (N := some 32) (v := ?_) (a' := ?_) #[true, true, true, true, true, true, true, false, false, false, false, false, false, false, false, false, false, false, false, false, false] rfl rfl (any_of HT_.out (by kernel_rfl)) (fun _ _ _ h => h) (Or.inl ⟨by rfl, ?_⟩) ?_ ?_
            rotate_left
            · intro w'
              go_simp
              with_reducible rfl
            rotate_left
            · simp only [Act.put, List.setIfInBounds_toArray, List.set_cons_zero, List.set_cons_succ, i64_w, i32_w]
              rfl
            refine pure_ (i := 7) (N := some 33) (v := ?_) (a' := ?_) #[true, true, true, true, true, true, true, true, false, false, false, false, false, false, false, false, false, false, false, false, false] rfl rfl (any_of HT_.out (by kernel_rfl)) (fun _ _ _ h => h) (Or.inl ⟨by rfl, ?_⟩) ?_ ?_
            rotate_left
            · intro w'
              go_simp
              with_reducible rfl
            rotate_left
            · simp only [Act.put, List.setIfInBounds_toArray, List.set_cons_zero, List.set_cons_succ, i64_w, i32_w]
              rfl
            refine pure_ (i := 8) (N := some 34) (v := ?_) (a' := ?_) #[true, true, true, true, true, true, true, true, true, false, false, false, false, false, false, false, false, false, false, false, false] rfl rfl (any_of HT_.out (by kernel_rfl)) (fun _ _ _ h => h) (Or.inl ⟨by rfl, ?_⟩) ?_ ?_
            rotate_left
            · intro w'
              go_simp
              with_reducible rfl
            rotate_left
            · simp only [Act.put, List.setIfInBounds_toArray, List.set_cons_zero, List.set_cons_succ, i64_w, i32_w]
              rfl
            refine pure_ (i := 9) (N := some 35) (v := undef) (a' := ?_) #[true, true, true, true, true, true, true, true, true, true, false, false, false, false, false, false, false, false, false, false, false] rfl rfl (any_of HT_.out (by kernel_rfl)) (fun _ _ _ h => h) (Or.inr ⟨by rfl, rfl⟩) ?_ ?_
            rotate_left
            · simp only [Act.put, List.setIfInBounds_toArray, List.set_cons_zero, List.set_cons_succ, i64_w, i32_w]
              rfl
            refine pure_ (i := 10) (N := some 36) (v := undef) (a' := ?_) #[true, true, true, true, true, true, true, true, true, true, true, false, false, false, false, false, false, false, false, false, false] rfl rfl (any_of HT_.out (by kernel_rfl)) (fun _ _ _ h => h) (Or.inr ⟨by rfl, rfl⟩) ?_ ?_
            rotate_left
            · simp only [Act.put, List.setIfInBounds_toArray, List.set_cons_zero, List.set_cons_succ, i64_w, i32_w]
              rfl
            refine pure_ (i := 11) (N := some 37) (v := undef) (a' := ?_) #[true, true, true, true, true, true, true, true, true, true, true, true, false, false, false, false, false, false, false, false, false] rfl rfl (any_of HT_.out (by kernel_rfl)) (fun _ _ _ h => h) (Or.inr ⟨by rfl, rfl⟩) ?_ ?_
            rotate_left
            · simp only [Act.put, List.setIfInBounds_toArray, List.set_cons_zero, List.set_cons_succ, i64_w, i32_w]
              rfl
            refine pure_ (i := 12) (N := some 38) (v := undef) (a' := ?_) #[true, true, true, true, true, true, true, true, true, true, true, true, true, false, false, false, false, false, false, false, false] rfl rfl (any_of HT_.out (by kernel_rfl)) (fun _ _ _ h => h) (Or.inr ⟨by rfl, rfl⟩) ?_ ?_
            rotate_left
            · simp only [Act.put, List.setIfInBounds_toArray, List.set_cons_zero, List.set_cons_succ, i64_w, i32_w]
              rfl
            refine pure_ (i := 13) (N := some 39) (v := ?_) (a' := ?_) #[true, true, true, true, true, true, true, true, true, true, true, true, true, true, false, false, false, false, false, false, false] rfl rfl (any_of HT_.out (by kernel_rfl)) (fun _ _ _ h => h) (Or.inl ⟨by rfl, ?_⟩) ?_ ?_
            rotate_left
            · intro w'
              go_simp
              with_reducible rfl
            rotate_left
            · simp only [Act.put, List.setIfInBounds_toArray, List.set_cons_zero, List.set_cons_succ, i64_w, i32_w]
              rfl
            refine pure_ (i := 14) (N := some 40) (v := ?_) (a' := ?_) #[true, true, true, true, true, true, true, true, true, true, true, true, true, true, true, false, false, false, false, false, false] rfl rfl (any_of HT_.out (by kernel_rfl)) (fun _ _ _ h => h) (Or.inl ⟨by rfl, ?_⟩) ?_ ?_
            rotate_left
            · intro w'
              go_simp
              with_reducible rfl
            rotate_left
            · simp only [Act.put, List.setIfInBounds_toArray, List.set_cons_zero, List.set_cons_succ, i64_w, i32_w]
              rfl
            refine pure_ (i := 15) (N := some 41) (v := undef) (a' := ?_) #[true, true, true, true, true, true, true, true, true, true, true, true, true, true, true, true, false, false, false, false, false] rfl rfl (any_of HT_.out (by kernel_rfl)) (fun _ _ _ h => h) (Or.inr ⟨by rfl, rfl⟩) ?_ ?_
            rotate_left
            · simp only [Act.put, List.setIfInBounds_toArray, List.set_cons_zero, List.set_cons_succ, i64_w, i32_w]
              rfl
            refine pure_ (i := 16) (N := some 42) (v := undef) (a' := ?_) #[true, true, true, true, true, true, true, true, true, true, true, true, true, true, true, true, true, false, false, false, false] rfl rfl (any_of HT_.out (by kernel_rfl)) (fun _ _ _ h => h) (Or.inr ⟨by rfl, rfl⟩) ?_ ?_
            rotate_left
            · simp only [Act.put, List.setIfInBounds_toArray, List.set_cons_zero, List.set_cons_succ, i64_w, i32_w]
              rfl
            refine pure_ (i := 17) (N := some 43) (v := undef) (a' := ?_) #[true, true, true, true, true, true, true, true, true, true, true, true, true, true, true, true, true, true, false, false, false] rfl rfl (any_of HT_.out (by kernel_rfl)) (fun _ _ _ h => h) (Or.inr ⟨by rfl, rfl⟩) ?_ ?_
            rotate_left
            · simp only [Act.put, List.setIfInBounds_toArray, List.set_cons_zero, List.set_cons_succ, i64_w, i32_w]
              rfl
            refine pure_ (i := 18) (N := some 44) (v := undef) (a' := ?_) #[true, true, true, true, true, true, true, true, true, true, true, true, true, true, true, true, true, true, true, false, false] rfl rfl (any_of HT_.out (by kernel_rfl)) (fun _ _ _ h => h) (Or.inr ⟨by rfl, rfl⟩) ?_ ?_
            rotate_left
            · simp only [Act.put, List.setIfInBounds_toArray, List.set_cons_zero, List.set_cons_succ, i64_w, i32_w]
              rfl
            refine pure_ (i := 19) (N := some 45) (v := ?_) (a' := ?_) #[true, true, true, true, true, true, true, true, true, true, true, true, true, true, true, true, true, true, true, true, false] rfl rfl (any_of HT_.out (by kernel_rfl)) (fun _ _ _ h => h) (Or.inl ⟨by rfl, ?_⟩) ?_ ?_
            rotate_left
            · intro w'
              go_simp
              with_reducible rfl
            rotate_left
            · simp only [Act.put, List.setIfInBounds_toArray, List.set_cons_zero, List.set_cons_succ, i64_w, i32_w]
              rfl
            refine pure_ (i := 20) (N := some 2) (v := ?_) (a' := ?_) #[true, true, true, true, true, true, true, true, true, true, true, true, true, true, true, true, true, true, true, true, true] rfl rfl (any_of HT_.out (by kernel_rfl)) (fun _ _ _ h => h) (Or.inl ⟨by rfl, ?_⟩) ?_ ?_
            rotate_left
            · intro w'
              go_simp
              with_reducible rfl
            rotate_left
            · simp only [Act.put, List.setIfInBounds_toArray, List.set_cons_zero, List.set_cons_succ, i64_w, i32_w]
              rfl
            refine done_ (done_of HT_.out (by kernel_rfl)) ?_
            try go_wp2
            go_ret
            exact ⟨by first | rfl | (simp [errW_none, errW_some] <;> rfl) | (simp [*, errW_none, errW_some] <;> rfl), by repeat (first | (with_reducible first | exact HB.out | apply bal | apply pbd | apply below_drew1 | refine below_set ?_ GE128.out) | exact HB.out)⟩
        · rw [if_neg c12] at H
          have c12b0 : decide (0 ≤ a0_2) = false := decide_eq_false c12
          clear c12
          obtain rfl := Option.some.inj H
          have hcz27_0 : wc.cell? ⟨gb128, 0, none⟩ = some (.int .i64 a0_0) := (blk_cell BK128.out 0).trans rfl
          have hcz27_1 : wc.cell? ⟨gb128, 1, none⟩ = some (.slice A0_1 l0_1.length c0_1) := (blk_cell BK128.out 1).trans rfl
          have hcz27_2 : wc.cell? ⟨gb128, 2, none⟩ = some (.int .i64 a0_2) := (blk_cell BK128.out 2).trans rfl
          have hcz27_3 : wc.cell? ⟨gb128, 3, none⟩ = some (.int .u64 a0_3) := (blk_cell BK128.out 3).trans rfl
          have hcz27_4 : wc.cell? ⟨gb128, 4, none⟩ = some (.string a0_4) := (blk_cell BK128.out 4).trans rfl
          have hcz27_5 : wc.cell? ⟨gb128, 5, none⟩ = some (.int .u64 a0_5) := (blk_cell BK128.out 5).trans rfl
          have hfz27_0 := blk_frozen BK128.out 0
          have hfz27_1 := blk_frozen BK128.out 1
          have hfz27_2 := blk_frozen BK128.out 2
          have hfz27_3 := blk_frozen BK128.out 3
          have hfz27_4 := blk_frozen BK128.out 4
          have hfz27_5 := blk_frozen BK128.out 5
          try go_wp2
          have n0_ := amk (blk_drew BK128.out)
          have n1_ := amk (below_drew1 HB.out)
          clear BK128
          clear HB
          have BK128 := n0_
          have HB := n1_
          clear n0_ n1_
          refine start_ (n := 21) (S := fun w' => w'.cell? ⟨gb128, 0, none⟩ = some (.int .i64 a0_0) ∧ w'.cell? ⟨gb128, 1, none⟩ = some (.slice A0_1 l0_1.length c0_1) ∧ w'.cell? ⟨gb128, 2, none⟩ = some (.int .i64 a0_2) ∧ w'.cell? ⟨gb128, 3, none⟩ = some (.int .u64 a0_3) ∧ w'.cell? ⟨gb128, 4, none⟩ = some (.string a0_4) ∧ w'.cell? ⟨gb128, 5, none⟩ = some (.int .u64 a0_5)) (ds := []) #[false, false, false, false, false, false, false, false, false, false, false, false, false, false, false, false, false, false, false, false, false] (by kernel_rfl) rfl rfl ⟨(blk_cell BK128.out 0).trans rfl, (blk_cell BK128.out 1).trans rfl, (blk_cell BK128.out 2).trans rfl, (blk_cell BK128.out 3).trans rfl, (blk_cell BK128.out 4).trans rfl, (blk_cell BK128.out 5).trans rfl⟩ (fun hHeld => ?_); refine with_tabW types_one.tab4 types_one.bits4 (fun HT_ HW_ => ?_)
          generalize wc.drew = w28 at BK128 HB hHeld ⊢
          refine pure_ (i := 0) (N := some 26) (v := ?_) (a' := ?_) #[true, false, false, false, false, false, false, false, false, false, false, false, false, false, false, false, false, false, false, false, false] rfl rfl (any_of HT_.out (by kernel_rfl)) (fun _ _ _ h => h) (Or.inl ⟨by rfl, ?_⟩) ?_ ?_
          rotate_left
          · intro w'
            go_simp
            with_reducible rfl
          rotate_left
          · simp only [Act.put, List.setIfInBounds_toArray, List.set_cons_zero, List.set_cons_succ, i64_w, i32_w]
            rfl
          refine take_ (i := 1) (N := some 27) (v := ?_) (a' := ?_) #[true, true, false, false, false, false, false, false, false, false, false, false, false, false, false, false, false, false, false, false, false] rfl rfl (take_ofW HT_.out HW_.out (by kernel_rfl)) (fun _ _ _ h => h) (Or.inl ⟨by rfl, ?_⟩) hHeld ?_ ?_
          rotate_left
          · rintro w' ⟨s0, s1, s2, s3, s4, s5⟩
            go_simp
            with_reducible rfl
          rotate_left
          · simp only [Act.put, List.setIfInBounds_toArray, List.set_cons_zero, List.set_cons_succ, i64_w, i32_w]
            rfl
          refine pure_ (i := 2) (N := some 28) (v := ?_) (a' := ?_) #[true, true, true, false, false, false, false, false, false, false, false, false, false, false, false, false, false, false, false, false, false] rfl rfl (any_of HT_.out (by kernel_rfl)) (fun _ _ _ h => h) (Or.inl ⟨by rfl, ?_⟩) ?_ ?_
          rotate_left
          · intro w'
            go_simp
            with_reducible rfl
          rotate_left
          · simp only [Act.put, List.setIfInBounds_toArray, List.set_cons_zero, List.set_cons_succ, i64_w, i32_w]
            rfl
          refine pure_ (i := 3) (N := some 29) (v := ?_) (a' := ?_) #[true, true, true, true, false, false, false, false, false, false, false, false, false, false, false, false, false, false, false, false, false] rfl rfl (any_of HT_.out (by kernel_rfl)) (fun _ _ _ h => h) (Or.inl ⟨by rfl, ?_⟩) ?_ ?_
          rotate_left
          · intro w'
            go_simp
            with_reducible rfl
          rotate_left
          · simp only [Act.put, List.setIfInBounds_toArray, List.set_cons_zero, List.set_cons_succ, i64_w, i32_w]
            rfl
          refine pure_ (i := 4) (N := some 30) (v := undef) (a' := ?_) #[true, true, true, true, true, false, false, false, false, false, false, false, false, false, false, false, false, false, false, false, false] rfl rfl (any_of HT_.out (by kernel_rfl)) (fun _ _ _ h => h) (Or.inr ⟨by rfl, rfl⟩) ?_ ?_
          rotate_left
          · simp only [Act.put, List.setIfInBounds_toArray, List.set_cons_zero, List.set_cons_succ, i64_w, i32_w]
            rfl
          refine pure_ (i := 5) (N := some 31) (v := undef) (a' := ?_) #[true, true, true, true, true, true, false, false, false, false, false, false, false, false, false, false, false, false, false, false, false] rfl rfl (any_of HT_.out (by kernel_rfl)) (fun _ _ _ h => h) (Or.inr ⟨by rfl, rfl⟩) ?_ ?_
          rotate_left
          · simp only [Act.put, List.setIfInBounds_toArray, List.set_cons_zero, List.set_cons_succ, i64_w, i32_w]
            rfl
          refine pure_ (i := 6) (N := some 32) (v := undef) (a' := ?_) #[true, true, true, true, true, true, true, false, false, false, false, false, false, false, false, false, false, false, false, false, false] rfl rfl (any_of HT_.out (by kernel_rfl)) (fun _ _ _ h => h) (Or.inr ⟨by rfl, rfl⟩) ?_ ?_
          rotate_left
          · simp only [Act.put, List.setIfInBounds_toArray, List.set_cons_zero, List.set_cons_succ, i64_w, i32_w]
            rfl
          refine pure_ (i := 7) (N := some 33) (v := ?_) (a' := ?_) #[true, true, true, true, true, true, true, true, false, false, false, false, false, false, false, false, false, false, false, false, false] rfl rfl (any_of HT_.out (by kernel_rfl)) (fun _ _ _ h => h) (Or.inl ⟨by rfl, ?_⟩) ?_ ?_
          rotate_left
          · intro w'
            go_simp
            with_reducible rfl
          rotate_left
          · simp only [Act.put, List.setIfInBounds_toArray, List.set_cons_zero, List.set_cons_succ, i64_w, i32_w]
            rfl
          refine pure_ (i := 8) (N := some 34) (v := ?_) (a' := ?_) #[true, true, true, true, true, true, true, true, true, false, false, false, false, false, false, false, false, false, false, false, false] rfl rfl (any_of HT_.out (by kernel_rfl)) (fun _ _ _ h => h) (Or.inl ⟨by rfl, ?_⟩) ?_ ?_
          rotate_left
          · intro w'
            go_simp
            with_reducible rfl
          rotate_left
          · simp only [Act.put, List.setIfInBounds_toArray, List.set_cons_zero, List.set_cons_succ, i64_w, i32_w]
            rfl
          refine pure_ (i := 9) (N := some 35) (v := undef) (a' := ?_) #[true, true, true, true, true, true, true, true, true, true, false, false, false, false, false, false, false, false, false, false, false] rfl rfl (any_of HT_.out (by kernel_rfl)) (fun _ _ _ h => h) (Or.inr ⟨by rfl, rfl⟩) ?_ ?_
          rotate_left
          · simp only [Act.put, List.setIfInBounds_toArray, List.set_cons_zero, List.set_cons_succ, i64_w, i32_w]
            rfl
          refine pure_ (i := 10) (N := some 36) (v := undef) (a' := ?_) #[true, true, true, true, true, true, true, true, true, true, true, false, false, false, false, false, false, false, false, false, false] rfl rfl (any_of HT_.out (by kernel_rfl)) (fun _ _ _ h => h) (Or.inr ⟨by rfl, rfl⟩) ?_ ?_
          rotate_left
          · simp only [Act.put, List.setIfInBounds_toArray, List.set_cons_zero, List.set_cons_succ, i64_w, i32_w]
            rfl
          refine pure_ (i := 11) (N := some 37) (v := undef) (a' := ?_) #[true, true, true, true, true, true, true, true, true, true, true, true, false, false, false, false, false, false, false, false, false] rfl rfl (any_of HT_.out (by kernel_rfl)) (fun _ _ _ h => h) (Or.inr ⟨by rfl, rfl⟩) ?_ ?_
          rotate_left
          · simp only [Act.put, List.setIfInBounds_toArray, List.set_cons_zero, List.set_cons_succ, i64_w, i32_w]
            rfl
          refine pure_ (i := 12) (N := some 38) (v := undef) (a' := ?_) #[true, true, true, true, true, true, true, true, true, true, true, true, true, false, false, false, false, false, false, false, false] rfl rfl (any_of HT_.out (by kernel_rfl)) (fun _ _ _ h => h) (Or.inr ⟨by rfl, rfl⟩) ?_ ?_
          rotate_left
          · simp only [Act.put, List.setIfInBounds_toArray, List.set_cons_zero, List.set_cons_succ, i64_w, i32_w]
            rfl
          refine pure_ (i := 13) (N := some 39) (v := ?_) (a' := ?_) #[true, true, true, true, true, true, true, true, true, true, true, true, true, true, false, false, false, false, false, false, false] rfl rfl (any_of HT_.out (by kernel_rfl)) (fun _ _ _ h => h) (Or.inl ⟨by rfl, ?_⟩) ?_ ?_
          rotate_left
          · intro w'
            go_simp
            with_reducible rfl
          rotate_left
          · simp only [Act.put, List.setIfInBounds_toArray, List.set_cons_zero, List.set_cons_succ, i64_w, i32_w]
            rfl
          refine pure_ (i := 14) (N := some 40) (v := ?_) (a' := ?_) #[true, true, true, true, true, true, true, true, true, true, true, true, true, true, true, false, false, false, false, false, false] rfl rfl (any_of HT_.out (by kernel_rfl)) (fun _ _ _ h => h) (Or.inl ⟨by rfl, ?_⟩) ?_ ?_
          rotate_left
          · intro w'
            go_simp
            with_reducible rfl
          rotate_left
          · simp only [Act.put, List.setIfInBounds_toArray, List.set_cons_zero, List.set_cons_succ, i64_w, i32_w]
            rfl
          refine pure_ (i := 15) (N := some 41) (v := undef) (a' := ?_) #[true, true, true, true, true, true, true, true, true, true, true, true, true, true, true, true, false, false, false, false, false] rfl rfl (any_of HT_.out (by kernel_rfl)) (fun _ _ _ h => h) (Or.inr ⟨by rfl, rfl⟩) ?_ ?_
          rotate_left
          · simp only [Act.put, List.setIfInBounds_toArray, List.set_cons_zero, List.set_cons_succ, i64_w, i32_w]
            rfl
          refine pure_ (i := 16) (N := some 42) (v := undef) (a' := ?_) #[true, true, true, true, true, true, true, true, true, true, true, true, true, true, true, true, true, false, false, false, false] rfl rfl (any_of HT_.out (by kernel_rfl)) (fun _ _ _ h => h) (Or.inr ⟨by rfl, rfl⟩) ?_ ?_
          rotate_left
          · simp only [Act.put, List.setIfInBounds_toArray, List.set_cons_zero, List.set_cons_succ, i64_w, i32_w]
            rfl
          refine pure_ (i := 17) (N := some 43) (v := undef) (a' := ?_) #[true, true, true, true, true, true, true, true, true, true, true, true, true, true, true, true, true, true, false, false, false] rfl rfl (any_of HT_.out (by kernel_rfl)) (fun _ _ _ h => h) (Or.inr ⟨by rfl, rfl⟩) ?_ ?_
          rotate_left
          · simp only [Act.put, List.setIfInBounds_toArray, List.set_cons_zero, List.set_cons_succ, i64_w, i32_w]
            rfl
          refine pure_ (i := 18) (N := some 44) (v := undef) (a' := ?_) #[true, true, true, true, true, true, true, true, true, true, true, true, true, true, true, true, true, true, true, false, false] rfl rfl (any_of HT_.out (by kernel_rfl)) (fun _ _ _ h => h) (Or.inr ⟨by rfl, rfl⟩) ?_ ?_
          rotate_left
          · simp only [Act.put, List.setIfInBounds_toArray, List.set_cons_zero, List.set_cons_succ, i64_w, i32_w]
            rfl
          refine pure_ (i := 19) (N := some 45) (v := ?_) (a' := ?_) #[true, true, true, true, true, true, true, true, true, true, true, true, true, true, true, true, true, true, true, true, false] rfl rfl (any_of HT_.out (by kernel_rfl)) (fun _ _ _ h => h) (Or.inl ⟨by rfl, ?_⟩) ?_ ?_
          rotate_left
          · intro w'
            go_simp
            with_reducible rfl
          rotate_left
          · simp only [Act.put, List.setIfInBounds_toArray, List.set_cons_zero, List.set_cons_succ, i64_w, i32_w]
            rfl
          refine pure_ (i := 20) (N := some 2) (v := ?_) (a' := ?_) #[true, true, true, true, true, true, true, true, true, true, true, true, true, true, true, true, true, true, true, true, true] rfl rfl (any_of HT_.out (by kernel_rfl)) (fun _ _ _ h => h) (Or.inl ⟨by rfl, ?_⟩) ?_ ?_
          rotate_left
          · intro w'
            go_simp
            with_reducible rfl
          rotate_left
          · simp only [Act.put, List.setIfInBounds_toArray, List.set_cons_zero, List.set_cons_succ, i64_w, i32_w]
            rfl
          refine done_ (done_of HT_.out (by kernel_rfl)) ?_
          try go_wp2
          go_ret
          exact ⟨by first | rfl | (simp [errW_none, errW_some] <;> rfl) | (simp [*, errW_none, errW_some] <;> rfl), by repeat (first | (with_reducible first | exact HB.out | apply bal | apply pbd | apply below_drew1 | refine below_set ?_ GE128.out) | exact HB.out)⟩
      · rw [if_neg c11] at H
        have c11b0 : (a0_0 == 4) = false := beq_eq_false_iff_ne.mpr c11
        have c11b1 : (a0_0 != 4) = true := bne_iff_ne.mpr c11
        have HC29 := amk H
        clear H
        have hcz30_0 : wc.cell? ⟨gb128, 0, none⟩ = some (.int .i64 a0_0) := (blk_cell BK128.out 0).trans rfl
        have hcz30_1 : wc.cell? ⟨gb128, 1, none⟩ = some (.slice A0_1 l0_1.length c0_1) := (blk_cell BK128.out 1).trans rfl
        have hcz30_2 : wc.cell? ⟨gb128, 2, none⟩ = some (.int .i64 a0_2) := (blk_cell BK128.out 2).trans rfl
        have hcz30_3 : wc.cell? ⟨gb128, 3, none⟩ = some (.int .u64 a0_3) := (blk_cell BK128.out 3).trans rfl
        have hcz30_4 : wc.cell? ⟨gb128, 4, none⟩ = some (.string a0_4) := (blk_cell BK128.out 4).trans rfl
        have hcz30_5 : wc.cell? ⟨gb128, 5, none⟩ = some (.int .u64 a0_5) := (blk_cell BK128.out 5).trans rfl
        have hfz30_0 := blk_frozen BK128.out 0
        have hfz30_1 := blk_frozen BK128.out 1
        have hfz30_2 := blk_frozen BK128.out 2
        have hfz30_3 := blk_frozen BK128.out 3
        have hfz30_4 := blk_frozen BK128.out 4
        have hfz30_5 := blk_frozen BK128.out 5
        go_upto_if 46 with (fail)
        go_cut [46] (fun v46 wc => ∃ (kq : Nat) (x46_28 : Bool), v46 = .bool x46_28 ∧ Aside0 (types_one.j1 kq x3_1 a0_0 x46_28 a0_0 l0_1 a0_2 a0_3 a0_4 a0_5 = some r) ∧ Aside0 (kq ≤ kj1) ∧ Aside0 (wc.heap[gb128]? = some (.cells #[.int .i64 a0_0, (.slice A0_1 l0_1.length c0_1), .int .i64 a0_2, .int .u64 a0_3, .string a0_4, .int .u64 a0_5] 46 (0, 0))) ∧ Aside0 (Below w.heap.size w wc))
        case first =>
          have H := HC29.out
          clear HC29
          by_cases c31 : a0_0 = 1
          · rw [if_pos c31] at H
            have c31b0 : (a0_0 == 1) = true := beq_iff_eq.mpr c31
            have c31b1 : (a0_0 != 1) = false := bne_eq_false_iff_eq.mpr c31
            clear c31
            (first | rw [c31b0] | (simp only [i64_w, i32_w]; rw [c31b0]) | skip)
            have H' := amk H
            clear H
            go_wp2
            go_meet
            case rel => exact ⟨_, ((a0_0 == 1)), (by first | rfl | (simp; done) | (simp [*]; done)), H', ⟨by have := HJ1.out; first | omega | exact Nat.le_refl _⟩, ⟨by (with_reducible repeat (first | refine blk_drewN ?_ _ | refine blk_drew ?_ | refine blk_alloc ?_ _)); exact BK128.out⟩, ⟨by repeat (first | (with_reducible first | exact HB.out | apply bal | apply pbd | apply below_drew1 | refine below_set ?_ GE128.out) | exact HB.out)⟩⟩
          · rw [if_neg c31] at H
            have c31b0 : (a0_0 == 1) = false := beq_eq_false_iff_ne.mpr c31
            have c31b1 : (a0_0 != 1) = true := bne_iff_ne.mpr c31
            (first | rw [c31b0] | (simp only [i64_w, i32_w]; rw [c31b0]) | skip)
            have H' := amk H
            clear H
            go_wp2
            go_meet
            case rel => exact ⟨_, ((a0_0 == 2)), (by first | rfl | (simp; done) | (simp [*]; done)), H', ⟨by have := HJ1.out; first | omega | exact Nat.le_refl _⟩, ⟨by (with_reducible repeat (first | refine blk_drewN ?_ _ | refine blk_drew ?_ | refine blk_alloc ?_ _)); exact BK128.out⟩, ⟨by repeat (first | (with_reducible first | exact HB.out | apply bal | apply pbd | apply below_drew1 | refine below_set ?_ GE128.out) | exact HB.out)⟩⟩
        case rest =>
          clear HC29
          try clear c1
          try clear p2
          try clear c3
          try clear c11
          try clear c11b0
          try clear c11b1
          try clear c12
          try clear c12b0
          try clear c13
          try clear c13b0
          try clear c15
          try clear c16
          try clear c31
          try clear c31b0
          try clear c31b1
          try clear hcz21_0
          try clear hcz21_1
          try clear hcz21_2
          try clear hcz21_3
          try clear hcz21_4
          try clear hcz21_5
          try clear hcz25_0
          try clear hcz25_1
          try clear hcz25_2
          try clear hcz25_3
          try clear hcz25_4
          try clear hcz25_5
          try clear hcz27_0
          try clear hcz27_1
          try clear hcz27_2
          try clear hcz27_3
          try clear hcz27_4
          try clear hcz27_5
          try clear hcz30_0
          try clear hcz30_1
          try clear hcz30_2
          try clear hcz30_3
          try clear hcz30_4
          try clear hcz30_5
          try clear hfz21_0
          try clear hfz21_1
          try clear hfz21_2
          try clear hfz21_3
          try clear hfz21_4
          try clear hfz21_5
          try clear hfz25_0
          try clear hfz25_1
          try clear hfz25_2
          try clear hfz25_3
          try clear hfz25_4
          try clear hfz25_5
          try clear hfz27_0
          try clear hfz27_1
          try clear hfz27_2
          try clear hfz27_3
          try clear hfz27_4
          try clear hfz27_5
          try clear hfz30_0
          try clear hfz30_1
          try clear hfz30_2
          try clear hfz30_3
          try clear hfz30_4
          try clear hfz30_5
          obtain ⟨kq, x46_28, rfl, HA, HJ28, BK128, HB⟩ := hcut
          cases kq with
          | zero => exact absurd HA.out (by simp [types_one.j1])
          | succ kj28 =>
            have H := HA.out
            clear HA
            simp only [types_one.j1] at H
            by_cases c32 : x46_28 = true
            · subst c32
              have H1 : (if x3_1 = true then (some (decide ((l0_1.length : Int) ≥ 2))) else (some false)) = some r := by rw [if_pos rfl] at H; exact H
              clear H
              have H := H1
              clear H1
              by_cases c33 : x3_1 = true
              · subst c33
                have H1 : (some (decide ((l0_1.length : Int) ≥ 2))) = some r := by rw [if_pos rfl] at H; exact H
                clear H
                have H := H1
                clear H1
                obtain rfl := Option.some.inj H
                have hcz34_0 : wc.cell? ⟨gb128, 0, none⟩ = some (.int .i64 a0_0) := (blk_cell BK128.out 0).trans rfl
                have hcz34_1 : wc.cell? ⟨gb128, 1, none⟩ = some (.slice A0_1 l0_1.length c0_1) := (blk_cell BK128.out 1).trans rfl
                have hcz34_2 : wc.cell? ⟨gb128, 2, none⟩ = some (.int .i64 a0_2) := (blk_cell BK128.out 2).trans rfl
                have hcz34_3 : wc.cell? ⟨gb128, 3, none⟩ = some (.int .u64 a0_3) := (blk_cell BK128.out 3).trans rfl
                have hcz34_4 : wc.cell? ⟨gb128, 4, none⟩ = some (.string a0_4) := (blk_cell BK128.out 4).trans rfl
                have hcz34_5 : wc.cell? ⟨gb128, 5, none⟩ = some (.int .u64 a0_5) := (blk_cell BK128.out 5).trans rfl
                have hfz34_0 := blk_frozen BK128.out 0
                have hfz34_1 := blk_frozen BK128.out 1
                have hfz34_2 := blk_frozen BK128.out 2
                have hfz34_3 := blk_frozen BK128.out 3
                have hfz34_4 := blk_frozen BK128.out 4
                have hfz34_5 := blk_frozen BK128.out 5
                go_wp2
                go_ret
                exact ⟨by first | rfl | (simp [errW_none, errW_some] <;> rfl) | (simp [*, errW_none, errW_some] <;> rfl), by repeat (first | (with_reducible first | exact HB.out | apply bal | apply pbd | apply below_drew1 | refine below_set ?_ GE128.out) | exact HB.out)⟩
              · replace c33 := Bool.eq_false_iff.mpr c33
                subst c33
                have H1 : (some false) = some r := by rw [if_neg (show ¬ (false = true) by decide)] at H; exact H
                clear H
                have H := H1
                clear H1
                obtain rfl := Option.some.inj H
                go_wp2
                go_ret
                exact ⟨by first | rfl | (simp [errW_none, errW_some] <;> rfl) | (simp [*, errW_none, errW_some] <;> rfl), by repeat (first | (with_reducible first | exact HB.out | apply bal | apply pbd | apply below_drew1 | refine below_set ?_ GE128.out) | exact HB.out)⟩
            · replace c32 := Bool.eq_false_iff.mpr c32
              subst c32
              have H1 : (if a0_0 = 3 then (if x3_1 = true then (some ((l0_1.length : Int) == 1)) else (some false)) else (some false)) = some r := by rw [if_neg (show ¬ (false = true) by decide)] at H; exact H
              clear H
              have H := H1
              clear H1
              by_cases c35 : a0_0 = 3
              · rw [if_pos c35] at H
                have c35b0 : (a0_0 == 3) = true := beq_iff_eq.mpr c35
                have c35b1 : (a0_0 != 3) = false := bne_eq_false_iff_eq.mpr c35
                clear c35
                by_cases c36 : x3_1 = true
                · subst c36
                  have H1 : (some ((l0_1.length : Int) == 1)) = some r := by rw [if_pos rfl] at H; exact H
                  clear H
                  have H := H1
                  clear H1
                  obtain rfl := Option.some.inj H
                  have hcz37_0 : wc.cell? ⟨gb128, 0, none⟩ = some (.int .i64 a0_0) := (blk_cell BK128.out 0).trans rfl
                  have hcz37_1 : wc.cell? ⟨gb128, 1, none⟩ = some (.slice A0_1 l0_1.length c0_1) := (blk_cell BK128.out 1).trans rfl
                  have hcz37_2 : wc.cell? ⟨gb128, 2, none⟩ = some (.int .i64 a0_2) := (blk_cell BK128.out 2).trans rfl
                  have hcz37_3 : wc.cell? ⟨gb128, 3, none⟩ = some (.int .u64 a0_3) := (blk_cell BK128.out 3).trans rfl
                  have hcz37_4 : wc.cell? ⟨gb128, 4, none⟩ = some (.string a0_4) := (blk_cell BK128.out 4).trans rfl
                  have hcz37_5 : wc.cell? ⟨gb128, 5, none⟩ = some (.int .u64 a0_5) := (blk_cell BK128.out 5).trans rfl
                  have hfz37_0 := blk_frozen BK128.out 0
                  have hfz37_1 := blk_frozen BK128.out 1
                  have hfz37_2 := blk_frozen BK128.out 2
                  have hfz37_3 := blk_frozen BK128.out 3
                  have hfz37_4 := blk_frozen BK128.out 4
                  have hfz37_5 := blk_frozen BK128.out 5
                  go_wp2
                  go_ret
                  exact ⟨by first | rfl | (simp [errW_none, errW_some] <;> rfl) | (simp [*, errW_none, errW_some] <;> rfl), by repeat (first | (with_reducible first | exact HB.out | apply bal | apply pbd | apply below_drew1 | refine below_set ?_ GE128.out) | exact HB.out)⟩
                · replace c36 := Bool.eq_false_iff.mpr c36
                  subst c36
                  have H1 : (some false) = some r := by rw [if_neg (show ¬ (false = true) by decide)] at H; exact H
                  clear H
                  have H := H1
                  clear H1
                  obtain rfl := Option.some.inj H
                  go_wp2
                  go_ret
                  exact ⟨by first | rfl | (simp [errW_none, errW_some] <;> rfl) | (simp [*, errW_none, errW_some] <;> rfl), by repeat (first | (with_reducible first | exact HB.out | apply bal | apply pbd | apply below_drew1 | refine below_set ?_ GE128.out) | exact HB.out)⟩
              · rw [if_neg c35] at H
                have c35b0 : (a0_0 == 3) = false := beq_eq_false_iff_ne.mpr c35
                have c35b1 : (a0_0 != 3) = true := bne_iff_ne.mpr c35
                obtain rfl := Option.some.inj H
                go_wp2
                go_ret
                exact ⟨by first | rfl | (simp [errW_none, errW_some] <;> rfl) | (simp [*, errW_none, errW_some] <;> rfl), by repeat (first | (with_reducible first | exact HB.out | apply bal | apply pbd | apply below_drew1 | refine below_set ?_ GE128.out) | exact HB.out)⟩
end Go.Proofs.Ytoeklekjhaigoaa.M0
end
