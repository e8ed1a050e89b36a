/- MeanEvals: what any checked policy answers any call, and any record, is as the document says, or refused. -/
import Derived.Test.YtoeklekjhaigoaaProg
import Derived.Below
import Derived.Deep.Draws
import Derived.Deep.AppendLies
import Derived.Maps.AppendAt
import Derived.OwnWalk
import Derived.Laws.BytesArg
import Derived.Laws.MakeOwn
import Derived.Laws.OwnMore
import Derived.Deep.OwnRows
import Derived.Tactics
import Derived.Lib.ConvBytes
import Derived.Laws.Slices
import Derived.WalkKit
import Derived.KernelRfl
import Derived.RowKit3
import Derived.Deep.LoopGhost
import Derived.Deep.QuietTactic
import Derived.BigQuiet
import Derived.WideLaws
import Derived.Deep.DeepCutAuto
import Derived.Deep.CutBlock
import Derived.Deep.RegionHeld3
import Derived.Laws.Rows
import Derived.Lib.AppendStr
import Derived.ArgAppend
import Derived.Laws.IdiomCopy
import Derived.OrdersHeld
import Derived.Laws.BitsLemmas
import Derived.RowKit
import Derived.Test.YtoeklekjhaigoaaWWords
import Derived.Test.YtoeklekjhaigoaaWLast
import Derived.Test.YtoeklekjhaigoaaWTab
import Derived.Test.YtoeklekjhaigoaaWApart
import Derived.Test.YtoeklekjhaigoaaWFoot
import Derived.Test.YtoeklekjhaigoaaWKept
import Derived.Test.YtoeklekjhaigoaaWShare
import Derived.Test.YtoeklekjhaigoaaWN
import Derived.Test.YtoeklekjhaigoaaWRepsOne
import Derived.Test.YtoeklekjhaigoaaWGuard
import Derived.Test.YtoeklekjhaigoaaWNEv
import Derived.Test.YtoeklekjhaigoaaWMore
import Derived.Maps.OwnSet
import Derived.StringKeys
import Derived.Laws.Tables
import Derived.Laws.CopyOwn
import Derived.Deep.WholeRow
import Derived.ChangeKeysEq
import Derived.Shelf.Abstract
import Derived.Deep.RegionLaw
import Derived.Laws.EntriesVeiled
import Derived.DataReads
import Derived.DataElems
import Derived.SizedLaws
import Derived.ProofKit
import Derived.Test.YtoeklekjhaigoaaRows
import Derived.Test.YtoeklekjhaigoaaOrder
import Derived.OpenShut
import Derived.ShutString
import Derived.ChangeOld
namespace Go.Proofs.Ytoeklekjhaigoaa.Al
open Go.RowKit Go.Proofs.YtoeklekjhaigoaaW.PrintWords
theorem amk {p : Prop} (h : p) : Aside0 p := ⟨h⟩
theorem pbd {B : Nat} {w W : World} (h : Below B w W) (n : Nat) : Below B w (W.drewN n) := pw_below_drewN h n
theorem bal {w W : World} (h : Below w.heap.size w W) (o : Obj) : Below w.heap.size w (W.alloc o) := below_alloc h o
end Go.Proofs.Ytoeklekjhaigoaa.Al
section
namespace Go.Proofs.Ytoeklekjhaigoaa.Le
open Go.Proofs.Ytoeklekjhaigoaa.Al Go.RowKit Go.Proofs.YtoeklekjhaigoaaW.PrintWords Go.Proofs.YtoeklekjhaigoaaW.PrintLast Go.Proofs.YtoeklekjhaigoaaW.PrintMore
attribute [local go_sem] max2_int min2_int max_two min_two max_three min_three max_four min_four IntKind.wrap_u32 IntKind.wrap_u8   -- for this text's walks alone
set_option linter.unusedVariables false
set_option linter.unusedSimpArgs false
def errW : Option Int → Value
  | none => .nilIface
  | some c => .iface 0 (.int .i64 c)
theorem errW_none : errW none = .nilIface := rfl
theorem errW_some (c : Int) : errW (some c) = .iface 0 (.int .i64 c) := rfl
end Go.Proofs.Ytoeklekjhaigoaa.Le
end
section
namespace Go.Proofs.Ytoeklekjhaigoaa.Le
open Go.Proofs.Ytoeklekjhaigoaa.Al Go.RowKit Go.Proofs.YtoeklekjhaigoaaW.PrintWords Go.Proofs.YtoeklekjhaigoaaW.PrintLast Go.Proofs.YtoeklekjhaigoaaW.PrintMore
attribute [local go_sem] max2_int min2_int max_two min_two max_three min_three max_four min_four IntKind.wrap_u32 IntKind.wrap_u8   -- for this text's walks alone
set_option linter.unusedVariables false
set_option linter.unusedSimpArgs false
mutual
def le_Get.j0 : Nat → ByteArray → Int → Int → Bool → Option (Int × Int × Int)
  | 0, _, _, _, _ => none
  | k + 1, x0, x1, x2, x11 => if x11 = true then (some (0, 0, 1)) else (if x1 > (x0.size : Int) then (some (0, 0, 3)) else (if (wrap64 ((x0.size : Int) - x1)) < x2 then (some (0, 0, 3)) else (le_Get.l0 k x0 x1 x2 0 x2 0)))
def le_Get.l0 : Nat → ByteArray → Int → Int → Int → Int → Int → Option (Int × Int × Int)
  | 0, _, _, _, _, _, _ => none
  | k + 1, x0, x1, x2, x9, x35, x36 => if x36 < x35 then (if 0 ≤ (wrap64 (x1 + x36)) then (if (wrap64 (x1 + x36)) < (x0.size : Int) then (if 0 ≤ (wrap64 (8 * x36)) then (le_Get.l0 k x0 x1 x2 (Go.bits .or .u64 x9 (shl .u64 (IntKind.u64.wrap (bt x0 (wrap64 (x1 + x36)))) (wrap64 (8 * x36)))) x35 (wrap64 (x36 + 1))) else (none)) else (none)) else (none)) else (some (x9, wrap64 (x1 + x2), 0))
end
def le_Get.f (k : Nat) (a0 : ByteArray) (a1 : Int) (a2 : Int) : Option (Int × Int × Int) := if a2 < 1 then (le_Get.j0 k a0 a1 a2 true) else (if a2 > 8 then (le_Get.j0 k a0 a1 a2 true) else (le_Get.j0 k a0 a1 a2 (decide (a1 < 0))))
set_option maxHeartbeats 8000000 in
set_option maxRecDepth 100000 in
theorem le_Get.calls (k : Nat) (a0 : ByteArray) (a1 : Int) (a2 : Int) (r1 : Int) (r2 : Int) (r3 : Int) (w : World) (h : le_Get.f k a0 a1 a2 = some (r1, r2, r3)) :
    Calls Try.prog 95 #[.string a0, .int .i64 a1, .int .i64 a2] w fun e w' => e = .returned (.tuple #[.int .u64 r1, .int .i64 r2, .int .i64 r3]) ∧ Drawn0 w w' := by
  have H : (if a2 < 1 then (le_Get.j0 k a0 a1 a2 true) else (if a2 > 8 then (le_Get.j0 k a0 a1 a2 true) else (le_Get.j0 k a0 a1 a2 (decide (a1 < 0))))) = some (r1, r2, r3) := h
  clear h
  have HC4 := amk H
  clear H
  go_enter Try.func95, Try.ntmps95
  go_upto_region 1 with (fail)
  go_cut [11] (fun v11 wc => ∃ (kq : Nat) (x11_3 : Bool), v11 = .bool x11_3 ∧ Aside0 (le_Get.j0 kq a0 a1 a2 x11_3 = some (r1, r2, r3)) ∧ Aside0 (kq ≤ k) ∧ Drawn0 w wc)
  case first =>
    have H := HC4.out
    clear HC4
    by_cases c5 : a2 < 1
    · rw [if_pos c5] at H
      have c5b0 : decide (a2 < 1) = true := decide_eq_true c5
      clear c5
      (first | rw [c5b0] | (simp only [i64_w, i32_w]; rw [c5b0]) | skip)
      have H' := amk H
      clear H
      go_wp2
      go_meet
      case rel => exact ⟨_, (true), (by first | rfl | (simp; done) | (simp [*]; done)), H', ⟨by first | omega | exact Nat.le_refl _⟩, by repeat (first | exact Drawn0.refl _ | apply Drawn0.step)⟩
    · rw [if_neg c5] at H
      have c5b0 : decide (a2 < 1) = false := decide_eq_false c5
      clear c5
      (first | rw [c5b0] | (simp only [i64_w, i32_w]; rw [c5b0]) | skip)
      by_cases c6 : a2 > 8
      · rw [if_pos c6] at H
        have c6b0 : decide (8 < a2) = true := decide_eq_true c6
        clear c6
        have H' := amk H
        clear H
        go_wp2
        go_meet
        case rel => exact ⟨_, (true), (by first | rfl | (simp; done) | (simp [*]; done)), H', ⟨by first | omega | exact Nat.le_refl _⟩, by repeat (first | exact Drawn0.refl _ | apply Drawn0.step)⟩
      · rw [if_neg c6] at H
        have c6b0 : decide (8 < a2) = false := decide_eq_false c6
        clear c6
        have H' := amk H
        clear H
        go_wp2
        go_meet
        case rel => exact ⟨_, (decide (a1 < 0)), (by first | rfl | (simp; done) | (simp [*]; done)), H', ⟨by first | omega | exact Nat.le_refl _⟩, by repeat (first | exact Drawn0.refl _ | apply Drawn0.step)⟩
  case rest =>
    clear HC4
    try clear p2
    try clear c5
    try clear c5b0
    try clear c6
    try clear c6b0
    obtain ⟨kq, x11_3, rfl, HA, HJ3, ⟨mc3, rfl⟩⟩ := hcut
    cases kq with
    | zero => exact absurd HA.out (by simp [le_Get.j0])
    | succ kj3 =>
      have H := HA.out
      clear HA
      simp only [le_Get.j0] at H
      by_cases c7 : x11_3 = true
      · subst c7
        have H1 : (some (0, 0, 1)) = some (r1, r2, r3) := by rw [if_pos rfl] at H; exact H
        clear H
        have H := H1
        clear H1
        simp only [Option.some.injEq, Prod.mk.injEq] at H
        obtain ⟨rfl, rfl, rfl⟩ := H
        go_wp2
        go_ret3
        exact ⟨by first | rfl | (simp; done) | (simp [*]; done), by repeat (first | exact Drawn0.refl _ | apply Drawn0.step)⟩
      · replace c7 := Bool.eq_false_iff.mpr c7
        subst c7
        have H1 : (if a1 > (a0.size : Int) then (some (0, 0, 3)) else (if (wrap64 ((a0.size : Int) - a1)) < a2 then (some (0, 0, 3)) else (le_Get.l0 kj3 a0 a1 a2 0 a2 0))) = some (r1, r2, r3) := by rw [if_neg (show ¬ (false = true) by decide)] at H; exact H
        clear H
        have H := H1
        clear H1
        by_cases c8 : a1 > (a0.size : Int)
        · rw [if_pos c8] at H
          have c8b0 : decide ((a0.size : Int) < a1) = true := decide_eq_true c8
          clear c8
          simp only [Option.some.injEq, Prod.mk.injEq] at H
          obtain ⟨rfl, rfl, rfl⟩ := H
          go_wp2
          go_ret3
          exact ⟨by first | rfl | (simp; done) | (simp [*]; done), by repeat (first | exact Drawn0.refl _ | apply Drawn0.step)⟩
        · rw [if_neg c8] at H
          have c8b0 : decide ((a0.size : Int) < a1) = false := decide_eq_false c8
          clear c8
          by_cases c9 : (wrap64 ((a0.size : Int) - a1)) < a2
          · rw [if_pos c9] at H
            have c9b0 : decide ((wrap64 ((a0.size : Int) - a1)) < a2) = true := decide_eq_true c9
            clear c9
            simp only [Option.some.injEq, Prod.mk.injEq] at H
            obtain ⟨rfl, rfl, rfl⟩ := H
            go_wp2
            go_ret3
            exact ⟨by first | rfl | (simp; done) | (simp [*]; done), by repeat (first | exact Drawn0.refl _ | apply Drawn0.step)⟩
          · rw [if_neg c9] at H
            have c9b0 : decide ((wrap64 ((a0.size : Int) - a1)) < a2) = false := decide_eq_false c9
            clear c9
            have H' := amk H
            clear H
            go_wp2
            go_loopg [9, 36] kj3 (fun kq v9 v36 w' => ∃ (x9_2 : Int) (x36_2 : Int), v9 = .int .u64 x9_2 ∧ v36 = .int .i64 x36_2 ∧ Aside0 (le_Get.l0 kq a0 a1 a2 x9_2 a2 x36_2 = some (r1, r2, r3)) ∧ Aside0 (kq ≤ kj3) ∧ Drawn0 w w')
            case atStart => exact ⟨(0), (0), (by first | rfl | (simp; done) | (simp [*]; done)), (by first | rfl | (simp; done) | (simp [*]; done)), H', ⟨Nat.le_refl _⟩, by repeat (first | exact Drawn0.refl _ | apply Drawn0.step)⟩
            case round =>
              clear H'
              try clear p2
              try clear c3
              try clear c5
              try clear c5b0
              try clear c6
              try clear c6b0
              try clear p6
              try clear c7
              try clear c8
              try clear c8b0
              try clear c9
              try clear c9b0
              try clear p2
              obtain ⟨x9_2, x36_2, rfl, rfl, HA, HK2, ⟨m2, rfl⟩⟩ := hrel
              cases gk with
              | zero => exact absurd HA.out (by simp [le_Get.l0])
              | succ k2 =>
                have H := HA.out
                clear HA
                simp only [le_Get.l0] at H
                by_cases c10 : x36_2 < a2
                · rw [if_pos c10] at H
                  have c10b0 : decide (x36_2 < a2) = true := decide_eq_true c10
                  clear c10
                  obtain ⟨ji11, hji11⟩ : ∃ j_ : Int, (wrap64 (a1 + x36_2)) = j_ := ⟨_, rfl⟩
                  replace H : (if 0 ≤ (ji11) then (if (ji11) < (a0.size : Int) then (if 0 ≤ (wrap64 (8 * x36_2)) then (le_Get.l0 k2 a0 a1 a2 (Go.bits .or .u64 x9_2 (shl .u64 (IntKind.u64.wrap (bt a0 (ji11))) (wrap64 (8 * x36_2)))) a2 (wrap64 (x36_2 + 1))) else (none)) else (none)) else (none)) = some (r1, r2, r3) := by first | (rw [hji11] at H; exact H) | (simp only [hji11] at H ⊢; exact H)
                  have hji11w : (IntKind.i64.wrap (a1 + x36_2)) = ji11 := (i64_w _).trans hji11
                  by_cases c12 : 0 ≤ (ji11)
                  · rw [if_pos c12] at H
                    have c12b0 : decide (0 ≤ (ji11)) = true := decide_eq_true c12
                    clear c12
                    by_cases c13 : (ji11) < (a0.size : Int)
                    · rw [if_pos c13] at H
                      have c13b0 : decide ((ji11) < (a0.size : Int)) = true := decide_eq_true c13
                      clear c13
                      obtain ⟨ji15, hji15⟩ : ∃ j_ : Int, (wrap64 (8 * x36_2)) = j_ := ⟨_, rfl⟩
                      replace H : (if 0 ≤ (ji15) then (le_Get.l0 k2 a0 a1 a2 (Go.bits .or .u64 x9_2 (shl .u64 (IntKind.u64.wrap (bt a0 (ji11))) (ji15))) a2 (wrap64 (x36_2 + 1))) else (none)) = some (r1, r2, r3) := by first | (rw [hji15] at H; exact H) | (simp only [hji15] at H ⊢; exact H)
                      have hji15w : (IntKind.i64.wrap (8 * x36_2)) = ji15 := (i64_w _).trans hji15
                      by_cases c16 : 0 ≤ (ji15)
                      · rw [if_pos c16] at H
                        have c16b0 := eq_true c16
                        have c16b1 : decide (0 ≤ (ji15)) = true := decide_eq_true c16
                        clear c16
                        obtain ⟨ji17, hji17⟩ : ∃ j_ : Int, (shl .u64 (IntKind.u64.wrap (bt a0 (ji11))) (ji15)) = j_ := ⟨_, rfl⟩
                        replace H : (le_Get.l0 k2 a0 a1 a2 (Go.bits .or .u64 x9_2 (ji17)) a2 (wrap64 (x36_2 + 1))) = some (r1, r2, r3) := by first | (rw [hji17] at H; exact H) | (simp only [hji17] at H ⊢; exact H)
                        have hji17_ : (IntKind.u64.wrap ((IntKind.u64.wrap (bt a0 (ji11))) * 2 ^ min (ji15).toNat 64)) = ji17 := hji17
                        have hji17z : (ji15) ≤ 64 → (IntKind.u64.wrap ((IntKind.u64.wrap (bt a0 (ji11))) * 2 ^ (ji15).toNat)) = ji17 := shl_small hji17
                        have H' := amk H
                        clear H
                        have p14 : 0 ≤ ((ji11) : Int) := of_decide_eq_true (by first | (with_reducible assumption) | assumption)
                        have q14 : (ji11) < (a0.size : Int) := of_decide_eq_true (by first | (with_reducible assumption) | assumption)
                        have hx14 := bt_at a0 (ji11)
                        replace p14 := eq_true p14
                        replace q14 := eq_true q14
                        go_wp2
                        go_roundg k2
                        case measure => have := HJ3.out; have := HK2.out; omega
                        case rel => exact ⟨(Go.bits .or .u64 x9_2 (ji17)), (wrap64 (x36_2 + 1)), (by first | rfl | (simp; done) | (simp only [← hji17] <;> (first | rfl | simp)) | (simp [*]; done)), (by first | rfl | (simp; done) | (simp [*]; done)), H', ⟨by have := HJ3.out; have := HK2.out; omega⟩, by repeat (first | exact Drawn0.refl _ | apply Drawn0.step)⟩
                      · rw [if_neg c16] at H
                        exact absurd H (by simp)
                    · rw [if_neg c13] at H
                      exact absurd H (by simp)
                  · rw [if_neg c12] at H
                    exact absurd H (by simp)
                · rw [if_neg c10] at H
                  have c10b0 : decide (x36_2 < a2) = false := decide_eq_false c10
                  clear c10
                  simp only [Option.some.injEq, Prod.mk.injEq] at H
                  obtain ⟨rfl, rfl, rfl⟩ := H
                  go_wp2
                  go_ret3
                  exact ⟨by first | rfl | (simp; done) | (simp [*]; done), by repeat (first | exact Drawn0.refl _ | apply Drawn0.step)⟩
end Go.Proofs.Ytoeklekjhaigoaa.Le
end
section
namespace Go.Proofs.Ytoeklekjhaigoaa.C1
open Go.Proofs.Ytoeklekjhaigoaa.Al Go.RowKit Go.Proofs.YtoeklekjhaigoaaW.PrintWords Go.Proofs.YtoeklekjhaigoaaW.PrintLast Go.Proofs.YtoeklekjhaigoaaW.PrintMore
attribute [local go_sem] max2_int min2_int max_two min_two max_three min_three max_four min_four IntKind.wrap_u32 IntKind.wrap_u8   -- for this text's walks alone
set_option linter.unusedVariables false
open Go.Proofs.Ytoeklekjhaigoaa.Le
set_option linter.unusedSimpArgs false
def errW : Option Int → Value
  | none => .nilIface
  | some c => .iface 0 (.int .i64 c)
theorem errW_none : errW none = .nilIface := rfl
theorem errW_some (c : Int) : errW (some c) = .iface 0 (.int .i64 c) := rfl
end Go.Proofs.Ytoeklekjhaigoaa.C1
end
section
namespace Go.Proofs.Ytoeklekjhaigoaa.C2
open Go.Proofs.Ytoeklekjhaigoaa.Al Go.RowKit Go.Proofs.YtoeklekjhaigoaaW.PrintWords Go.Proofs.YtoeklekjhaigoaaW.PrintLast Go.Proofs.YtoeklekjhaigoaaW.PrintMore
attribute [local go_sem] max2_int min2_int max_two min_two max_three min_three max_four min_four IntKind.wrap_u32 IntKind.wrap_u8   -- for this text's walks alone
set_option linter.unusedVariables false
open Go.Proofs.Ytoeklekjhaigoaa.Le Go.Proofs.Ytoeklekjhaigoaa.C1
set_option linter.unusedSimpArgs false
def errW : Option Int → Value
  | none => .nilIface
  | some c => .iface 0 (.int .i64 c)
theorem errW_none : errW none = .nilIface := rfl
theorem errW_some (c : Int) : errW (some c) = .iface 0 (.int .i64 c) := rfl
end Go.Proofs.Ytoeklekjhaigoaa.C2
end
section
namespace Go.Proofs.Ytoeklekjhaigoaa.WMap
open Go.RowKit
set_option linter.unusedVariables false
/-- Block b of w is a map of at most n entries; at key k it has L k. -/
def MapV (P : Program) (K : TypeId) (w : World) (b n : Nat) (L : Lit → Option Value) : Prop :=
  ∃ D : DataW Value, w.ownsMap P K (fun v => some (.held v, [])) b n D ∧ Maps.IsMap D ∧ ∀ (k : Lit) (z : DataW Value), D.atKey k z = match L k with | some v => .held v | none => z
section
variable {P : Program} {K : TypeId} {w : World} {b n : Nat} {L : Lit → Option Value}
theorem MapV.made (P : Program) (K : TypeId) (w : World) : MapV P K (w.alloc (.map #[] 0)) w.heap.size 0 (fun _ => none) := ⟨.map [], World.ownsMap_made _ _ _ _, Maps.isMap_empty, fun _ _ => rfl⟩
theorem MapV.store {t e : TypeId} (h : MapV P K w b n L) (hK : Maps.Keyed P K) (ht : P.underlying t = some (.map K e)) (hn : n < 1000000) {key val : Value} {kl : Lit} (hkey : keyOf P K key = some kl) (hk : WideAt.IsKeyLit kl) :
    ∃ w', (Instr.mapUpdate t (.map (some b)) key val).run P w = .ok () w' ∧ MapV P K w' b (n + 1) (fun x => if x.sameKey kl = true then some val else L x) ∧ w.grownBy w' (some b) := by
  obtain ⟨D, ho, hm, hat⟩ := h
  obtain ⟨w', hrun, ho', hg⟩ := ho.update (t := t) (e := e) hK ht (by unfold maxLen; omega) hkey (val := val) (d := .held val) (ps := []) rfl
  refine ⟨w', hrun, ⟨_, ho', hm.put _ _, fun x z => ?_⟩, hg⟩
  show _ = match (if x.sameKey kl = true then some val else L x) with | some v => _ | none => _
  by_cases hx : x = kl
  · subst hx
    rw [if_pos (WideAt.sameKey_self hk), Maps.atKey_put_same hm hk]
  · rw [if_neg (fun h => hx ((WideAt.sameKey_iff hk).1 h)), Maps.atKey_put_other hx, hat]
end
end Go.Proofs.Ytoeklekjhaigoaa.WMap
end
section
namespace Go.Proofs.Ytoeklekjhaigoaa.HAct
open Go.Proofs.Ytoeklekjhaigoaa.Al Go.RowKit Go.Proofs.YtoeklekjhaigoaaW.PrintWords Go.Proofs.YtoeklekjhaigoaaW.PrintLast Go.Proofs.YtoeklekjhaigoaaW.PrintMore Go.Proofs.Ytoeklekjhaigoaa.WMap
set_option linter.unusedVariables false
set_option linter.unusedSimpArgs false
set_option maxRecDepth 100000
theorem keyed9 : Maps.Keyed Try.prog 9 := Maps.string_keyed Try.underlying9
theorem keyS (s : ByteArray) (h : s.size ≤ maxLen) : keyOf Try.prog 9 (.string s) = some (.string s.data.toList) := by
  exact Go.WideMaps.keyOf_string_mk Try.underlying9 h
end Go.Proofs.Ytoeklekjhaigoaa.HAct
end
section
namespace Go.Proofs.Ytoeklekjhaigoaa.W0
open Go.Proofs.Ytoeklekjhaigoaa.Al Go.RowKit Go.Proofs.YtoeklekjhaigoaaW.PrintWords Go.Proofs.YtoeklekjhaigoaaW.PrintLast Go.Proofs.YtoeklekjhaigoaaW.PrintMore
attribute [local go_sem] max2_int min2_int max_two min_two max_three min_three max_four min_four IntKind.wrap_u32 IntKind.wrap_u8   -- for this text's walks alone
set_option linter.unusedVariables false
open Go.Proofs.Ytoeklekjhaigoaa.Le Go.Proofs.Ytoeklekjhaigoaa.C1 Go.Proofs.Ytoeklekjhaigoaa.C2 Go.Proofs.Ytoeklekjhaigoaa.HAct
set_option linter.unusedSimpArgs false
def errW : Option Int → Value
  | none => .nilIface
  | some c => .iface 0 (.int .i64 c)
theorem errW_none : errW none = .nilIface := rfl
theorem errW_some (c : Int) : errW (some c) = .iface 0 (.int .i64 c) := rfl
structure S40 where
  f0 : Int
  f1 : Int
  f2 : Int
  f3 : Int
def z40 : S40 := ⟨(0 : Int), (0 : Int), (0 : Int), (0 : Int)⟩
def k40 : Kd S40 := Kd.iso (Kd.pair (Kd.int .i64) (Kd.pair (Kd.int .u32) (Kd.pair (Kd.int .i64) (Kd.int .i64)))) (fun x : S40 => (x.f0, x.f1, x.f2, x.f3))
theorem k40_open {w : World} {x : S40} {cs : List Value} (h : k40.K w x cs) : cs = [.int .i64 x.f0, .int .u32 x.f1, .int .i64 x.f2, .int .i64 x.f3] := by
  obtain ⟨_, _, rfl, rfl, ⟨_, _, rfl, rfl, ⟨_, _, rfl, rfl, rfl⟩⟩⟩ := h
  exact rfl
def rd_T40 (xs : List S40) (i : Int) : S40 := xs.getD i.toNat z40
theorem at_T40 {w : World} {A : Option Addr} {n : Nat} {xs : List S40} (h : Kd.C k40 w A n xs) (i : Int) (h0 : 0 ≤ i) (h1 : i < n) : ∃ ad , A = some ad ∧ w.cell? (ad.add (i.toNat * 4)) = some (.int .i64 (rd_T40 xs i).f0) ∧ w.cell? ⟨(ad.add (i.toNat * 4)).block, (ad.add (i.toNat * 4)).off + 1, none⟩ = some (.int .u32 (rd_T40 xs i).f1) ∧ w.cell? ⟨(ad.add (i.toNat * 4)).block, (ad.add (i.toNat * 4)).off + 2, none⟩ = some (.int .i64 (rd_T40 xs i).f2) ∧ w.cell? ⟨(ad.add (i.toNat * 4)).block, (ad.add (i.toNat * 4)).off + 3, none⟩ = some (.int .i64 (rd_T40 xs i).f3) := by
  obtain ⟨ad, c, e, _, hK, hc0⟩ := Kd.C_get h z40 i h0 h1
  have hc : ∀ j u, c[j]? = some u → w.cell? (ad.add (i.toNat * 4 + j)) = some u := hc0
  obtain rfl := k40_open hK
  exact ⟨ad, e, hc 0 _ rfl, by rw [← add_field _ _ 1 (by omega)]; exact hc 1 _ rfl, by rw [← add_field _ _ 2 (by omega)]; exact hc 2 _ rfl, by rw [← add_field _ _ 3 (by omega)]; exact hc 3 _ rfl⟩
end Go.Proofs.Ytoeklekjhaigoaa.W0
end
section
namespace Go.Proofs.Ytoeklekjhaigoaa.W0
open Go.Proofs.Ytoeklekjhaigoaa.Al Go.RowKit Go.Proofs.YtoeklekjhaigoaaW.PrintWords Go.Proofs.YtoeklekjhaigoaaW.PrintLast Go.Proofs.YtoeklekjhaigoaaW.PrintMore
attribute [local go_sem] max2_int min2_int max_two min_two max_three min_three max_four min_four IntKind.wrap_u32 IntKind.wrap_u8   -- for this text's walks alone
set_option linter.unusedVariables false
open Go.Proofs.Ytoeklekjhaigoaa.Le Go.Proofs.Ytoeklekjhaigoaa.C1 Go.Proofs.Ytoeklekjhaigoaa.C2 Go.Proofs.Ytoeklekjhaigoaa.HAct
set_option linter.unusedSimpArgs false
def doorwardref01_Number.l0 : Nat → ByteArray → Int → Int → Option (Int)
  | 0, _, _, _ => none
  | k + 1, x0, x3, x4 => if x4 ≥ 0 then (if 0 ≤ x4 then (if x4 < (x0.size : Int) then (doorwardref01_Number.l0 k x0 (IntKind.u64.wrap ((IntKind.u64.wrap (256 * x3)) + (IntKind.u64.wrap (bt x0 x4)))) (wrap64 (x4 - 1))) else (none)) else (none)) else (some x3)
def doorwardref01_Number.f (k : Nat) (a0 : ByteArray) : Option (Int) := doorwardref01_Number.l0 k a0 0 (wrap64 ((a0.size : Int) - 1))
set_option maxHeartbeats 8000000 in
set_option maxRecDepth 100000 in
theorem doorwardref01_Number.calls (k : Nat) (a0 : ByteArray) (r : Int) (w : World) (h : doorwardref01_Number.f k a0 = some r) :
    Calls Try.prog 97 #[.string a0] w fun e w' => e = .returned (.int .u64 r) ∧ Drawn0 w w' := by
  have H : (doorwardref01_Number.l0 k a0 0 (wrap64 ((a0.size : Int) - 1))) = some r := h
  clear h
  have H' := amk H
  clear H
  go_enter Try.func97, Try.ntmps97
  go_wp2
  go_loopg [3, 4] k (fun kq v3 v4 w' => ∃ (x3_1 : Int) (x4_1 : Int), v3 = .int .u64 x3_1 ∧ v4 = .int .i64 x4_1 ∧ Aside0 (doorwardref01_Number.l0 kq a0 x3_1 x4_1 = some r) ∧ Aside0 (kq ≤ k) ∧ Drawn0 w w')
  case atStart => exact ⟨(0), (wrap64 ((a0.size : Int) - 1)), (by first | rfl | (simp; done) | (simp [*]; done)), (by first | rfl | (simp; done) | (simp [*]; done)), H', ⟨Nat.le_refl _⟩, by repeat (first | exact Drawn0.refl _ | apply Drawn0.step)⟩
  case round =>
    clear H'
    obtain ⟨x3_1, x4_1, rfl, rfl, HA, HK1, ⟨m1, rfl⟩⟩ := hrel
    cases gk with
    | zero => exact absurd HA.out (by simp [doorwardref01_Number.l0])
    | succ k1 =>
      have H := HA.out
      clear HA
      simp only [doorwardref01_Number.l0] at H
      by_cases c2 : x4_1 ≥ 0
      · rw [if_pos c2] at H
        have c2b0 : decide (0 ≤ x4_1) = true := decide_eq_true c2
        clear c2
        by_cases c3 : 0 ≤ x4_1
        · rw [if_pos c3] at H
          have c3b0 : decide (0 ≤ x4_1) = true := decide_eq_true c3
          clear c3
          by_cases c4 : x4_1 < (a0.size : Int)
          · rw [if_pos c4] at H
            have c4b0 : decide (x4_1 < (a0.size : Int)) = true := decide_eq_true c4
            clear c4
            have H' := amk H
            clear H
            have p5 : 0 ≤ (x4_1 : Int) := of_decide_eq_true (by first | (with_reducible assumption) | assumption)
            have q5 : x4_1 < (a0.size : Int) := of_decide_eq_true (by first | (with_reducible assumption) | assumption)
            have hx5 := bt_at a0 x4_1
            replace p5 := eq_true p5
            replace q5 := eq_true q5
            go_wp2
            go_roundg k1
            case measure => have := HK1.out; omega
            case rel => exact ⟨(IntKind.u64.wrap ((IntKind.u64.wrap (256 * x3_1)) + (IntKind.u64.wrap (bt a0 x4_1)))), (wrap64 (x4_1 - 1)), (by first | rfl | (simp; done) | (simp [*]; done)), (by first | rfl | (simp; done) | (simp [*]; done)), H', ⟨by have := HK1.out; omega⟩, by repeat (first | exact Drawn0.refl _ | apply Drawn0.step)⟩
          · rw [if_neg c4] at H
            exact absurd H (by simp)
        · rw [if_neg c3] at H
          exact absurd H (by simp)
      · rw [if_neg c2] at H
        have c2b0 : decide (0 ≤ x4_1) = false := decide_eq_false c2
        clear c2
        obtain rfl := Option.some.inj H
        go_wp2
        go_ret
        exact ⟨by first | rfl | (simp; done) | (simp [*]; done), by repeat (first | exact Drawn0.refl _ | apply Drawn0.step)⟩
end Go.Proofs.Ytoeklekjhaigoaa.W0
end
section
namespace Go.Proofs.Ytoeklekjhaigoaa.HFrom
open Go.Proofs.Ytoeklekjhaigoaa.Al Go.RowKit Go.Proofs.YtoeklekjhaigoaaW.PrintWords Go.Proofs.YtoeklekjhaigoaaW.PrintLast Go.Proofs.YtoeklekjhaigoaaW.PrintMore Go.Proofs.Ytoeklekjhaigoaa.W0
set_option linter.unusedVariables false
set_option linter.unusedSimpArgs false
set_option maxRecDepth 100000
def idxN {α : Type} (p : α → Bool) : List α → Option Nat
  | [] => none
  | x :: l => if p x = true then some 0 else (idxN p l).map (· + 1)
def idxI {α : Type} (p : α → Bool) (l : List α) : Int := match idxN p l with | some i => (i : Int) | none => -1
theorem idxN_hit {α : Type} (p : α → Bool) (z : α) : ∀ (l : List α) (k : Nat), k < l.length → (∀ j, j < k → p (l.getD j z) = false) → p (l.getD k z) = true → idxN p l = some k := by
  intro l
  induction l with
  | nil => intro k h; exact absurd h (Nat.not_lt_zero _)
  | cons x l ih =>
    intro k h h1 h2
    unfold idxN
    cases k with
    | zero => rw [if_pos (by simpa using h2)]
    | succ k =>
      have h0 := h1 0 (by omega)
      rw [if_neg (by simpa using h0), ih k (by simpa using h) (fun j hj => by simpa using h1 (j + 1) (by omega)) (by simpa using h2)]
      rfl
theorem idxN_miss {α : Type} (p : α → Bool) (z : α) : ∀ (l : List α), (∀ j, j < l.length → p (l.getD j z) = false) → idxN p l = none := by
  intro l
  induction l with
  | nil => intro _; rfl
  | cons x l ih =>
    intro h1
    unfold idxN
    have h0 := h1 0 (by simp)
    rw [if_neg (by simpa using h0), ih (fun j hj => by simpa using h1 (j + 1) (by simpa using hj))]
    rfl
set_option maxHeartbeats 2000000 in
theorem idx_c {g : Nat} {lb : Array Value} (p : S40 → Bool) (eg : ∀ args w, (callFunc g args).run Try.prog w = .ok (.enter g args) w) (A : Option Addr) (c0 : Nat) (l : List S40) (w : World) (hC : Kd.C k40 w A l.length l) (hl : l.length ≤ 1000000)
    (hp : ∀ (W : World) (x : S40), Below w.heap.size w W → Calls Try.prog g (#[.agg #[.int .i64 x.f0, .int .u32 x.f1, .int .i64 x.f2, .int .i64 x.f3]] ++ lb) W fun e w' => e = .returned (.bool (p x)) ∧ Below W.heap.size W w') :
    Calls Try.prog 117 #[.slice A l.length c0, .func (.func g) #[] lb] w fun e w' => e = .returned (.int .i64 (idxI p l)) ∧ Below w.heap.size w w' := by
  go_enter Try.func117, Try.ntmps117
  go_wp2
  go_loopg [5, 8] l.length (fun gg _ s8 wr => ∃ kk : Nat, kk ≤ l.length ∧ l.length - kk ≤ gg ∧ s8 = .int .i64 kk ∧ Aside0 (Below w.heap.size w wr) ∧ Aside0 (∀ j, j < kk → p (l.getD j z40) = false))
  case atStart => exact ⟨0, Nat.zero_le _, by omega, rfl, ⟨Below.refl _ w⟩, ⟨fun j hj => absurd hj (Nat.not_lt_zero _)⟩⟩
  case round =>
    obtain ⟨kk, hkk, hg, rfl, BW, AA⟩ := hrel
    by_cases hlt : kk < l.length
    · have hltz : (kk : Int) < (l.length : Int) := by omega
      obtain ⟨ad, e102, hx0, hx1, hx2, hx3⟩ := at_T40 (Kd.C_below hC BW.out) (kk : Int) (by omega) (by omega)
      cases e102
      have hcall := hp wr (l.getD kk z40) BW.out
      have hrd : rd_T40 l (kk : Int) = l.getD kk z40 := rfl
      rw [hrd] at hx0 hx1 hx2 hx3
      simp only [Int.toNat_natCast] at hx0 hx1 hx2 hx3
      clear hrd hC hp
      generalize hy : l.getD kk z40 = y at hx0 hx1 hx2 hx3 hcall
      have B : Aside0 (l.getD kk z40 = y) := ⟨hy⟩
      clear hy
      cases hq : p y with
      | true =>
        rw [hq] at hcall
        go_wp2_with (go_at_fn g; refine hcall.mono ?_; rintro e w' ⟨rfl, hb'⟩)
        go_ret
        refine ⟨?_, below_step BW.out hb'⟩
        unfold idxI
        rw [idxN_hit p z40 l kk hlt AA.out (by rw [B.out]; exact hq)]; rfl
      | false =>
        rw [hq] at hcall
        go_wp2_with (go_at_fn g; refine hcall.mono ?_; rintro e w' ⟨rfl, hb'⟩)
        go_roundg (l.length - (kk + 1))
        case measure => omega
        case rel =>
          refine ⟨kk + 1, by omega, by omega, by go_num, ⟨below_step BW.out hb'⟩, ⟨fun j hj => ?_⟩⟩
          by_cases e : j = kk
          · subst e
            rw [B.out]; exact hq
          · exact AA.out j (by omega)
    · have hltz : ¬ (kk : Int) < (l.length : Int) := by omega
      obtain rfl : kk = l.length := by omega
      clear hC hp
      go_wp2
      go_ret
      refine ⟨?_, BW.out⟩
      unfold idxI
      rw [idxN_miss p z40 l AA.out]; rfl
end Go.Proofs.Ytoeklekjhaigoaa.HFrom
end
section
namespace Go.Proofs.Ytoeklekjhaigoaa.W1
open Go.Proofs.Ytoeklekjhaigoaa.Al Go.RowKit Go.Proofs.YtoeklekjhaigoaaW.PrintWords Go.Proofs.YtoeklekjhaigoaaW.PrintLast Go.Proofs.YtoeklekjhaigoaaW.PrintMore
attribute [local go_sem] max2_int min2_int max_two min_two max_three min_three max_four min_four IntKind.wrap_u32 IntKind.wrap_u8   -- for this text's walks alone
set_option linter.unusedVariables false
open Go.Proofs.Ytoeklekjhaigoaa.Le Go.Proofs.Ytoeklekjhaigoaa.C1 Go.Proofs.Ytoeklekjhaigoaa.C2 Go.Proofs.Ytoeklekjhaigoaa.HAct Go.Proofs.Ytoeklekjhaigoaa.W0 Go.Proofs.Ytoeklekjhaigoaa.HFrom
set_option linter.unusedSimpArgs false
def errW : Option Int → Value
  | none => .nilIface
  | some c => .iface 0 (.int .i64 c)
theorem errW_none : errW none = .nilIface := rfl
theorem errW_some (c : Int) : errW (some c) = .iface 0 (.int .i64 c) := rfl
end Go.Proofs.Ytoeklekjhaigoaa.W1
end
section
namespace Go.Proofs.Ytoeklekjhaigoaa.R01
open Go.Proofs.Ytoeklekjhaigoaa.Al Go.RowKit Go.Proofs.YtoeklekjhaigoaaW.PrintWords Go.Proofs.YtoeklekjhaigoaaW.PrintLast Go.Proofs.YtoeklekjhaigoaaW.PrintMore
attribute [local go_sem] max2_int min2_int max_two min_two max_three min_three max_four min_four IntKind.wrap_u32 IntKind.wrap_u8   -- for this text's walks alone
set_option linter.unusedVariables false
open Go.Proofs.Ytoeklekjhaigoaa.Le Go.Proofs.Ytoeklekjhaigoaa.C1 Go.Proofs.Ytoeklekjhaigoaa.C2 Go.Proofs.Ytoeklekjhaigoaa.HAct Go.Proofs.Ytoeklekjhaigoaa.W0 Go.Proofs.Ytoeklekjhaigoaa.HFrom Go.Proofs.Ytoeklekjhaigoaa.W1
set_option linter.unusedSimpArgs false
def errW : Option Int → Value
  | none => .nilIface
  | some c => .iface 0 (.int .i64 c)
theorem errW_none : errW none = .nilIface := rfl
theorem errW_some (c : Int) : errW (some c) = .iface 0 (.int .i64 c) := rfl
end Go.Proofs.Ytoeklekjhaigoaa.R01
end
section
namespace Go.Proofs.Ytoeklekjhaigoaa.QLe
open Go.Proofs.Ytoeklekjhaigoaa.Al Go.RowKit Go.Proofs.YtoeklekjhaigoaaW.PrintWords Go.Proofs.YtoeklekjhaigoaaW.PrintLast Go.Proofs.YtoeklekjhaigoaaW.PrintMore Go.Proofs.Ytoeklekjhaigoaa.Le
set_option linter.unusedVariables false
set_option linter.unusedSimpArgs false
def leval (s : ByteArray) (p : Int) : Nat → Int
  | 0 => 0
  | j + 1 => leval s p j + bt s (p + j) * 256 ^ j
theorem pow256 (j : Nat) : (0 : Int) < 256 ^ j := Int.pow_pos (by decide)
theorem p7 (i : Nat) (h : i < 8) : (256 : Int) ^ i ≤ 72057594037927936 := by
  match i, h with
  | 0, _ | 1, _ | 2, _ | 3, _ | 4, _ | 5, _ | 6, _ | 7, _ => decide
theorem leval_range (s : ByteArray) (p : Int) (j : Nat) : 0 ≤ leval s p j ∧ leval s p j < 256 ^ j := by
  induction j with
  | zero => simp [leval]
  | succ j ih =>
    have hb := bt_range s (p + j)
    have hp := pow256 j
    have h1 : bt s (p + j) * 256 ^ j ≤ 255 * 256 ^ j := Int.mul_le_mul_of_nonneg_right hb.2 (Int.le_of_lt hp)
    have h2 : 0 ≤ bt s (p + j) * 256 ^ j := Int.mul_nonneg hb.1 (Int.le_of_lt hp)
    have h3 : (256 : Int) ^ (j + 1) = 256 ^ j * 256 := Int.pow_succ ..
    simp only [leval]
    omega
theorem w64 (x : Int) (h : -9223372036854775808 ≤ x) (h2 : x ≤ 9223372036854775807) : wrap64 x = x := by unfold wrap64; omega
theorem u64_small (x : Int) (h0 : 0 ≤ x) (h1 : x < 18446744073709551616) : IntKind.u64.wrap x = x := by
  have e : IntKind.u64.wrap x = x % 18446744073709551616 := rfl
  rw [e]; exact Int.emod_eq_of_lt h0 h1
theorem or_low (i : Nat) (x y : Int) (hx0 : 0 ≤ x) (hx : x < 2 ^ i) (hy0 : 0 ≤ y) (hy : y % 2 ^ i = 0) (hx1 : x < 2 ^ 64) (hy1 : y < 2 ^ 64) : Go.bits .or .u64 x y = x + y := by
  have hw : ∀ n : Int, 0 ≤ n → n < 2 ^ 64 → IntKind.u64.wrap n = n := by
    intro n a b
    exact u64_small n a (by have e64 : (2 : Int) ^ 64 = 18446744073709551616 := by decide
                            omega)
  have h := Go.bits_join .u64 64 (by decide) hw i y x hy0 hy hy1 hx0 hx hx1
  have hc : Go.bits .or .u64 x y = Go.bits .or .u64 y x := by
    simp only [Go.bits]
    rw [BitVec.or_comm]
  rw [hc, h]; omega
theorem pow_shift (i : Nat) : (2 : Int) ^ (8 * i) = 256 ^ i := by rw [Int.pow_mul]; rfl
theorem shl_byte (c : Int) (i : Nat) (h0 : 0 ≤ c) (h1 : c ≤ 255) (hi : i < 8) : shl .u64 (IntKind.u64.wrap c) (wrap64 (8 * (i : Int))) = c * 256 ^ i := by
  have e : (wrap64 (8 * (i : Int))).toNat = 8 * i := by rw [w64 _ (by omega) (by omega)]; omega
  have hm : min (8 * i) 64 = 8 * i := by omega
  have hp := pow256 i
  have h8 := p7 i hi
  have h2 : c * 256 ^ i ≤ 255 * 256 ^ i := Int.mul_le_mul_of_nonneg_right h1 (Int.le_of_lt hp)
  have h3 : 0 ≤ c * 256 ^ i := Int.mul_nonneg h0 (Int.le_of_lt hp)
  unfold shl
  rw [u64_small c h0 (by omega), e, show IntKind.u64.bits = 64 from rfl, hm, pow_shift, u64_small _ h3 (by omega)]
theorem get_loop (s : ByteArray) (p : Int) (sz : Nat) (hp : 0 ≤ p) (hs : p + sz ≤ s.size) (hz : s.size ≤ 4611686018427387904) (h8 : sz ≤ 8) :
    ∀ d i : Nat, i + d = sz → ∀ k, d < k → le_Get.l0 k s p sz (leval s p i) sz i = some (leval s p sz, p + sz, 0) := by
  intro d
  induction d with
  | zero =>
    intro i hi k hk
    obtain ⟨k, rfl⟩ : ∃ m, k = m + 1 := ⟨k - 1, by omega⟩
    obtain rfl : i = sz := by omega
    simp only [le_Get.l0]
    rw [if_neg (by omega), w64 _ (by omega) (by omega)]
  | succ d ih =>
    intro i hi k hk
    obtain ⟨k, rfl⟩ : ∃ m, k = m + 1 := ⟨k - 1, by omega⟩
    have hb := bt_range s (p + i)
    have hl := leval_range s p i
    simp only [le_Get.l0]
    rw [if_pos (by omega), w64 (p + i) (by omega) (by omega), if_pos (by omega), if_pos (by omega), if_pos (by rw [w64 _ (by omega) (by omega)]; omega), shl_byte _ i hb.1 hb.2 (by omega), w64 ((i : Int) + 1) (by omega) (by omega)]
    have hpp := pow256 i
    have h7 := p7 i (by omega)
    have e64 : (2 : Int) ^ 64 = 18446744073709551616 := by decide
    have h1 : bt s (p + i) * 256 ^ i ≤ 255 * 256 ^ i := Int.mul_le_mul_of_nonneg_right hb.2 (Int.le_of_lt hpp)
    have h2 : 0 ≤ bt s (p + i) * 256 ^ i := Int.mul_nonneg hb.1 (Int.le_of_lt hpp)
    rw [or_low (8 * i) _ _ hl.1 (by rw [pow_shift]; exact hl.2) h2 (by rw [pow_shift]; exact Int.mul_emod_left ..) (by omega) (by omega)]
    have := ih (i + 1) (by omega) k (by omega)
    simpa [leval] using this
theorem get_ok (s : ByteArray) (p : Int) (sz : Nat) (h1 : 1 ≤ sz) (h8 : sz ≤ 8) (hp : 0 ≤ p) (hs : p + sz ≤ s.size) (hz : s.size ≤ 4611686018427387904) :
    ∀ k, 10 ≤ k → le_Get.f k s p sz = some (leval s p sz, p + sz, 0) := by
  intro k hk
  obtain ⟨k, rfl⟩ : ∃ m, k = m + 1 := ⟨k - 1, by omega⟩
  unfold le_Get.f
  rw [if_neg (by omega), if_neg (by omega), decide_eq_false (by omega)]
  simp only [le_Get.j0]
  rw [if_neg (by decide), if_neg (by omega), if_neg (by rw [w64 _ (by omega) (by omega)]; omega)]
  exact get_loop s p sz hp hs hz h8 sz 0 (by omega) k (by omega)
theorem bt_data (s : ByteArray) (i : Nat) (h : i < s.size) : bt s i = ((s.data.toList[i]'(by rw [Array.length_toList]; exact h)).toNat : Int) := by
  have := bt_at s (i : Int) (by simpa using h)
  rw [← this]; simp [ByteArray.getElem_eq_getElem_data]
theorem ext_data (a : ByteArray) (i j : Nat) : (a.extract i j).data.toList = (a.data.toList.drop i).take (j - i) := by
  rw [ByteArray.data_extract, Array.toList_extract]
theorem len_data (a : ByteArray) : a.data.toList.length = a.size := by rw [Array.length_toList]; rfl
end Go.Proofs.Ytoeklekjhaigoaa.QLe
end
section
namespace Go.Proofs.Ytoeklekjhaigoaa.QNum
open Go.Proofs.Ytoeklekjhaigoaa.Al Go.RowKit Go.Proofs.YtoeklekjhaigoaaW.PrintWords Go.Proofs.YtoeklekjhaigoaaW.PrintLast Go.Proofs.YtoeklekjhaigoaaW.PrintMore Go.Proofs.Ytoeklekjhaigoaa.QLe
set_option linter.unusedVariables false
set_option linter.unusedSimpArgs false
/-- the number of a row of bytes. -/
def num : List UInt8 → Int
  | [] => 0
  | c :: l => 256 * num l + (c.toNat : Int)
theorem num_nonneg : ∀ l, 0 ≤ num l
  | [] => by simp [num]
  | c :: l => by have := num_nonneg l; simp only [num]; omega
theorem num_lt : ∀ l : List UInt8, num l < 256 ^ l.length
  | [] => by simp [num]
  | c :: l => by
    have h := num_lt l
    have hc : c.toNat < 256 := c.toNat_lt
    have e : (256 : Int) ^ (c :: l).length = 256 ^ l.length * 256 := Int.pow_succ ..
    rw [e]; simp only [num]; omega
theorem num_append (l m : List UInt8) : num (l ++ m) = num l + num m * 256 ^ l.length := by
  induction l with
  | nil => simp [num]
  | cons c l ih =>
    have e : (256 : Int) ^ (c :: l).length = 256 ^ l.length * 256 := Int.pow_succ ..
    rw [List.cons_append, num, ih, num, e, Int.mul_add]
    have : 256 * (num m * 256 ^ l.length) = num m * (256 ^ l.length * 256) := by rw [Int.mul_comm 256, Int.mul_assoc]
    omega
theorem leval_num (s : ByteArray) (p : Nat) : ∀ j : Nat, p + j ≤ s.size → leval s p j = num ((s.data.toList.drop p).take j) := by
  intro j
  induction j with
  | zero => intro _; simp [leval, num]
  | succ j ih =>
    intro h
    have hl : j < (s.data.toList.drop p).length := by rw [List.length_drop, len_data]; omega
    rw [leval, ih (by omega), List.take_succ_eq_append_getElem hl, num_append]
    have e1 : ((p : Int) + (j : Int)) = ((p + j : Nat) : Int) := by omega
    have e2 : (List.take j (List.drop p s.data.toList)).length = j := by rw [List.length_take]; omega
    rw [e1, bt_data s (p + j) (by omega), e2, List.getElem_drop]
    simp [num]
end Go.Proofs.Ytoeklekjhaigoaa.QNum
end
section
namespace Go.Proofs.Ytoeklekjhaigoaa.HPack
open Go.Proofs.Ytoeklekjhaigoaa.Al Go.RowKit Go.Proofs.YtoeklekjhaigoaaW.PrintWords Go.Proofs.YtoeklekjhaigoaaW.PrintLast Go.Proofs.YtoeklekjhaigoaaW.PrintMore Go.Proofs.Ytoeklekjhaigoaa.Le Go.Proofs.Ytoeklekjhaigoaa.QLe Go.Proofs.Ytoeklekjhaigoaa.QNum
set_option linter.unusedVariables false
set_option linter.unusedSimpArgs false
set_option maxRecDepth 100000
/-- The arguments of a call. -/
def ar (a0 a1 a2 a3 a4 a5 : Int) : Nat → Int
  | 0 => a0
  | 1 => a1
  | 2 => a2
  | 3 => a3
  | 4 => a4
  | _ => a5
end Go.Proofs.Ytoeklekjhaigoaa.HPack
end
section
namespace Go.Proofs.Ytoeklekjhaigoaa.HUnpack
open Go.Proofs.Ytoeklekjhaigoaa.Al Go.RowKit Go.Proofs.YtoeklekjhaigoaaW.PrintWords Go.Proofs.YtoeklekjhaigoaaW.PrintLast Go.Proofs.YtoeklekjhaigoaaW.PrintMore Go.Proofs.Ytoeklekjhaigoaa.Le Go.Proofs.Ytoeklekjhaigoaa.QLe Go.Proofs.Ytoeklekjhaigoaa.QNum Go.Proofs.Ytoeklekjhaigoaa.HPack
set_option linter.unusedVariables false
set_option linter.unusedSimpArgs false
set_option maxRecDepth 100000
theorem get_any (s : ByteArray) (p : Nat) (sz : Nat) (w : World) (h1 : 1 ≤ sz) (h8 : sz ≤ 8) (hp : p + sz ≤ s.size) (hz : s.size ≤ 1000) :
    Calls Try.prog 95 #[.string s, .int .i64 (p : Int), .int .i64 (sz : Int)] w fun e w' => e = .returned (.tuple #[.int .u64 (leval s p sz), .int .i64 ((p : Int) + (sz : Int)), .int .i64 0]) ∧ Below w.heap.size w w' :=
  (le_Get.calls 20 s (p : Int) (sz : Int) (leval s p sz) ((p : Int) + (sz : Int)) 0 w (get_ok s (p : Int) sz h1 h8 (by omega) (by omega) (by omega) 20 (by omega))).mono (fun e w' h => ⟨h.1, by obtain ⟨n, rfl⟩ := h.2.out; exact pbd (Below.refl _ _) n⟩)
def NextPost (sb ab : Nat) (s : ByteArray) (p n : Int) (w : World) (e : Ending) (w' : World) : Prop := e = .returned (.int .u64 n) ∧ w'.heap[ab]? = some (.cells #[.int .i64 p] 3 (0, 0)) ∧ Below ab w w' ∧ KeepBut w w' ab none
set_option maxHeartbeats 1000000 in
theorem next_c {w : World} {sb ab : Nat} {s : ByteArray} {p : Nat} (hs : w.heap[sb]? = some (.cells #[.string s] 9 (0, 0))) (ha : w.heap[ab]? = some (.cells #[.int .i64 (p : Int)] 3 (0, 0))) (sz : Nat) (h1 : 1 ≤ sz) (h8 : sz ≤ 8) (hp : p + sz ≤ s.size) (hz : s.size ≤ 1000) :
    Calls Try.prog 96 #[.int .i64 (sz : Int), .pointer (some ⟨sb, 0, none⟩), .pointer (some ⟨ab, 0, none⟩)] w (NextPost sb ab s ((p : Int) + (sz : Int)) (leval s p sz) w) := by
  have hget := fun W => get_any s p sz W h1 h8 hp hz
  have k1 := blk_cell hs 0
  have k2 := blk_cell ha 0
  have l1 := blk_lt hs
  have l2 := blk_lt ha
  have HA := amk ha
  clear hs ha
  generalize leval s p sz = n at *
  go_enter Try.func96, Try.ntmps96
  go_wp2_with (go_at_call 95; refine (hget _).mono ?_; rintro e w1 ⟨rfl, hb1⟩; have hw1 := blk_below HA.out hb1; have k0 := blk_cell hw1 0; have f0 := blk_frozen hw1 0; have HW1 := amk hw1; clear hw1)
  go_ret
  exact ⟨rfl, blk_put HW1.out 0 _ rfl, (below_then (Below.refl ab w) (Nat.le_of_lt l2) hb1).setCell (p := ⟨ab, 0, none⟩) (Nat.le_refl _) _, by simp [World.setCell]; exact hb1.size, fun i hi hne _ => (Below.heap_setCell _ _ _ _ hne).trans (hb1.block i hi)⟩
structure US (w0 w : World) (cb : Nat) (s : ByteArray) (p : Nat) (cs : Array Value) : Prop where
  hs : w.heap[w0.heap.size]? = some (.cells #[.string s] 9 (0, 0))
  hr : w.heap[w0.heap.size + 1]? = some (.cells #[.int .u32 0, .int .u32 0, .int .u64 0, .int .u64 0, .int .u64 0, .int .u64 0, .int .u64 0, .int .u64 0, .int .u64 0] 49 (0, 0))
  ha : w.heap[w0.heap.size + 1 + 1]? = some (.cells #[.int .i64 (p : Int)] 3 (0, 0))
  hc : w.heap[cb]? = some (.cells cs 49 (0, 0))
  hb : Below w0.heap.size w0 w
  hlt : w0.heap.size + 1 + 1 < cb
theorem US.next {w0 w w' : World} {cb : Nat} {s : ByteArray} {p q : Nat} {cs : Array Value} {n : Int} {e : Ending} (h : US w0 w cb s p cs) (k : NextPost w0.heap.size (w0.heap.size + 1 + 1) s (q : Int) n w e w') : US w0 w' cb s q cs := by
  obtain ⟨_, k1, k2, k3⟩ := k
  have := h.hlt
  exact ⟨(k3.2 _ (blk_lt h.hs) (by omega) (by simp)).trans h.hs, (k3.2 _ (blk_lt h.hr) (by omega) (by simp)).trans h.hr, k1, (k3.2 _ (blk_lt h.hc) (by omega) (by simp)).trans h.hc, below_weaken h.hb (by omega) k2, h.hlt⟩
theorem US.put {w0 w : World} {cb : Nat} {s : ByteArray} {p : Nat} {cs cs' : Array Value} (h : US w0 w cb s p cs) (i : Nat) (u : Value) (e : cs.setIfInBounds i u = cs') : US w0 (w.setCell ⟨cb, i, none⟩ u) cb s p cs' := by
  have := h.hlt
  exact ⟨(Below.heap_setCell _ _ _ _ (by simp only; omega)).trans h.hs, (Below.heap_setCell _ _ _ _ (by simp only; omega)).trans h.hr, (Below.heap_setCell _ _ _ _ (by simp only; omega)).trans h.ha, blk_put h.hc i u e, h.hb.setCell (p := ⟨cb, i, none⟩) (by simp only; omega) _, h.hlt⟩
theorem US.call {w0 w : World} {cb : Nat} {s : ByteArray} {p : Nat} {cs : Array Value} (h : US w0 w cb s p cs) (sz : Nat) (h1 : 1 ≤ sz) (h8 : sz ≤ 8) (hp : p + sz ≤ s.size) (hz : s.size ≤ 1000) :
    Calls Try.prog 96 #[.int .i64 (sz : Int), .pointer (some ⟨w0.heap.size, 0, none⟩), .pointer (some ⟨w0.heap.size + 1 + 1, 0, none⟩)] w fun e w' => e = .returned (.int .u64 (leval s p sz)) ∧ US w0 w' cb s (p + sz) cs :=
  (next_c h.hs h.ha sz h1 h8 hp hz).mono (fun e w' k => ⟨k.1, h.next (q := p + sz) (n := leval s p sz) (by have k' := k; unfold NextPost at k' ⊢; rw [Int.natCast_add]; exact k')⟩)
def argU (s : ByteArray) (j i : Nat) : Int := if i < j then leval s ((16 + 8 * i : Nat) : Int) 8 else 0
def cArr (s : ByteArray) (j : Nat) : Array Value := #[.int .u32 (leval s 0 4 % 4294967296), .int .u32 (leval s 4 4 % 4294967296), .int .u64 (leval s 8 8), .int .u64 (argU s j 0), .int .u64 (argU s j 1), .int .u64 (argU s j 2), .int .u64 (argU s j 3), .int .u64 (argU s j 4), .int .u64 (argU s j 5)]
theorem cArr_set (s : ByteArray) (j : Nat) (h : j < 6) : (cArr s j).setIfInBounds (3 + j) (.int .u64 (leval s ((16 + 8 * j : Nat) : Int) 8)) = cArr s (j + 1) := by
  match j, h with
  | 0, _ | 1, _ | 2, _ | 3, _ | 4, _ | 5, _ => simp [cArr, argU]
theorem cArr_zero (s : ByteArray) : cArr s 0 = #[.int .u32 (leval s 0 4 % 4294967296), .int .u32 (leval s 4 4 % 4294967296), .int .u64 (leval s 8 8), .int .u64 0, .int .u64 0, .int .u64 0, .int .u64 0, .int .u64 0, .int .u64 0] := rfl
theorem nine {w : World} {g : Nat} (h : w.heap[g]? = some (.cells #[.int .u32 0, .int .u32 0, .int .u64 0, .int .u64 0, .int .u64 0, .int .u64 0, .int .u64 0, .int .u64 0, .int .u64 0] 49 (0, 0))) (v0 v1 v2 v3 v4 v5 v6 v7 v8 : Value) : (((((((((w.setCell ⟨g, 0, none⟩ v0).setCell ⟨g, 1, none⟩ v1).setCell ⟨g, 2, none⟩ v2).setCell ⟨g, 3, none⟩ v3).setCell ⟨g, 4, none⟩ v4).setCell ⟨g, 5, none⟩ v5).setCell ⟨g, 6, none⟩ v6).setCell ⟨g, 7, none⟩ v7).setCell ⟨g, 8, none⟩ v8).heap[g]? = some (.cells #[v0, v1, v2, v3, v4, v5, v6, v7, v8] 49 (0, 0)) := by
  have h0 := blk_put (cs' := #[v0, .int .u32 0, .int .u64 0, .int .u64 0, .int .u64 0, .int .u64 0, .int .u64 0, .int .u64 0, .int .u64 0]) h 0 v0 rfl
  have h1 := blk_put (cs' := #[v0, v1, .int .u64 0, .int .u64 0, .int .u64 0, .int .u64 0, .int .u64 0, .int .u64 0, .int .u64 0]) h0 1 v1 rfl
  have h2 := blk_put (cs' := #[v0, v1, v2, .int .u64 0, .int .u64 0, .int .u64 0, .int .u64 0, .int .u64 0, .int .u64 0]) h1 2 v2 rfl
  have h3 := blk_put (cs' := #[v0, v1, v2, v3, .int .u64 0, .int .u64 0, .int .u64 0, .int .u64 0, .int .u64 0]) h2 3 v3 rfl
  have h4 := blk_put (cs' := #[v0, v1, v2, v3, v4, .int .u64 0, .int .u64 0, .int .u64 0, .int .u64 0]) h3 4 v4 rfl
  have h5 := blk_put (cs' := #[v0, v1, v2, v3, v4, v5, .int .u64 0, .int .u64 0, .int .u64 0]) h4 5 v5 rfl
  have h6 := blk_put (cs' := #[v0, v1, v2, v3, v4, v5, v6, .int .u64 0, .int .u64 0]) h5 6 v6 rfl
  have h7 := blk_put (cs' := #[v0, v1, v2, v3, v4, v5, v6, v7, .int .u64 0]) h6 7 v7 rfl
  have h8 := blk_put (cs' := #[v0, v1, v2, v3, v4, v5, v6, v7, v8]) h7 8 v8 rfl
  exact h8
theorem nine_below {w0 w : World} {B g : Nat} (h : Below B w0 w) (hg : B ≤ g) (v0 v1 v2 v3 v4 v5 v6 v7 v8 : Value) : Below B w0 (((((((((w.setCell ⟨g, 0, none⟩ v0).setCell ⟨g, 1, none⟩ v1).setCell ⟨g, 2, none⟩ v2).setCell ⟨g, 3, none⟩ v3).setCell ⟨g, 4, none⟩ v4).setCell ⟨g, 5, none⟩ v5).setCell ⟨g, 6, none⟩ v6).setCell ⟨g, 7, none⟩ v7).setCell ⟨g, 8, none⟩ v8) :=
  (Below.setCell (Below.setCell (Below.setCell (Below.setCell (Below.setCell (Below.setCell (Below.setCell (Below.setCell (Below.setCell h (p := ⟨g, 0, none⟩) hg v0) (p := ⟨g, 1, none⟩) hg v1) (p := ⟨g, 2, none⟩) hg v2) (p := ⟨g, 3, none⟩) hg v3) (p := ⟨g, 4, none⟩) hg v4) (p := ⟨g, 5, none⟩) hg v5) (p := ⟨g, 6, none⟩) hg v6) (p := ⟨g, 7, none⟩) hg v7) (p := ⟨g, 8, none⟩) hg v8)
def UnpPost (r : Option (Int × Int × Int × Int × Int × Int × Int × Int × Int)) (w : World) (e : Ending) (w' : World) : Prop :=
  Below w.heap.size w w' ∧ match r with
  | none => e = .returned (.tuple #[.agg #[.int .u32 0, .int .u32 0, .int .u64 0, .int .u64 0, .int .u64 0, .int .u64 0, .int .u64 0, .int .u64 0, .int .u64 0], .int .i64 52])
  | some (a0, a1, a2, a3, a4, a5, a6, a7, a8) => e = .returned (.tuple #[.agg #[.int .u32 a0, .int .u32 a1, .int .u64 a2, .int .u64 a3, .int .u64 a4, .int .u64 a5, .int .u64 a6, .int .u64 a7, .int .u64 a8], .int .i64 0])
def unp (s : ByteArray) : Option (Int × Int × Int × Int × Int × Int × Int × Int × Int) :=
  if s.size = 64 then some (leval s 0 4 % 4294967296, leval s 4 4 % 4294967296, leval s 8 8, leval s 16 8, leval s 24 8, leval s 32 8, leval s 40 8, leval s 48 8, leval s 56 8) else none
set_option maxHeartbeats 4000000 in
theorem unpack_any (s : ByteArray) (w : World) (hs : s.size ≤ 140737488355328) : Calls Try.prog 55 #[.string s] w (UnpPost (unp s) w) := by
  have hu49 := Try.underlying49
  have hu47 := Try.underlying47
  by_cases h64 : s.size = 64
  · unfold unp
    rw [if_pos h64]
    have hd : ((s.size : Int) != 64) = false := by rw [h64]; rfl
    have H64 := amk h64
    clear h64
    have sz1 : (w.alloc (.cells #[.string s] 9)).heap.size = w.heap.size + 1 := by simp
    have sz2 : ((w.alloc (.cells #[.string s] 9)).alloc (.cells #[.int .u32 0, .int .u32 0, .int .u64 0, .int .u64 0, .int .u64 0, .int .u64 0, .int .u64 0, .int .u64 0, .int .u64 0] 49)).heap.size = w.heap.size + 1 + 1 := by simp
    have hs0 := blk_alloc (blk_alloc (heap_alloc_new w (.cells #[.string s] 9)) (.cells #[.int .u32 0, .int .u32 0, .int .u64 0, .int .u64 0, .int .u64 0, .int .u64 0, .int .u64 0, .int .u64 0, .int .u64 0] 49)) (.cells #[.int .i64 0] 3)
    have hr0 := blk_alloc (heap_alloc_new (w.alloc (.cells #[.string s] 9)) (.cells #[.int .u32 0, .int .u32 0, .int .u64 0, .int .u64 0, .int .u64 0, .int .u64 0, .int .u64 0, .int .u64 0, .int .u64 0] 49)) (.cells #[.int .i64 0] 3)
    have ha0 := heap_alloc_new ((w.alloc (.cells #[.string s] 9)).alloc (.cells #[.int .u32 0, .int .u32 0, .int .u64 0, .int .u64 0, .int .u64 0, .int .u64 0, .int .u64 0, .int .u64 0, .int .u64 0] 49)) (.cells #[.int .i64 0] 3)
    rw [sz1] at hr0
    rw [sz2] at ha0
    have hb0 : Below w.heap.size w (((w.alloc (.cells #[.string s] 9)).alloc (.cells #[.int .u32 0, .int .u32 0, .int .u64 0, .int .u64 0, .int .u64 0, .int .u64 0, .int .u64 0, .int .u64 0, .int .u64 0] 49)).alloc (.cells #[.int .i64 0] 3)) := bal (bal (bal (Below.refl _ _) _) _) _
    have hlt0 := blk_lt ha0
    generalize hwi : (((w.alloc (.cells #[.string s] 9)).alloc (.cells #[.int .u32 0, .int .u32 0, .int .u64 0, .int .u64 0, .int .u64 0, .int .u64 0, .int .u64 0, .int .u64 0, .int .u64 0] 49)).alloc (.cells #[.int .i64 0] 3)) = wi at hs0 hr0 ha0 hb0 hlt0
    have HWI := amk hwi
    have HS := amk hs0
    have HR := amk hr0
    have HA := amk ha0
    have HB := amk hb0
    have HLT := amk hlt0
    clear hwi hs0 hr0 ha0 hb0 hlt0 sz1 sz2
    have tok1 : True := trivial
    have tok2 : True := trivial
    have tok3 : True := trivial
    go_enter Try.func55, Try.ntmps55
    go_wp2_with (first | (go_at_call 96; have _t := tok1; rw [HWI.out]; refine (next_c (p := 0) HS.out HA.out 4 (by omega) (by omega) (by have := H64.out; omega) (by have := H64.out; omega)).mono ?_; rintro e w1 ⟨rfl, ha1, hb1, hk1⟩; have hus := amk (show US w (w1.alloc (.cells #[.int .u32 (leval s 0 4 % 4294967296), .int .u32 0, .int .u64 0, .int .u64 0, .int .u64 0, .int .u64 0, .int .u64 0, .int .u64 0, .int .u64 0] 49)) w1.heap.size s 4 _ from ⟨blk_alloc ((hk1.2 _ (blk_lt HS.out) (by omega) (by simp)).trans HS.out) _, blk_alloc ((hk1.2 _ (blk_lt HR.out) (by omega) (by simp)).trans HR.out) _, blk_alloc ha1 _, heap_alloc_new _ _, bal (below_weaken HB.out (by omega) hb1) _, blk_lt ha1⟩); clear tok1 _t ha1 hb1 hk1) | (go_at_call 96; have _t := tok2; refine (hus.out.call 4 (by omega) (by omega) (by have := H64.out; omega) (by have := H64.out; omega)).mono ?_; rintro e w2 ⟨rfl, hu2⟩; have kc2 := blk_cell hu2.hc 1; have fc2 := blk_frozen hu2.hc 1; have HU2 := amk (US.put hu2 1 (.int .u32 (leval s 4 4 % 4294967296)) rfl); clear tok2 _t hu2) | (go_at_call 96; have _t := tok3; refine (HU2.out.call 8 (by omega) (by omega) (by have := H64.out; omega) (by have := H64.out; omega)).mono ?_; rintro e w3 ⟨rfl, hu3⟩; have kc3 := blk_cell hu3.hc 2; have fc3 := blk_frozen hu3.hc 2; have HU3 := amk (US.put hu3 2 (.int .u64 (leval s 8 8)) rfl); clear tok3 _t hu3))
    have h0u := amk (show US w _ w1.heap.size s 16 (cArr s 0) from HU3.out)
    clear kc2 fc2 kc3 fc3 hus HU2 HU3
    go_loopw [24] (fun i wr => ∃ j : Nat, j ≤ 6 ∧ i = .int .i64 j ∧ Aside0 (US w wr w1.heap.size s (16 + 8 * j) (cArr s j))) (fun i _ => 6 - (intOf i).toNat)
    case atStart => exact ⟨0, by omega, rfl, ⟨h0u.out⟩⟩
    case round =>
      clear h0u
      obtain ⟨j, hj, rfl, hu⟩ := hrel
      by_cases hlt : j < 6
      · have hdj : decide ((j : Int) < 6) = true := decide_eq_true (by omega)
        have hcall := hu.out.call 8 (by omega) (by omega) (by have := H64.out; omega) (by have := H64.out; omega)
        have hset := amk (cArr_set s j hlt)
        have hsz : (cArr s j).size = 9 := rfl
        obtain ⟨old, hold⟩ : ∃ old, (cArr s j)[3 + j]? = some old := ⟨_, Array.getElem?_eq_getElem (by omega)⟩
        generalize leval s ((16 + 8 * j : Nat) : Int) 8 = n at hcall hset
        have HOLD := amk hold
        clear hold hsz
        go_wp2_with (go_at_call 96; refine hcall.mono ?_; rintro e w4 ⟨rfl, hu4⟩; have kc4 := (blk_cell hu4.hc (3 + j)).trans HOLD.out; have fc4 := blk_frozen hu4.hc (3 + j); have HU4 := amk (US.put hu4 (3 + j) (.int .u64 n) hset.out); clear hu4)
        go_roundw
        case rel => exact ⟨j + 1, by omega, by go_num, ⟨(show 16 + 8 * (j + 1) = 16 + 8 * j + 8 by omega) ▸ HU4.out⟩⟩
        case measure => simp [intOf]; omega
      · obtain rfl : j = 6 := by omega
        have hdj : decide (((6 : Nat) : Int) < 6) = false := rfl
        have kc0 := blk_cell hu.out.hc 0
        have kr0 := blk_cell hu.out.hr 0
        have fr0 := blk_frozen hu.out.hr 0
        have kc1 := blk_cell hu.out.hc 1
        have kr1 := blk_cell hu.out.hr 1
        have fr1 := blk_frozen hu.out.hr 1
        have kc2 := blk_cell hu.out.hc 2
        have kr2 := blk_cell hu.out.hr 2
        have fr2 := blk_frozen hu.out.hr 2
        have kc3 := blk_cell hu.out.hc 3
        have kr3 := blk_cell hu.out.hr 3
        have fr3 := blk_frozen hu.out.hr 3
        have kc4 := blk_cell hu.out.hc 4
        have kr4 := blk_cell hu.out.hr 4
        have fr4 := blk_frozen hu.out.hr 4
        have kc5 := blk_cell hu.out.hc 5
        have kr5 := blk_cell hu.out.hr 5
        have fr5 := blk_frozen hu.out.hr 5
        have kc6 := blk_cell hu.out.hc 6
        have kr6 := blk_cell hu.out.hr 6
        have fr6 := blk_frozen hu.out.hr 6
        have kc7 := blk_cell hu.out.hc 7
        have kr7 := blk_cell hu.out.hr 7
        have fr7 := blk_frozen hu.out.hr 7
        have kc8 := blk_cell hu.out.hc 8
        have kr8 := blk_cell hu.out.hr 8
        have fr8 := blk_frozen hu.out.hr 8
        unfold cArr argU at kc0 kc1 kc2 kc3 kc4 kc5 kc6 kc7 kc8
        simp only [List.getElem?_toArray, List.getElem?_cons_succ, List.getElem?_cons_zero, Nat.reduceLT, if_true, Nat.reduceMul, Nat.reduceAdd] at kc0 kc1 kc2 kc3 kc4 kc5 kc6 kc7 kc8
        have HR9 := amk hu.out.hr
        have HB9 := amk hu.out.hb
        clear hu
        go_wp2
        exact bodyPost_ret (results_ct rfl _ _ (w.heap.size + 1) 49 _ (0, 0) _ rfl (nine HR9.out _ _ _ _ _ _ _ _ _) Try.underlying49 rfl (by kernel_rfl)) rfl ⟨nine_below HB9.out (Nat.le_succ _) _ _ _ _ _ _ _ _ _, rfl⟩
  · unfold unp
    rw [if_neg h64]
    have hn : ¬ (s.size : Int) = 64 := by omega
    go_enter Try.func55, Try.ntmps55
    go_wp2
    have hr0 := heap_alloc_new (w.alloc (.cells #[.string s] 9)) (.cells #[.int .u32 0, .int .u32 0, .int .u64 0, .int .u64 0, .int .u64 0, .int .u64 0, .int .u64 0, .int .u64 0, .int .u64 0] 49)
    rw [show (w.alloc (.cells #[.string s] 9)).heap.size = w.heap.size + 1 by simp] at hr0
    exact bodyPost_ret (results_ct rfl _ _ (w.heap.size + 1) 49 _ (0, 0) _ rfl hr0 Try.underlying49 rfl (by kernel_rfl)) rfl ⟨bal (bal (Below.refl _ _) _) _, rfl⟩
def call_Unpack.f (a0 : ByteArray) : Option (Int × Int × Int × Int × Int × Int × Int × Int × Int × Int) :=
  if a0.size ≤ 140737488355328 then (match unp a0 with | none => some (0, 0, 0, 0, 0, 0, 0, 0, 0, 52) | some (a0, a1, a2, a3, a4, a5, a6, a7, a8) => some (a0, a1, a2, a3, a4, a5, a6, a7, a8, 0)) else none
theorem call_Unpack.calls (a0 : ByteArray) (r1 r2 r3 r4 r5 r6 r7 r8 r9 r10 : Int) (w : World) (h : call_Unpack.f a0 = some (r1, r2, r3, r4, r5, r6, r7, r8, r9, r10)) :
    Calls Try.prog 55 #[.string a0] w fun e w' => e = .returned (.tuple #[.agg #[.int .u32 r1, .int .u32 r2, .int .u64 r3, .int .u64 r4, .int .u64 r5, .int .u64 r6, .int .u64 r7, .int .u64 r8, .int .u64 r9], .int .i64 r10]) ∧ Below w.heap.size w w' := by
  unfold call_Unpack.f at h
  split at h
  · rename_i hc
    refine (unpack_any a0 w hc).mono ?_
    rintro e w' ⟨hb, he⟩
    refine ⟨?_, hb⟩
    cases hu : unp a0 with
    | none =>
      rw [hu] at h he
      simp only [Option.some.injEq, Prod.mk.injEq] at h
      obtain ⟨rfl, rfl, rfl, rfl, rfl, rfl, rfl, rfl, rfl, rfl⟩ := h
      exact he
    | some x =>
      obtain ⟨x0, x1, x2, x3, x4, x5, x6, x7, x8⟩ := x
      rw [hu] at h he
      simp only [Option.some.injEq, Prod.mk.injEq] at h
      obtain ⟨rfl, rfl, rfl, rfl, rfl, rfl, rfl, rfl, rfl, rfl⟩ := h
      exact he
  · cases h
end Go.Proofs.Ytoeklekjhaigoaa.HUnpack
end
section
namespace Go.Proofs.Ytoeklekjhaigoaa.QRef01
open Go.Proofs.Ytoeklekjhaigoaa.Al Go.RowKit Go.Proofs.YtoeklekjhaigoaaW.PrintWords Go.Proofs.YtoeklekjhaigoaaW.PrintLast Go.Proofs.YtoeklekjhaigoaaW.PrintMore Go.Proofs.Ytoeklekjhaigoaa.QLe Go.Proofs.Ytoeklekjhaigoaa.QNum Go.Proofs.Ytoeklekjhaigoaa.W0
set_option linter.unusedVariables false
set_option linter.unusedSimpArgs false
theorem number_loop (s : ByteArray) (h8 : s.size ≤ 8) : ∀ i : Nat, i ≤ s.size → ∀ k, i < k → doorwardref01_Number.l0 k s (num (s.data.toList.drop i)) ((i : Int) - 1) = some (num s.data.toList) := by
  intro i
  induction i with
  | zero =>
    intro hi k hk
    obtain ⟨k, rfl⟩ : ∃ m, k = m + 1 := ⟨k - 1, by omega⟩
    simp only [doorwardref01_Number.l0]
    rw [if_neg (by omega)]; rfl
  | succ i ih =>
    intro hi k hk
    obtain ⟨k, rfl⟩ : ∃ m, k = m + 1 := ⟨k - 1, by omega⟩
    have hl : i < s.data.toList.length := by rw [len_data]; omega
    simp only [doorwardref01_Number.l0]
    have e : (((i + 1 : Nat) : Int) - 1) = (i : Int) := by omega
    rw [e, if_pos (by omega), if_pos (by omega), if_pos (by omega)]
    have hn := num_nonneg (s.data.toList.drop (i + 1))
    have hlt := num_lt (s.data.toList.drop (i + 1))
    rw [List.length_drop, len_data] at hlt
    have hp := p7 (s.size - (i + 1)) (by omega)
    have hb := bt_range s i
    have hd : num (s.data.toList.drop i) = 256 * num (s.data.toList.drop (i + 1)) + bt s i := by
      rw [List.drop_eq_getElem_cons hl, num, bt_data s i (by omega)]
    rw [u64_small (256 * num (s.data.toList.drop (i + 1))) (by omega) (by omega), u64_small (bt s i) hb.1 (by omega), u64_small _ (by omega) (by omega), ← hd, w64 _ (by omega) (by omega)]
    exact ih (by omega) k (by omega)
theorem number_ok (s : ByteArray) (h8 : s.size ≤ 8) : ∀ k, 10 ≤ k → doorwardref01_Number.f k s = some (num s.data.toList) := by
  intro k hk
  unfold doorwardref01_Number.f
  have h := number_loop s h8 s.size (Nat.le_refl _) k (by omega)
  rw [List.drop_of_length_le (by rw [len_data]; exact Nat.le_refl _)] at h
  rw [w64 _ (by omega) (by omega)]
  exact h
end Go.Proofs.Ytoeklekjhaigoaa.QRef01
end
section
namespace Go.Proofs.Ytoeklekjhaigoaa.HRefPack
open Go.Proofs.Ytoeklekjhaigoaa.Al Go.RowKit Go.Proofs.YtoeklekjhaigoaaW.PrintWords Go.Proofs.YtoeklekjhaigoaaW.PrintLast Go.Proofs.YtoeklekjhaigoaaW.PrintMore Go.Proofs.Ytoeklekjhaigoaa.Le Go.Proofs.Ytoeklekjhaigoaa.R01 Go.Proofs.Ytoeklekjhaigoaa.W0 Go.Proofs.Ytoeklekjhaigoaa.QRef01 Go.Proofs.Ytoeklekjhaigoaa.QLe Go.Proofs.Ytoeklekjhaigoaa.QNum Go.Proofs.Ytoeklekjhaigoaa.HPack Go.Proofs.Ytoeklekjhaigoaa.HUnpack
set_option linter.unusedVariables false
set_option linter.unusedSimpArgs false
set_option maxRecDepth 100000
def CB (w : World) (cb : Nat) (nr arch ip a0 a1 a2 a3 a4 a5 : Int) : Prop := w.heap[cb]? = some (.cells #[.int .u32 nr, .int .u32 arch, .int .u64 ip, .int .u64 a0, .int .u64 a1, .int .u64 a2, .int .u64 a3, .int .u64 a4, .int .u64 a5] 49 (0, 0))
theorem CB.cell {w : World} {cb : Nat} {nr arch ip a0 a1 a2 a3 a4 a5 : Int} (h : CB w cb nr arch ip a0 a1 a2 a3 a4 a5) (j : Nat) (hj : j < 6) : w.cell? ⟨cb, 3 + j, none⟩ = some (.int .u64 (ar a0 a1 a2 a3 a4 a5 j)) := by
  refine (blk_cell h (3 + j)).trans ?_
  match j, hj with
  | 0, _ | 1, _ | 2, _ | 3, _ | 4, _ | 5, _ => rfl
theorem num_any (s : ByteArray) (p : Nat) (sz : Nat) (W : World) (h8 : sz ≤ 8) (hp : p + sz ≤ s.size) :
    Calls Try.prog 97 #[.string (s.extract p (p + sz))] W fun e w' => e = .returned (.int .u64 (leval s (p : Int) sz)) ∧ Drawn0 W w' := by
  have hz : (s.extract p (p + sz)).size ≤ 8 := by rw [← len_data, ext_data]; simp; omega
  have e : num (s.extract p (p + sz)).data.toList = leval s (p : Int) sz := by
    rw [leval_num s p sz hp, ext_data, show p + sz - p = sz by omega]
  rw [← e]
  exact doorwardref01_Number.calls 20 _ _ W (number_ok _ hz 20 (by omega))
structure UR (w0 w : World) (cs : Array Value) : Prop where
  hr : w.heap[w0.heap.size]? = some (.cells #[.int .u32 0, .int .u32 0, .int .u64 0, .int .u64 0, .int .u64 0, .int .u64 0, .int .u64 0, .int .u64 0, .int .u64 0] 49 (0, 0))
  hc : w.heap[w0.heap.size + 1]? = some (.cells cs 49 (0, 0))
  hb : Below w0.heap.size w0 w
theorem UR.put {w0 w : World} {cs cs' : Array Value} (h : UR w0 w cs) (i : Nat) (u : Value) (e : cs.setIfInBounds i u = cs') : UR w0 (w.setCell ⟨w0.heap.size + 1, i, none⟩ u) cs' :=
  ⟨blk_far h.hr (show w0.heap.size ≠ w0.heap.size + 1 by omega) u, blk_put h.hc i u e, Below.setCell h.hb (p := ⟨w0.heap.size + 1, i, none⟩) (Nat.le_succ _) u⟩
theorem UR.drewN {w0 w : World} {cs : Array Value} (h : UR w0 w cs) (n : Nat) : UR w0 (w.drewN n) cs := ⟨blk_drewN h.hr n, blk_drewN h.hc n, pbd h.hb n⟩
abbrev oZ : Obj := .cells #[.int .u32 0, .int .u32 0, .int .u64 0, .int .u64 0, .int .u64 0, .int .u64 0, .int .u64 0, .int .u64 0, .int .u64 0] 49
theorem UR.mk2 {w0 w1 : World} (cs : Array Value) (hb : Below w0.heap.size w0 w1) (hr : w1.heap[w0.heap.size]? = some oZ) (hs : w1.heap.size = w0.heap.size + 1) : UR w0 (w1.alloc (.cells cs 49)) cs :=
  ⟨blk_alloc hr _, by rw [← hs]; exact heap_alloc_new _ _, bal hb _⟩
theorem UR.alloc2 (w0 : World) (n : Nat) (cs : Array Value) : UR w0 (((w0.alloc oZ).drewN n).alloc (.cells cs 49)) cs :=
  UR.mk2 cs (pbd (bal (Below.refl _ _) _) _) (blk_drewN (heap_alloc_new _ _) _) (by simp [World.drewN])
theorem UR.alloc1 (w0 : World) (cs : Array Value) : UR w0 ((w0.alloc oZ).alloc (.cells cs 49)) cs :=
  UR.mk2 cs (bal (Below.refl _ _) _) (heap_alloc_new _ _) (by simp)
theorem UR.nine {w0 w : World} (h : UR w0 w #[.int .u32 0, .int .u32 0, .int .u64 0, .int .u64 0, .int .u64 0, .int .u64 0, .int .u64 0, .int .u64 0, .int .u64 0]) (v0 v1 v2 v3 v4 v5 v6 v7 v8 : Value) : UR w0 (((((((((w.setCell ⟨w0.heap.size + 1, 0, none⟩ v0).setCell ⟨w0.heap.size + 1, 1, none⟩ v1).setCell ⟨w0.heap.size + 1, 2, none⟩ v2).setCell ⟨w0.heap.size + 1, 3, none⟩ v3).setCell ⟨w0.heap.size + 1, 4, none⟩ v4).setCell ⟨w0.heap.size + 1, 5, none⟩ v5).setCell ⟨w0.heap.size + 1, 6, none⟩ v6).setCell ⟨w0.heap.size + 1, 7, none⟩ v7).setCell ⟨w0.heap.size + 1, 8, none⟩ v8) #[v0, v1, v2, v3, v4, v5, v6, v7, v8] :=
  ⟨blk_far (blk_far (blk_far (blk_far (blk_far (blk_far (blk_far (blk_far (blk_far h.hr (p := ⟨w0.heap.size + 1, 0, none⟩) (Nat.ne_of_lt (Nat.lt_succ_self _)) v0) (p := ⟨w0.heap.size + 1, 1, none⟩) (Nat.ne_of_lt (Nat.lt_succ_self _)) v1) (p := ⟨w0.heap.size + 1, 2, none⟩) (Nat.ne_of_lt (Nat.lt_succ_self _)) v2) (p := ⟨w0.heap.size + 1, 3, none⟩) (Nat.ne_of_lt (Nat.lt_succ_self _)) v3) (p := ⟨w0.heap.size + 1, 4, none⟩) (Nat.ne_of_lt (Nat.lt_succ_self _)) v4) (p := ⟨w0.heap.size + 1, 5, none⟩) (Nat.ne_of_lt (Nat.lt_succ_self _)) v5) (p := ⟨w0.heap.size + 1, 6, none⟩) (Nat.ne_of_lt (Nat.lt_succ_self _)) v6) (p := ⟨w0.heap.size + 1, 7, none⟩) (Nat.ne_of_lt (Nat.lt_succ_self _)) v7) (p := ⟨w0.heap.size + 1, 8, none⟩) (Nat.ne_of_lt (Nat.lt_succ_self _)) v8, Go.Proofs.Ytoeklekjhaigoaa.HUnpack.nine h.hc _ _ _ _ _ _ _ _ _, nine_below h.hb (Nat.le_succ _) _ _ _ _ _ _ _ _ _⟩
theorem ur_cut {w0 W : World} {cs : Array Value} {K : Act → World → Prop} {Q : Exit → Act → World → Prop} {a : Act} (hu : UR w0 W cs) (h : ∀ W', UR w0 W' cs → Exit.then K Q .normal a W') : Exit.then K Q .normal a W := h W hu
theorem slice_nat (s : ByteArray) (lo hi : Nat) (W : World) (h1 : lo ≤ hi) (h2 : hi ≤ s.size) : (Instr.slice 9 (.string s) (some (.int .i64 (lo : Int))) (some (.int .i64 (hi : Int))) none).run Try.prog W = .ok (.string (s.extract lo hi)) W := by
  exact run_slice_string W 9 s .i64 .i64 lo hi Try.underlying9 (by omega) (by omega) (by omega)
abbrev NumAny (t : ByteArray) (v : Int) : Prop := ∀ W : World, Calls Try.prog 97 #[.string t] W fun e w' => e = .returned (.int .u64 v) ∧ Drawn0 W w'
set_option maxHeartbeats 4000000 in
theorem refUnpack_any (s : ByteArray) (w : World) (hs : s.size ≤ 140737488355328) : Calls Try.prog 56 #[.string s] w (UnpPost (unp s) w) := by
  have hu49 := Try.underlying49
  have hu47 := Try.underlying47
  by_cases h64 : s.size = 64
  · unfold unp
    rw [if_pos h64]
    have q1 := amk (show NumAny (s.extract 0 4) (leval s 0 4) from fun W => num_any s 0 4 W (by omega) (by omega))
    have q2 := amk (show NumAny (s.extract 4 8) (leval s 4 4) from fun W => num_any s 4 4 W (by omega) (by omega))
    have q3 := amk (show NumAny (s.extract 8 16) (leval s 8 8) from fun W => num_any s 8 8 W (by omega) (by omega))
    have qj := amk (show ∀ j, j < 6 → NumAny (s.extract (16 + 8 * j) (16 + 8 * j + 8)) (leval s ((16 + 8 * j : Nat) : Int) 8) from fun j hj W => num_any s (16 + 8 * j) 8 W (by omega) (by omega))
    have hc0 := amk (cArr_zero s)
    have hc6 := amk (show cArr s 6 = #[.int .u32 (leval s 0 4 % 4294967296), .int .u32 (leval s 4 4 % 4294967296), .int .u64 (leval s 8 8), .int .u64 (leval s 16 8), .int .u64 (leval s 24 8), .int .u64 (leval s 32 8), .int .u64 (leval s 40 8), .int .u64 (leval s 48 8), .int .u64 (leval s 56 8)] from rfl)
    have hset := amk (cArr_set s)
    generalize leval s 0 4 = v0 at *
    generalize leval s 4 4 = v1 at *
    generalize leval s 8 8 = v2 at *
    generalize leval s 16 8 = v3 at *
    generalize leval s 24 8 = v4 at *
    generalize leval s 32 8 = v5 at *
    generalize leval s 40 8 = v6 at *
    generalize leval s 48 8 = v7 at *
    generalize leval s 56 8 = v8 at *
    have g0 := amk (heap_alloc_new w (.cells #[.int .u32 0, .int .u32 0, .int .u64 0, .int .u64 0, .int .u64 0, .int .u64 0, .int .u64 0, .int .u64 0, .int .u64 0] 49))
    have b0 := amk (bal (Below.refl w.heap.size w) (.cells #[.int .u32 0, .int .u32 0, .int .u64 0, .int .u64 0, .int .u64 0, .int .u64 0, .int .u64 0, .int .u64 0, .int .u64 0] 49))
    have sz1 : (w.alloc (.cells #[.int .u32 0, .int .u32 0, .int .u64 0, .int .u64 0, .int .u64 0, .int .u64 0, .int .u64 0, .int .u64 0, .int .u64 0] 49)).heap.size = w.heap.size + 1 := by simp
    go_enter Try.func56, Try.ntmps56
    go_wp2
    go_region_held3 (fun _ : World => True) (trivial) (first | (go_at_call 97; (with_reducible refine (q1.out _).mono ?_); rintro e w1 ⟨rfl, ⟨n1, rfl⟩⟩) | (go_at_call 97; (with_reducible refine (q2.out _).mono ?_); rintro e w1 ⟨rfl, ⟨n1, rfl⟩⟩) | (go_at_call 97; (with_reducible refine (q3.out _).mono ?_); rintro e w1 ⟨rfl, ⟨n1, rfl⟩⟩))
    all_goals refine ur_cut (w0 := w) (cs := #[.int .u32 (IntKind.u32.wrap v0), .int .u32 (IntKind.u32.wrap v1), .int .u64 v2, .int .u64 0, .int .u64 0, .int .u64 0, .int .u64 0, .int .u64 0, .int .u64 0]) (by with_reducible first | exact UR.alloc2 _ _ _ | exact UR.nine (UR.drewN (UR.alloc2 _ _ _) _) _ _ _ _ _ _ _ _ _ | exact UR.nine (UR.drewN (UR.alloc1 _ _) _) _ _ _ _ _ _ _ _ _) ?_
    all_goals (intro W hW; have hW0 := amk (show UR w W (cArr s 0) from by rw [hc0.out]; exact hW); clear hW)
    all_goals clear q1 q2 q3 g0 b0 sz1 hc0
    all_goals (
      go_wp2
      go_loopw [5] (fun i wr => ∃ j : Nat, j ≤ 6 ∧ i = .int .i64 j ∧ Aside0 (UR w wr (cArr s j))) (fun i _ => 6 - (intOf i).toNat)
      case atStart => exact ⟨0, by omega, rfl, ⟨hW0.out⟩⟩
      case round =>
        clear hW0
        obtain ⟨j, hj, rfl, hu⟩ := hrel
        by_cases hlt : j < 6
        · have hdj : decide ((j : Int) < 6) = true := decide_eq_true (by omega)
          have hq := amk (qj.out j hlt)
          have hst := amk (hset.out j hlt)
          have hsl := fun W => slice_nat s (16 + 8 * j) (16 + 8 * j + 8) W (by omega) (by omega)
          rw [show ((16 + 8 * j : Nat) : Int) = 16 + 8 * (j : Int) by omega, show ((16 + 8 * j + 8 : Nat) : Int) = 24 + 8 * (j : Int) by omega] at hsl
          have hsz : (cArr s j).size = 9 := rfl
          obtain ⟨old, hold⟩ : ∃ old, (cArr s j)[3 + j]? = some old := ⟨_, Array.getElem?_eq_getElem (by omega)⟩
          have kc := (blk_cell hu.out.hc (3 + j)).trans hold
          have fc := blk_frozen hu.out.hc (3 + j)
          generalize leval s ((16 + 8 * j : Nat) : Int) 8 = n at hq hst
          generalize s.extract (16 + 8 * j) (16 + 8 * j + 8) = sx at hq hsl
          clear hsz hold
          go_wp2_with (go_at_call 97; (with_reducible refine (hq.out _).mono ?_); rintro e w1 ⟨rfl, ⟨n1, rfl⟩⟩; have hu1 := amk ((hu.out.drewN n1).put (3 + j) (.int .u64 n) hst.out))
          go_roundw
          case rel => exact ⟨j + 1, by omega, by go_num, ⟨hu1.out⟩⟩
          case measure => simp [intOf]; omega
        · obtain rfl : j = 6 := by omega
          have hdj : decide (((6 : Nat) : Int) < 6) = false := rfl
          have hcc := hu.out.hc
          rw [hc6.out] at hcc
          have hrr := hu.out.hr
          have kc0 := blk_cell hcc 0
          have kr0 := blk_cell hrr 0
          have fr0 := blk_frozen hrr 0
          have kc1 := blk_cell hcc 1
          have kr1 := blk_cell hrr 1
          have fr1 := blk_frozen hrr 1
          have kc2 := blk_cell hcc 2
          have kr2 := blk_cell hrr 2
          have fr2 := blk_frozen hrr 2
          have kc3 := blk_cell hcc 3
          have kr3 := blk_cell hrr 3
          have fr3 := blk_frozen hrr 3
          have kc4 := blk_cell hcc 4
          have kr4 := blk_cell hrr 4
          have fr4 := blk_frozen hrr 4
          have kc5 := blk_cell hcc 5
          have kr5 := blk_cell hrr 5
          have fr5 := blk_frozen hrr 5
          have kc6 := blk_cell hcc 6
          have kr6 := blk_cell hrr 6
          have fr6 := blk_frozen hrr 6
          have kc7 := blk_cell hcc 7
          have kr7 := blk_cell hrr 7
          have fr7 := blk_frozen hrr 7
          have kc8 := blk_cell hcc 8
          have kr8 := blk_cell hrr 8
          have fr8 := blk_frozen hrr 8
          simp only [List.getElem?_toArray, List.getElem?_cons_succ, List.getElem?_cons_zero] at kc0 kc1 kc2 kc3 kc4 kc5 kc6 kc7 kc8
          have HR9 := amk hrr
          have HB9 := amk hu.out.hb
          clear hu hcc hrr
          go_wp2
          exact bodyPost_ret (results_ct rfl _ _ w.heap.size 49 _ (0, 0) _ rfl (Go.Proofs.Ytoeklekjhaigoaa.HUnpack.nine HR9.out _ _ _ _ _ _ _ _ _) Try.underlying49 rfl (by kernel_rfl)) rfl ⟨nine_below HB9.out (Nat.le_refl _) _ _ _ _ _ _ _ _ _, rfl⟩)
  · unfold unp
    rw [if_neg h64]
    have hn : ¬ (s.size : Int) = 64 := by omega
    go_enter Try.func56, Try.ntmps56
    go_wp2
    have hr0 := heap_alloc_new w (.cells #[.int .u32 0, .int .u32 0, .int .u64 0, .int .u64 0, .int .u64 0, .int .u64 0, .int .u64 0, .int .u64 0, .int .u64 0] 49)
    exact bodyPost_ret (results_ct rfl _ _ w.heap.size 49 _ (0, 0) _ rfl hr0 Try.underlying49 rfl (by kernel_rfl)) rfl ⟨bal (Below.refl _ _) _, rfl⟩
def doorwardref13_Unpack.f (a0 : ByteArray) : Option (Int × Int × Int × Int × Int × Int × Int × Int × Int × Int) :=
  if a0.size ≤ 140737488355328 then (match unp a0 with | none => some (0, 0, 0, 0, 0, 0, 0, 0, 0, 52) | some (a0, a1, a2, a3, a4, a5, a6, a7, a8) => some (a0, a1, a2, a3, a4, a5, a6, a7, a8, 0)) else none
theorem doorwardref13_Unpack.calls (a0 : ByteArray) (r1 r2 r3 r4 r5 r6 r7 r8 r9 r10 : Int) (w : World) (h : doorwardref13_Unpack.f a0 = some (r1, r2, r3, r4, r5, r6, r7, r8, r9, r10)) :
    Calls Try.prog 56 #[.string a0] w fun e w' => e = .returned (.tuple #[.agg #[.int .u32 r1, .int .u32 r2, .int .u64 r3, .int .u64 r4, .int .u64 r5, .int .u64 r6, .int .u64 r7, .int .u64 r8, .int .u64 r9], .int .i64 r10]) ∧ Below w.heap.size w w' := by
  unfold doorwardref13_Unpack.f at h
  split at h
  · rename_i hc
    refine (refUnpack_any a0 w hc).mono ?_
    rintro e w' ⟨hb, he⟩
    refine ⟨?_, hb⟩
    cases hu : unp a0 with
    | none =>
      rw [hu] at h he
      simp only [Option.some.injEq, Prod.mk.injEq] at h
      obtain ⟨rfl, rfl, rfl, rfl, rfl, rfl, rfl, rfl, rfl, rfl⟩ := h
      exact he
    | some x =>
      obtain ⟨x0, x1, x2, x3, x4, x5, x6, x7, x8⟩ := x
      rw [hu] at h he
      simp only [Option.some.injEq, Prod.mk.injEq] at h
      obtain ⟨rfl, rfl, rfl, rfl, rfl, rfl, rfl, rfl, rfl, rfl⟩ := h
      exact he
  · cases h
end Go.Proofs.Ytoeklekjhaigoaa.HRefPack
end
section
namespace Go.Proofs.Ytoeklekjhaigoaa.M0
open Go.Proofs.Ytoeklekjhaigoaa.Al Go.RowKit Go.Proofs.YtoeklekjhaigoaaW.PrintWords Go.Proofs.YtoeklekjhaigoaaW.PrintLast Go.Proofs.YtoeklekjhaigoaaW.PrintMore
attribute [local go_sem] max2_int min2_int max_two min_two max_three min_three max_four min_four IntKind.wrap_u32 IntKind.wrap_u8   -- for this text's walks alone
set_option linter.unusedVariables false
open Go.Proofs.Ytoeklekjhaigoaa.Le Go.Proofs.Ytoeklekjhaigoaa.C1 Go.Proofs.Ytoeklekjhaigoaa.C2 Go.Proofs.Ytoeklekjhaigoaa.HAct Go.Proofs.Ytoeklekjhaigoaa.W0 Go.Proofs.Ytoeklekjhaigoaa.HFrom Go.Proofs.Ytoeklekjhaigoaa.W1 Go.Proofs.Ytoeklekjhaigoaa.R01 Go.Proofs.Ytoeklekjhaigoaa.HPack Go.Proofs.Ytoeklekjhaigoaa.HUnpack Go.Proofs.Ytoeklekjhaigoaa.HRefPack
set_option linter.unusedSimpArgs false
def errW : Option Int → Value
  | none => .nilIface
  | some c => .iface 0 (.int .i64 c)
theorem errW_none : errW none = .nilIface := rfl
theorem errW_some (c : Int) : errW (some c) = .iface 0 (.int .i64 c) := rfl
structure S46 where
  f0 : Int
  f1 : (List S46)
  f2 : Int
  f3 : Int
  f4 : ByteArray
  f5 : Int
def z46 : S46 := ⟨(0 : Int), ([] : List S46), (0 : Int), (0 : Int), (⟨#[]⟩ : ByteArray), (0 : Int)⟩
def F46 (d : Kd S46) : Kd S46 := Kd.iso (Kd.pair (Kd.int .i64) (Kd.pair (Kd.slice 46 d) (Kd.pair (Kd.int .i64) (Kd.pair (Kd.int .u64) (Kd.pair Kd.string (Kd.int .u64)))))) (fun x : S46 => (x.f0, x.f1, x.f2, x.f3, x.f4, x.f5))
theorem mono46 : Kd.Mono F46 := Kd.mono_iso _ (Kd.mono_pair (Kd.mono_const _) (Kd.mono_pair (Kd.mono_slice 46 Kd.mono_id) (Kd.mono_pair (Kd.mono_const _) (Kd.mono_pair (Kd.mono_const _) (Kd.mono_pair (Kd.mono_const _) (Kd.mono_const _))))))
theorem sub46 : Kd.Sub F46 [46] := Kd.sub_iso _ (Kd.sub_pair (Kd.sub_const _ (by decide)) (Kd.sub_pair (Kd.sub_slice 46 (by decide) Kd.sub_id) (Kd.sub_pair (Kd.sub_const _ (by decide)) (Kd.sub_pair (Kd.sub_const _ (by decide)) (Kd.sub_pair (Kd.sub_const _ (by decide)) (Kd.sub_const _ (by decide)))))))
theorem sz46 : ∀ n, (Kd.upto F46 6 [46] n).sz = 6 := Kd.upto_sz (fun _ => rfl)
def k46 : Kd S46 := Kd.fix F46 6 [46] sz46 (Kd.upto_E sub46)
theorem k46_heap : Kd.Heap k46 := Kd.heap_fix (fun _ h_ => Kd.heap_iso _ (Kd.heap_pair (Kd.heap_int .i64) (Kd.heap_pair (Kd.heap_slice 46 h_) (Kd.heap_pair (Kd.heap_int .i64) (Kd.heap_pair (Kd.heap_int .u64) (Kd.heap_pair Kd.heap_string (Kd.heap_int .u64)))))))
theorem k46_open {w : World} {x : S46} {cs : List Value} (h : k46.K w x cs) : ∃ A1 c1, cs = [.int .i64 x.f0, .slice A1 x.f1.length c1, .int .i64 x.f2, .int .u64 x.f3, .string x.f4, .int .u64 x.f5] ∧ x.f1.length ≤ c1 ∧ k46.C w A1 x.f1.length x.f1 := by
  obtain ⟨n, h⟩ := h
  cases n with
  | zero => exact h.elim
  | succ n =>
    obtain ⟨_, _, rfl, rfl, ⟨_, _, rfl, ⟨A1, c1, rfl, l1, g1⟩, ⟨_, _, rfl, rfl, ⟨_, _, rfl, rfl, ⟨_, _, rfl, rfl, rfl⟩⟩⟩⟩⟩ := h
    exact ⟨A1, c1, rfl, l1, Kd.fix_C g1⟩
theorem k46_mk (w : World) (x : S46) {A1 : Option Addr} {c1 : Nat} (l1 : x.f1.length ≤ c1) (g1 : k46.C w A1 x.f1.length x.f1) : k46.K w x [.int .i64 x.f0, .slice A1 x.f1.length c1, .int .i64 x.f2, .int .u64 x.f3, .string x.f4, .int .u64 x.f5] := by
  obtain ⟨n1, q1⟩ := Kd.fix_C_back mono46 g1
  have r1 := Kd.upto_C_le mono46 sz46 (show n1 ≤ n1 by omega) q1
  exact ⟨n1 + 1, ⟨[.int .i64 x.f0], [.slice A1 x.f1.length c1, .int .i64 x.f2, .int .u64 x.f3, .string x.f4, .int .u64 x.f5], rfl, rfl, ⟨[.slice A1 x.f1.length c1], [.int .i64 x.f2, .int .u64 x.f3, .string x.f4, .int .u64 x.f5], rfl, ⟨A1, c1, rfl, l1, r1⟩, ⟨[.int .i64 x.f2], [.int .u64 x.f3, .string x.f4, .int .u64 x.f5], rfl, rfl, ⟨[.int .u64 x.f3], [.string x.f4, .int .u64 x.f5], rfl, rfl, ⟨[.string x.f4], [.int .u64 x.f5], rfl, rfl, rfl⟩⟩⟩⟩⟩⟩
theorem k46_openF {W : World} {ok : Nat → Prop} {x : S46} {cs : List Value} (h : Kd.FK k46 W ok x cs) : ∃ A1 c1, cs = [.int .i64 x.f0, .slice A1 x.f1.length c1, .int .i64 x.f2, .int .u64 x.f3, .string x.f4, .int .u64 x.f5] ∧ x.f1.length ≤ c1 ∧ Kd.F k46 W ok A1 x.f1.length x.f1 := by
  obtain ⟨A1, c1, rfl, l1, _⟩ := k46_open (Kd.FK_now h)
  exact ⟨A1, c1, rfl, l1, (fun W' hW => by obtain ⟨A1_, c1_, he, l1_, g1_⟩ := k46_open (h W' hW); injection (Option.some.inj (show some (Value.slice A1 x.f1.length c1) = some (Value.slice A1_ x.f1.length c1_) from congrArg (fun l => l[1]?) he)) with ha_ _ _; rw [ha_]; exact g1_)⟩
theorem k46_mkF (W : World) (ok : Nat → Prop) (x : S46) {A1 : Option Addr} {c1 : Nat} (l1 : x.f1.length ≤ c1) (g1 : Kd.F k46 W ok A1 x.f1.length x.f1) : Kd.FK k46 W ok x [.int .i64 x.f0, .slice A1 x.f1.length c1, .int .i64 x.f2, .int .u64 x.f3, .string x.f4, .int .u64 x.f5] := fun W2 hW => k46_mk W2 x l1 (g1 W2 hW)
def rd_T46 (xs : List S46) (i : Int) : S46 := xs.getD i.toNat z46
theorem at_T46 {w : World} {A : Option Addr} {n : Nat} {xs : List S46} (h : Kd.C k46 w A n xs) (i : Int) (h0 : 0 ≤ i) (h1 : i < n) : ∃ ad A1 c1, A = some ad ∧ w.cell? (ad.add (i.toNat * 6)) = some (.int .i64 (rd_T46 xs i).f0) ∧ w.cell? ⟨(ad.add (i.toNat * 6)).block, (ad.add (i.toNat * 6)).off + 1, none⟩ = some (.slice A1 (rd_T46 xs i).f1.length c1) ∧ w.cell? ⟨(ad.add (i.toNat * 6)).block, (ad.add (i.toNat * 6)).off + 2, none⟩ = some (.int .i64 (rd_T46 xs i).f2) ∧ w.cell? ⟨(ad.add (i.toNat * 6)).block, (ad.add (i.toNat * 6)).off + 3, none⟩ = some (.int .u64 (rd_T46 xs i).f3) ∧ w.cell? ⟨(ad.add (i.toNat * 6)).block, (ad.add (i.toNat * 6)).off + 4, none⟩ = some (.string (rd_T46 xs i).f4) ∧ w.cell? ⟨(ad.add (i.toNat * 6)).block, (ad.add (i.toNat * 6)).off + 5, none⟩ = some (.int .u64 (rd_T46 xs i).f5) ∧ (rd_T46 xs i).f1.length ≤ c1 ∧ k46.C w A1 (rd_T46 xs i).f1.length (rd_T46 xs i).f1 := by
  obtain ⟨ad, c, e, _, hK, hc0⟩ := Kd.C_get h z46 i h0 h1
  have hc : ∀ j u, c[j]? = some u → w.cell? (ad.add (i.toNat * 6 + j)) = some u := hc0
  obtain ⟨A1, c1, rfl, l1, g1⟩ := k46_open hK
  exact ⟨ad, A1, c1, e, hc 0 _ rfl, by rw [← add_field _ _ 1 (by omega)]; exact hc 1 _ rfl, by rw [← add_field _ _ 2 (by omega)]; exact hc 2 _ rfl, by rw [← add_field _ _ 3 (by omega)]; exact hc 3 _ rfl, by rw [← add_field _ _ 4 (by omega)]; exact hc 4 _ rfl, by rw [← add_field _ _ 5 (by omega)]; exact hc 5 _ rfl, l1, g1⟩
structure S58 where
  f0 : (List Int)
  f1 : S46
  f2 : Int
def z58 : S58 := ⟨([] : List Int), z46, (0 : Int)⟩
def k58 : Kd S58 := Kd.iso (Kd.pair (Kd.slice 22 (Kd.int .u32)) (Kd.pair k46 (Kd.int .u32))) (fun x : S58 => (x.f0, x.f1, x.f2))
theorem k58_open {w : World} {x : S58} {cs : List Value} (h : k58.K w x cs) : ∃ A0 c0 A2 c2, cs = [.slice A0 x.f0.length c0, .int .i64 x.f1.f0, .slice A2 x.f1.f1.length c2, .int .i64 x.f1.f2, .int .u64 x.f1.f3, .string x.f1.f4, .int .u64 x.f1.f5, .int .u32 x.f2] ∧ x.f0.length ≤ c0 ∧ (Kd.int .u32).C w A0 x.f0.length x.f0 ∧ x.f1.f1.length ≤ c2 ∧ k46.C w A2 x.f1.f1.length x.f1.f1 := by
  obtain ⟨_, _, rfl, ⟨A0, c0, rfl, l0, g0⟩, ⟨_, _, rfl, s1, rfl⟩⟩ := h
  obtain ⟨A2, c2, rfl, l2, g2⟩ := k46_open s1
  exact ⟨A0, c0, A2, c2, rfl, l0, g0, l2, g2⟩
def rd_T58 (xs : List S58) (i : Int) : S58 := xs.getD i.toNat z58
theorem at_T58 {w : World} {A : Option Addr} {n : Nat} {xs : List S58} (h : Kd.C k58 w A n xs) (i : Int) (h0 : 0 ≤ i) (h1 : i < n) : ∃ ad A0 c0 A2 c2, A = some ad ∧ w.cell? (ad.add (i.toNat * 8)) = some (.slice A0 (rd_T58 xs i).f0.length c0) ∧ w.cell? ⟨(ad.add (i.toNat * 8)).block, (ad.add (i.toNat * 8)).off + 1, none⟩ = some (.int .i64 (rd_T58 xs i).f1.f0) ∧ w.cell? ⟨(ad.add (i.toNat * 8)).block, (ad.add (i.toNat * 8)).off + 2, none⟩ = some (.slice A2 (rd_T58 xs i).f1.f1.length c2) ∧ w.cell? ⟨(ad.add (i.toNat * 8)).block, (ad.add (i.toNat * 8)).off + 3, none⟩ = some (.int .i64 (rd_T58 xs i).f1.f2) ∧ w.cell? ⟨(ad.add (i.toNat * 8)).block, (ad.add (i.toNat * 8)).off + 4, none⟩ = some (.int .u64 (rd_T58 xs i).f1.f3) ∧ w.cell? ⟨(ad.add (i.toNat * 8)).block, (ad.add (i.toNat * 8)).off + 5, none⟩ = some (.string (rd_T58 xs i).f1.f4) ∧ w.cell? ⟨(ad.add (i.toNat * 8)).block, (ad.add (i.toNat * 8)).off + 6, none⟩ = some (.int .u64 (rd_T58 xs i).f1.f5) ∧ w.cell? ⟨(ad.add (i.toNat * 8)).block, (ad.add (i.toNat * 8)).off + 7, none⟩ = some (.int .u32 (rd_T58 xs i).f2) ∧ (rd_T58 xs i).f0.length ≤ c0 ∧ (Kd.int .u32).C w A0 (rd_T58 xs i).f0.length (rd_T58 xs i).f0 ∧ (rd_T58 xs i).f1.f1.length ≤ c2 ∧ k46.C w A2 (rd_T58 xs i).f1.f1.length (rd_T58 xs i).f1.f1 := by
  obtain ⟨ad, c, e, _, hK, hc0⟩ := Kd.C_get h z58 i h0 h1
  have hc : ∀ j u, c[j]? = some u → w.cell? (ad.add (i.toNat * 8 + j)) = some u := hc0
  obtain ⟨A0, c0, A2, c2, rfl, l0, g0, l2, g2⟩ := k58_open hK
  exact ⟨ad, A0, c0, A2, c2, e, hc 0 _ rfl, by rw [← add_field _ _ 1 (by omega)]; exact hc 1 _ rfl, by rw [← add_field _ _ 2 (by omega)]; exact hc 2 _ rfl, by rw [← add_field _ _ 3 (by omega)]; exact hc 3 _ rfl, by rw [← add_field _ _ 4 (by omega)]; exact hc 4 _ rfl, by rw [← add_field _ _ 5 (by omega)]; exact hc 5 _ rfl, by rw [← add_field _ _ 6 (by omega)]; exact hc 6 _ rfl, by rw [← add_field _ _ 7 (by omega)]; exact hc 7 _ rfl, l0, g0, l2, g2⟩
end Go.Proofs.Ytoeklekjhaigoaa.M0
end
section
namespace Go.Proofs.Ytoeklekjhaigoaa.M0
open Go.Proofs.Ytoeklekjhaigoaa.Al Go.RowKit Go.Proofs.YtoeklekjhaigoaaW.PrintWords Go.Proofs.YtoeklekjhaigoaaW.PrintLast Go.Proofs.YtoeklekjhaigoaaW.PrintMore
attribute [local go_sem] max2_int min2_int max_two min_two max_three min_three max_four min_four IntKind.wrap_u32 IntKind.wrap_u8   -- for this text's walks alone
set_option linter.unusedVariables false
open Go.Proofs.Ytoeklekjhaigoaa.Le Go.Proofs.Ytoeklekjhaigoaa.C1 Go.Proofs.Ytoeklekjhaigoaa.C2 Go.Proofs.Ytoeklekjhaigoaa.HAct Go.Proofs.Ytoeklekjhaigoaa.W0 Go.Proofs.Ytoeklekjhaigoaa.HFrom Go.Proofs.Ytoeklekjhaigoaa.W1 Go.Proofs.Ytoeklekjhaigoaa.R01 Go.Proofs.Ytoeklekjhaigoaa.HPack Go.Proofs.Ytoeklekjhaigoaa.HUnpack Go.Proofs.Ytoeklekjhaigoaa.HRefPack
set_option linter.unusedSimpArgs false
def doorwardref16_bare.f (a0_0 : Int) (l0_1 : List (S46)) (a0_2 : Int) (a0_3 : Int) (a0_4 : ByteArray) (a0_5 : Int) : Option (Bool) := if a0_2 = 0 then (if a0_3 = 0 then (if a0_4.toList = ([] : List UInt8) then (some (a0_5 == 0)) else (some false)) else (some false)) else (some false)
set_option maxHeartbeats 8000000 in
set_option maxRecDepth 100000 in
theorem doorwardref16_bare.calls (a0_0 : Int) (A0_1 : Option Addr) (c0_1 : Nat) (l0_1 : List (S46)) (a0_2 : Int) (a0_3 : Int) (a0_4 : ByteArray) (a0_5 : Int) (r : Bool) (w : World) (hr0_1 : Kd.C k46 w A0_1 l0_1.length l0_1) (hc0_1 : l0_1.length ≤ c0_1) (h : doorwardref16_bare.f a0_0 l0_1 a0_2 a0_3 a0_4 a0_5 = some r) :
    Calls Try.prog 107 #[.agg #[.int .i64 a0_0, .slice A0_1 l0_1.length c0_1, .int .i64 a0_2, .int .u64 a0_3, .string a0_4, .int .u64 a0_5]] w fun e w' => e = .returned (.bool r) ∧ Below w.heap.size w w' := by
  have hu46 := Try.underlying46
  have HR0_1 := amk hr0_1
  have HC0_1 := amk hc0_1
  clear hr0_1 hc0_1
  have HB := amk (Below.refl w.heap.size w)
  have H : (if a0_2 = 0 then (if a0_3 = 0 then (if a0_4.toList = ([] : List UInt8) then (some (a0_5 == 0)) else (some false)) else (some false)) else (some false)) = some r := h
  clear h
  by_cases c2 : a0_2 = 0
  · rw [if_pos c2] at H
    have c2b0 : (a0_2 == 0) = true := beq_iff_eq.mpr c2
    have c2b1 : (a0_2 != 0) = false := bne_eq_false_iff_eq.mpr c2
    clear c2
    by_cases c3 : a0_3 = 0
    · rw [if_pos c3] at H
      have c3b0 : (a0_3 == 0) = true := beq_iff_eq.mpr c3
      have c3b1 : (a0_3 != 0) = false := bne_eq_false_iff_eq.mpr c3
      clear c3
      by_cases c4 : a0_4.toList = ([] : List UInt8)
      · rw [if_pos c4] at H
        have c4b0 : (a0_4.toList == ([] : List UInt8)) = true := beq_iff_eq.mpr c4
        have c4b1 : (a0_4.toList != ([] : List UInt8)) = false := bne_eq_false_iff_eq.mpr c4
        clear c4
        obtain rfl := Option.some.inj H
        go_enter Try.func107, Try.ntmps107
        go_wp2_with (first | ((with_reducible refine gate_dst (N := 1) rfl ?_); refine box_event ?hg (N := 1) ?hd (cs := #[.int .i64 a0_0, .slice A0_1 l0_1.length c0_1, .int .i64 a0_2, .int .u64 a0_3, .string a0_4, .int .u64 a0_5]) (t := 46) ?hr ?_; (case hd => rfl); (case hg => rfl); (case hr => first | (go_simp; done) | (go_simp; rfl)); intro gb108 hg w5 hbox hb; have n0_ := amk (below_step (by repeat (first | (with_reducible first | exact HB.out | apply bal | apply pbd | apply below_drew1) | exact HB.out)) hb); have n1_ := amk (hbox); have n2_ := amk ((by rw [hg]; exact (below_size (by repeat (first | (with_reducible first | exact HB.out | apply bal | apply pbd | apply below_drew1) | exact HB.out))) : w.heap.size ≤ gb108)); have n3_ := amk ((by rw [hg]; exact (below_size (by repeat (first | (with_reducible first | exact HB.out | apply bal | apply pbd | apply below_drew1) | exact HB.out))) : w.heap.size ≤ gb108)); clear HB; have HB := n0_; have BK108 := n1_; have GW108 := n2_; have GE108 := n3_; clear n0_ n1_ n2_ n3_; clear hb hbox hg; have hcz6_0 : w5.cell? ⟨gb108, 0, none⟩ = some (.int .i64 a0_0) := (blk_cell BK108.out 0).trans rfl; have hcz6_1 : w5.cell? ⟨gb108, 1, none⟩ = some (.slice A0_1 l0_1.length c0_1) := (blk_cell BK108.out 1).trans rfl; have hcz6_2 : w5.cell? ⟨gb108, 2, none⟩ = some (.int .i64 a0_2) := (blk_cell BK108.out 2).trans rfl; have hcz6_3 : w5.cell? ⟨gb108, 3, none⟩ = some (.int .u64 a0_3) := (blk_cell BK108.out 3).trans rfl; have hcz6_4 : w5.cell? ⟨gb108, 4, none⟩ = some (.string a0_4) := (blk_cell BK108.out 4).trans rfl; have hcz6_5 : w5.cell? ⟨gb108, 5, none⟩ = some (.int .u64 a0_5) := (blk_cell BK108.out 5).trans rfl; have hfz6_0 := blk_frozen BK108.out 0; have hfz6_1 := blk_frozen BK108.out 1; have hfz6_2 := blk_frozen BK108.out 2; have hfz6_3 := blk_frozen BK108.out 3; have hfz6_4 := blk_frozen BK108.out 4; have hfz6_5 := blk_frozen BK108.out 5))
        go_ret
        exact ⟨by first | rfl | (simp [errW_none, errW_some] <;> rfl) | (simp [*, errW_none, errW_some] <;> rfl), by repeat (first | (with_reducible first | exact HB.out | apply bal | apply pbd | apply below_drew1 | refine below_set ?_ GE108.out) | exact HB.out)⟩
      · rw [if_neg c4] at H
        have c4b0 : (a0_4.toList == ([] : List UInt8)) = false := beq_eq_false_iff_ne.mpr c4
        have c4b1 : (a0_4.toList != ([] : List UInt8)) = true := bne_iff_ne.mpr c4
        obtain rfl := Option.some.inj H
        go_enter Try.func107, Try.ntmps107
        go_wp2_with (first | ((with_reducible refine gate_dst (N := 1) rfl ?_); refine box_event ?hg (N := 1) ?hd (cs := #[.int .i64 a0_0, .slice A0_1 l0_1.length c0_1, .int .i64 a0_2, .int .u64 a0_3, .string a0_4, .int .u64 a0_5]) (t := 46) ?hr ?_; (case hd => rfl); (case hg => rfl); (case hr => first | (go_simp; done) | (go_simp; rfl)); intro gb108 hg w7 hbox hb; have n0_ := amk (below_step (by repeat (first | (with_reducible first | exact HB.out | apply bal | apply pbd | apply below_drew1) | exact HB.out)) hb); have n1_ := amk (hbox); have n2_ := amk ((by rw [hg]; exact (below_size (by repeat (first | (with_reducible first | exact HB.out | apply bal | apply pbd | apply below_drew1) | exact HB.out))) : w.heap.size ≤ gb108)); have n3_ := amk ((by rw [hg]; exact (below_size (by repeat (first | (with_reducible first | exact HB.out | apply bal | apply pbd | apply below_drew1) | exact HB.out))) : w.heap.size ≤ gb108)); clear HB; have HB := n0_; have BK108 := n1_; have GW108 := n2_; have GE108 := n3_; clear n0_ n1_ n2_ n3_; clear hb hbox hg; have hcz8_0 : w7.cell? ⟨gb108, 0, none⟩ = some (.int .i64 a0_0) := (blk_cell BK108.out 0).trans rfl; have hcz8_1 : w7.cell? ⟨gb108, 1, none⟩ = some (.slice A0_1 l0_1.length c0_1) := (blk_cell BK108.out 1).trans rfl; have hcz8_2 : w7.cell? ⟨gb108, 2, none⟩ = some (.int .i64 a0_2) := (blk_cell BK108.out 2).trans rfl; have hcz8_3 : w7.cell? ⟨gb108, 3, none⟩ = some (.int .u64 a0_3) := (blk_cell BK108.out 3).trans rfl; have hcz8_4 : w7.cell? ⟨gb108, 4, none⟩ = some (.string a0_4) := (blk_cell BK108.out 4).trans rfl; have hcz8_5 : w7.cell? ⟨gb108, 5, none⟩ = some (.int .u64 a0_5) := (blk_cell BK108.out 5).trans rfl; have hfz8_0 := blk_frozen BK108.out 0; have hfz8_1 := blk_frozen BK108.out 1; have hfz8_2 := blk_frozen BK108.out 2; have hfz8_3 := blk_frozen BK108.out 3; have hfz8_4 := blk_frozen BK108.out 4; have hfz8_5 := blk_frozen BK108.out 5))
        go_ret
        exact ⟨by first | rfl | (simp [errW_none, errW_some] <;> rfl) | (simp [*, errW_none, errW_some] <;> rfl), by repeat (first | (with_reducible first | exact HB.out | apply bal | apply pbd | apply below_drew1 | refine below_set ?_ GE108.out) | exact HB.out)⟩
    · rw [if_neg c3] at H
      have c3b0 : (a0_3 == 0) = false := beq_eq_false_iff_ne.mpr c3
      have c3b1 : (a0_3 != 0) = true := bne_iff_ne.mpr c3
      obtain rfl := Option.some.inj H
      go_enter Try.func107, Try.ntmps107
      go_wp2_with (first | ((with_reducible refine gate_dst (N := 1) rfl ?_); refine box_event ?hg (N := 1) ?hd (cs := #[.int .i64 a0_0, .slice A0_1 l0_1.length c0_1, .int .i64 a0_2, .int .u64 a0_3, .string a0_4, .int .u64 a0_5]) (t := 46) ?hr ?_; (case hd => rfl); (case hg => rfl); (case hr => first | (go_simp; done) | (go_simp; rfl)); intro gb108 hg w9 hbox hb; have n0_ := amk (below_step (by repeat (first | (with_reducible first | exact HB.out | apply bal | apply pbd | apply below_drew1) | exact HB.out)) hb); have n1_ := amk (hbox); have n2_ := amk ((by rw [hg]; exact (below_size (by repeat (first | (with_reducible first | exact HB.out | apply bal | apply pbd | apply below_drew1) | exact HB.out))) : w.heap.size ≤ gb108)); have n3_ := amk ((by rw [hg]; exact (below_size (by repeat (first | (with_reducible first | exact HB.out | apply bal | apply pbd | apply below_drew1) | exact HB.out))) : w.heap.size ≤ gb108)); clear HB; have HB := n0_; have BK108 := n1_; have GW108 := n2_; have GE108 := n3_; clear n0_ n1_ n2_ n3_; clear hb hbox hg; have hcz10_0 : w9.cell? ⟨gb108, 0, none⟩ = some (.int .i64 a0_0) := (blk_cell BK108.out 0).trans rfl; have hcz10_1 : w9.cell? ⟨gb108, 1, none⟩ = some (.slice A0_1 l0_1.length c0_1) := (blk_cell BK108.out 1).trans rfl; have hcz10_2 : w9.cell? ⟨gb108, 2, none⟩ = some (.int .i64 a0_2) := (blk_cell BK108.out 2).trans rfl; have hcz10_3 : w9.cell? ⟨gb108, 3, none⟩ = some (.int .u64 a0_3) := (blk_cell BK108.out 3).trans rfl; have hcz10_4 : w9.cell? ⟨gb108, 4, none⟩ = some (.string a0_4) := (blk_cell BK108.out 4).trans rfl; have hcz10_5 : w9.cell? ⟨gb108, 5, none⟩ = some (.int .u64 a0_5) := (blk_cell BK108.out 5).trans rfl; have hfz10_0 := blk_frozen BK108.out 0; have hfz10_1 := blk_frozen BK108.out 1; have hfz10_2 := blk_frozen BK108.out 2; have hfz10_3 := blk_frozen BK108.out 3; have hfz10_4 := blk_frozen BK108.out 4; have hfz10_5 := blk_frozen BK108.out 5))
      go_ret
      exact ⟨by first | rfl | (simp [errW_none, errW_some] <;> rfl) | (simp [*, errW_none, errW_some] <;> rfl), by repeat (first | (with_reducible first | exact HB.out | apply bal | apply pbd | apply below_drew1 | refine below_set ?_ GE108.out) | exact HB.out)⟩
  · rw [if_neg c2] at H
    have c2b0 : (a0_2 == 0) = false := beq_eq_false_iff_ne.mpr c2
    have c2b1 : (a0_2 != 0) = true := bne_iff_ne.mpr c2
    obtain rfl := Option.some.inj H
    go_enter Try.func107, Try.ntmps107
    go_wp2_with (first | ((with_reducible refine gate_dst (N := 1) rfl ?_); refine box_event ?hg (N := 1) ?hd (cs := #[.int .i64 a0_0, .slice A0_1 l0_1.length c0_1, .int .i64 a0_2, .int .u64 a0_3, .string a0_4, .int .u64 a0_5]) (t := 46) ?hr ?_; (case hd => rfl); (case hg => rfl); (case hr => first | (go_simp; done) | (go_simp; rfl)); intro gb108 hg w11 hbox hb; have n0_ := amk (below_step (by repeat (first | (with_reducible first | exact HB.out | apply bal | apply pbd | apply below_drew1) | exact HB.out)) hb); have n1_ := amk (hbox); have n2_ := amk ((by rw [hg]; exact (below_size (by repeat (first | (with_reducible first | exact HB.out | apply bal | apply pbd | apply below_drew1) | exact HB.out))) : w.heap.size ≤ gb108)); have n3_ := amk ((by rw [hg]; exact (below_size (by repeat (first | (with_reducible first | exact HB.out | apply bal | apply pbd | apply below_drew1) | exact HB.out))) : w.heap.size ≤ gb108)); clear HB; have HB := n0_; have BK108 := n1_; have GW108 := n2_; have GE108 := n3_; clear n0_ n1_ n2_ n3_; clear hb hbox hg; have hcz12_0 : w11.cell? ⟨gb108, 0, none⟩ = some (.int .i64 a0_0) := (blk_cell BK108.out 0).trans rfl; have hcz12_1 : w11.cell? ⟨gb108, 1, none⟩ = some (.slice A0_1 l0_1.length c0_1) := (blk_cell BK108.out 1).trans rfl; have hcz12_2 : w11.cell? ⟨gb108, 2, none⟩ = some (.int .i64 a0_2) := (blk_cell BK108.out 2).trans rfl; have hcz12_3 : w11.cell? ⟨gb108, 3, none⟩ = some (.int .u64 a0_3) := (blk_cell BK108.out 3).trans rfl; have hcz12_4 : w11.cell? ⟨gb108, 4, none⟩ = some (.string a0_4) := (blk_cell BK108.out 4).trans rfl; have hcz12_5 : w11.cell? ⟨gb108, 5, none⟩ = some (.int .u64 a0_5) := (blk_cell BK108.out 5).trans rfl; have hfz12_0 := blk_frozen BK108.out 0; have hfz12_1 := blk_frozen BK108.out 1; have hfz12_2 := blk_frozen BK108.out 2; have hfz12_3 := blk_frozen BK108.out 3; have hfz12_4 := blk_frozen BK108.out 4; have hfz12_5 := blk_frozen BK108.out 5))
    go_ret
    exact ⟨by first | rfl | (simp [errW_none, errW_some] <;> rfl) | (simp [*, errW_none, errW_some] <;> rfl), by repeat (first | (with_reducible first | exact HB.out | apply bal | apply pbd | apply below_drew1 | refine below_set ?_ GE108.out) | exact HB.out)⟩
def doorwardref16_sign.f (a0 : ByteArray) : Option (Bool) := if a0.toList = ([61, 61] : List UInt8) then (some true) else (if a0.toList = ([33, 61] : List UInt8) then (some true) else (if a0.toList = ([60] : List UInt8) then (some true) else (if a0.toList = ([60, 61] : List UInt8) then (some true) else (if a0.toList = ([62] : List UInt8) then (some true) else (some (a0.toList == ([62, 61] : List UInt8)))))))
set_option maxHeartbeats 8000000 in
set_option maxRecDepth 100000 in
theorem doorwardref16_sign.calls (a0 : ByteArray) (r : Bool) (w : World) (h : doorwardref16_sign.f a0 = some r) :
    Calls Try.prog 126 #[.string a0] w fun e w' => e = .returned (.bool r) ∧ Drawn0 w w' := by
  have H : (if a0.toList = ([61, 61] : List UInt8) then (some true) else (if a0.toList = ([33, 61] : List UInt8) then (some true) else (if a0.toList = ([60] : List UInt8) then (some true) else (if a0.toList = ([60, 61] : List UInt8) then (some true) else (if a0.toList = ([62] : List UInt8) then (some true) else (some (a0.toList == ([62, 61] : List UInt8)))))))) = some r := h
  clear h
  by_cases c2 : a0.toList = ([61, 61] : List UInt8)
  · rw [if_pos c2] at H
    have c2b0 : (a0.toList == ([61, 61] : List UInt8)) = true := beq_iff_eq.mpr c2
    have c2b1 : (a0.toList != ([61, 61] : List UInt8)) = false := bne_eq_false_iff_eq.mpr c2
    clear c2
    obtain rfl := Option.some.inj H
    go_enter Try.func126, Try.ntmps126
    go_wp2
    go_ret
    exact ⟨by first | rfl | (simp; done) | (simp [*]; done), by repeat (first | exact Drawn0.refl _ | apply Drawn0.step)⟩
  · rw [if_neg c2] at H
    have c2b0 : (a0.toList == ([61, 61] : List UInt8)) = false := beq_eq_false_iff_ne.mpr c2
    have c2b1 : (a0.toList != ([61, 61] : List UInt8)) = true := bne_iff_ne.mpr c2
    by_cases c3 : a0.toList = ([33, 61] : List UInt8)
    · rw [if_pos c3] at H
      have c3b0 : (a0.toList == ([33, 61] : List UInt8)) = true := beq_iff_eq.mpr c3
      have c3b1 : (a0.toList != ([33, 61] : List UInt8)) = false := bne_eq_false_iff_eq.mpr c3
      clear c3
      obtain rfl := Option.some.inj H
      go_enter Try.func126, Try.ntmps126
      go_wp2
      go_ret
      exact ⟨by first | rfl | (simp; done) | (simp [*]; done), by repeat (first | exact Drawn0.refl _ | apply Drawn0.step)⟩
    · rw [if_neg c3] at H
      have c3b0 : (a0.toList == ([33, 61] : List UInt8)) = false := beq_eq_false_iff_ne.mpr c3
      have c3b1 : (a0.toList != ([33, 61] : List UInt8)) = true := bne_iff_ne.mpr c3
      by_cases c4 : a0.toList = ([60] : List UInt8)
      · rw [if_pos c4] at H
        have c4b0 : (a0.toList == ([60] : List UInt8)) = true := beq_iff_eq.mpr c4
        have c4b1 : (a0.toList != ([60] : List UInt8)) = false := bne_eq_false_iff_eq.mpr c4
        clear c4
        obtain rfl := Option.some.inj H
        go_enter Try.func126, Try.ntmps126
        go_wp2
        go_ret
        exact ⟨by first | rfl | (simp; done) | (simp [*]; done), by repeat (first | exact Drawn0.refl _ | apply Drawn0.step)⟩
      · rw [if_neg c4] at H
        have c4b0 : (a0.toList == ([60] : List UInt8)) = false := beq_eq_false_iff_ne.mpr c4
        have c4b1 : (a0.toList != ([60] : List UInt8)) = true := bne_iff_ne.mpr c4
        by_cases c5 : a0.toList = ([60, 61] : List UInt8)
        · rw [if_pos c5] at H
          have c5b0 : (a0.toList == ([60, 61] : List UInt8)) = true := beq_iff_eq.mpr c5
          have c5b1 : (a0.toList != ([60, 61] : List UInt8)) = false := bne_eq_false_iff_eq.mpr c5
          clear c5
          obtain rfl := Option.some.inj H
          go_enter Try.func126, Try.ntmps126
          go_wp2
          go_ret
          exact ⟨by first | rfl | (simp; done) | (simp [*]; done), by repeat (first | exact Drawn0.refl _ | apply Drawn0.step)⟩
        · rw [if_neg c5] at H
          have c5b0 : (a0.toList == ([60, 61] : List UInt8)) = false := beq_eq_false_iff_ne.mpr c5
          have c5b1 : (a0.toList != ([60, 61] : List UInt8)) = true := bne_iff_ne.mpr c5
          by_cases c6 : a0.toList = ([62] : List UInt8)
          · rw [if_pos c6] at H
            have c6b0 : (a0.toList == ([62] : List UInt8)) = true := beq_iff_eq.mpr c6
            have c6b1 : (a0.toList != ([62] : List UInt8)) = false := bne_eq_false_iff_eq.mpr c6
            clear c6
            obtain rfl := Option.some.inj H
            go_enter Try.func126, Try.ntmps126
            go_wp2
            go_ret
            exact ⟨by first | rfl | (simp; done) | (simp [*]; done), by repeat (first | exact Drawn0.refl _ | apply Drawn0.step)⟩
          · rw [if_neg c6] at H
            have c6b0 : (a0.toList == ([62] : List UInt8)) = false := beq_eq_false_iff_ne.mpr c6
            have c6b1 : (a0.toList != ([62] : List UInt8)) = true := bne_iff_ne.mpr c6
            obtain rfl := Option.some.inj H
            go_enter Try.func126, Try.ntmps126
            go_wp2
            go_ret
            exact ⟨by first | rfl | (simp; done) | (simp [*]; done), by repeat (first | exact Drawn0.refl _ | apply Drawn0.step)⟩
end Go.Proofs.Ytoeklekjhaigoaa.M0
end
section
namespace Go.Proofs.Ytoeklekjhaigoaa.M0
open Go.Proofs.Ytoeklekjhaigoaa.Al Go.RowKit Go.Proofs.YtoeklekjhaigoaaW.PrintWords Go.Proofs.YtoeklekjhaigoaaW.PrintLast Go.Proofs.YtoeklekjhaigoaaW.PrintMore
attribute [local go_sem] max2_int min2_int max_two min_two max_three min_three max_four min_four IntKind.wrap_u32 IntKind.wrap_u8   -- for this text's walks alone
set_option linter.unusedVariables false
open Go.Proofs.Ytoeklekjhaigoaa.Le Go.Proofs.Ytoeklekjhaigoaa.C1 Go.Proofs.Ytoeklekjhaigoaa.C2 Go.Proofs.Ytoeklekjhaigoaa.HAct Go.Proofs.Ytoeklekjhaigoaa.W0 Go.Proofs.Ytoeklekjhaigoaa.HFrom Go.Proofs.Ytoeklekjhaigoaa.W1 Go.Proofs.Ytoeklekjhaigoaa.R01 Go.Proofs.Ytoeklekjhaigoaa.HPack Go.Proofs.Ytoeklekjhaigoaa.HUnpack Go.Proofs.Ytoeklekjhaigoaa.HRefPack
set_option linter.unusedSimpArgs false
mutual
def doorwardref16_fits.j0 : Nat → Int → Bool → Int → List (S46) → Int → Int → ByteArray → Int → Option (Bool)
  | 0, _, _, _, _, _, _, _, _ => none
  | k + 1, x3, x46, x110000, x110001, x110002, x110003, x110004, x110005 => if x46 = true then (some false) else (if x110000 = 3 then (if x3 = 1 then (doorwardref16_fits.j1 k false x110000 x110001 x110002 x110003 x110004 x110005) else (doorwardref16_fits.j1 k true x110000 x110001 x110002 x110003 x110004 x110005)) else (doorwardref16_fits.j1 k (decide (x3 < 2)) x110000 x110001 x110002 x110003 x110004 x110005))
def doorwardref16_fits.j1 : Nat → Bool → Int → List (S46) → Int → Int → ByteArray → Int → Option (Bool)
  | 0, _, _, _, _, _, _, _ => none
  | k + 1, x62, x110000, x110001, x110002, x110003, x110004, x110005 => if x62 = true then (some false) else (doorwardref16_fits.l0 k x110001 (x110001.length : Int) 0)
def doorwardref16_fits.l0 : Nat → List (S46) → Int → Int → Option (Bool)
  | 0, _, _, _ => none
  | k + 1, x64, x65, x66 => if x66 < x65 then (if 0 ≤ x66 then (if x66 < (x64.length : Int) then ((doorwardref16_fits.f k ((rd_T46 x64 x66).f0) ((rd_T46 x64 x66).f1) ((rd_T46 x64 x66).f2) ((rd_T46 x64 x66).f3) ((rd_T46 x64 x66).f4) ((rd_T46 x64 x66).f5)).bind fun t114 => (if t114 = true then (doorwardref16_fits.l0 k x64 x65 (wrap64 (x66 + 1))) else (some false))) else (none)) else (none)) else (some true)
def doorwardref16_fits.f : Nat → Int → List (S46) → Int → Int → ByteArray → Int → Option (Bool)
  | 0, _, _, _, _, _, _ => none
  | k + 1, a0_0, l0_1, a0_2, a0_3, a0_4, a0_5 => if a0_0 = 4 then (if a0_2 ≥ 0 then (if a0_2 ≤ 5 then ((doorwardref16_sign.f a0_4).bind fun t110 => (if t110 = true then (some ((l0_1.length : Int) == 0)) else (some false))) else (some false)) else (some false)) else ((doorwardref16_bare.f a0_0 l0_1 a0_2 a0_3 a0_4 a0_5).bind fun t111 => (if t111 = true then (if a0_0 = 1 then (doorwardref16_fits.j0 k (l0_1.length : Int) false a0_0 l0_1 a0_2 a0_3 a0_4 a0_5) else (if a0_0 = 2 then (doorwardref16_fits.j0 k (l0_1.length : Int) false a0_0 l0_1 a0_2 a0_3 a0_4 a0_5) else (doorwardref16_fits.j0 k (l0_1.length : Int) (a0_0 != 3) a0_0 l0_1 a0_2 a0_3 a0_4 a0_5))) else (doorwardref16_fits.j0 k (l0_1.length : Int) true a0_0 l0_1 a0_2 a0_3 a0_4 a0_5)))
end
set_option maxHeartbeats 8000000 in
set_option maxRecDepth 100000 in
theorem doorwardref16_fits.calls (k : Nat) : ∀ (a0_0 : Int) (A0_1 : Option Addr) (c0_1 : Nat) (l0_1 : List (S46)) (a0_2 : Int) (a0_3 : Int) (a0_4 : ByteArray) (a0_5 : Int) (r : Bool) (w : World) (hr0_1 : Kd.C k46 w A0_1 l0_1.length l0_1) (hc0_1 : l0_1.length ≤ c0_1) (h : doorwardref16_fits.f k a0_0 l0_1 a0_2 a0_3 a0_4 a0_5 = some r),
    Calls Try.prog 91 #[.agg #[.int .i64 a0_0, .slice A0_1 l0_1.length c0_1, .int .i64 a0_2, .int .u64 a0_3, .string a0_4, .int .u64 a0_5]] w fun e w' => e = .returned (.bool r) ∧ Below w.heap.size w w' := by
  induction k using Nat.strongRecOn with
  | _ k ih =>
  intro a0_0 A0_1 c0_1 l0_1 a0_2 a0_3 a0_4 a0_5 r w hr0_1 hc0_1 h
  cases k with
  | zero => exact absurd h (by simp [doorwardref16_fits.f])
  | succ k =>
  simp only [doorwardref16_fits.f] at h
  have hu46 := Try.underlying46
  have HR0_1 := amk hr0_1
  have HC0_1 := amk hc0_1
  clear hr0_1 hc0_1
  have HB := amk (Below.refl w.heap.size w)
  have H : (if a0_0 = 4 then (if a0_2 ≥ 0 then (if a0_2 ≤ 5 then ((doorwardref16_sign.f a0_4).bind fun t110 => (if t110 = true then (some ((l0_1.length : Int) == 0)) else (some false))) else (some false)) else (some false)) else ((doorwardref16_bare.f a0_0 l0_1 a0_2 a0_3 a0_4 a0_5).bind fun t111 => (if t111 = true then (if a0_0 = 1 then (doorwardref16_fits.j0 k (l0_1.length : Int) false a0_0 l0_1 a0_2 a0_3 a0_4 a0_5) else (if a0_0 = 2 then (doorwardref16_fits.j0 k (l0_1.length : Int) false a0_0 l0_1 a0_2 a0_3 a0_4 a0_5) else (doorwardref16_fits.j0 k (l0_1.length : Int) (a0_0 != 3) a0_0 l0_1 a0_2 a0_3 a0_4 a0_5))) else (doorwardref16_fits.j0 k (l0_1.length : Int) true a0_0 l0_1 a0_2 a0_3 a0_4 a0_5)))) = some r := h
  clear h
  by_cases c2 : a0_0 = 4
  · rw [if_pos c2] at H
    have c2b0 : (a0_0 == 4) = true := beq_iff_eq.mpr c2
    have c2b1 : (a0_0 != 4) = false := bne_eq_false_iff_eq.mpr c2
    clear c2
    by_cases c3 : a0_2 ≥ 0
    · rw [if_pos c3] at H
      have c3b0 : decide (0 ≤ a0_2) = true := decide_eq_true c3
      clear c3
      by_cases c4 : a0_2 ≤ 5
      · rw [if_pos c4] at H
        have c4b0 : decide (a0_2 ≤ 5) = true := decide_eq_true c4
        clear c4
        replace H := Option.bind_eq_some_iff.mp H
        obtain ⟨t110, A50, H⟩ := H
        replace H : (if t110 = true then (some ((l0_1.length : Int) == 0)) else (some false)) = some r := H
        have A5 := amk A50
        clear A50
        by_cases c6 : t110 = true
        · subst c6
          have H1 : (some ((l0_1.length : Int) == 0)) = some r := by rw [if_pos rfl] at H; exact H
          clear H
          have H := H1
          clear H1
          obtain rfl := Option.some.inj H
          go_enter Try.func91, Try.ntmps91
          go_wp2_with (first | ((with_reducible refine gate_dst (N := 1) rfl ?_); refine box_event ?hg (N := 1) ?hd (cs := #[.int .i64 a0_0, .slice A0_1 l0_1.length c0_1, .int .i64 a0_2, .int .u64 a0_3, .string a0_4, .int .u64 a0_5]) (t := 46) ?hr ?_; (case hd => rfl); (case hg => rfl); (case hr => first | (go_simp; done) | (go_simp; rfl)); intro gb109 hg w7 hbox hb; have n0_ := amk (below_step (by repeat (first | (with_reducible first | exact HB.out | apply bal | apply pbd | apply below_drew1) | exact HB.out)) hb); have n1_ := amk (hbox); have n2_ := amk ((by rw [hg]; exact (below_size (by repeat (first | (with_reducible first | exact HB.out | apply bal | apply pbd | apply below_drew1) | exact HB.out))) : w.heap.size ≤ gb109)); have n3_ := amk ((by rw [hg]; exact (below_size (by repeat (first | (with_reducible first | exact HB.out | apply bal | apply pbd | apply below_drew1) | exact HB.out))) : w.heap.size ≤ gb109)); clear HB; have HB := n0_; have BK109 := n1_; have GW109 := n2_; have GE109 := n3_; clear n0_ n1_ n2_ n3_; clear hb hbox hg; have hcz8_0 : w7.cell? ⟨gb109, 0, none⟩ = some (.int .i64 a0_0) := (blk_cell BK109.out 0).trans rfl; have hcz8_1 : w7.cell? ⟨gb109, 1, none⟩ = some (.slice A0_1 l0_1.length c0_1) := (blk_cell BK109.out 1).trans rfl; have hcz8_2 : w7.cell? ⟨gb109, 2, none⟩ = some (.int .i64 a0_2) := (blk_cell BK109.out 2).trans rfl; have hcz8_3 : w7.cell? ⟨gb109, 3, none⟩ = some (.int .u64 a0_3) := (blk_cell BK109.out 3).trans rfl; have hcz8_4 : w7.cell? ⟨gb109, 4, none⟩ = some (.string a0_4) := (blk_cell BK109.out 4).trans rfl; have hcz8_5 : w7.cell? ⟨gb109, 5, none⟩ = some (.int .u64 a0_5) := (blk_cell BK109.out 5).trans rfl; have hfz8_0 := blk_frozen BK109.out 0; have hfz8_1 := blk_frozen BK109.out 1; have hfz8_2 := blk_frozen BK109.out 2; have hfz8_3 := blk_frozen BK109.out 3; have hfz8_4 := blk_frozen BK109.out 4; have hfz8_5 := blk_frozen BK109.out 5) | (go_at_call 126; (with_reducible refine (doorwardref16_sign.calls a0_4 true _ A5.out).mono ?_); rintro e w' ⟨rfl, ⟨nd, rfl⟩⟩))
          go_ret
          exact ⟨by first | rfl | (simp [errW_none, errW_some] <;> rfl) | (simp [*, errW_none, errW_some] <;> rfl), by repeat (first | (with_reducible first | exact HB.out | apply bal | apply pbd | apply below_drew1 | refine below_set ?_ GE109.out) | exact HB.out)⟩
        · replace c6 := Bool.eq_false_iff.mpr c6
          subst c6
          have H1 : (some false) = some r := by rw [if_neg (show ¬ (false = true) by decide)] at H; exact H
          clear H
          have H := H1
          clear H1
          obtain rfl := Option.some.inj H
          go_enter Try.func91, Try.ntmps91
          go_wp2_with (first | ((with_reducible refine gate_dst (N := 1) rfl ?_); refine box_event ?hg (N := 1) ?hd (cs := #[.int .i64 a0_0, .slice A0_1 l0_1.length c0_1, .int .i64 a0_2, .int .u64 a0_3, .string a0_4, .int .u64 a0_5]) (t := 46) ?hr ?_; (case hd => rfl); (case hg => rfl); (case hr => first | (go_simp; done) | (go_simp; rfl)); intro gb109 hg w9 hbox hb; have n0_ := amk (below_step (by repeat (first | (with_reducible first | exact HB.out | apply bal | apply pbd | apply below_drew1) | exact HB.out)) hb); have n1_ := amk (hbox); have n2_ := amk ((by rw [hg]; exact (below_size (by repeat (first | (with_reducible first | exact HB.out | apply bal | apply pbd | apply below_drew1) | exact HB.out))) : w.heap.size ≤ gb109)); have n3_ := amk ((by rw [hg]; exact (below_size (by repeat (first | (with_reducible first | exact HB.out | apply bal | apply pbd | apply below_drew1) | exact HB.out))) : w.heap.size ≤ gb109)); clear HB; have HB := n0_; have BK109 := n1_; have GW109 := n2_; have GE109 := n3_; clear n0_ n1_ n2_ n3_; clear hb hbox hg; have hcz10_0 : w9.cell? ⟨gb109, 0, none⟩ = some (.int .i64 a0_0) := (blk_cell BK109.out 0).trans rfl; have hcz10_1 : w9.cell? ⟨gb109, 1, none⟩ = some (.slice A0_1 l0_1.length c0_1) := (blk_cell BK109.out 1).trans rfl; have hcz10_2 : w9.cell? ⟨gb109, 2, none⟩ = some (.int .i64 a0_2) := (blk_cell BK109.out 2).trans rfl; have hcz10_3 : w9.cell? ⟨gb109, 3, none⟩ = some (.int .u64 a0_3) := (blk_cell BK109.out 3).trans rfl; have hcz10_4 : w9.cell? ⟨gb109, 4, none⟩ = some (.string a0_4) := (blk_cell BK109.out 4).trans rfl; have hcz10_5 : w9.cell? ⟨gb109, 5, none⟩ = some (.int .u64 a0_5) := (blk_cell BK109.out 5).trans rfl; have hfz10_0 := blk_frozen BK109.out 0; have hfz10_1 := blk_frozen BK109.out 1; have hfz10_2 := blk_frozen BK109.out 2; have hfz10_3 := blk_frozen BK109.out 3; have hfz10_4 := blk_frozen BK109.out 4; have hfz10_5 := blk_frozen BK109.out 5) | (go_at_call 126; (with_reducible refine (doorwardref16_sign.calls a0_4 false _ A5.out).mono ?_); rintro e w' ⟨rfl, ⟨nd, rfl⟩⟩))
          go_ret
          exact ⟨by first | rfl | (simp [errW_none, errW_some] <;> rfl) | (simp [*, errW_none, errW_some] <;> rfl), by repeat (first | (with_reducible first | exact HB.out | apply bal | apply pbd | apply below_drew1 | refine below_set ?_ GE109.out) | exact HB.out)⟩
      · rw [if_neg c4] at H
        have c4b0 : decide (a0_2 ≤ 5) = false := decide_eq_false c4
        clear c4
        obtain rfl := Option.some.inj H
        go_enter Try.func91, Try.ntmps91
        go_wp2_with (first | ((with_reducible refine gate_dst (N := 1) rfl ?_); refine box_event ?hg (N := 1) ?hd (cs := #[.int .i64 a0_0, .slice A0_1 l0_1.length c0_1, .int .i64 a0_2, .int .u64 a0_3, .string a0_4, .int .u64 a0_5]) (t := 46) ?hr ?_; (case hd => rfl); (case hg => rfl); (case hr => first | (go_simp; done) | (go_simp; rfl)); intro gb109 hg w11 hbox hb; have n0_ := amk (below_step (by repeat (first | (with_reducible first | exact HB.out | apply bal | apply pbd | apply below_drew1) | exact HB.out)) hb); have n1_ := amk (hbox); have n2_ := amk ((by rw [hg]; exact (below_size (by repeat (first | (with_reducible first | exact HB.out | apply bal | apply pbd | apply below_drew1) | exact HB.out))) : w.heap.size ≤ gb109)); have n3_ := amk ((by rw [hg]; exact (below_size (by repeat (first | (with_reducible first | exact HB.out | apply bal | apply pbd | apply below_drew1) | exact HB.out))) : w.heap.size ≤ gb109)); clear HB; have HB := n0_; have BK109 := n1_; have GW109 := n2_; have GE109 := n3_; clear n0_ n1_ n2_ n3_; clear hb hbox hg; have hcz12_0 : w11.cell? ⟨gb109, 0, none⟩ = some (.int .i64 a0_0) := (blk_cell BK109.out 0).trans rfl; have hcz12_1 : w11.cell? ⟨gb109, 1, none⟩ = some (.slice A0_1 l0_1.length c0_1) := (blk_cell BK109.out 1).trans rfl; have hcz12_2 : w11.cell? ⟨gb109, 2, none⟩ = some (.int .i64 a0_2) := (blk_cell BK109.out 2).trans rfl; have hcz12_3 : w11.cell? ⟨gb109, 3, none⟩ = some (.int .u64 a0_3) := (blk_cell BK109.out 3).trans rfl; have hcz12_4 : w11.cell? ⟨gb109, 4, none⟩ = some (.string a0_4) := (blk_cell BK109.out 4).trans rfl; have hcz12_5 : w11.cell? ⟨gb109, 5, none⟩ = some (.int .u64 a0_5) := (blk_cell BK109.out 5).trans rfl; have hfz12_0 := blk_frozen BK109.out 0; have hfz12_1 := blk_frozen BK109.out 1; have hfz12_2 := blk_frozen BK109.out 2; have hfz12_3 := blk_frozen BK109.out 3; have hfz12_4 := blk_frozen BK109.out 4; have hfz12_5 := blk_frozen BK109.out 5))
        go_ret
        exact ⟨by first | rfl | (simp [errW_none, errW_some] <;> rfl) | (simp [*, errW_none, errW_some] <;> rfl), by repeat (first | (with_reducible first | exact HB.out | apply bal | apply pbd | apply below_drew1 | refine below_set ?_ GE109.out) | exact HB.out)⟩
    · rw [if_neg c3] at H
      have c3b0 : decide (0 ≤ a0_2) = false := decide_eq_false c3
      clear c3
      obtain rfl := Option.some.inj H
      go_enter Try.func91, Try.ntmps91
      go_wp2_with (first | ((with_reducible refine gate_dst (N := 1) rfl ?_); refine box_event ?hg (N := 1) ?hd (cs := #[.int .i64 a0_0, .slice A0_1 l0_1.length c0_1, .int .i64 a0_2, .int .u64 a0_3, .string a0_4, .int .u64 a0_5]) (t := 46) ?hr ?_; (case hd => rfl); (case hg => rfl); (case hr => first | (go_simp; done) | (go_simp; rfl)); intro gb109 hg w13 hbox hb; have n0_ := amk (below_step (by repeat (first | (with_reducible first | exact HB.out | apply bal | apply pbd | apply below_drew1) | exact HB.out)) hb); have n1_ := amk (hbox); have n2_ := amk ((by rw [hg]; exact (below_size (by repeat (first | (with_reducible first | exact HB.out | apply bal | apply pbd | apply below_drew1) | exact HB.out))) : w.heap.size ≤ gb109)); have n3_ := amk ((by rw [hg]; exact (below_size (by repeat (first | (with_reducible first | exact HB.out | apply bal | apply pbd | apply below_drew1) | exact HB.out))) : w.heap.size ≤ gb109)); clear HB; have HB := n0_; have BK109 := n1_; have GW109 := n2_; have GE109 := n3_; clear n0_ n1_ n2_ n3_; clear hb hbox hg; have hcz14_0 : w13.cell? ⟨gb109, 0, none⟩ = some (.int .i64 a0_0) := (blk_cell BK109.out 0).trans rfl; have hcz14_1 : w13.cell? ⟨gb109, 1, none⟩ = some (.slice A0_1 l0_1.length c0_1) := (blk_cell BK109.out 1).trans rfl; have hcz14_2 : w13.cell? ⟨gb109, 2, none⟩ = some (.int .i64 a0_2) := (blk_cell BK109.out 2).trans rfl; have hcz14_3 : w13.cell? ⟨gb109, 3, none⟩ = some (.int .u64 a0_3) := (blk_cell BK109.out 3).trans rfl; have hcz14_4 : w13.cell? ⟨gb109, 4, none⟩ = some (.string a0_4) := (blk_cell BK109.out 4).trans rfl; have hcz14_5 : w13.cell? ⟨gb109, 5, none⟩ = some (.int .u64 a0_5) := (blk_cell BK109.out 5).trans rfl; have hfz14_0 := blk_frozen BK109.out 0; have hfz14_1 := blk_frozen BK109.out 1; have hfz14_2 := blk_frozen BK109.out 2; have hfz14_3 := blk_frozen BK109.out 3; have hfz14_4 := blk_frozen BK109.out 4; have hfz14_5 := blk_frozen BK109.out 5))
      go_ret
      exact ⟨by first | rfl | (simp [errW_none, errW_some] <;> rfl) | (simp [*, errW_none, errW_some] <;> rfl), by repeat (first | (with_reducible first | exact HB.out | apply bal | apply pbd | apply below_drew1 | refine below_set ?_ GE109.out) | exact HB.out)⟩
  · rw [if_neg c2] at H
    have c2b0 : (a0_0 == 4) = false := beq_eq_false_iff_ne.mpr c2
    have c2b1 : (a0_0 != 4) = true := bne_iff_ne.mpr c2
    have HC15 := amk H
    clear H
    go_enter Try.func91, Try.ntmps91
    go_upto_region 4 with (first | ((with_reducible refine gate_dst (N := 1) rfl ?_); refine box_event ?hg (N := 1) ?hd (cs := #[.int .i64 a0_0, .slice A0_1 l0_1.length c0_1, .int .i64 a0_2, .int .u64 a0_3, .string a0_4, .int .u64 a0_5]) (t := 46) ?hr ?_; (case hd => rfl); (case hg => rfl); (case hr => first | (go_simp; done) | (go_simp; rfl)); intro gb109 hg w16 hbox hb; have n0_ := amk (below_step (by repeat (first | (with_reducible first | exact HB.out | apply bal | apply pbd | apply below_drew1) | exact HB.out)) hb); have n1_ := amk (hbox); have n2_ := amk ((by rw [hg]; exact (below_size (by repeat (first | (with_reducible first | exact HB.out | apply bal | apply pbd | apply below_drew1) | exact HB.out))) : w.heap.size ≤ gb109)); have n3_ := amk ((by rw [hg]; exact (below_size (by repeat (first | (with_reducible first | exact HB.out | apply bal | apply pbd | apply below_drew1) | exact HB.out))) : w.heap.size ≤ gb109)); clear HB; have HB := n0_; have BK109 := n1_; have GW109 := n2_; have GE109 := n3_; clear n0_ n1_ n2_ n3_; clear hb hbox hg; have hcz17_0 : w16.cell? ⟨gb109, 0, none⟩ = some (.int .i64 a0_0) := (blk_cell BK109.out 0).trans rfl; have hcz17_1 : w16.cell? ⟨gb109, 1, none⟩ = some (.slice A0_1 l0_1.length c0_1) := (blk_cell BK109.out 1).trans rfl; have hcz17_2 : w16.cell? ⟨gb109, 2, none⟩ = some (.int .i64 a0_2) := (blk_cell BK109.out 2).trans rfl; have hcz17_3 : w16.cell? ⟨gb109, 3, none⟩ = some (.int .u64 a0_3) := (blk_cell BK109.out 3).trans rfl; have hcz17_4 : w16.cell? ⟨gb109, 4, none⟩ = some (.string a0_4) := (blk_cell BK109.out 4).trans rfl; have hcz17_5 : w16.cell? ⟨gb109, 5, none⟩ = some (.int .u64 a0_5) := (blk_cell BK109.out 5).trans rfl; have hfz17_0 := blk_frozen BK109.out 0; have hfz17_1 := blk_frozen BK109.out 1; have hfz17_2 := blk_frozen BK109.out 2; have hfz17_3 := blk_frozen BK109.out 3; have hfz17_4 := blk_frozen BK109.out 4; have hfz17_5 := blk_frozen BK109.out 5))
    (try simp only [Act.put, List.setIfInBounds_toArray, List.set_cons_zero, List.set_cons_succ])
    go_cut [46] (fun v46 wc => ∃ (kq : Nat) (x46_14 : Bool), v46 = .bool x46_14 ∧ Aside0 (doorwardref16_fits.j0 kq (l0_1.length : Int) x46_14 a0_0 l0_1 a0_2 a0_3 a0_4 a0_5 = some r) ∧ Aside0 (kq ≤ k) ∧ Aside0 (wc.heap[gb109]? = some (.cells #[.int .i64 a0_0, (.slice A0_1 l0_1.length c0_1), .int .i64 a0_2, .int .u64 a0_3, .string a0_4, .int .u64 a0_5] 46 (0, 0))) ∧ Aside0 (Below w.heap.size w wc))
    case first =>
      have H := HC15.out
      clear HC15
      replace H := Option.bind_eq_some_iff.mp H
      obtain ⟨t111, A180, H⟩ := H
      replace H : (if t111 = true then (if a0_0 = 1 then (doorwardref16_fits.j0 k (l0_1.length : Int) false a0_0 l0_1 a0_2 a0_3 a0_4 a0_5) else (if a0_0 = 2 then (doorwardref16_fits.j0 k (l0_1.length : Int) false a0_0 l0_1 a0_2 a0_3 a0_4 a0_5) else (doorwardref16_fits.j0 k (l0_1.length : Int) (a0_0 != 3) a0_0 l0_1 a0_2 a0_3 a0_4 a0_5))) else (doorwardref16_fits.j0 k (l0_1.length : Int) true a0_0 l0_1 a0_2 a0_3 a0_4 a0_5)) = some r := H
      have A18 := amk A180
      clear A180
      by_cases c19 : t111 = true
      · subst c19
        have H1 : (if a0_0 = 1 then (doorwardref16_fits.j0 k (l0_1.length : Int) false a0_0 l0_1 a0_2 a0_3 a0_4 a0_5) else (if a0_0 = 2 then (doorwardref16_fits.j0 k (l0_1.length : Int) false a0_0 l0_1 a0_2 a0_3 a0_4 a0_5) else (doorwardref16_fits.j0 k (l0_1.length : Int) (a0_0 != 3) a0_0 l0_1 a0_2 a0_3 a0_4 a0_5))) = some r := by rw [if_pos rfl] at H; exact H
        clear H
        have H := H1
        clear H1
        by_cases c20 : a0_0 = 1
        · rw [if_pos c20] at H
          have c20b0 : (a0_0 == 1) = true := beq_iff_eq.mpr c20
          have c20b1 : (a0_0 != 1) = false := bne_eq_false_iff_eq.mpr c20
          clear c20
          (first | rw [c20b0] | (simp only [i64_w, i32_w]; rw [c20b0]) | skip)
          have H' := amk H
          clear H
          have hcz21_0 : w16.cell? ⟨gb109, 0, none⟩ = some (.int .i64 a0_0) := (blk_cell BK109.out 0).trans rfl
          have hcz21_1 : w16.cell? ⟨gb109, 1, none⟩ = some (.slice A0_1 l0_1.length c0_1) := (blk_cell BK109.out 1).trans rfl
          have hcz21_2 : w16.cell? ⟨gb109, 2, none⟩ = some (.int .i64 a0_2) := (blk_cell BK109.out 2).trans rfl
          have hcz21_3 : w16.cell? ⟨gb109, 3, none⟩ = some (.int .u64 a0_3) := (blk_cell BK109.out 3).trans rfl
          have hcz21_4 : w16.cell? ⟨gb109, 4, none⟩ = some (.string a0_4) := (blk_cell BK109.out 4).trans rfl
          have hcz21_5 : w16.cell? ⟨gb109, 5, none⟩ = some (.int .u64 a0_5) := (blk_cell BK109.out 5).trans rfl
          have hfz21_0 := blk_frozen BK109.out 0
          have hfz21_1 := blk_frozen BK109.out 1
          have hfz21_2 := blk_frozen BK109.out 2
          have hfz21_3 := blk_frozen BK109.out 3
          have hfz21_4 := blk_frozen BK109.out 4
          have hfz21_5 := blk_frozen BK109.out 5
          go_wp2_with (first | ((with_reducible refine gate_callee (f := 107) rfl ?_); refine goesL_ (some 30) rfl rfl Try.func107 (by kernel_rfl) rfl #[.agg #[.int .i64 a0_0, .slice A0_1 l0_1.length c0_1, .int .i64 a0_2, .int .u64 a0_3, .string a0_4, .int .u64 a0_5]] rfl (by (try simp only [List.map_toArray, List.map_cons, List.map_nil]); first | done | rfl | (simp only [List.length_drop, List.length_take]; rfl)) ?_; (with_reducible refine (doorwardref16_bare.calls a0_0 _ _ l0_1 a0_2 a0_3 a0_4 a0_5 true _ ?side1 ?side2 A18.out).mono ?_); (case side1 => repeat (first | exact (Kd.C_below HR0_1.out HB.out) | (with_reducible refine Kd.C_alloc ?_ _) | (with_reducible refine Kd.C_drewN ?_ _) | (with_reducible refine Kd.C_drew ?_))); (case side2 => exact HC0_1.out); rintro e w22 ⟨rfl, hb⟩; refine ⟨_, rfl, ?_⟩; have n0_ := amk (blk_below (g := gb109) (o := .cells #[.int .i64 a0_0, .slice A0_1 l0_1.length c0_1, .int .i64 a0_2, .int .u64 a0_3, .string a0_4, .int .u64 a0_5] 46 (0, 0)) (by (with_reducible repeat (first | refine blk_drewN ?_ _ | refine blk_drew ?_ | refine blk_alloc ?_ _)); exact BK109.out) hb); have n1_ := amk (below_step (by repeat (first | (with_reducible first | exact HB.out | apply bal | apply pbd | apply below_drew1 | refine below_set ?_ GE109.out) | exact HB.out)) hb); clear BK109; clear HB; have BK109 := n0_; have HB := n1_; clear n0_ n1_; (try clear hb); (try clear hb2); (try clear hk); (try clear hi); have hcz23_0 : w22.cell? ⟨gb109, 0, none⟩ = some (.int .i64 a0_0) := (blk_cell BK109.out 0).trans rfl; have hcz23_1 : w22.cell? ⟨gb109, 1, none⟩ = some (.slice A0_1 l0_1.length c0_1) := (blk_cell BK109.out 1).trans rfl; have hcz23_2 : w22.cell? ⟨gb109, 2, none⟩ = some (.int .i64 a0_2) := (blk_cell BK109.out 2).trans rfl; have hcz23_3 : w22.cell? ⟨gb109, 3, none⟩ = some (.int .u64 a0_3) := (blk_cell BK109.out 3).trans rfl; have hcz23_4 : w22.cell? ⟨gb109, 4, none⟩ = some (.string a0_4) := (blk_cell BK109.out 4).trans rfl; have hcz23_5 : w22.cell? ⟨gb109, 5, none⟩ = some (.int .u64 a0_5) := (blk_cell BK109.out 5).trans rfl; have hfz23_0 := blk_frozen BK109.out 0; have hfz23_1 := blk_frozen BK109.out 1; have hfz23_2 := blk_frozen BK109.out 2; have hfz23_3 := blk_frozen BK109.out 3; have hfz23_4 := blk_frozen BK109.out 4; have hfz23_5 := blk_frozen BK109.out 5))
          go_meet
          case rel => exact ⟨_, (false), (by first | rfl | (simp; done) | (simp [*]; done)), H', ⟨by first | omega | exact Nat.le_refl _⟩, ⟨by (with_reducible repeat (first | refine blk_drewN ?_ _ | refine blk_drew ?_ | refine blk_alloc ?_ _)); exact BK109.out⟩, ⟨by repeat (first | (with_reducible first | exact HB.out | apply bal | apply pbd | apply below_drew1 | refine below_set ?_ GE109.out) | exact HB.out)⟩⟩
        · rw [if_neg c20] at H
          have c20b0 : (a0_0 == 1) = false := beq_eq_false_iff_ne.mpr c20
          have c20b1 : (a0_0 != 1) = true := bne_iff_ne.mpr c20
          (first | rw [c20b0] | (simp only [i64_w, i32_w]; rw [c20b0]) | skip)
          by_cases c24 : a0_0 = 2
          · rw [if_pos c24] at H
            have c24b0 : (a0_0 == 2) = true := beq_iff_eq.mpr c24
            have c24b1 : (a0_0 != 2) = false := bne_eq_false_iff_eq.mpr c24
            clear c24
            have H' := amk H
            clear H
            have hcz25_0 : w16.cell? ⟨gb109, 0, none⟩ = some (.int .i64 a0_0) := (blk_cell BK109.out 0).trans rfl
            have hcz25_1 : w16.cell? ⟨gb109, 1, none⟩ = some (.slice A0_1 l0_1.length c0_1) := (blk_cell BK109.out 1).trans rfl
            have hcz25_2 : w16.cell? ⟨gb109, 2, none⟩ = some (.int .i64 a0_2) := (blk_cell BK109.out 2).trans rfl
            have hcz25_3 : w16.cell? ⟨gb109, 3, none⟩ = some (.int .u64 a0_3) := (blk_cell BK109.out 3).trans rfl
            have hcz25_4 : w16.cell? ⟨gb109, 4, none⟩ = some (.string a0_4) := (blk_cell BK109.out 4).trans rfl
            have hcz25_5 : w16.cell? ⟨gb109, 5, none⟩ = some (.int .u64 a0_5) := (blk_cell BK109.out 5).trans rfl
            have hfz25_0 := blk_frozen BK109.out 0
            have hfz25_1 := blk_frozen BK109.out 1
            have hfz25_2 := blk_frozen BK109.out 2
            have hfz25_3 := blk_frozen BK109.out 3
            have hfz25_4 := blk_frozen BK109.out 4
            have hfz25_5 := blk_frozen BK109.out 5
            go_wp2_with (first | ((with_reducible refine gate_callee (f := 107) rfl ?_); refine goesL_ (some 30) rfl rfl Try.func107 (by kernel_rfl) rfl #[.agg #[.int .i64 a0_0, .slice A0_1 l0_1.length c0_1, .int .i64 a0_2, .int .u64 a0_3, .string a0_4, .int .u64 a0_5]] rfl (by (try simp only [List.map_toArray, List.map_cons, List.map_nil]); first | done | rfl | (simp only [List.length_drop, List.length_take]; rfl)) ?_; (with_reducible refine (doorwardref16_bare.calls a0_0 _ _ l0_1 a0_2 a0_3 a0_4 a0_5 true _ ?side1 ?side2 A18.out).mono ?_); (case side1 => repeat (first | exact (Kd.C_below HR0_1.out HB.out) | (with_reducible refine Kd.C_alloc ?_ _) | (with_reducible refine Kd.C_drewN ?_ _) | (with_reducible refine Kd.C_drew ?_))); (case side2 => exact HC0_1.out); rintro e w26 ⟨rfl, hb⟩; refine ⟨_, rfl, ?_⟩; have n0_ := amk (blk_below (g := gb109) (o := .cells #[.int .i64 a0_0, .slice A0_1 l0_1.length c0_1, .int .i64 a0_2, .int .u64 a0_3, .string a0_4, .int .u64 a0_5] 46 (0, 0)) (by (with_reducible repeat (first | refine blk_drewN ?_ _ | refine blk_drew ?_ | refine blk_alloc ?_ _)); exact BK109.out) hb); have n1_ := amk (below_step (by repeat (first | (with_reducible first | exact HB.out | apply bal | apply pbd | apply below_drew1 | refine below_set ?_ GE109.out) | exact HB.out)) hb); clear BK109; clear HB; have BK109 := n0_; have HB := n1_; clear n0_ n1_; (try clear hb); (try clear hb2); (try clear hk); (try clear hi); have hcz27_0 : w26.cell? ⟨gb109, 0, none⟩ = some (.int .i64 a0_0) := (blk_cell BK109.out 0).trans rfl; have hcz27_1 : w26.cell? ⟨gb109, 1, none⟩ = some (.slice A0_1 l0_1.length c0_1) := (blk_cell BK109.out 1).trans rfl; have hcz27_2 : w26.cell? ⟨gb109, 2, none⟩ = some (.int .i64 a0_2) := (blk_cell BK109.out 2).trans rfl; have hcz27_3 : w26.cell? ⟨gb109, 3, none⟩ = some (.int .u64 a0_3) := (blk_cell BK109.out 3).trans rfl; have hcz27_4 : w26.cell? ⟨gb109, 4, none⟩ = some (.string a0_4) := (blk_cell BK109.out 4).trans rfl; have hcz27_5 : w26.cell? ⟨gb109, 5, none⟩ = some (.int .u64 a0_5) := (blk_cell BK109.out 5).trans rfl; have hfz27_0 := blk_frozen BK109.out 0; have hfz27_1 := blk_frozen BK109.out 1; have hfz27_2 := blk_frozen BK109.out 2; have hfz27_3 := blk_frozen BK109.out 3; have hfz27_4 := blk_frozen BK109.out 4; have hfz27_5 := blk_frozen BK109.out 5))
            go_meet
            case rel => exact ⟨_, (false), (by first | rfl | (simp; done) | (simp [*]; done)), H', ⟨by first | omega | exact Nat.le_refl _⟩, ⟨by (with_reducible repeat (first | refine blk_drewN ?_ _ | refine blk_drew ?_ | refine blk_alloc ?_ _)); exact BK109.out⟩, ⟨by repeat (first | (with_reducible first | exact HB.out | apply bal | apply pbd | apply below_drew1 | refine below_set ?_ GE109.out) | exact HB.out)⟩⟩
          · rw [if_neg c24] at H
            have c24b0 : (a0_0 == 2) = false := beq_eq_false_iff_ne.mpr c24
            have c24b1 : (a0_0 != 2) = true := bne_iff_ne.mpr c24
            have H' := amk H
            clear H
            have hcz28_0 : w16.cell? ⟨gb109, 0, none⟩ = some (.int .i64 a0_0) := (blk_cell BK109.out 0).trans rfl
            have hcz28_1 : w16.cell? ⟨gb109, 1, none⟩ = some (.slice A0_1 l0_1.length c0_1) := (blk_cell BK109.out 1).trans rfl
            have hcz28_2 : w16.cell? ⟨gb109, 2, none⟩ = some (.int .i64 a0_2) := (blk_cell BK109.out 2).trans rfl
            have hcz28_3 : w16.cell? ⟨gb109, 3, none⟩ = some (.int .u64 a0_3) := (blk_cell BK109.out 3).trans rfl
            have hcz28_4 : w16.cell? ⟨gb109, 4, none⟩ = some (.string a0_4) := (blk_cell BK109.out 4).trans rfl
            have hcz28_5 : w16.cell? ⟨gb109, 5, none⟩ = some (.int .u64 a0_5) := (blk_cell BK109.out 5).trans rfl
            have hfz28_0 := blk_frozen BK109.out 0
            have hfz28_1 := blk_frozen BK109.out 1
            have hfz28_2 := blk_frozen BK109.out 2
            have hfz28_3 := blk_frozen BK109.out 3
            have hfz28_4 := blk_frozen BK109.out 4
            have hfz28_5 := blk_frozen BK109.out 5
            go_wp2_with (first | ((with_reducible refine gate_callee (f := 107) rfl ?_); refine goesL_ (some 30) rfl rfl Try.func107 (by kernel_rfl) rfl #[.agg #[.int .i64 a0_0, .slice A0_1 l0_1.length c0_1, .int .i64 a0_2, .int .u64 a0_3, .string a0_4, .int .u64 a0_5]] rfl (by (try simp only [List.map_toArray, List.map_cons, List.map_nil]); first | done | rfl | (simp only [List.length_drop, List.length_take]; rfl)) ?_; (with_reducible refine (doorwardref16_bare.calls a0_0 _ _ l0_1 a0_2 a0_3 a0_4 a0_5 true _ ?side1 ?side2 A18.out).mono ?_); (case side1 => repeat (first | exact (Kd.C_below HR0_1.out HB.out) | (with_reducible refine Kd.C_alloc ?_ _) | (with_reducible refine Kd.C_drewN ?_ _) | (with_reducible refine Kd.C_drew ?_))); (case side2 => exact HC0_1.out); rintro e w29 ⟨rfl, hb⟩; refine ⟨_, rfl, ?_⟩; have n0_ := amk (blk_below (g := gb109) (o := .cells #[.int .i64 a0_0, .slice A0_1 l0_1.length c0_1, .int .i64 a0_2, .int .u64 a0_3, .string a0_4, .int .u64 a0_5] 46 (0, 0)) (by (with_reducible repeat (first | refine blk_drewN ?_ _ | refine blk_drew ?_ | refine blk_alloc ?_ _)); exact BK109.out) hb); have n1_ := amk (below_step (by repeat (first | (with_reducible first | exact HB.out | apply bal | apply pbd | apply below_drew1 | refine below_set ?_ GE109.out) | exact HB.out)) hb); clear BK109; clear HB; have BK109 := n0_; have HB := n1_; clear n0_ n1_; (try clear hb); (try clear hb2); (try clear hk); (try clear hi); have hcz30_0 : w29.cell? ⟨gb109, 0, none⟩ = some (.int .i64 a0_0) := (blk_cell BK109.out 0).trans rfl; have hcz30_1 : w29.cell? ⟨gb109, 1, none⟩ = some (.slice A0_1 l0_1.length c0_1) := (blk_cell BK109.out 1).trans rfl; have hcz30_2 : w29.cell? ⟨gb109, 2, none⟩ = some (.int .i64 a0_2) := (blk_cell BK109.out 2).trans rfl; have hcz30_3 : w29.cell? ⟨gb109, 3, none⟩ = some (.int .u64 a0_3) := (blk_cell BK109.out 3).trans rfl; have hcz30_4 : w29.cell? ⟨gb109, 4, none⟩ = some (.string a0_4) := (blk_cell BK109.out 4).trans rfl; have hcz30_5 : w29.cell? ⟨gb109, 5, none⟩ = some (.int .u64 a0_5) := (blk_cell BK109.out 5).trans rfl; have hfz30_0 := blk_frozen BK109.out 0; have hfz30_1 := blk_frozen BK109.out 1; have hfz30_2 := blk_frozen BK109.out 2; have hfz30_3 := blk_frozen BK109.out 3; have hfz30_4 := blk_frozen BK109.out 4; have hfz30_5 := blk_frozen BK109.out 5))
            go_meet
            case rel => exact ⟨_, ((a0_0 != 3)), (by first | rfl | (simp; done) | (simp [*]; done)), H', ⟨by first | omega | exact Nat.le_refl _⟩, ⟨by (with_reducible repeat (first | refine blk_drewN ?_ _ | refine blk_drew ?_ | refine blk_alloc ?_ _)); exact BK109.out⟩, ⟨by repeat (first | (with_reducible first | exact HB.out | apply bal | apply pbd | apply below_drew1 | refine below_set ?_ GE109.out) | exact HB.out)⟩⟩
      · replace c19 := Bool.eq_false_iff.mpr c19
        subst c19
        have H1 : (doorwardref16_fits.j0 k (l0_1.length : Int) true a0_0 l0_1 a0_2 a0_3 a0_4 a0_5) = some r := by rw [if_neg (show ¬ (false = true) by decide)] at H; exact H
        clear H
        have H := H1
        clear H1
        have H' := amk H
        clear H
        have hcz31_0 : w16.cell? ⟨gb109, 0, none⟩ = some (.int .i64 a0_0) := (blk_cell BK109.out 0).trans rfl
        have hcz31_1 : w16.cell? ⟨gb109, 1, none⟩ = some (.slice A0_1 l0_1.length c0_1) := (blk_cell BK109.out 1).trans rfl
        have hcz31_2 : w16.cell? ⟨gb109, 2, none⟩ = some (.int .i64 a0_2) := (blk_cell BK109.out 2).trans rfl
        have hcz31_3 : w16.cell? ⟨gb109, 3, none⟩ = some (.int .u64 a0_3) := (blk_cell BK109.out 3).trans rfl
        have hcz31_4 : w16.cell? ⟨gb109, 4, none⟩ = some (.string a0_4) := (blk_cell BK109.out 4).trans rfl
        have hcz31_5 : w16.cell? ⟨gb109, 5, none⟩ = some (.int .u64 a0_5) := (blk_cell BK109.out 5).trans rfl
        have hfz31_0 := blk_frozen BK109.out 0
        have hfz31_1 := blk_frozen BK109.out 1
        have hfz31_2 := blk_frozen BK109.out 2
        have hfz31_3 := blk_frozen BK109.out 3
        have hfz31_4 := blk_frozen BK109.out 4
        have hfz31_5 := blk_frozen BK109.out 5
        go_wp2_with (first | ((with_reducible refine gate_callee (f := 107) rfl ?_); refine goesL_ (some 30) rfl rfl Try.func107 (by kernel_rfl) rfl #[.agg #[.int .i64 a0_0, .slice A0_1 l0_1.length c0_1, .int .i64 a0_2, .int .u64 a0_3, .string a0_4, .int .u64 a0_5]] rfl (by (try simp only [List.map_toArray, List.map_cons, List.map_nil]); first | done | rfl | (simp only [List.length_drop, List.length_take]; rfl)) ?_; (with_reducible refine (doorwardref16_bare.calls a0_0 _ _ l0_1 a0_2 a0_3 a0_4 a0_5 false _ ?side1 ?side2 A18.out).mono ?_); (case side1 => repeat (first | exact (Kd.C_below HR0_1.out HB.out) | (with_reducible refine Kd.C_alloc ?_ _) | (with_reducible refine Kd.C_drewN ?_ _) | (with_reducible refine Kd.C_drew ?_))); (case side2 => exact HC0_1.out); rintro e w32 ⟨rfl, hb⟩; refine ⟨_, rfl, ?_⟩; have n0_ := amk (blk_below (g := gb109) (o := .cells #[.int .i64 a0_0, .slice A0_1 l0_1.length c0_1, .int .i64 a0_2, .int .u64 a0_3, .string a0_4, .int .u64 a0_5] 46 (0, 0)) (by (with_reducible repeat (first | refine blk_drewN ?_ _ | refine blk_drew ?_ | refine blk_alloc ?_ _)); exact BK109.out) hb); have n1_ := amk (below_step (by repeat (first | (with_reducible first | exact HB.out | apply bal | apply pbd | apply below_drew1 | refine below_set ?_ GE109.out) | exact HB.out)) hb); clear BK109; clear HB; have BK109 := n0_; have HB := n1_; clear n0_ n1_; (try clear hb); (try clear hb2); (try clear hk); (try clear hi)))
        go_meet
        case rel => exact ⟨_, (true), (by first | rfl | (simp; done) | (simp [*]; done)), H', ⟨by first | omega | exact Nat.le_refl _⟩, ⟨by (with_reducible repeat (first | refine blk_drewN ?_ _ | refine blk_drew ?_ | refine blk_alloc ?_ _)); exact BK109.out⟩, ⟨by repeat (first | (with_reducible first | exact HB.out | apply bal | apply pbd | apply below_drew1 | refine below_set ?_ GE109.out) | exact HB.out)⟩⟩
    case rest =>
      clear HC15
      try clear c1
      try clear c2
      try clear c2b0
      try clear c2b1
      try clear p2
      try clear c3
      try clear c3b0
      try clear c4
      try clear c4b0
      try clear c6
      try clear c9
      try clear c10
      try clear c19
      try clear c20
      try clear c20b0
      try clear c20b1
      try clear c24
      try clear c24b0
      try clear c24b1
      try clear hcz10_0
      try clear hcz10_1
      try clear hcz10_2
      try clear hcz10_3
      try clear hcz10_4
      try clear hcz10_5
      try clear hcz12_0
      try clear hcz12_1
      try clear hcz12_2
      try clear hcz12_3
      try clear hcz12_4
      try clear hcz12_5
      try clear hcz14_0
      try clear hcz14_1
      try clear hcz14_2
      try clear hcz14_3
      try clear hcz14_4
      try clear hcz14_5
      try clear hcz17_0
      try clear hcz17_1
      try clear hcz17_2
      try clear hcz17_3
      try clear hcz17_4
      try clear hcz17_5
      try clear hcz21_0
      try clear hcz21_1
      try clear hcz21_2
      try clear hcz21_3
      try clear hcz21_4
      try clear hcz21_5
      try clear hcz23_0
      try clear hcz23_1
      try clear hcz23_2
      try clear hcz23_3
      try clear hcz23_4
      try clear hcz23_5
      try clear hcz25_0
      try clear hcz25_1
      try clear hcz25_2
      try clear hcz25_3
      try clear hcz25_4
      try clear hcz25_5
      try clear hcz27_0
      try clear hcz27_1
      try clear hcz27_2
      try clear hcz27_3
      try clear hcz27_4
      try clear hcz27_5
      try clear hcz28_0
      try clear hcz28_1
      try clear hcz28_2
      try clear hcz28_3
      try clear hcz28_4
      try clear hcz28_5
      try clear hcz30_0
      try clear hcz30_1
      try clear hcz30_2
      try clear hcz30_3
      try clear hcz30_4
      try clear hcz30_5
      try clear hcz31_0
      try clear hcz31_1
      try clear hcz31_2
      try clear hcz31_3
      try clear hcz31_4
      try clear hcz31_5
      try clear hcz8_0
      try clear hcz8_1
      try clear hcz8_2
      try clear hcz8_3
      try clear hcz8_4
      try clear hcz8_5
      try clear hfz10_0
      try clear hfz10_1
      try clear hfz10_2
      try clear hfz10_3
      try clear hfz10_4
      try clear hfz10_5
      try clear hfz12_0
      try clear hfz12_1
      try clear hfz12_2
      try clear hfz12_3
      try clear hfz12_4
      try clear hfz12_5
      try clear hfz14_0
      try clear hfz14_1
      try clear hfz14_2
      try clear hfz14_3
      try clear hfz14_4
      try clear hfz14_5
      try clear hfz17_0
      try clear hfz17_1
      try clear hfz17_2
      try clear hfz17_3
      try clear hfz17_4
      try clear hfz17_5
      try clear hfz21_0
      try clear hfz21_1
      try clear hfz21_2
      try clear hfz21_3
      try clear hfz21_4
      try clear hfz21_5
      try clear hfz23_0
      try clear hfz23_1
      try clear hfz23_2
      try clear hfz23_3
      try clear hfz23_4
      try clear hfz23_5
      try clear hfz25_0
      try clear hfz25_1
      try clear hfz25_2
      try clear hfz25_3
      try clear hfz25_4
      try clear hfz25_5
      try clear hfz27_0
      try clear hfz27_1
      try clear hfz27_2
      try clear hfz27_3
      try clear hfz27_4
      try clear hfz27_5
      try clear hfz28_0
      try clear hfz28_1
      try clear hfz28_2
      try clear hfz28_3
      try clear hfz28_4
      try clear hfz28_5
      try clear hfz30_0
      try clear hfz30_1
      try clear hfz30_2
      try clear hfz30_3
      try clear hfz30_4
      try clear hfz30_5
      try clear hfz31_0
      try clear hfz31_1
      try clear hfz31_2
      try clear hfz31_3
      try clear hfz31_4
      try clear hfz31_5
      try clear hfz8_0
      try clear hfz8_1
      try clear hfz8_2
      try clear hfz8_3
      try clear hfz8_4
      try clear hfz8_5
      obtain ⟨kq, x46_14, rfl, HA, HJ14, BK109, HB⟩ := hcut
      cases kq with
      | zero => exact absurd HA.out (by simp [doorwardref16_fits.j0])
      | succ kj14 =>
        have H := HA.out
        clear HA
        simp only [doorwardref16_fits.j0] at H
        by_cases c33 : x46_14 = true
        · subst c33
          have H1 : (some false) = some r := by rw [if_pos rfl] at H; exact H
          clear H
          have H := H1
          clear H1
          obtain rfl := Option.some.inj H
          go_wp2
          go_ret
          exact ⟨by first | rfl | (simp [errW_none, errW_some] <;> rfl) | (simp [*, errW_none, errW_some] <;> rfl), by repeat (first | (with_reducible first | exact HB.out | apply bal | apply pbd | apply below_drew1 | refine below_set ?_ GE109.out) | exact HB.out)⟩
        · replace c33 := Bool.eq_false_iff.mpr c33
          subst c33
          have H1 : (if a0_0 = 3 then (if (l0_1.length : Int) = 1 then (doorwardref16_fits.j1 kj14 false a0_0 l0_1 a0_2 a0_3 a0_4 a0_5) else (doorwardref16_fits.j1 kj14 true a0_0 l0_1 a0_2 a0_3 a0_4 a0_5)) else (doorwardref16_fits.j1 kj14 (decide ((l0_1.length : Int) < 2)) a0_0 l0_1 a0_2 a0_3 a0_4 a0_5)) = some r := by rw [if_neg (show ¬ (false = true) by decide)] at H; exact H
          clear H
          have H := H1
          clear H1
          have HC34 := amk H
          clear H
          go_upto_region 6 with (fail)
          go_cut [62] (fun v62 wc => ∃ (kq : Nat) (x62_33 : Bool), v62 = .bool x62_33 ∧ Aside0 (doorwardref16_fits.j1 kq x62_33 a0_0 l0_1 a0_2 a0_3 a0_4 a0_5 = some r) ∧ Aside0 (kq ≤ kj14) ∧ Aside0 (wc.heap[gb109]? = some (.cells #[.int .i64 a0_0, (.slice A0_1 l0_1.length c0_1), .int .i64 a0_2, .int .u64 a0_3, .string a0_4, .int .u64 a0_5] 46 (0, 0))) ∧ Aside0 (Below w.heap.size w wc))
          case first =>
            have H := HC34.out
            clear HC34
            by_cases c35 : a0_0 = 3
            · rw [if_pos c35] at H
              have c35b0 : (a0_0 == 3) = true := beq_iff_eq.mpr c35
              have c35b1 : (a0_0 != 3) = false := bne_eq_false_iff_eq.mpr c35
              clear c35
              (first | rw [c35b0] | (simp only [i64_w, i32_w]; rw [c35b0]) | skip)
              by_cases c36 : (l0_1.length : Int) = 1
              · rw [if_pos c36] at H
                have c36b0 : ((l0_1.length : Int) == 1) = true := beq_iff_eq.mpr c36
                have c36b1 : ((l0_1.length : Int) != 1) = false := bne_eq_false_iff_eq.mpr c36
                clear c36
                have H' := amk H
                clear H
                have hcz37_0 : wc.cell? ⟨gb109, 0, none⟩ = some (.int .i64 a0_0) := (blk_cell BK109.out 0).trans rfl
                have hcz37_1 : wc.cell? ⟨gb109, 1, none⟩ = some (.slice A0_1 l0_1.length c0_1) := (blk_cell BK109.out 1).trans rfl
                have hcz37_2 : wc.cell? ⟨gb109, 2, none⟩ = some (.int .i64 a0_2) := (blk_cell BK109.out 2).trans rfl
                have hcz37_3 : wc.cell? ⟨gb109, 3, none⟩ = some (.int .u64 a0_3) := (blk_cell BK109.out 3).trans rfl
                have hcz37_4 : wc.cell? ⟨gb109, 4, none⟩ = some (.string a0_4) := (blk_cell BK109.out 4).trans rfl
                have hcz37_5 : wc.cell? ⟨gb109, 5, none⟩ = some (.int .u64 a0_5) := (blk_cell BK109.out 5).trans rfl
                have hfz37_0 := blk_frozen BK109.out 0
                have hfz37_1 := blk_frozen BK109.out 1
                have hfz37_2 := blk_frozen BK109.out 2
                have hfz37_3 := blk_frozen BK109.out 3
                have hfz37_4 := blk_frozen BK109.out 4
                have hfz37_5 := blk_frozen BK109.out 5
                go_wp2
                go_meet
                case rel => exact ⟨_, (false), (by first | rfl | (simp; done) | (simp [*]; done)), H', ⟨by have := HJ14.out; first | omega | exact Nat.le_refl _⟩, ⟨by (with_reducible repeat (first | refine blk_drewN ?_ _ | refine blk_drew ?_ | refine blk_alloc ?_ _)); exact BK109.out⟩, ⟨by repeat (first | (with_reducible first | exact HB.out | apply bal | apply pbd | apply below_drew1 | refine below_set ?_ GE109.out) | exact HB.out)⟩⟩
              · rw [if_neg c36] at H
                have c36b0 : ((l0_1.length : Int) == 1) = false := beq_eq_false_iff_ne.mpr c36
                have c36b1 : ((l0_1.length : Int) != 1) = true := bne_iff_ne.mpr c36
                have H' := amk H
                clear H
                have hcz38_0 : wc.cell? ⟨gb109, 0, none⟩ = some (.int .i64 a0_0) := (blk_cell BK109.out 0).trans rfl
                have hcz38_1 : wc.cell? ⟨gb109, 1, none⟩ = some (.slice A0_1 l0_1.length c0_1) := (blk_cell BK109.out 1).trans rfl
                have hcz38_2 : wc.cell? ⟨gb109, 2, none⟩ = some (.int .i64 a0_2) := (blk_cell BK109.out 2).trans rfl
                have hcz38_3 : wc.cell? ⟨gb109, 3, none⟩ = some (.int .u64 a0_3) := (blk_cell BK109.out 3).trans rfl
                have hcz38_4 : wc.cell? ⟨gb109, 4, none⟩ = some (.string a0_4) := (blk_cell BK109.out 4).trans rfl
                have hcz38_5 : wc.cell? ⟨gb109, 5, none⟩ = some (.int .u64 a0_5) := (blk_cell BK109.out 5).trans rfl
                have hfz38_0 := blk_frozen BK109.out 0
                have hfz38_1 := blk_frozen BK109.out 1
                have hfz38_2 := blk_frozen BK109.out 2
                have hfz38_3 := blk_frozen BK109.out 3
                have hfz38_4 := blk_frozen BK109.out 4
                have hfz38_5 := blk_frozen BK109.out 5
                go_wp2
                go_meet
                case rel => exact ⟨_, (true), (by first | rfl | (simp; done) | (simp [*]; done)), H', ⟨by have := HJ14.out; first | omega | exact Nat.le_refl _⟩, ⟨by (with_reducible repeat (first | refine blk_drewN ?_ _ | refine blk_drew ?_ | refine blk_alloc ?_ _)); exact BK109.out⟩, ⟨by repeat (first | (with_reducible first | exact HB.out | apply bal | apply pbd | apply below_drew1 | refine below_set ?_ GE109.out) | exact HB.out)⟩⟩
            · rw [if_neg c35] at H
              have c35b0 : (a0_0 == 3) = false := beq_eq_false_iff_ne.mpr c35
              have c35b1 : (a0_0 != 3) = true := bne_iff_ne.mpr c35
              (first | rw [c35b0] | (simp only [i64_w, i32_w]; rw [c35b0]) | skip)
              have H' := amk H
              clear H
              have hcz39_0 : wc.cell? ⟨gb109, 0, none⟩ = some (.int .i64 a0_0) := (blk_cell BK109.out 0).trans rfl
              have hcz39_1 : wc.cell? ⟨gb109, 1, none⟩ = some (.slice A0_1 l0_1.length c0_1) := (blk_cell BK109.out 1).trans rfl
              have hcz39_2 : wc.cell? ⟨gb109, 2, none⟩ = some (.int .i64 a0_2) := (blk_cell BK109.out 2).trans rfl
              have hcz39_3 : wc.cell? ⟨gb109, 3, none⟩ = some (.int .u64 a0_3) := (blk_cell BK109.out 3).trans rfl
              have hcz39_4 : wc.cell? ⟨gb109, 4, none⟩ = some (.string a0_4) := (blk_cell BK109.out 4).trans rfl
              have hcz39_5 : wc.cell? ⟨gb109, 5, none⟩ = some (.int .u64 a0_5) := (blk_cell BK109.out 5).trans rfl
              have hfz39_0 := blk_frozen BK109.out 0
              have hfz39_1 := blk_frozen BK109.out 1
              have hfz39_2 := blk_frozen BK109.out 2
              have hfz39_3 := blk_frozen BK109.out 3
              have hfz39_4 := blk_frozen BK109.out 4
              have hfz39_5 := blk_frozen BK109.out 5
              go_wp2
              go_meet
              case rel => exact ⟨_, (decide ((l0_1.length : Int) < 2)), (by first | rfl | (simp; done) | (simp [*]; done)), H', ⟨by have := HJ14.out; first | omega | exact Nat.le_refl _⟩, ⟨by (with_reducible repeat (first | refine blk_drewN ?_ _ | refine blk_drew ?_ | refine blk_alloc ?_ _)); exact BK109.out⟩, ⟨by repeat (first | (with_reducible first | exact HB.out | apply bal | apply pbd | apply below_drew1 | refine below_set ?_ GE109.out) | exact HB.out)⟩⟩
          case rest =>
            clear HC34
            try clear c1
            try clear c2
            try clear c2b0
            try clear c2b1
            try clear p2
            try clear c3
            try clear c3b0
            try clear c4
            try clear c4b0
            try clear c6
            try clear c9
            try clear c10
            try clear c19
            try clear c20
            try clear c20b0
            try clear c20b1
            try clear c24
            try clear c24b0
            try clear c24b1
            try clear c33
            try clear c35
            try clear c35b0
            try clear c35b1
            try clear c36
            try clear c36b0
            try clear c36b1
            try clear hcz10_0
            try clear hcz10_1
            try clear hcz10_2
            try clear hcz10_3
            try clear hcz10_4
            try clear hcz10_5
            try clear hcz12_0
            try clear hcz12_1
            try clear hcz12_2
            try clear hcz12_3
            try clear hcz12_4
            try clear hcz12_5
            try clear hcz14_0
            try clear hcz14_1
            try clear hcz14_2
            try clear hcz14_3
            try clear hcz14_4
            try clear hcz14_5
            try clear hcz17_0
            try clear hcz17_1
            try clear hcz17_2
            try clear hcz17_3
            try clear hcz17_4
            try clear hcz17_5
            try clear hcz21_0
            try clear hcz21_1
            try clear hcz21_2
            try clear hcz21_3
            try clear hcz21_4
            try clear hcz21_5
            try clear hcz23_0
            try clear hcz23_1
            try clear hcz23_2
            try clear hcz23_3
            try clear hcz23_4
            try clear hcz23_5
            try clear hcz25_0
            try clear hcz25_1
            try clear hcz25_2
            try clear hcz25_3
            try clear hcz25_4
            try clear hcz25_5
            try clear hcz27_0
            try clear hcz27_1
            try clear hcz27_2
            try clear hcz27_3
            try clear hcz27_4
            try clear hcz27_5
            try clear hcz28_0
            try clear hcz28_1
            try clear hcz28_2
            try clear hcz28_3
            try clear hcz28_4
            try clear hcz28_5
            try clear hcz30_0
            try clear hcz30_1
            try clear hcz30_2
            try clear hcz30_3
            try clear hcz30_4
            try clear hcz30_5
            try clear hcz31_0
            try clear hcz31_1
            try clear hcz31_2
            try clear hcz31_3
            try clear hcz31_4
            try clear hcz31_5
            try clear hcz37_0
            try clear hcz37_1
            try clear hcz37_2
            try clear hcz37_3
            try clear hcz37_4
            try clear hcz37_5
            try clear hcz38_0
            try clear hcz38_1
            try clear hcz38_2
            try clear hcz38_3
            try clear hcz38_4
            try clear hcz38_5
            try clear hcz39_0
            try clear hcz39_1
            try clear hcz39_2
            try clear hcz39_3
            try clear hcz39_4
            try clear hcz39_5
            try clear hcz8_0
            try clear hcz8_1
            try clear hcz8_2
            try clear hcz8_3
            try clear hcz8_4
            try clear hcz8_5
            try clear hfz10_0
            try clear hfz10_1
            try clear hfz10_2
            try clear hfz10_3
            try clear hfz10_4
            try clear hfz10_5
            try clear hfz12_0
            try clear hfz12_1
            try clear hfz12_2
            try clear hfz12_3
            try clear hfz12_4
            try clear hfz12_5
            try clear hfz14_0
            try clear hfz14_1
            try clear hfz14_2
            try clear hfz14_3
            try clear hfz14_4
            try clear hfz14_5
            try clear hfz17_0
            try clear hfz17_1
            try clear hfz17_2
            try clear hfz17_3
            try clear hfz17_4
            try clear hfz17_5
            try clear hfz21_0
            try clear hfz21_1
            try clear hfz21_2
            try clear hfz21_3
            try clear hfz21_4
            try clear hfz21_5
            try clear hfz23_0
            try clear hfz23_1
            try clear hfz23_2
            try clear hfz23_3
            try clear hfz23_4
            try clear hfz23_5
            try clear hfz25_0
            try clear hfz25_1
            try clear hfz25_2
            try clear hfz25_3
            try clear hfz25_4
            try clear hfz25_5
            try clear hfz27_0
            try clear hfz27_1
            try clear hfz27_2
            try clear hfz27_3
            try clear hfz27_4
            try clear hfz27_5
            try clear hfz28_0
            try clear hfz28_1
            try clear hfz28_2
            try clear hfz28_3
            try clear hfz28_4
            try clear hfz28_5
            try clear hfz30_0
            try clear hfz30_1
            try clear hfz30_2
            try clear hfz30_3
            try clear hfz30_4
            try clear hfz30_5
            try clear hfz31_0
            try clear hfz31_1
            try clear hfz31_2
            try clear hfz31_3
            try clear hfz31_4
            try clear hfz31_5
            try clear hfz37_0
            try clear hfz37_1
            try clear hfz37_2
            try clear hfz37_3
            try clear hfz37_4
            try clear hfz37_5
            try clear hfz38_0
            try clear hfz38_1
            try clear hfz38_2
            try clear hfz38_3
            try clear hfz38_4
            try clear hfz38_5
            try clear hfz39_0
            try clear hfz39_1
            try clear hfz39_2
            try clear hfz39_3
            try clear hfz39_4
            try clear hfz39_5
            try clear hfz8_0
            try clear hfz8_1
            try clear hfz8_2
            try clear hfz8_3
            try clear hfz8_4
            try clear hfz8_5
            try clear p2
            obtain ⟨kq, x62_33, rfl, HA, HJ33, BK109, HB⟩ := hcut
            cases kq with
            | zero => exact absurd HA.out (by simp [doorwardref16_fits.j1])
            | succ kj33 =>
              have H := HA.out
              clear HA
              simp only [doorwardref16_fits.j1] at H
              by_cases c40 : x62_33 = true
              · subst c40
                have H1 : (some false) = some r := by rw [if_pos rfl] at H; exact H
                clear H
                have H := H1
                clear H1
                obtain rfl := Option.some.inj H
                go_wp2
                go_ret
                exact ⟨by first | rfl | (simp [errW_none, errW_some] <;> rfl) | (simp [*, errW_none, errW_some] <;> rfl), by repeat (first | (with_reducible first | exact HB.out | apply bal | apply pbd | apply below_drew1 | refine below_set ?_ GE109.out) | exact HB.out)⟩
              · replace c40 := Bool.eq_false_iff.mpr c40
                subst c40
                have H1 : (doorwardref16_fits.l0 kj33 l0_1 (l0_1.length : Int) 0) = some r := by rw [if_neg (show ¬ (false = true) by decide)] at H; exact H
                clear H
                have H := H1
                clear H1
                have H' := amk H
                clear H
                have hcz41_0 : wc.cell? ⟨gb109, 0, none⟩ = some (.int .i64 a0_0) := (blk_cell BK109.out 0).trans rfl
                have hcz41_1 : wc.cell? ⟨gb109, 1, none⟩ = some (.slice A0_1 l0_1.length c0_1) := (blk_cell BK109.out 1).trans rfl
                have hcz41_2 : wc.cell? ⟨gb109, 2, none⟩ = some (.int .i64 a0_2) := (blk_cell BK109.out 2).trans rfl
                have hcz41_3 : wc.cell? ⟨gb109, 3, none⟩ = some (.int .u64 a0_3) := (blk_cell BK109.out 3).trans rfl
                have hcz41_4 : wc.cell? ⟨gb109, 4, none⟩ = some (.string a0_4) := (blk_cell BK109.out 4).trans rfl
                have hcz41_5 : wc.cell? ⟨gb109, 5, none⟩ = some (.int .u64 a0_5) := (blk_cell BK109.out 5).trans rfl
                have hfz41_0 := blk_frozen BK109.out 0
                have hfz41_1 := blk_frozen BK109.out 1
                have hfz41_2 := blk_frozen BK109.out 2
                have hfz41_3 := blk_frozen BK109.out 3
                have hfz41_4 := blk_frozen BK109.out 4
                have hfz41_5 := blk_frozen BK109.out 5
                go_wp2
                go_loopg [66] kj33 (fun kq v66 w' => ∃ (x66_3 : Int), v66 = .int .i64 x66_3 ∧ Aside0 (doorwardref16_fits.l0 kq l0_1 (l0_1.length : Int) x66_3 = some r) ∧ Aside0 (kq ≤ kj33) ∧ Aside0 (w'.heap[gb109]? = some (.cells #[.int .i64 a0_0, (.slice A0_1 l0_1.length c0_1), .int .i64 a0_2, .int .u64 a0_3, .string a0_4, .int .u64 a0_5] 46 (0, 0))) ∧ Aside0 (Below w.heap.size w w'))
                case atStart => exact ⟨(0), (by first | rfl | (simp; done) | (simp [*]; done)), H', ⟨Nat.le_refl _⟩, ⟨by (with_reducible repeat (first | refine blk_drewN ?_ _ | refine blk_drew ?_ | refine blk_alloc ?_ _)); exact BK109.out⟩, ⟨by repeat (first | (with_reducible first | exact HB.out | apply bal | apply pbd | apply below_drew1 | refine below_set ?_ GE109.out) | exact HB.out)⟩⟩
                case round =>
                  clear H'
                  try clear c1
                  try clear c2
                  try clear c2b0
                  try clear c2b1
                  try clear p2
                  try clear c3
                  try clear c3b0
                  try clear c4
                  try clear c4b0
                  try clear c6
                  try clear c9
                  try clear c10
                  try clear c19
                  try clear c20
                  try clear c20b0
                  try clear c20b1
                  try clear c24
                  try clear c24b0
                  try clear c24b1
                  try clear c33
                  try clear c35
                  try clear c35b0
                  try clear c35b1
                  try clear c36
                  try clear c36b0
                  try clear c36b1
                  try clear c40
                  try clear hcz10_0
                  try clear hcz10_1
                  try clear hcz10_2
                  try clear hcz10_3
                  try clear hcz10_4
                  try clear hcz10_5
                  try clear hcz12_0
                  try clear hcz12_1
                  try clear hcz12_2
                  try clear hcz12_3
                  try clear hcz12_4
                  try clear hcz12_5
                  try clear hcz14_0
                  try clear hcz14_1
                  try clear hcz14_2
                  try clear hcz14_3
                  try clear hcz14_4
                  try clear hcz14_5
                  try clear hcz17_0
                  try clear hcz17_1
                  try clear hcz17_2
                  try clear hcz17_3
                  try clear hcz17_4
                  try clear hcz17_5
                  try clear hcz21_0
                  try clear hcz21_1
                  try clear hcz21_2
                  try clear hcz21_3
                  try clear hcz21_4
                  try clear hcz21_5
                  try clear hcz23_0
                  try clear hcz23_1
                  try clear hcz23_2
                  try clear hcz23_3
                  try clear hcz23_4
                  try clear hcz23_5
                  try clear hcz25_0
                  try clear hcz25_1
                  try clear hcz25_2
                  try clear hcz25_3
                  try clear hcz25_4
                  try clear hcz25_5
                  try clear hcz27_0
                  try clear hcz27_1
                  try clear hcz27_2
                  try clear hcz27_3
                  try clear hcz27_4
                  try clear hcz27_5
                  try clear hcz28_0
                  try clear hcz28_1
                  try clear hcz28_2
                  try clear hcz28_3
                  try clear hcz28_4
                  try clear hcz28_5
                  try clear hcz30_0
                  try clear hcz30_1
                  try clear hcz30_2
                  try clear hcz30_3
                  try clear hcz30_4
                  try clear hcz30_5
                  try clear hcz31_0
                  try clear hcz31_1
                  try clear hcz31_2
                  try clear hcz31_3
                  try clear hcz31_4
                  try clear hcz31_5
                  try clear hcz37_0
                  try clear hcz37_1
                  try clear hcz37_2
                  try clear hcz37_3
                  try clear hcz37_4
                  try clear hcz37_5
                  try clear hcz38_0
                  try clear hcz38_1
                  try clear hcz38_2
                  try clear hcz38_3
                  try clear hcz38_4
                  try clear hcz38_5
                  try clear hcz39_0
                  try clear hcz39_1
                  try clear hcz39_2
                  try clear hcz39_3
                  try clear hcz39_4
                  try clear hcz39_5
                  try clear hcz41_0
                  try clear hcz41_1
                  try clear hcz41_2
                  try clear hcz41_3
                  try clear hcz41_4
                  try clear hcz41_5
                  try clear hcz8_0
                  try clear hcz8_1
                  try clear hcz8_2
                  try clear hcz8_3
                  try clear hcz8_4
                  try clear hcz8_5
                  try clear hfz10_0
                  try clear hfz10_1
                  try clear hfz10_2
                  try clear hfz10_3
                  try clear hfz10_4
                  try clear hfz10_5
                  try clear hfz12_0
                  try clear hfz12_1
                  try clear hfz12_2
                  try clear hfz12_3
                  try clear hfz12_4
                  try clear hfz12_5
                  try clear hfz14_0
                  try clear hfz14_1
                  try clear hfz14_2
                  try clear hfz14_3
                  try clear hfz14_4
                  try clear hfz14_5
                  try clear hfz17_0
                  try clear hfz17_1
                  try clear hfz17_2
                  try clear hfz17_3
                  try clear hfz17_4
                  try clear hfz17_5
                  try clear hfz21_0
                  try clear hfz21_1
                  try clear hfz21_2
                  try clear hfz21_3
                  try clear hfz21_4
                  try clear hfz21_5
                  try clear hfz23_0
                  try clear hfz23_1
                  try clear hfz23_2
                  try clear hfz23_3
                  try clear hfz23_4
                  try clear hfz23_5
                  try clear hfz25_0
                  try clear hfz25_1
                  try clear hfz25_2
                  try clear hfz25_3
                  try clear hfz25_4
                  try clear hfz25_5
                  try clear hfz27_0
                  try clear hfz27_1
                  try clear hfz27_2
                  try clear hfz27_3
                  try clear hfz27_4
                  try clear hfz27_5
                  try clear hfz28_0
                  try clear hfz28_1
                  try clear hfz28_2
                  try clear hfz28_3
                  try clear hfz28_4
                  try clear hfz28_5
                  try clear hfz30_0
                  try clear hfz30_1
                  try clear hfz30_2
                  try clear hfz30_3
                  try clear hfz30_4
                  try clear hfz30_5
                  try clear hfz31_0
                  try clear hfz31_1
                  try clear hfz31_2
                  try clear hfz31_3
                  try clear hfz31_4
                  try clear hfz31_5
                  try clear hfz37_0
                  try clear hfz37_1
                  try clear hfz37_2
                  try clear hfz37_3
                  try clear hfz37_4
                  try clear hfz37_5
                  try clear hfz38_0
                  try clear hfz38_1
                  try clear hfz38_2
                  try clear hfz38_3
                  try clear hfz38_4
                  try clear hfz38_5
                  try clear hfz39_0
                  try clear hfz39_1
                  try clear hfz39_2
                  try clear hfz39_3
                  try clear hfz39_4
                  try clear hfz39_5
                  try clear hfz41_0
                  try clear hfz41_1
                  try clear hfz41_2
                  try clear hfz41_3
                  try clear hfz41_4
                  try clear hfz41_5
                  try clear hfz8_0
                  try clear hfz8_1
                  try clear hfz8_2
                  try clear hfz8_3
                  try clear hfz8_4
                  try clear hfz8_5
                  try clear p2
                  obtain ⟨x66_3, rfl, HA, HK3, BK109, HB⟩ := hrel
                  cases gk with
                  | zero => exact absurd HA.out (by simp [doorwardref16_fits.l0])
                  | succ k3 =>
                    have H := HA.out
                    clear HA
                    simp only [doorwardref16_fits.l0] at H
                    by_cases c42 : x66_3 < (l0_1.length : Int)
                    · rw [if_pos c42] at H
                      have c42b0 : decide (x66_3 < (l0_1.length : Int)) = true := decide_eq_true c42
                      clear c42
                      by_cases c43 : 0 ≤ x66_3
                      · rw [if_pos c43] at H
                        have c43b0 : decide (0 ≤ x66_3) = true := decide_eq_true c43
                        clear c43
                        by_cases c44 : x66_3 < (l0_1.length : Int)
                        · rw [if_pos c44] at H
                          have c44b0 : decide (x66_3 < (l0_1.length : Int)) = true := decide_eq_true c44
                          clear c44
                          replace H := Option.bind_eq_some_iff.mp H
                          obtain ⟨t114, A450, H⟩ := H
                          replace H : (if t114 = true then (doorwardref16_fits.l0 k3 l0_1 (l0_1.length : Int) (wrap64 (x66_3 + 1))) else (some false)) = some r := H
                          have A45 := amk A450
                          clear A450
                          by_cases c46 : t114 = true
                          · subst c46
                            have H1 : (doorwardref16_fits.l0 k3 l0_1 (l0_1.length : Int) (wrap64 (x66_3 + 1))) = some r := by rw [if_pos rfl] at H; exact H
                            clear H
                            have H := H1
                            clear H1
                            have H' := amk H
                            clear H
                            have p112 : 0 ≤ (x66_3 : Int) := of_decide_eq_true (by first | (with_reducible assumption) | assumption)
                            have q112 : x66_3 < (l0_1.length : Int) := of_decide_eq_true (by first | (with_reducible assumption) | assumption)
                            obtain ⟨ad112, A112_1, c112_1, e112, hx112_0, hx112_1, hx112_2, hx112_3, hx112_4, hx112_5, hl112_1, hi112_1⟩ := at_T46 HR0_1.out x66_3 p112 q112
                            cases e112
                            replace hx112_0 := (HB.out.cell (World.block_lt_of_cell? w _ hx112_0)).trans hx112_0
                            replace hx112_1 := (HB.out.cell (World.block_lt_of_cell? w _ hx112_1)).trans hx112_1
                            replace hx112_2 := (HB.out.cell (World.block_lt_of_cell? w _ hx112_2)).trans hx112_2
                            replace hx112_3 := (HB.out.cell (World.block_lt_of_cell? w _ hx112_3)).trans hx112_3
                            replace hx112_4 := (HB.out.cell (World.block_lt_of_cell? w _ hx112_4)).trans hx112_4
                            replace hx112_5 := (HB.out.cell (World.block_lt_of_cell? w _ hx112_5)).trans hx112_5
                            have HR112_1 := amk hi112_1
                            have HC112_1 := amk hl112_1
                            clear hi112_1 hl112_1
                            replace p112 := eq_true p112
                            replace q112 := eq_true q112
                            go_wp2_with (first | ((with_reducible refine gate_dst (N := 5) rfl ?_); refine box_event ?hg (N := 5) ?hd (cs := #[.int .i64 0, .slice none 0 0, .int .i64 0, .int .u64 0, .string (⟨#[]⟩ : ByteArray), .int .u64 0]) (t := 46) ?hr ?_; (case hd => rfl); (case hg => rfl); (case hr => first | (go_simp; done) | (go_simp; rfl)); intro gb113 hg w47 hbox hb; have n0_ := amk (blk_below (g := gb109) (o := .cells #[.int .i64 a0_0, .slice (some ad112) l0_1.length c0_1, .int .i64 a0_2, .int .u64 a0_3, .string a0_4, .int .u64 a0_5] 46 (0, 0)) (by (with_reducible repeat (first | refine blk_drewN ?_ _ | refine blk_drew ?_ | refine blk_alloc ?_ _)); exact BK109.out) hb); have n1_ := amk (below_step (by repeat (first | (with_reducible first | exact HB.out | apply bal | apply pbd | apply below_drew1 | refine below_set ?_ GE109.out) | exact HB.out)) hb); have n2_ := amk (hbox); have n3_ := amk ((by rw [hg]; exact (below_size (by repeat (first | (with_reducible first | exact HB.out | apply bal | apply pbd | apply below_drew1 | refine below_set ?_ GE109.out) | exact HB.out))) : w.heap.size ≤ gb113)); have n4_ := amk ((by rw [hg]; exact (below_size (by repeat (first | (with_reducible first | exact HB.out | apply bal | apply pbd | apply below_drew1 | refine below_set ?_ GE109.out) | exact HB.out))) : w.heap.size ≤ gb113)); have n5_ := amk ((by rw [hg]; exact Nat.ne_of_lt (blk_lt (g := gb109) (o := .cells #[.int .i64 a0_0, .slice (some ad112) l0_1.length c0_1, .int .i64 a0_2, .int .u64 a0_3, .string a0_4, .int .u64 a0_5] 46 (0, 0)) (by (with_reducible repeat (first | refine blk_drewN ?_ _ | refine blk_drew ?_ | refine blk_alloc ?_ _)); exact BK109.out)) : gb109 ≠ gb113)); have n6_ := amk ((by rw [hg]; exact Nat.ne_of_gt (blk_lt (g := gb109) (o := .cells #[.int .i64 a0_0, .slice (some ad112) l0_1.length c0_1, .int .i64 a0_2, .int .u64 a0_3, .string a0_4, .int .u64 a0_5] 46 (0, 0)) (by (with_reducible repeat (first | refine blk_drewN ?_ _ | refine blk_drew ?_ | refine blk_alloc ?_ _)); exact BK109.out)) : gb113 ≠ gb109)); clear BK109; clear HB; have BK109 := n0_; have HB := n1_; have BK113 := n2_; have GW113 := n3_; have GE113 := n4_; have NB109_113 := n5_; have NB113_109 := n6_; clear n0_ n1_ n2_ n3_ n4_ n5_ n6_; clear hb hbox hg; have hnb48 := NB113_109.out; have hnc48 := NB109_113.out; have hcz49_0 : w47.cell? ⟨gb113, 0, none⟩ = some (.int .i64 0) := (blk_cell BK113.out 0).trans rfl; have hcz49_1 : w47.cell? ⟨gb113, 1, none⟩ = some (.slice none 0 0) := (blk_cell BK113.out 1).trans rfl; have hcz49_2 : w47.cell? ⟨gb113, 2, none⟩ = some (.int .i64 0) := (blk_cell BK113.out 2).trans rfl; have hcz49_3 : w47.cell? ⟨gb113, 3, none⟩ = some (.int .u64 0) := (blk_cell BK113.out 3).trans rfl; have hcz49_4 : w47.cell? ⟨gb113, 4, none⟩ = some (.string (⟨#[]⟩ : ByteArray)) := (blk_cell BK113.out 4).trans rfl; have hcz49_5 : w47.cell? ⟨gb113, 5, none⟩ = some (.int .u64 0) := (blk_cell BK113.out 5).trans rfl; have hfz49_0 := blk_frozen BK113.out 0; have hfz49_1 := blk_frozen BK113.out 1; have hfz49_2 := blk_frozen BK113.out 2; have hfz49_3 := blk_frozen BK113.out 3; have hfz49_4 := blk_frozen BK113.out 4; have hfz49_5 := blk_frozen BK113.out 5) | ((with_reducible refine gate_callee (f := 91) rfl ?_); refine goesL_ (some 71) rfl rfl Try.func91 (by kernel_rfl) rfl #[.agg #[.int .i64 ((rd_T46 l0_1 x66_3).f0), .slice A112_1 ((rd_T46 l0_1 x66_3).f1).length c112_1, .int .i64 ((rd_T46 l0_1 x66_3).f2), .int .u64 ((rd_T46 l0_1 x66_3).f3), .string ((rd_T46 l0_1 x66_3).f4), .int .u64 ((rd_T46 l0_1 x66_3).f5)]] rfl (by (try simp only [List.map_toArray, List.map_cons, List.map_nil]); first | done | rfl | (simp only [List.length_drop, List.length_take]; rfl)) ?_; (with_reducible refine (ih k3 (by have := HJ14.out; have := HJ33.out; have := HK3.out; omega) ((rd_T46 l0_1 x66_3).f0) _ _ ((rd_T46 l0_1 x66_3).f1) ((rd_T46 l0_1 x66_3).f2) ((rd_T46 l0_1 x66_3).f3) ((rd_T46 l0_1 x66_3).f4) ((rd_T46 l0_1 x66_3).f5) true _ ?side1 ?side2 A45.out).mono ?_); (case side1 => exact Kd.C_below HR112_1.out (by repeat (first | (with_reducible first | exact HB.out | apply bal | apply pbd | apply below_drew1 | refine below_set ?_ GE109.out | refine below_set ?_ GE113.out) | exact HB.out))); (case side2 => exact HC112_1.out); rintro e w50 ⟨rfl, hb⟩; refine ⟨_, rfl, ?_⟩; have n0_ := amk (blk_below (g := gb109) (o := .cells #[.int .i64 a0_0, .slice (some ad112) l0_1.length c0_1, .int .i64 a0_2, .int .u64 a0_3, .string a0_4, .int .u64 a0_5] 46 (0, 0)) (by (with_reducible repeat (first | refine blk_drewN ?_ _ | refine blk_drew ?_ | refine blk_alloc ?_ _)); refine blk_far ?_ NB109_113.out _; (with_reducible repeat (first | refine blk_drewN ?_ _ | refine blk_drew ?_ | refine blk_alloc ?_ _)); refine blk_far ?_ NB109_113.out _; (with_reducible repeat (first | refine blk_drewN ?_ _ | refine blk_drew ?_ | refine blk_alloc ?_ _)); refine blk_far ?_ NB109_113.out _; (with_reducible repeat (first | refine blk_drewN ?_ _ | refine blk_drew ?_ | refine blk_alloc ?_ _)); refine blk_far ?_ NB109_113.out _; (with_reducible repeat (first | refine blk_drewN ?_ _ | refine blk_drew ?_ | refine blk_alloc ?_ _)); refine blk_far ?_ NB109_113.out _; (with_reducible repeat (first | refine blk_drewN ?_ _ | refine blk_drew ?_ | refine blk_alloc ?_ _)); refine blk_far ?_ NB109_113.out _; (with_reducible repeat (first | refine blk_drewN ?_ _ | refine blk_drew ?_ | refine blk_alloc ?_ _)); exact BK109.out) hb); have n1_ := amk (blk_below (g := gb113) (o := .cells #[.int .i64 ((rd_T46 l0_1 x66_3).f0), .slice A112_1 ((rd_T46 l0_1 x66_3).f1).length c112_1, .int .i64 ((rd_T46 l0_1 x66_3).f2), .int .u64 ((rd_T46 l0_1 x66_3).f3), .string ((rd_T46 l0_1 x66_3).f4), .int .u64 ((rd_T46 l0_1 x66_3).f5)] 46 (0, 0)) (by (with_reducible repeat (first | refine blk_drewN ?_ _ | refine blk_drew ?_ | refine blk_alloc ?_ _)); refine blk_put (cs := #[.int .i64 ((rd_T46 l0_1 x66_3).f0), .slice A112_1 ((rd_T46 l0_1 x66_3).f1).length c112_1, .int .i64 ((rd_T46 l0_1 x66_3).f2), .int .u64 ((rd_T46 l0_1 x66_3).f3), .string ((rd_T46 l0_1 x66_3).f4), .int .u64 0]) ?_ 5 _ rfl; (with_reducible repeat (first | refine blk_drewN ?_ _ | refine blk_drew ?_ | refine blk_alloc ?_ _)); refine blk_put (cs := #[.int .i64 ((rd_T46 l0_1 x66_3).f0), .slice A112_1 ((rd_T46 l0_1 x66_3).f1).length c112_1, .int .i64 ((rd_T46 l0_1 x66_3).f2), .int .u64 ((rd_T46 l0_1 x66_3).f3), .string (⟨#[]⟩ : ByteArray), .int .u64 0]) ?_ 4 _ rfl; (with_reducible repeat (first | refine blk_drewN ?_ _ | refine blk_drew ?_ | refine blk_alloc ?_ _)); refine blk_put (cs := #[.int .i64 ((rd_T46 l0_1 x66_3).f0), .slice A112_1 ((rd_T46 l0_1 x66_3).f1).length c112_1, .int .i64 ((rd_T46 l0_1 x66_3).f2), .int .u64 0, .string (⟨#[]⟩ : ByteArray), .int .u64 0]) ?_ 3 _ rfl; (with_reducible repeat (first | refine blk_drewN ?_ _ | refine blk_drew ?_ | refine blk_alloc ?_ _)); refine blk_put (cs := #[.int .i64 ((rd_T46 l0_1 x66_3).f0), .slice A112_1 ((rd_T46 l0_1 x66_3).f1).length c112_1, .int .i64 0, .int .u64 0, .string (⟨#[]⟩ : ByteArray), .int .u64 0]) ?_ 2 _ rfl; (with_reducible repeat (first | refine blk_drewN ?_ _ | refine blk_drew ?_ | refine blk_alloc ?_ _)); refine blk_put (cs := #[.int .i64 ((rd_T46 l0_1 x66_3).f0), .slice none 0 0, .int .i64 0, .int .u64 0, .string (⟨#[]⟩ : ByteArray), .int .u64 0]) ?_ 1 _ rfl; (with_reducible repeat (first | refine blk_drewN ?_ _ | refine blk_drew ?_ | refine blk_alloc ?_ _)); refine blk_put (cs := #[.int .i64 0, .slice none 0 0, .int .i64 0, .int .u64 0, .string (⟨#[]⟩ : ByteArray), .int .u64 0]) ?_ 0 _ rfl; (with_reducible repeat (first | refine blk_drewN ?_ _ | refine blk_drew ?_ | refine blk_alloc ?_ _)); exact BK113.out) hb); have n2_ := amk (below_step (by repeat (first | (with_reducible first | exact HB.out | apply bal | apply pbd | apply below_drew1 | refine below_set ?_ GE109.out | refine below_set ?_ GE113.out) | exact HB.out)) hb); clear BK109; clear BK113; clear HB; have BK109 := n0_; have BK113 := n1_; have HB := n2_; clear n0_ n1_ n2_; (try clear hb); (try clear hb2); (try clear hk); (try clear hi)))
                            go_roundg k3
                            case measure => have := HJ14.out; have := HJ33.out; have := HK3.out; omega
                            case rel => exact ⟨(wrap64 (x66_3 + 1)), (by first | rfl | (simp; done) | (simp [*]; done)), H', ⟨by have := HJ14.out; have := HJ33.out; have := HK3.out; omega⟩, ⟨by (with_reducible repeat (first | refine blk_drewN ?_ _ | refine blk_drew ?_ | refine blk_alloc ?_ _)); exact BK109.out⟩, ⟨by repeat (first | (with_reducible first | exact HB.out | apply bal | apply pbd | apply below_drew1 | refine below_set ?_ GE109.out | refine below_set ?_ GE113.out) | exact HB.out)⟩⟩
                          · replace c46 := Bool.eq_false_iff.mpr c46
                            subst c46
                            have H1 : (some false) = some r := by rw [if_neg (show ¬ (false = true) by decide)] at H; exact H
                            clear H
                            have H := H1
                            clear H1
                            obtain rfl := Option.some.inj H
                            have p112 : 0 ≤ (x66_3 : Int) := of_decide_eq_true (by first | (with_reducible assumption) | assumption)
                            have q112 : x66_3 < (l0_1.length : Int) := of_decide_eq_true (by first | (with_reducible assumption) | assumption)
                            obtain ⟨ad112, A112_1, c112_1, e112, hx112_0, hx112_1, hx112_2, hx112_3, hx112_4, hx112_5, hl112_1, hi112_1⟩ := at_T46 HR0_1.out x66_3 p112 q112
                            cases e112
                            replace hx112_0 := (HB.out.cell (World.block_lt_of_cell? w _ hx112_0)).trans hx112_0
                            replace hx112_1 := (HB.out.cell (World.block_lt_of_cell? w _ hx112_1)).trans hx112_1
                            replace hx112_2 := (HB.out.cell (World.block_lt_of_cell? w _ hx112_2)).trans hx112_2
                            replace hx112_3 := (HB.out.cell (World.block_lt_of_cell? w _ hx112_3)).trans hx112_3
                            replace hx112_4 := (HB.out.cell (World.block_lt_of_cell? w _ hx112_4)).trans hx112_4
                            replace hx112_5 := (HB.out.cell (World.block_lt_of_cell? w _ hx112_5)).trans hx112_5
                            have HR112_1 := amk hi112_1
                            have HC112_1 := amk hl112_1
                            clear hi112_1 hl112_1
                            replace p112 := eq_true p112
                            replace q112 := eq_true q112
                            go_wp2_with (first | ((with_reducible refine gate_dst (N := 5) rfl ?_); refine box_event ?hg (N := 5) ?hd (cs := #[.int .i64 0, .slice none 0 0, .int .i64 0, .int .u64 0, .string (⟨#[]⟩ : ByteArray), .int .u64 0]) (t := 46) ?hr ?_; (case hd => rfl); (case hg => rfl); (case hr => first | (go_simp; done) | (go_simp; rfl)); intro gb113 hg w51 hbox hb; have n0_ := amk (blk_below (g := gb109) (o := .cells #[.int .i64 a0_0, .slice (some ad112) l0_1.length c0_1, .int .i64 a0_2, .int .u64 a0_3, .string a0_4, .int .u64 a0_5] 46 (0, 0)) (by (with_reducible repeat (first | refine blk_drewN ?_ _ | refine blk_drew ?_ | refine blk_alloc ?_ _)); exact BK109.out) hb); have n1_ := amk (below_step (by repeat (first | (with_reducible first | exact HB.out | apply bal | apply pbd | apply below_drew1 | refine below_set ?_ GE109.out) | exact HB.out)) hb); have n2_ := amk (hbox); have n3_ := amk ((by rw [hg]; exact (below_size (by repeat (first | (with_reducible first | exact HB.out | apply bal | apply pbd | apply below_drew1 | refine below_set ?_ GE109.out) | exact HB.out))) : w.heap.size ≤ gb113)); have n4_ := amk ((by rw [hg]; exact (below_size (by repeat (first | (with_reducible first | exact HB.out | apply bal | apply pbd | apply below_drew1 | refine below_set ?_ GE109.out) | exact HB.out))) : w.heap.size ≤ gb113)); have n5_ := amk ((by rw [hg]; exact Nat.ne_of_lt (blk_lt (g := gb109) (o := .cells #[.int .i64 a0_0, .slice (some ad112) l0_1.length c0_1, .int .i64 a0_2, .int .u64 a0_3, .string a0_4, .int .u64 a0_5] 46 (0, 0)) (by (with_reducible repeat (first | refine blk_drewN ?_ _ | refine blk_drew ?_ | refine blk_alloc ?_ _)); exact BK109.out)) : gb109 ≠ gb113)); have n6_ := amk ((by rw [hg]; exact Nat.ne_of_gt (blk_lt (g := gb109) (o := .cells #[.int .i64 a0_0, .slice (some ad112) l0_1.length c0_1, .int .i64 a0_2, .int .u64 a0_3, .string a0_4, .int .u64 a0_5] 46 (0, 0)) (by (with_reducible repeat (first | refine blk_drewN ?_ _ | refine blk_drew ?_ | refine blk_alloc ?_ _)); exact BK109.out)) : gb113 ≠ gb109)); clear BK109; clear HB; have BK109 := n0_; have HB := n1_; have BK113 := n2_; have GW113 := n3_; have GE113 := n4_; have NB109_113 := n5_; have NB113_109 := n6_; clear n0_ n1_ n2_ n3_ n4_ n5_ n6_; clear hb hbox hg; have hnb52 := NB113_109.out; have hnc52 := NB109_113.out; have hcz53_0 : w51.cell? ⟨gb113, 0, none⟩ = some (.int .i64 0) := (blk_cell BK113.out 0).trans rfl; have hcz53_1 : w51.cell? ⟨gb113, 1, none⟩ = some (.slice none 0 0) := (blk_cell BK113.out 1).trans rfl; have hcz53_2 : w51.cell? ⟨gb113, 2, none⟩ = some (.int .i64 0) := (blk_cell BK113.out 2).trans rfl; have hcz53_3 : w51.cell? ⟨gb113, 3, none⟩ = some (.int .u64 0) := (blk_cell BK113.out 3).trans rfl; have hcz53_4 : w51.cell? ⟨gb113, 4, none⟩ = some (.string (⟨#[]⟩ : ByteArray)) := (blk_cell BK113.out 4).trans rfl; have hcz53_5 : w51.cell? ⟨gb113, 5, none⟩ = some (.int .u64 0) := (blk_cell BK113.out 5).trans rfl; have hfz53_0 := blk_frozen BK113.out 0; have hfz53_1 := blk_frozen BK113.out 1; have hfz53_2 := blk_frozen BK113.out 2; have hfz53_3 := blk_frozen BK113.out 3; have hfz53_4 := blk_frozen BK113.out 4; have hfz53_5 := blk_frozen BK113.out 5) | ((with_reducible refine gate_callee (f := 91) rfl ?_); refine goesL_ (some 71) rfl rfl Try.func91 (by kernel_rfl) rfl #[.agg #[.int .i64 ((rd_T46 l0_1 x66_3).f0), .slice A112_1 ((rd_T46 l0_1 x66_3).f1).length c112_1, .int .i64 ((rd_T46 l0_1 x66_3).f2), .int .u64 ((rd_T46 l0_1 x66_3).f3), .string ((rd_T46 l0_1 x66_3).f4), .int .u64 ((rd_T46 l0_1 x66_3).f5)]] rfl (by (try simp only [List.map_toArray, List.map_cons, List.map_nil]); first | done | rfl | (simp only [List.length_drop, List.length_take]; rfl)) ?_; (with_reducible refine (ih k3 (by have := HJ14.out; have := HJ33.out; have := HK3.out; omega) ((rd_T46 l0_1 x66_3).f0) _ _ ((rd_T46 l0_1 x66_3).f1) ((rd_T46 l0_1 x66_3).f2) ((rd_T46 l0_1 x66_3).f3) ((rd_T46 l0_1 x66_3).f4) ((rd_T46 l0_1 x66_3).f5) false _ ?side1 ?side2 A45.out).mono ?_); (case side1 => exact Kd.C_below HR112_1.out (by repeat (first | (with_reducible first | exact HB.out | apply bal | apply pbd | apply below_drew1 | refine below_set ?_ GE109.out | refine below_set ?_ GE113.out) | exact HB.out))); (case side2 => exact HC112_1.out); rintro e w54 ⟨rfl, hb⟩; refine ⟨_, rfl, ?_⟩; have n0_ := amk (blk_below (g := gb109) (o := .cells #[.int .i64 a0_0, .slice (some ad112) l0_1.length c0_1, .int .i64 a0_2, .int .u64 a0_3, .string a0_4, .int .u64 a0_5] 46 (0, 0)) (by (with_reducible repeat (first | refine blk_drewN ?_ _ | refine blk_drew ?_ | refine blk_alloc ?_ _)); refine blk_far ?_ NB109_113.out _; (with_reducible repeat (first | refine blk_drewN ?_ _ | refine blk_drew ?_ | refine blk_alloc ?_ _)); refine blk_far ?_ NB109_113.out _; (with_reducible repeat (first | refine blk_drewN ?_ _ | refine blk_drew ?_ | refine blk_alloc ?_ _)); refine blk_far ?_ NB109_113.out _; (with_reducible repeat (first | refine blk_drewN ?_ _ | refine blk_drew ?_ | refine blk_alloc ?_ _)); refine blk_far ?_ NB109_113.out _; (with_reducible repeat (first | refine blk_drewN ?_ _ | refine blk_drew ?_ | refine blk_alloc ?_ _)); refine blk_far ?_ NB109_113.out _; (with_reducible repeat (first | refine blk_drewN ?_ _ | refine blk_drew ?_ | refine blk_alloc ?_ _)); refine blk_far ?_ NB109_113.out _; (with_reducible repeat (first | refine blk_drewN ?_ _ | refine blk_drew ?_ | refine blk_alloc ?_ _)); exact BK109.out) hb); have n1_ := amk (blk_below (g := gb113) (o := .cells #[.int .i64 ((rd_T46 l0_1 x66_3).f0), .slice A112_1 ((rd_T46 l0_1 x66_3).f1).length c112_1, .int .i64 ((rd_T46 l0_1 x66_3).f2), .int .u64 ((rd_T46 l0_1 x66_3).f3), .string ((rd_T46 l0_1 x66_3).f4), .int .u64 ((rd_T46 l0_1 x66_3).f5)] 46 (0, 0)) (by (with_reducible repeat (first | refine blk_drewN ?_ _ | refine blk_drew ?_ | refine blk_alloc ?_ _)); refine blk_put (cs := #[.int .i64 ((rd_T46 l0_1 x66_3).f0), .slice A112_1 ((rd_T46 l0_1 x66_3).f1).length c112_1, .int .i64 ((rd_T46 l0_1 x66_3).f2), .int .u64 ((rd_T46 l0_1 x66_3).f3), .string ((rd_T46 l0_1 x66_3).f4), .int .u64 0]) ?_ 5 _ rfl; (with_reducible repeat (first | refine blk_drewN ?_ _ | refine blk_drew ?_ | refine blk_alloc ?_ _)); refine blk_put (cs := #[.int .i64 ((rd_T46 l0_1 x66_3).f0), .slice A112_1 ((rd_T46 l0_1 x66_3).f1).length c112_1, .int .i64 ((rd_T46 l0_1 x66_3).f2), .int .u64 ((rd_T46 l0_1 x66_3).f3), .string (⟨#[]⟩ : ByteArray), .int .u64 0]) ?_ 4 _ rfl; (with_reducible repeat (first | refine blk_drewN ?_ _ | refine blk_drew ?_ | refine blk_alloc ?_ _)); refine blk_put (cs := #[.int .i64 ((rd_T46 l0_1 x66_3).f0), .slice A112_1 ((rd_T46 l0_1 x66_3).f1).length c112_1, .int .i64 ((rd_T46 l0_1 x66_3).f2), .int .u64 0, .string (⟨#[]⟩ : ByteArray), .int .u64 0]) ?_ 3 _ rfl; (with_reducible repeat (first | refine blk_drewN ?_ _ | refine blk_drew ?_ | refine blk_alloc ?_ _)); refine blk_put (cs := #[.int .i64 ((rd_T46 l0_1 x66_3).f0), .slice A112_1 ((rd_T46 l0_1 x66_3).f1).length c112_1, .int .i64 0, .int .u64 0, .string (⟨#[]⟩ : ByteArray), .int .u64 0]) ?_ 2 _ rfl; (with_reducible repeat (first | refine blk_drewN ?_ _ | refine blk_drew ?_ | refine blk_alloc ?_ _)); refine blk_put (cs := #[.int .i64 ((rd_T46 l0_1 x66_3).f0), .slice none 0 0, .int .i64 0, .int .u64 0, .string (⟨#[]⟩ : ByteArray), .int .u64 0]) ?_ 1 _ rfl; (with_reducible repeat (first | refine blk_drewN ?_ _ | refine blk_drew ?_ | refine blk_alloc ?_ _)); refine blk_put (cs := #[.int .i64 0, .slice none 0 0, .int .i64 0, .int .u64 0, .string (⟨#[]⟩ : ByteArray), .int .u64 0]) ?_ 0 _ rfl; (with_reducible repeat (first | refine blk_drewN ?_ _ | refine blk_drew ?_ | refine blk_alloc ?_ _)); exact BK113.out) hb); have n2_ := amk (below_step (by repeat (first | (with_reducible first | exact HB.out | apply bal | apply pbd | apply below_drew1 | refine below_set ?_ GE109.out | refine below_set ?_ GE113.out) | exact HB.out)) hb); clear BK109; clear BK113; clear HB; have BK109 := n0_; have BK113 := n1_; have HB := n2_; clear n0_ n1_ n2_; (try clear hb); (try clear hb2); (try clear hk); (try clear hi)))
                            go_ret
                            exact ⟨by first | rfl | (simp [errW_none, errW_some] <;> rfl) | (simp [*, errW_none, errW_some] <;> rfl), by repeat (first | (with_reducible first | exact HB.out | apply bal | apply pbd | apply below_drew1 | refine below_set ?_ GE109.out | refine below_set ?_ GE113.out) | exact HB.out)⟩
                        · rw [if_neg c44] at H
                          exact absurd H (by simp)
                      · rw [if_neg c43] at H
                        exact absurd H (by simp)
                    · rw [if_neg c42] at H
                      have c42b0 : decide (x66_3 < (l0_1.length : Int)) = false := decide_eq_false c42
                      clear c42
                      obtain rfl := Option.some.inj H
                      go_wp2
                      go_ret
                      exact ⟨by first | rfl | (simp [errW_none, errW_some] <;> rfl) | (simp [*, errW_none, errW_some] <;> rfl), by repeat (first | (with_reducible first | exact HB.out | apply bal | apply pbd | apply below_drew1 | refine below_set ?_ GE109.out) | exact HB.out)⟩
end Go.Proofs.Ytoeklekjhaigoaa.M0
end
section
namespace Go.Proofs.Ytoeklekjhaigoaa.M0
open Go.Proofs.Ytoeklekjhaigoaa.Al Go.RowKit Go.Proofs.YtoeklekjhaigoaaW.PrintWords Go.Proofs.YtoeklekjhaigoaaW.PrintLast Go.Proofs.YtoeklekjhaigoaaW.PrintMore
attribute [local go_sem] max2_int min2_int max_two min_two max_three min_three max_four min_four IntKind.wrap_u32 IntKind.wrap_u8   -- for this text's walks alone
set_option linter.unusedVariables false
open Go.Proofs.Ytoeklekjhaigoaa.Le Go.Proofs.Ytoeklekjhaigoaa.C1 Go.Proofs.Ytoeklekjhaigoaa.C2 Go.Proofs.Ytoeklekjhaigoaa.HAct Go.Proofs.Ytoeklekjhaigoaa.W0 Go.Proofs.Ytoeklekjhaigoaa.HFrom Go.Proofs.Ytoeklekjhaigoaa.W1 Go.Proofs.Ytoeklekjhaigoaa.R01 Go.Proofs.Ytoeklekjhaigoaa.HPack Go.Proofs.Ytoeklekjhaigoaa.HUnpack Go.Proofs.Ytoeklekjhaigoaa.HRefPack
set_option linter.unusedSimpArgs false
def doorwardref16_None.f (a0_0 : Int) (l0_1 : List (S46)) (a0_2 : Int) (a0_3 : Int) (a0_4 : ByteArray) (a0_5 : Int) : Option (Bool) := if a0_0 = 0 then ((doorwardref16_bare.f a0_0 l0_1 a0_2 a0_3 a0_4 a0_5).bind fun t122 => (if t122 = true then (some ((l0_1.length : Int) == 0)) else (some false))) else (some false)
set_option maxHeartbeats 8000000 in
set_option maxRecDepth 100000 in
theorem doorwardref16_None.calls (a0_0 : Int) (A0_1 : Option Addr) (c0_1 : Nat) (l0_1 : List (S46)) (a0_2 : Int) (a0_3 : Int) (a0_4 : ByteArray) (a0_5 : Int) (r : Bool) (w : World) (hr0_1 : Kd.C k46 w A0_1 l0_1.length l0_1) (hc0_1 : l0_1.length ≤ c0_1) (h : doorwardref16_None.f a0_0 l0_1 a0_2 a0_3 a0_4 a0_5 = some r) :
    Calls Try.prog 71 #[.agg #[.int .i64 a0_0, .slice A0_1 l0_1.length c0_1, .int .i64 a0_2, .int .u64 a0_3, .string a0_4, .int .u64 a0_5]] w fun e w' => e = .returned (.bool r) ∧ Below w.heap.size w w' := by
  have hu46 := Try.underlying46
  have HR0_1 := amk hr0_1
  have HC0_1 := amk hc0_1
  clear hr0_1 hc0_1
  have HB := amk (Below.refl w.heap.size w)
  have H : (if a0_0 = 0 then ((doorwardref16_bare.f a0_0 l0_1 a0_2 a0_3 a0_4 a0_5).bind fun t122 => (if t122 = true then (some ((l0_1.length : Int) == 0)) else (some false))) else (some false)) = some r := h
  clear h
  by_cases c2 : a0_0 = 0
  · rw [if_pos c2] at H
    have c2b0 : (a0_0 == 0) = true := beq_iff_eq.mpr c2
    have c2b1 : (a0_0 != 0) = false := bne_eq_false_iff_eq.mpr c2
    clear c2
    replace H := Option.bind_eq_some_iff.mp H
    obtain ⟨t122, A30, H⟩ := H
    replace H : (if t122 = true then (some ((l0_1.length : Int) == 0)) else (some false)) = some r := H
    have A3 := amk A30
    clear A30
    by_cases c4 : t122 = true
    · subst c4
      have H1 : (some ((l0_1.length : Int) == 0)) = some r := by rw [if_pos rfl] at H; exact H
      clear H
      have H := H1
      clear H1
      obtain rfl := Option.some.inj H
      go_enter Try.func71, Try.ntmps71
      go_wp2_with (first | ((with_reducible refine gate_dst (N := 1) rfl ?_); (try (refine gate_guard (by rfl) ?_; dsimp only)); refine box_event ?hg (N := 1) ?hd (cs := #[.int .i64 a0_0, .slice A0_1 l0_1.length c0_1, .int .i64 a0_2, .int .u64 a0_3, .string a0_4, .int .u64 a0_5]) (t := 46) ?hr ?_; (case hd => rfl); (case hg => rfl); (case hr => first | (go_simp; done) | (go_simp; rfl)); intro gb121 hg w5 hbox hb; have n0_ := amk (below_step (by repeat (first | (with_reducible first | exact HB.out | apply bal | apply pbd | apply below_drew1) | exact HB.out)) hb); have n1_ := amk (hbox); have n2_ := amk ((by rw [hg]; exact (below_size (by repeat (first | (with_reducible first | exact HB.out | apply bal | apply pbd | apply below_drew1) | exact HB.out))) : w.heap.size ≤ gb121)); have n3_ := amk ((by rw [hg]; exact (below_size (by repeat (first | (with_reducible first | exact HB.out | apply bal | apply pbd | apply below_drew1) | exact HB.out))) : w.heap.size ≤ gb121)); clear HB; have HB := n0_; have BK121 := n1_; have GW121 := n2_; have GE121 := n3_; clear n0_ n1_ n2_ n3_; clear hb hbox hg; have hcz6_0 : w5.cell? ⟨gb121, 0, none⟩ = some (.int .i64 a0_0) := (blk_cell BK121.out 0).trans rfl; have hcz6_1 : w5.cell? ⟨gb121, 1, none⟩ = some (.slice A0_1 l0_1.length c0_1) := (blk_cell BK121.out 1).trans rfl; have hcz6_2 : w5.cell? ⟨gb121, 2, none⟩ = some (.int .i64 a0_2) := (blk_cell BK121.out 2).trans rfl; have hcz6_3 : w5.cell? ⟨gb121, 3, none⟩ = some (.int .u64 a0_3) := (blk_cell BK121.out 3).trans rfl; have hcz6_4 : w5.cell? ⟨gb121, 4, none⟩ = some (.string a0_4) := (blk_cell BK121.out 4).trans rfl; have hcz6_5 : w5.cell? ⟨gb121, 5, none⟩ = some (.int .u64 a0_5) := (blk_cell BK121.out 5).trans rfl; have hfz6_0 := blk_frozen BK121.out 0; have hfz6_1 := blk_frozen BK121.out 1; have hfz6_2 := blk_frozen BK121.out 2; have hfz6_3 := blk_frozen BK121.out 3; have hfz6_4 := blk_frozen BK121.out 4; have hfz6_5 := blk_frozen BK121.out 5) | (go_at_call 107; (with_reducible refine (doorwardref16_bare.calls a0_0 _ _ l0_1 a0_2 a0_3 a0_4 a0_5 true _ ?side1 ?side2 A3.out).mono ?_); (case side1 => repeat (first | exact (Kd.C_below HR0_1.out HB.out) | (with_reducible refine Kd.C_alloc ?_ _) | (with_reducible refine Kd.C_drewN ?_ _) | (with_reducible refine Kd.C_drew ?_))); (case side2 => exact HC0_1.out); rintro e w7 ⟨rfl, hb⟩; have n0_ := amk (blk_below (g := gb121) (o := .cells #[.int .i64 a0_0, .slice A0_1 l0_1.length c0_1, .int .i64 a0_2, .int .u64 a0_3, .string a0_4, .int .u64 a0_5] 46 (0, 0)) (by (with_reducible repeat (first | refine blk_drewN ?_ _ | refine blk_drew ?_ | refine blk_alloc ?_ _)); exact BK121.out) hb); have n1_ := amk (below_step (by repeat (first | (with_reducible first | exact HB.out | apply bal | apply pbd | apply below_drew1 | refine below_set ?_ GE121.out) | exact HB.out)) hb); clear BK121; clear HB; have BK121 := n0_; have HB := n1_; clear n0_ n1_; (try clear hb); (try clear hb2); (try clear hk); (try clear hi); have hcz8_0 : w7.cell? ⟨gb121, 0, none⟩ = some (.int .i64 a0_0) := (blk_cell BK121.out 0).trans rfl; have hcz8_1 : w7.cell? ⟨gb121, 1, none⟩ = some (.slice A0_1 l0_1.length c0_1) := (blk_cell BK121.out 1).trans rfl; have hcz8_2 : w7.cell? ⟨gb121, 2, none⟩ = some (.int .i64 a0_2) := (blk_cell BK121.out 2).trans rfl; have hcz8_3 : w7.cell? ⟨gb121, 3, none⟩ = some (.int .u64 a0_3) := (blk_cell BK121.out 3).trans rfl; have hcz8_4 : w7.cell? ⟨gb121, 4, none⟩ = some (.string a0_4) := (blk_cell BK121.out 4).trans rfl; have hcz8_5 : w7.cell? ⟨gb121, 5, none⟩ = some (.int .u64 a0_5) := (blk_cell BK121.out 5).trans rfl; have hfz8_0 := blk_frozen BK121.out 0; have hfz8_1 := blk_frozen BK121.out 1; have hfz8_2 := blk_frozen BK121.out 2; have hfz8_3 := blk_frozen BK121.out 3; have hfz8_4 := blk_frozen BK121.out 4; have hfz8_5 := blk_frozen BK121.out 5))
      go_ret
      exact ⟨by first | rfl | (simp [errW_none, errW_some] <;> rfl) | (simp [*, errW_none, errW_some] <;> rfl), by repeat (first | (with_reducible first | exact HB.out | apply bal | apply pbd | apply below_drew1 | refine below_set ?_ GE121.out) | exact HB.out)⟩
    · replace c4 := Bool.eq_false_iff.mpr c4
      subst c4
      have H1 : (some false) = some r := by rw [if_neg (show ¬ (false = true) by decide)] at H; exact H
      clear H
      have H := H1
      clear H1
      obtain rfl := Option.some.inj H
      go_enter Try.func71, Try.ntmps71
      go_wp2_with (first | ((with_reducible refine gate_dst (N := 1) rfl ?_); (try (refine gate_guard (by rfl) ?_; dsimp only)); refine box_event ?hg (N := 1) ?hd (cs := #[.int .i64 a0_0, .slice A0_1 l0_1.length c0_1, .int .i64 a0_2, .int .u64 a0_3, .string a0_4, .int .u64 a0_5]) (t := 46) ?hr ?_; (case hd => rfl); (case hg => rfl); (case hr => first | (go_simp; done) | (go_simp; rfl)); intro gb121 hg w9 hbox hb; have n0_ := amk (below_step (by repeat (first | (with_reducible first | exact HB.out | apply bal | apply pbd | apply below_drew1) | exact HB.out)) hb); have n1_ := amk (hbox); have n2_ := amk ((by rw [hg]; exact (below_size (by repeat (first | (with_reducible first | exact HB.out | apply bal | apply pbd | apply below_drew1) | exact HB.out))) : w.heap.size ≤ gb121)); have n3_ := amk ((by rw [hg]; exact (below_size (by repeat (first | (with_reducible first | exact HB.out | apply bal | apply pbd | apply below_drew1) | exact HB.out))) : w.heap.size ≤ gb121)); clear HB; have HB := n0_; have BK121 := n1_; have GW121 := n2_; have GE121 := n3_; clear n0_ n1_ n2_ n3_; clear hb hbox hg; have hcz10_0 : w9.cell? ⟨gb121, 0, none⟩ = some (.int .i64 a0_0) := (blk_cell BK121.out 0).trans rfl; have hcz10_1 : w9.cell? ⟨gb121, 1, none⟩ = some (.slice A0_1 l0_1.length c0_1) := (blk_cell BK121.out 1).trans rfl; have hcz10_2 : w9.cell? ⟨gb121, 2, none⟩ = some (.int .i64 a0_2) := (blk_cell BK121.out 2).trans rfl; have hcz10_3 : w9.cell? ⟨gb121, 3, none⟩ = some (.int .u64 a0_3) := (blk_cell BK121.out 3).trans rfl; have hcz10_4 : w9.cell? ⟨gb121, 4, none⟩ = some (.string a0_4) := (blk_cell BK121.out 4).trans rfl; have hcz10_5 : w9.cell? ⟨gb121, 5, none⟩ = some (.int .u64 a0_5) := (blk_cell BK121.out 5).trans rfl; have hfz10_0 := blk_frozen BK121.out 0; have hfz10_1 := blk_frozen BK121.out 1; have hfz10_2 := blk_frozen BK121.out 2; have hfz10_3 := blk_frozen BK121.out 3; have hfz10_4 := blk_frozen BK121.out 4; have hfz10_5 := blk_frozen BK121.out 5) | (go_at_call 107; (with_reducible refine (doorwardref16_bare.calls a0_0 _ _ l0_1 a0_2 a0_3 a0_4 a0_5 false _ ?side1 ?side2 A3.out).mono ?_); (case side1 => repeat (first | exact (Kd.C_below HR0_1.out HB.out) | (with_reducible refine Kd.C_alloc ?_ _) | (with_reducible refine Kd.C_drewN ?_ _) | (with_reducible refine Kd.C_drew ?_))); (case side2 => exact HC0_1.out); rintro e w11 ⟨rfl, hb⟩; have n0_ := amk (blk_below (g := gb121) (o := .cells #[.int .i64 a0_0, .slice A0_1 l0_1.length c0_1, .int .i64 a0_2, .int .u64 a0_3, .string a0_4, .int .u64 a0_5] 46 (0, 0)) (by (with_reducible repeat (first | refine blk_drewN ?_ _ | refine blk_drew ?_ | refine blk_alloc ?_ _)); exact BK121.out) hb); have n1_ := amk (below_step (by repeat (first | (with_reducible first | exact HB.out | apply bal | apply pbd | apply below_drew1 | refine below_set ?_ GE121.out) | exact HB.out)) hb); clear BK121; clear HB; have BK121 := n0_; have HB := n1_; clear n0_ n1_; (try clear hb); (try clear hb2); (try clear hk); (try clear hi)))
      go_ret
      exact ⟨by first | rfl | (simp [errW_none, errW_some] <;> rfl) | (simp [*, errW_none, errW_some] <;> rfl), by repeat (first | (with_reducible first | exact HB.out | apply bal | apply pbd | apply below_drew1 | refine below_set ?_ GE121.out) | exact HB.out)⟩
  · rw [if_neg c2] at H
    have c2b0 : (a0_0 == 0) = false := beq_eq_false_iff_ne.mpr c2
    have c2b1 : (a0_0 != 0) = true := bne_iff_ne.mpr c2
    obtain rfl := Option.some.inj H
    go_enter Try.func71, Try.ntmps71
    go_wp2_with (first | ((with_reducible refine gate_dst (N := 1) rfl ?_); (try (refine gate_guard (by rfl) ?_; dsimp only)); refine box_event ?hg (N := 1) ?hd (cs := #[.int .i64 a0_0, .slice A0_1 l0_1.length c0_1, .int .i64 a0_2, .int .u64 a0_3, .string a0_4, .int .u64 a0_5]) (t := 46) ?hr ?_; (case hd => rfl); (case hg => rfl); (case hr => first | (go_simp; done) | (go_simp; rfl)); intro gb121 hg w12 hbox hb; have n0_ := amk (below_step (by repeat (first | (with_reducible first | exact HB.out | apply bal | apply pbd | apply below_drew1) | exact HB.out)) hb); have n1_ := amk (hbox); have n2_ := amk ((by rw [hg]; exact (below_size (by repeat (first | (with_reducible first | exact HB.out | apply bal | apply pbd | apply below_drew1) | exact HB.out))) : w.heap.size ≤ gb121)); have n3_ := amk ((by rw [hg]; exact (below_size (by repeat (first | (with_reducible first | exact HB.out | apply bal | apply pbd | apply below_drew1) | exact HB.out))) : w.heap.size ≤ gb121)); clear HB; have HB := n0_; have BK121 := n1_; have GW121 := n2_; have GE121 := n3_; clear n0_ n1_ n2_ n3_; clear hb hbox hg; have hcz13_0 : w12.cell? ⟨gb121, 0, none⟩ = some (.int .i64 a0_0) := (blk_cell BK121.out 0).trans rfl; have hcz13_1 : w12.cell? ⟨gb121, 1, none⟩ = some (.slice A0_1 l0_1.length c0_1) := (blk_cell BK121.out 1).trans rfl; have hcz13_2 : w12.cell? ⟨gb121, 2, none⟩ = some (.int .i64 a0_2) := (blk_cell BK121.out 2).trans rfl; have hcz13_3 : w12.cell? ⟨gb121, 3, none⟩ = some (.int .u64 a0_3) := (blk_cell BK121.out 3).trans rfl; have hcz13_4 : w12.cell? ⟨gb121, 4, none⟩ = some (.string a0_4) := (blk_cell BK121.out 4).trans rfl; have hcz13_5 : w12.cell? ⟨gb121, 5, none⟩ = some (.int .u64 a0_5) := (blk_cell BK121.out 5).trans rfl; have hfz13_0 := blk_frozen BK121.out 0; have hfz13_1 := blk_frozen BK121.out 1; have hfz13_2 := blk_frozen BK121.out 2; have hfz13_3 := blk_frozen BK121.out 3; have hfz13_4 := blk_frozen BK121.out 4; have hfz13_5 := blk_frozen BK121.out 5))
    go_ret
    exact ⟨by first | rfl | (simp [errW_none, errW_some] <;> rfl) | (simp [*, errW_none, errW_some] <;> rfl), by repeat (first | (with_reducible first | exact HB.out | apply bal | apply pbd | apply below_drew1 | refine below_set ?_ GE121.out) | exact HB.out)⟩
def slices_Index_string_string.l0 : Nat → List ByteArray → ByteArray → Int → Int → Option (Int)
  | 0, _, _, _, _ => none
  | k + 1, x0, x1, x7, x8 => if x8 < x7 then (if 0 ≤ x8 then (if x8 < (x0.length : Int) then (if x1.toList = (rdOf ByteArray.empty x0 x8).toList then (some x8) else (slices_Index_string_string.l0 k x0 x1 x7 (wrap64 (x8 + 1)))) else (none)) else (none)) else (some (-1))
def slices_Index_string_string.f (k : Nat) (l0 : List ByteArray) (a1 : ByteArray) : Option (Int) := slices_Index_string_string.l0 k l0 a1 (l0.length : Int) 0
set_option maxHeartbeats 8000000 in
set_option maxRecDepth 100000 in
theorem slices_Index_string_string.calls (k : Nat) (A0 : Option Addr) (c0 : Nat) (l0 : List ByteArray) (a1 : ByteArray) (r : Int) (w : World) (hr0 : Kd.C Kd.string w A0 l0.length l0) (hc0 : l0.length ≤ c0) (h : slices_Index_string_string.f k l0 a1 = some r) :
    Calls Try.prog 167 #[.slice A0 l0.length c0, .string a1] w fun e w' => e = .returned (.int .i64 r) ∧ Drawn0 w w' := by
  have HR0 := amk hr0
  have HC0 := amk hc0
  clear hr0 hc0
  have H : (slices_Index_string_string.l0 k l0 a1 (l0.length : Int) 0) = some r := h
  clear h
  have H' := amk H
  clear H
  go_enter Try.func167, Try.ntmps167
  go_wp2
  go_loopg [8] k (fun kq v8 w' => ∃ (x8_1 : Int), v8 = .int .i64 x8_1 ∧ Aside0 (slices_Index_string_string.l0 kq l0 a1 (l0.length : Int) x8_1 = some r) ∧ Aside0 (kq ≤ k) ∧ Drawn0 w w')
  case atStart => exact ⟨(0), (by first | rfl | (simp; done) | (simp [*]; done)), H', ⟨Nat.le_refl _⟩, by repeat (first | exact Drawn0.refl _ | apply Drawn0.step)⟩
  case round =>
    clear H'
    try clear c1
    try clear p2
    obtain ⟨x8_1, rfl, HA, HK1, ⟨m1, rfl⟩⟩ := hrel
    cases gk with
    | zero => exact absurd HA.out (by simp [slices_Index_string_string.l0])
    | succ k1 =>
      have H := HA.out
      clear HA
      simp only [slices_Index_string_string.l0] at H
      by_cases c3 : x8_1 < (l0.length : Int)
      · rw [if_pos c3] at H
        have c3b0 : decide (x8_1 < (l0.length : Int)) = true := decide_eq_true c3
        clear c3
        by_cases c4 : 0 ≤ x8_1
        · rw [if_pos c4] at H
          have c4b0 : decide (0 ≤ x8_1) = true := decide_eq_true c4
          clear c4
          by_cases c5 : x8_1 < (l0.length : Int)
          · rw [if_pos c5] at H
            have c5b0 : decide (x8_1 < (l0.length : Int)) = true := decide_eq_true c5
            clear c5
            by_cases c6 : a1.toList = (rdOf ByteArray.empty l0 x8_1).toList
            · rw [if_pos c6] at H
              have c6b0 : (a1.toList == (rdOf ByteArray.empty l0 x8_1).toList) = true := beq_iff_eq.mpr c6
              have c6b1 : (a1.toList != (rdOf ByteArray.empty l0 x8_1).toList) = false := bne_eq_false_iff_eq.mpr c6
              clear c6
              obtain rfl := Option.some.inj H
              have p123 : 0 ≤ (x8_1 : Int) := of_decide_eq_true (by first | (with_reducible assumption) | assumption)
              have q123 : x8_1 < (l0.length : Int) := of_decide_eq_true (by first | (with_reducible assumption) | assumption)
              obtain ⟨ad123, e123, hx123_0⟩ := Kd.at_string HR0.out x8_1 p123 q123
              cases e123
              replace p123 := eq_true p123
              replace q123 := eq_true q123
              go_wp2
              go_ret
              exact ⟨by first | rfl | (simp; done) | (simp [*]; done), by repeat (first | exact Drawn0.refl _ | apply Drawn0.step)⟩
            · rw [if_neg c6] at H
              have c6b0 : (a1.toList == (rdOf ByteArray.empty l0 x8_1).toList) = false := beq_eq_false_iff_ne.mpr c6
              have c6b1 : (a1.toList != (rdOf ByteArray.empty l0 x8_1).toList) = true := bne_iff_ne.mpr c6
              have H' := amk H
              clear H
              have p123 : 0 ≤ (x8_1 : Int) := of_decide_eq_true (by first | (with_reducible assumption) | assumption)
              have q123 : x8_1 < (l0.length : Int) := of_decide_eq_true (by first | (with_reducible assumption) | assumption)
              obtain ⟨ad123, e123, hx123_0⟩ := Kd.at_string HR0.out x8_1 p123 q123
              cases e123
              replace p123 := eq_true p123
              replace q123 := eq_true q123
              go_wp2
              go_roundg k1
              case measure => have := HK1.out; omega
              case rel => exact ⟨(wrap64 (x8_1 + 1)), (by first | rfl | (simp; done) | (simp [*]; done)), H', ⟨by have := HK1.out; omega⟩, by repeat (first | exact Drawn0.refl _ | apply Drawn0.step)⟩
          · rw [if_neg c5] at H
            exact absurd H (by simp)
        · rw [if_neg c4] at H
          exact absurd H (by simp)
      · rw [if_neg c3] at H
        have c3b0 : decide (x8_1 < (l0.length : Int)) = false := decide_eq_false c3
        clear c3
        obtain rfl := Option.some.inj H
        go_wp2
        go_ret
        exact ⟨by first | rfl | (simp; done) | (simp [*]; done), by repeat (first | exact Drawn0.refl _ | apply Drawn0.step)⟩
def slices_Contains_string_string.f (k : Nat) (l0 : List ByteArray) (a1 : ByteArray) : Option (Bool) := (slices_Index_string_string.f k l0 a1).bind fun t124 => (some (decide (t124 ≥ 0)))
set_option maxHeartbeats 8000000 in
set_option maxRecDepth 100000 in
theorem slices_Contains_string_string.calls (k : Nat) (A0 : Option Addr) (c0 : Nat) (l0 : List ByteArray) (a1 : ByteArray) (r : Bool) (w : World) (hr0 : Kd.C Kd.string w A0 l0.length l0) (hc0 : l0.length ≤ c0) (h : slices_Contains_string_string.f k l0 a1 = some r) :
    Calls Try.prog 153 #[.slice A0 l0.length c0, .string a1] w fun e w' => e = .returned (.bool r) ∧ Drawn0 w w' := by
  have HR0 := amk hr0
  have HC0 := amk hc0
  clear hr0 hc0
  have H : ((slices_Index_string_string.f k l0 a1).bind fun t124 => (some (decide (t124 ≥ 0)))) = some r := h
  clear h
  replace H := Option.bind_eq_some_iff.mp H
  obtain ⟨t124, A30, H⟩ := H
  replace H : (some (decide (t124 ≥ 0))) = some r := H
  have A3 := amk A30
  clear A30
  obtain rfl := Option.some.inj H
  go_enter Try.func153, Try.ntmps153
  go_wp2_with (first | ((with_reducible refine gate_callee (f := 167) rfl ?_); refine goesL_ (some 7) rfl rfl Try.func167 (by kernel_rfl) rfl #[.slice A0 l0.length c0, .string a1] rfl (by (try simp only [List.map_toArray, List.map_cons, List.map_nil]); first | done | rfl | (simp only [List.length_drop, List.length_take]; rfl)) ?_; (with_reducible refine (slices_Index_string_string.calls k _ _ l0 a1 t124 _ ?side1 ?side2 A3.out).mono ?_); (case side1 => repeat (first | exact HR0.out | (with_reducible refine Kd.C_alloc ?_ _) | (with_reducible refine Kd.C_drewN ?_ _) | (with_reducible refine Kd.C_drew ?_))); (case side2 => exact HC0.out); rintro e w' ⟨rfl, ⟨nd, rfl⟩⟩; refine ⟨_, rfl, ?_⟩))
  go_ret
  exact ⟨by first | rfl | (simp; done) | (simp [*]; done), by repeat (first | exact Drawn0.refl _ | apply Drawn0.step)⟩
def types_signs.f  : Option (List ByteArray) := some (([(⟨#[61, 61]⟩ : ByteArray), (⟨#[33, 61]⟩ : ByteArray), (⟨#[60]⟩ : ByteArray), (⟨#[60, 61]⟩ : ByteArray), (⟨#[62]⟩ : ByteArray), (⟨#[62, 61]⟩ : ByteArray)] : List ByteArray))
set_option maxHeartbeats 8000000 in
set_option maxRecDepth 100000 in
theorem types_signs.calls  (r : List ByteArray) (w : World) (h : types_signs.f  = some r) :
    Calls Try.prog 154 #[] w fun e w' => ∃ v0_ : Value, e = .returned (v0_) ∧ Kd.R Kd.string 9 w' w.heap.size (fun _ => True) v0_ r ∧ Below w.heap.size w w' := by
  have HB := amk (Below.refl w.heap.size w)
  have H : (some (([(⟨#[61, 61]⟩ : ByteArray), (⟨#[33, 61]⟩ : ByteArray), (⟨#[60]⟩ : ByteArray), (⟨#[60, 61]⟩ : ByteArray), (⟨#[62]⟩ : ByteArray), (⟨#[62, 61]⟩ : ByteArray)] : List ByteArray))) = some r := h
  clear h
  obtain ⟨y125, hy125⟩ : ∃ y_ : List ByteArray, y_ = (([(⟨#[61, 61]⟩ : ByteArray), (⟨#[33, 61]⟩ : ByteArray), (⟨#[60]⟩ : ByteArray), (⟨#[60, 61]⟩ : ByteArray), (⟨#[62]⟩ : ByteArray), (⟨#[62, 61]⟩ : ByteArray)] : List ByteArray)) := ⟨_, rfl⟩
  replace H : (some y125) = some r := by first | (rw [hy125]; with_reducible exact H) | (have H2_ := (Option.bind_some _ _).symm.trans H; rw [hy125]; with_reducible exact H2_) | (have H2_ := (Option.bind_some _ _).symm.trans H; with_reducible exact H2_) | with_reducible exact H | (rw [hy125]; exact H) | exact H
  have Ny125 := amk hy125
  clear hy125
  obtain rfl := Option.some.inj H
  go_enter Try.func154, Try.ntmps154
  go_wp2_with (first | ((with_reducible refine gate_dst (N := 1) rfl ?_); refine Kd.R_lit Kd.string _ 9 ?hg (N := 1) ?hd (xs := ([(⟨#[61, 61]⟩ : ByteArray), (⟨#[33, 61]⟩ : ByteArray), (⟨#[60]⟩ : ByteArray), (⟨#[60, 61]⟩ : ByteArray), (⟨#[62]⟩ : ByteArray), (⟨#[62, 61]⟩ : ByteArray)] : List ByteArray)) (inner := [.string (⟨#[61, 61]⟩ : ByteArray), .string (⟨#[33, 61]⟩ : ByteArray), .string (⟨#[60]⟩ : ByteArray), .string (⟨#[60, 61]⟩ : ByteArray), .string (⟨#[62]⟩ : ByteArray), .string (⟨#[62, 61]⟩ : ByteArray)]) (ok := fun _ => True) (okp := fun _ => True) ?hr ?hp (fun _ hk => hk) trivial (Below.refl _ _) (Nat.le_refl _) (by simp) ?_; (case hd => rfl); (case hg => rfl); (case hr => first | (go_simp; done) | (go_simp; rfl)); (case hp => exact (Reps.one (show Kd.M Kd.string _ _ _ (⟨#[61, 61]⟩ : ByteArray) [.string (⟨#[61, 61]⟩ : ByteArray)] from rfl) (Reps.one (show Kd.M Kd.string _ _ _ (⟨#[33, 61]⟩ : ByteArray) [.string (⟨#[33, 61]⟩ : ByteArray)] from rfl) (Reps.one (show Kd.M Kd.string _ _ _ (⟨#[60]⟩ : ByteArray) [.string (⟨#[60]⟩ : ByteArray)] from rfl) (Reps.one (show Kd.M Kd.string _ _ _ (⟨#[60, 61]⟩ : ByteArray) [.string (⟨#[60, 61]⟩ : ByteArray)] from rfl) (Reps.one (show Kd.M Kd.string _ _ _ (⟨#[62]⟩ : ByteArray) [.string (⟨#[62]⟩ : ByteArray)] from rfl) (Reps.one (show Kd.M Kd.string _ _ _ (⟨#[62, 61]⟩ : ByteArray) [.string (⟨#[62, 61]⟩ : ByteArray)] from rfl) (Reps.none _ _)))))))); intro v126 w1 ho2 hb hg_ hnew_; clear hg_ hnew_; (first | rw [← Ny125.out] at ho2 | (simp only [Int.reduceToNat] at ho2; rw [← Ny125.out] at ho2)); have n0_ := amk (Kd.R_lower ho2 (below_size (by repeat (first | (with_reducible first | exact HB.out | apply bal | apply pbd | apply below_drew1) | exact HB.out)))); have n1_ := amk (below_step (by repeat (first | (with_reducible first | exact HB.out | apply bal | apply pbd | apply below_drew1) | exact HB.out)) hb); clear HB; have HO127 := n0_; have HB := n1_; clear n0_ n1_; clear hb ho2))
  go_ret
  exact ⟨_, by first | rfl | (simp [errW_none, errW_some] <;> rfl) | (simp [*, errW_none, errW_some] <;> rfl), by (with_reducible repeat (first | apply Kd.R_alloc | apply Kd.R_drewN | apply Kd.R_drew)); exact HO127.out, by repeat (first | (with_reducible first | exact HB.out | apply bal | apply pbd | apply below_drew1) | exact HB.out)⟩
end Go.Proofs.Ytoeklekjhaigoaa.M0
end
