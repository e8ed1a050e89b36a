/- MeanSigns: of each two signs that say the contrary just one holds; a test of all bits asks the argument as it is. -/
import Derived.Test.YtoeklekjhaigoaaProg
import Derived.Below
import Derived.Deep.Draws
import Derived.Deep.AppendLies
import Derived.Maps.AppendAt
import Derived.OwnWalk
import Derived.Laws.BytesArg
import Derived.Laws.MakeOwn
import Derived.Laws.OwnMore
import Derived.Deep.OwnRows
import Derived.Tactics
import Derived.Lib.ConvBytes
import Derived.Laws.Slices
import Derived.WalkKit
import Derived.KernelRfl
import Derived.RowKit3
import Derived.Deep.LoopGhost
import Derived.Deep.QuietTactic
import Derived.BigQuiet
import Derived.WideLaws
import Derived.Deep.DeepCutAuto
import Derived.Deep.CutBlock
import Derived.Deep.RegionHeld3
import Derived.Laws.Rows
import Derived.Lib.AppendStr
import Derived.ArgAppend
import Derived.Laws.IdiomCopy
import Derived.OrdersHeld
import Derived.Laws.BitsLemmas
import Derived.RowKit
import Derived.Test.YtoeklekjhaigoaaWWords
import Derived.Test.YtoeklekjhaigoaaWLast
import Derived.Test.YtoeklekjhaigoaaWTab
import Derived.Test.YtoeklekjhaigoaaWApart
import Derived.Test.YtoeklekjhaigoaaWFoot
import Derived.Test.YtoeklekjhaigoaaWKept
import Derived.Test.YtoeklekjhaigoaaWShare
import Derived.Test.YtoeklekjhaigoaaWN
import Derived.Test.YtoeklekjhaigoaaWRepsOne
import Derived.Test.YtoeklekjhaigoaaWGuard
import Derived.Test.YtoeklekjhaigoaaWNEv
import Derived.Test.YtoeklekjhaigoaaWMore
import Derived.Maps.OwnSet
import Derived.StringKeys
import Derived.Laws.Tables
import Derived.Laws.CopyOwn
import Derived.Deep.WholeRow
import Derived.ChangeKeysEq
import Derived.Shelf.Abstract
import Derived.Deep.RegionLaw
import Derived.Laws.EntriesVeiled
import Derived.DataReads
import Derived.DataElems
import Derived.SizedLaws
import Derived.ProofKit
import Derived.Test.YtoeklekjhaigoaaRows
import Derived.Test.YtoeklekjhaigoaaOrder
import Derived.OpenShut
import Derived.ShutString
import Derived.ChangeOld
namespace Go.Proofs.Ytoeklekjhaigoaa.Al
open Go.RowKit Go.Proofs.YtoeklekjhaigoaaW.PrintWords
theorem amk {p : Prop} (h : p) : Aside0 p := ⟨h⟩
theorem pbd {B : Nat} {w W : World} (h : Below B w W) (n : Nat) : Below B w (W.drewN n) := pw_below_drewN h n
theorem bal {w W : World} (h : Below w.heap.size w W) (o : Obj) : Below w.heap.size w (W.alloc o) := below_alloc h o
end Go.Proofs.Ytoeklekjhaigoaa.Al
section
namespace Go.Proofs.Ytoeklekjhaigoaa.Le
open Go.Proofs.Ytoeklekjhaigoaa.Al Go.RowKit Go.Proofs.YtoeklekjhaigoaaW.PrintWords Go.Proofs.YtoeklekjhaigoaaW.PrintLast Go.Proofs.YtoeklekjhaigoaaW.PrintMore
attribute [local go_sem] max2_int min2_int max_two min_two max_three min_three max_four min_four IntKind.wrap_u32 IntKind.wrap_u8   -- for this text's walks alone
set_option linter.unusedVariables false
set_option linter.unusedSimpArgs false
def errW : Option Int → Value
  | none => .nilIface
  | some c => .iface 0 (.int .i64 c)
theorem errW_none : errW none = .nilIface := rfl
theorem errW_some (c : Int) : errW (some c) = .iface 0 (.int .i64 c) := rfl
end Go.Proofs.Ytoeklekjhaigoaa.Le
end
section
namespace Go.Proofs.Ytoeklekjhaigoaa.Le
open Go.Proofs.Ytoeklekjhaigoaa.Al Go.RowKit Go.Proofs.YtoeklekjhaigoaaW.PrintWords Go.Proofs.YtoeklekjhaigoaaW.PrintLast Go.Proofs.YtoeklekjhaigoaaW.PrintMore
attribute [local go_sem] max2_int min2_int max_two min_two max_three min_three max_four min_four IntKind.wrap_u32 IntKind.wrap_u8   -- for this text's walks alone
set_option linter.unusedVariables false
set_option linter.unusedSimpArgs false
mutual
def le_Get.j0 : Nat → ByteArray → Int → Int → Bool → Option (Int × Int × Int)
  | 0, _, _, _, _ => none
  | k + 1, x0, x1, x2, x11 => if x11 = true then (some (0, 0, 1)) else (if x1 > (x0.size : Int) then (some (0, 0, 3)) else (if (wrap64 ((x0.size : Int) - x1)) < x2 then (some (0, 0, 3)) else (le_Get.l0 k x0 x1 x2 0 x2 0)))
def le_Get.l0 : Nat → ByteArray → Int → Int → Int → Int → Int → Option (Int × Int × Int)
  | 0, _, _, _, _, _, _ => none
  | k + 1, x0, x1, x2, x9, x35, x36 => if x36 < x35 then (if 0 ≤ (wrap64 (x1 + x36)) then (if (wrap64 (x1 + x36)) < (x0.size : Int) then (if 0 ≤ (wrap64 (8 * x36)) then (le_Get.l0 k x0 x1 x2 (Go.bits .or .u64 x9 (shl .u64 (IntKind.u64.wrap (bt x0 (wrap64 (x1 + x36)))) (wrap64 (8 * x36)))) x35 (wrap64 (x36 + 1))) else (none)) else (none)) else (none)) else (some (x9, wrap64 (x1 + x2), 0))
end
def le_Get.f (k : Nat) (a0 : ByteArray) (a1 : Int) (a2 : Int) : Option (Int × Int × Int) := if a2 < 1 then (le_Get.j0 k a0 a1 a2 true) else (if a2 > 8 then (le_Get.j0 k a0 a1 a2 true) else (le_Get.j0 k a0 a1 a2 (decide (a1 < 0))))
set_option maxHeartbeats 8000000 in
set_option maxRecDepth 100000 in
theorem le_Get.calls (k : Nat) (a0 : ByteArray) (a1 : Int) (a2 : Int) (r1 : Int) (r2 : Int) (r3 : Int) (w : World) (h : le_Get.f k a0 a1 a2 = some (r1, r2, r3)) :
    Calls Try.prog 95 #[.string a0, .int .i64 a1, .int .i64 a2] w fun e w' => e = .returned (.tuple #[.int .u64 r1, .int .i64 r2, .int .i64 r3]) ∧ Drawn0 w w' := by
  have H : (if a2 < 1 then (le_Get.j0 k a0 a1 a2 true) else (if a2 > 8 then (le_Get.j0 k a0 a1 a2 true) else (le_Get.j0 k a0 a1 a2 (decide (a1 < 0))))) = some (r1, r2, r3) := h
  clear h
  have HC4 := amk H
  clear H
  go_enter Try.func95, Try.ntmps95
  go_upto_region 1 with (fail)
  go_cut [11] (fun v11 wc => ∃ (kq : Nat) (x11_3 : Bool), v11 = .bool x11_3 ∧ Aside0 (le_Get.j0 kq a0 a1 a2 x11_3 = some (r1, r2, r3)) ∧ Aside0 (kq ≤ k) ∧ Drawn0 w wc)
  case first =>
    have H := HC4.out
    clear HC4
    by_cases c5 : a2 < 1
    · rw [if_pos c5] at H
      have c5b0 : decide (a2 < 1) = true := decide_eq_true c5
      clear c5
      (first | rw [c5b0] | (simp only [i64_w, i32_w]; rw [c5b0]) | skip)
      have H' := amk H
      clear H
      go_wp2
      go_meet
      case rel => exact ⟨_, (true), (by first | rfl | (simp; done) | (simp [*]; done)), H', ⟨by first | omega | exact Nat.le_refl _⟩, by repeat (first | exact Drawn0.refl _ | apply Drawn0.step)⟩
    · rw [if_neg c5] at H
      have c5b0 : decide (a2 < 1) = false := decide_eq_false c5
      clear c5
      (first | rw [c5b0] | (simp only [i64_w, i32_w]; rw [c5b0]) | skip)
      by_cases c6 : a2 > 8
      · rw [if_pos c6] at H
        have c6b0 : decide (8 < a2) = true := decide_eq_true c6
        clear c6
        have H' := amk H
        clear H
        go_wp2
        go_meet
        case rel => exact ⟨_, (true), (by first | rfl | (simp; done) | (simp [*]; done)), H', ⟨by first | omega | exact Nat.le_refl _⟩, by repeat (first | exact Drawn0.refl _ | apply Drawn0.step)⟩
      · rw [if_neg c6] at H
        have c6b0 : decide (8 < a2) = false := decide_eq_false c6
        clear c6
        have H' := amk H
        clear H
        go_wp2
        go_meet
        case rel => exact ⟨_, (decide (a1 < 0)), (by first | rfl | (simp; done) | (simp [*]; done)), H', ⟨by first | omega | exact Nat.le_refl _⟩, by repeat (first | exact Drawn0.refl _ | apply Drawn0.step)⟩
  case rest =>
    clear HC4
    try clear p2
    try clear c5
    try clear c5b0
    try clear c6
    try clear c6b0
    obtain ⟨kq, x11_3, rfl, HA, HJ3, ⟨mc3, rfl⟩⟩ := hcut
    cases kq with
    | zero => exact absurd HA.out (by simp [le_Get.j0])
    | succ kj3 =>
      have H := HA.out
      clear HA
      simp only [le_Get.j0] at H
      by_cases c7 : x11_3 = true
      · subst c7
        have H1 : (some (0, 0, 1)) = some (r1, r2, r3) := by rw [if_pos rfl] at H; exact H
        clear H
        have H := H1
        clear H1
        simp only [Option.some.injEq, Prod.mk.injEq] at H
        obtain ⟨rfl, rfl, rfl⟩ := H
        go_wp2
        go_ret3
        exact ⟨by first | rfl | (simp; done) | (simp [*]; done), by repeat (first | exact Drawn0.refl _ | apply Drawn0.step)⟩
      · replace c7 := Bool.eq_false_iff.mpr c7
        subst c7
        have H1 : (if a1 > (a0.size : Int) then (some (0, 0, 3)) else (if (wrap64 ((a0.size : Int) - a1)) < a2 then (some (0, 0, 3)) else (le_Get.l0 kj3 a0 a1 a2 0 a2 0))) = some (r1, r2, r3) := by rw [if_neg (show ¬ (false = true) by decide)] at H; exact H
        clear H
        have H := H1
        clear H1
        by_cases c8 : a1 > (a0.size : Int)
        · rw [if_pos c8] at H
          have c8b0 : decide ((a0.size : Int) < a1) = true := decide_eq_true c8
          clear c8
          simp only [Option.some.injEq, Prod.mk.injEq] at H
          obtain ⟨rfl, rfl, rfl⟩ := H
          go_wp2
          go_ret3
          exact ⟨by first | rfl | (simp; done) | (simp [*]; done), by repeat (first | exact Drawn0.refl _ | apply Drawn0.step)⟩
        · rw [if_neg c8] at H
          have c8b0 : decide ((a0.size : Int) < a1) = false := decide_eq_false c8
          clear c8
          by_cases c9 : (wrap64 ((a0.size : Int) - a1)) < a2
          · rw [if_pos c9] at H
            have c9b0 : decide ((wrap64 ((a0.size : Int) - a1)) < a2) = true := decide_eq_true c9
            clear c9
            simp only [Option.some.injEq, Prod.mk.injEq] at H
            obtain ⟨rfl, rfl, rfl⟩ := H
            go_wp2
            go_ret3
            exact ⟨by first | rfl | (simp; done) | (simp [*]; done), by repeat (first | exact Drawn0.refl _ | apply Drawn0.step)⟩
          · rw [if_neg c9] at H
            have c9b0 : decide ((wrap64 ((a0.size : Int) - a1)) < a2) = false := decide_eq_false c9
            clear c9
            have H' := amk H
            clear H
            go_wp2
            go_loopg [9, 36] kj3 (fun kq v9 v36 w' => ∃ (x9_2 : Int) (x36_2 : Int), v9 = .int .u64 x9_2 ∧ v36 = .int .i64 x36_2 ∧ Aside0 (le_Get.l0 kq a0 a1 a2 x9_2 a2 x36_2 = some (r1, r2, r3)) ∧ Aside0 (kq ≤ kj3) ∧ Drawn0 w w')
            case atStart => exact ⟨(0), (0), (by first | rfl | (simp; done) | (simp [*]; done)), (by first | rfl | (simp; done) | (simp [*]; done)), H', ⟨Nat.le_refl _⟩, by repeat (first | exact Drawn0.refl _ | apply Drawn0.step)⟩
            case round =>
              clear H'
              try clear p2
              try clear c3
              try clear c5
              try clear c5b0
              try clear c6
              try clear c6b0
              try clear p6
              try clear c7
              try clear c8
              try clear c8b0
              try clear c9
              try clear c9b0
              try clear p2
              obtain ⟨x9_2, x36_2, rfl, rfl, HA, HK2, ⟨m2, rfl⟩⟩ := hrel
              cases gk with
              | zero => exact absurd HA.out (by simp [le_Get.l0])
              | succ k2 =>
                have H := HA.out
                clear HA
                simp only [le_Get.l0] at H
                by_cases c10 : x36_2 < a2
                · rw [if_pos c10] at H
                  have c10b0 : decide (x36_2 < a2) = true := decide_eq_true c10
                  clear c10
                  obtain ⟨ji11, hji11⟩ : ∃ j_ : Int, (wrap64 (a1 + x36_2)) = j_ := ⟨_, rfl⟩
                  replace H : (if 0 ≤ (ji11) then (if (ji11) < (a0.size : Int) then (if 0 ≤ (wrap64 (8 * x36_2)) then (le_Get.l0 k2 a0 a1 a2 (Go.bits .or .u64 x9_2 (shl .u64 (IntKind.u64.wrap (bt a0 (ji11))) (wrap64 (8 * x36_2)))) a2 (wrap64 (x36_2 + 1))) else (none)) else (none)) else (none)) = some (r1, r2, r3) := by first | (rw [hji11] at H; exact H) | (simp only [hji11] at H ⊢; exact H)
                  have hji11w : (IntKind.i64.wrap (a1 + x36_2)) = ji11 := (i64_w _).trans hji11
                  by_cases c12 : 0 ≤ (ji11)
                  · rw [if_pos c12] at H
                    have c12b0 : decide (0 ≤ (ji11)) = true := decide_eq_true c12
                    clear c12
                    by_cases c13 : (ji11) < (a0.size : Int)
                    · rw [if_pos c13] at H
                      have c13b0 : decide ((ji11) < (a0.size : Int)) = true := decide_eq_true c13
                      clear c13
                      obtain ⟨ji15, hji15⟩ : ∃ j_ : Int, (wrap64 (8 * x36_2)) = j_ := ⟨_, rfl⟩
                      replace H : (if 0 ≤ (ji15) then (le_Get.l0 k2 a0 a1 a2 (Go.bits .or .u64 x9_2 (shl .u64 (IntKind.u64.wrap (bt a0 (ji11))) (ji15))) a2 (wrap64 (x36_2 + 1))) else (none)) = some (r1, r2, r3) := by first | (rw [hji15] at H; exact H) | (simp only [hji15] at H ⊢; exact H)
                      have hji15w : (IntKind.i64.wrap (8 * x36_2)) = ji15 := (i64_w _).trans hji15
                      by_cases c16 : 0 ≤ (ji15)
                      · rw [if_pos c16] at H
                        have c16b0 := eq_true c16
                        have c16b1 : decide (0 ≤ (ji15)) = true := decide_eq_true c16
                        clear c16
                        obtain ⟨ji17, hji17⟩ : ∃ j_ : Int, (shl .u64 (IntKind.u64.wrap (bt a0 (ji11))) (ji15)) = j_ := ⟨_, rfl⟩
                        replace H : (le_Get.l0 k2 a0 a1 a2 (Go.bits .or .u64 x9_2 (ji17)) a2 (wrap64 (x36_2 + 1))) = some (r1, r2, r3) := by first | (rw [hji17] at H; exact H) | (simp only [hji17] at H ⊢; exact H)
                        have hji17_ : (IntKind.u64.wrap ((IntKind.u64.wrap (bt a0 (ji11))) * 2 ^ min (ji15).toNat 64)) = ji17 := hji17
                        have hji17z : (ji15) ≤ 64 → (IntKind.u64.wrap ((IntKind.u64.wrap (bt a0 (ji11))) * 2 ^ (ji15).toNat)) = ji17 := shl_small hji17
                        have H' := amk H
                        clear H
                        have p14 : 0 ≤ ((ji11) : Int) := of_decide_eq_true (by first | (with_reducible assumption) | assumption)
                        have q14 : (ji11) < (a0.size : Int) := of_decide_eq_true (by first | (with_reducible assumption) | assumption)
                        have hx14 := bt_at a0 (ji11)
                        replace p14 := eq_true p14
                        replace q14 := eq_true q14
                        go_wp2
                        go_roundg k2
                        case measure => have := HJ3.out; have := HK2.out; omega
                        case rel => exact ⟨(Go.bits .or .u64 x9_2 (ji17)), (wrap64 (x36_2 + 1)), (by first | rfl | (simp; done) | (simp only [← hji17] <;> (first | rfl | simp)) | (simp [*]; done)), (by first | rfl | (simp; done) | (simp [*]; done)), H', ⟨by have := HJ3.out; have := HK2.out; omega⟩, by repeat (first | exact Drawn0.refl _ | apply Drawn0.step)⟩
                      · rw [if_neg c16] at H
                        exact absurd H (by simp)
                    · rw [if_neg c13] at H
                      exact absurd H (by simp)
                  · rw [if_neg c12] at H
                    exact absurd H (by simp)
                · rw [if_neg c10] at H
                  have c10b0 : decide (x36_2 < a2) = false := decide_eq_false c10
                  clear c10
                  simp only [Option.some.injEq, Prod.mk.injEq] at H
                  obtain ⟨rfl, rfl, rfl⟩ := H
                  go_wp2
                  go_ret3
                  exact ⟨by first | rfl | (simp; done) | (simp [*]; done), by repeat (first | exact Drawn0.refl _ | apply Drawn0.step)⟩
end Go.Proofs.Ytoeklekjhaigoaa.Le
end
section
namespace Go.Proofs.Ytoeklekjhaigoaa.C1
open Go.Proofs.Ytoeklekjhaigoaa.Al Go.RowKit Go.Proofs.YtoeklekjhaigoaaW.PrintWords Go.Proofs.YtoeklekjhaigoaaW.PrintLast Go.Proofs.YtoeklekjhaigoaaW.PrintMore
attribute [local go_sem] max2_int min2_int max_two min_two max_three min_three max_four min_four IntKind.wrap_u32 IntKind.wrap_u8   -- for this text's walks alone
set_option linter.unusedVariables false
open Go.Proofs.Ytoeklekjhaigoaa.Le
set_option linter.unusedSimpArgs false
def errW : Option Int → Value
  | none => .nilIface
  | some c => .iface 0 (.int .i64 c)
theorem errW_none : errW none = .nilIface := rfl
theorem errW_some (c : Int) : errW (some c) = .iface 0 (.int .i64 c) := rfl
end Go.Proofs.Ytoeklekjhaigoaa.C1
end
section
namespace Go.Proofs.Ytoeklekjhaigoaa.C2
open Go.Proofs.Ytoeklekjhaigoaa.Al Go.RowKit Go.Proofs.YtoeklekjhaigoaaW.PrintWords Go.Proofs.YtoeklekjhaigoaaW.PrintLast Go.Proofs.YtoeklekjhaigoaaW.PrintMore
attribute [local go_sem] max2_int min2_int max_two min_two max_three min_three max_four min_four IntKind.wrap_u32 IntKind.wrap_u8   -- for this text's walks alone
set_option linter.unusedVariables false
open Go.Proofs.Ytoeklekjhaigoaa.Le Go.Proofs.Ytoeklekjhaigoaa.C1
set_option linter.unusedSimpArgs false
def errW : Option Int → Value
  | none => .nilIface
  | some c => .iface 0 (.int .i64 c)
theorem errW_none : errW none = .nilIface := rfl
theorem errW_some (c : Int) : errW (some c) = .iface 0 (.int .i64 c) := rfl
end Go.Proofs.Ytoeklekjhaigoaa.C2
end
section
namespace Go.Proofs.Ytoeklekjhaigoaa.WMap
open Go.RowKit
set_option linter.unusedVariables false
/-- Block b of w is a map of at most n entries; at key k it has L k. -/
def MapV (P : Program) (K : TypeId) (w : World) (b n : Nat) (L : Lit → Option Value) : Prop :=
  ∃ D : DataW Value, w.ownsMap P K (fun v => some (.held v, [])) b n D ∧ Maps.IsMap D ∧ ∀ (k : Lit) (z : DataW Value), D.atKey k z = match L k with | some v => .held v | none => z
section
variable {P : Program} {K : TypeId} {w : World} {b n : Nat} {L : Lit → Option Value}
theorem MapV.made (P : Program) (K : TypeId) (w : World) : MapV P K (w.alloc (.map #[] 0)) w.heap.size 0 (fun _ => none) := ⟨.map [], World.ownsMap_made _ _ _ _, Maps.isMap_empty, fun _ _ => rfl⟩
theorem MapV.store {t e : TypeId} (h : MapV P K w b n L) (hK : Maps.Keyed P K) (ht : P.underlying t = some (.map K e)) (hn : n < 1000000) {key val : Value} {kl : Lit} (hkey : keyOf P K key = some kl) (hk : WideAt.IsKeyLit kl) :
    ∃ w', (Instr.mapUpdate t (.map (some b)) key val).run P w = .ok () w' ∧ MapV P K w' b (n + 1) (fun x => if x.sameKey kl = true then some val else L x) ∧ w.grownBy w' (some b) := by
  obtain ⟨D, ho, hm, hat⟩ := h
  obtain ⟨w', hrun, ho', hg⟩ := ho.update (t := t) (e := e) hK ht (by unfold maxLen; omega) hkey (val := val) (d := .held val) (ps := []) rfl
  refine ⟨w', hrun, ⟨_, ho', hm.put _ _, fun x z => ?_⟩, hg⟩
  show _ = match (if x.sameKey kl = true then some val else L x) with | some v => _ | none => _
  by_cases hx : x = kl
  · subst hx
    rw [if_pos (WideAt.sameKey_self hk), Maps.atKey_put_same hm hk]
  · rw [if_neg (fun h => hx ((WideAt.sameKey_iff hk).1 h)), Maps.atKey_put_other hx, hat]
end
end Go.Proofs.Ytoeklekjhaigoaa.WMap
end
section
namespace Go.Proofs.Ytoeklekjhaigoaa.HAct
open Go.Proofs.Ytoeklekjhaigoaa.Al Go.RowKit Go.Proofs.YtoeklekjhaigoaaW.PrintWords Go.Proofs.YtoeklekjhaigoaaW.PrintLast Go.Proofs.YtoeklekjhaigoaaW.PrintMore Go.Proofs.Ytoeklekjhaigoaa.WMap
set_option linter.unusedVariables false
set_option linter.unusedSimpArgs false
set_option maxRecDepth 100000
theorem keyed9 : Maps.Keyed Try.prog 9 := Maps.string_keyed Try.underlying9
theorem keyS (s : ByteArray) (h : s.size ≤ maxLen) : keyOf Try.prog 9 (.string s) = some (.string s.data.toList) := by
  exact Go.WideMaps.keyOf_string_mk Try.underlying9 h
end Go.Proofs.Ytoeklekjhaigoaa.HAct
end
section
namespace Go.Proofs.Ytoeklekjhaigoaa.W0
open Go.Proofs.Ytoeklekjhaigoaa.Al Go.RowKit Go.Proofs.YtoeklekjhaigoaaW.PrintWords Go.Proofs.YtoeklekjhaigoaaW.PrintLast Go.Proofs.YtoeklekjhaigoaaW.PrintMore
attribute [local go_sem] max2_int min2_int max_two min_two max_three min_three max_four min_four IntKind.wrap_u32 IntKind.wrap_u8   -- for this text's walks alone
set_option linter.unusedVariables false
open Go.Proofs.Ytoeklekjhaigoaa.Le Go.Proofs.Ytoeklekjhaigoaa.C1 Go.Proofs.Ytoeklekjhaigoaa.C2 Go.Proofs.Ytoeklekjhaigoaa.HAct
set_option linter.unusedSimpArgs false
def errW : Option Int → Value
  | none => .nilIface
  | some c => .iface 0 (.int .i64 c)
theorem errW_none : errW none = .nilIface := rfl
theorem errW_some (c : Int) : errW (some c) = .iface 0 (.int .i64 c) := rfl
structure S40 where
  f0 : Int
  f1 : Int
  f2 : Int
  f3 : Int
def z40 : S40 := ⟨(0 : Int), (0 : Int), (0 : Int), (0 : Int)⟩
def k40 : Kd S40 := Kd.iso (Kd.pair (Kd.int .i64) (Kd.pair (Kd.int .u32) (Kd.pair (Kd.int .i64) (Kd.int .i64)))) (fun x : S40 => (x.f0, x.f1, x.f2, x.f3))
theorem k40_open {w : World} {x : S40} {cs : List Value} (h : k40.K w x cs) : cs = [.int .i64 x.f0, .int .u32 x.f1, .int .i64 x.f2, .int .i64 x.f3] := by
  obtain ⟨_, _, rfl, rfl, ⟨_, _, rfl, rfl, ⟨_, _, rfl, rfl, rfl⟩⟩⟩ := h
  exact rfl
def rd_T40 (xs : List S40) (i : Int) : S40 := xs.getD i.toNat z40
theorem at_T40 {w : World} {A : Option Addr} {n : Nat} {xs : List S40} (h : Kd.C k40 w A n xs) (i : Int) (h0 : 0 ≤ i) (h1 : i < n) : ∃ ad , A = some ad ∧ w.cell? (ad.add (i.toNat * 4)) = some (.int .i64 (rd_T40 xs i).f0) ∧ w.cell? ⟨(ad.add (i.toNat * 4)).block, (ad.add (i.toNat * 4)).off + 1, none⟩ = some (.int .u32 (rd_T40 xs i).f1) ∧ w.cell? ⟨(ad.add (i.toNat * 4)).block, (ad.add (i.toNat * 4)).off + 2, none⟩ = some (.int .i64 (rd_T40 xs i).f2) ∧ w.cell? ⟨(ad.add (i.toNat * 4)).block, (ad.add (i.toNat * 4)).off + 3, none⟩ = some (.int .i64 (rd_T40 xs i).f3) := by
  obtain ⟨ad, c, e, _, hK, hc0⟩ := Kd.C_get h z40 i h0 h1
  have hc : ∀ j u, c[j]? = some u → w.cell? (ad.add (i.toNat * 4 + j)) = some u := hc0
  obtain rfl := k40_open hK
  exact ⟨ad, e, hc 0 _ rfl, by rw [← add_field _ _ 1 (by omega)]; exact hc 1 _ rfl, by rw [← add_field _ _ 2 (by omega)]; exact hc 2 _ rfl, by rw [← add_field _ _ 3 (by omega)]; exact hc 3 _ rfl⟩
end Go.Proofs.Ytoeklekjhaigoaa.W0
end
section
namespace Go.Proofs.Ytoeklekjhaigoaa.HFrom
open Go.Proofs.Ytoeklekjhaigoaa.Al Go.RowKit Go.Proofs.YtoeklekjhaigoaaW.PrintWords Go.Proofs.YtoeklekjhaigoaaW.PrintLast Go.Proofs.YtoeklekjhaigoaaW.PrintMore Go.Proofs.Ytoeklekjhaigoaa.W0
set_option linter.unusedVariables false
set_option linter.unusedSimpArgs false
set_option maxRecDepth 100000
def idxN {α : Type} (p : α → Bool) : List α → Option Nat
  | [] => none
  | x :: l => if p x = true then some 0 else (idxN p l).map (· + 1)
def idxI {α : Type} (p : α → Bool) (l : List α) : Int := match idxN p l with | some i => (i : Int) | none => -1
theorem idxN_hit {α : Type} (p : α → Bool) (z : α) : ∀ (l : List α) (k : Nat), k < l.length → (∀ j, j < k → p (l.getD j z) = false) → p (l.getD k z) = true → idxN p l = some k := by
  intro l
  induction l with
  | nil => intro k h; exact absurd h (Nat.not_lt_zero _)
  | cons x l ih =>
    intro k h h1 h2
    unfold idxN
    cases k with
    | zero => rw [if_pos (by simpa using h2)]
    | succ k =>
      have h0 := h1 0 (by omega)
      rw [if_neg (by simpa using h0), ih k (by simpa using h) (fun j hj => by simpa using h1 (j + 1) (by omega)) (by simpa using h2)]
      rfl
theorem idxN_miss {α : Type} (p : α → Bool) (z : α) : ∀ (l : List α), (∀ j, j < l.length → p (l.getD j z) = false) → idxN p l = none := by
  intro l
  induction l with
  | nil => intro _; rfl
  | cons x l ih =>
    intro h1
    unfold idxN
    have h0 := h1 0 (by simp)
    rw [if_neg (by simpa using h0), ih (fun j hj => by simpa using h1 (j + 1) (by simpa using hj))]
    rfl
set_option maxHeartbeats 2000000 in
theorem idx_c {g : Nat} {lb : Array Value} (p : S40 → Bool) (eg : ∀ args w, (callFunc g args).run Try.prog w = .ok (.enter g args) w) (A : Option Addr) (c0 : Nat) (l : List S40) (w : World) (hC : Kd.C k40 w A l.length l) (hl : l.length ≤ 1000000)
    (hp : ∀ (W : World) (x : S40), Below w.heap.size w W → Calls Try.prog g (#[.agg #[.int .i64 x.f0, .int .u32 x.f1, .int .i64 x.f2, .int .i64 x.f3]] ++ lb) W fun e w' => e = .returned (.bool (p x)) ∧ Below W.heap.size W w') :
    Calls Try.prog 117 #[.slice A l.length c0, .func (.func g) #[] lb] w fun e w' => e = .returned (.int .i64 (idxI p l)) ∧ Below w.heap.size w w' := by
  go_enter Try.func117, Try.ntmps117
  go_wp2
  go_loopg [5, 8] l.length (fun gg _ s8 wr => ∃ kk : Nat, kk ≤ l.length ∧ l.length - kk ≤ gg ∧ s8 = .int .i64 kk ∧ Aside0 (Below w.heap.size w wr) ∧ Aside0 (∀ j, j < kk → p (l.getD j z40) = false))
  case atStart => exact ⟨0, Nat.zero_le _, by omega, rfl, ⟨Below.refl _ w⟩, ⟨fun j hj => absurd hj (Nat.not_lt_zero _)⟩⟩
  case round =>
    obtain ⟨kk, hkk, hg, rfl, BW, AA⟩ := hrel
    by_cases hlt : kk < l.length
    · have hltz : (kk : Int) < (l.length : Int) := by omega
      obtain ⟨ad, e102, hx0, hx1, hx2, hx3⟩ := at_T40 (Kd.C_below hC BW.out) (kk : Int) (by omega) (by omega)
      cases e102
      have hcall := hp wr (l.getD kk z40) BW.out
      have hrd : rd_T40 l (kk : Int) = l.getD kk z40 := rfl
      rw [hrd] at hx0 hx1 hx2 hx3
      simp only [Int.toNat_natCast] at hx0 hx1 hx2 hx3
      clear hrd hC hp
      generalize hy : l.getD kk z40 = y at hx0 hx1 hx2 hx3 hcall
      have B : Aside0 (l.getD kk z40 = y) := ⟨hy⟩
      clear hy
      cases hq : p y with
      | true =>
        rw [hq] at hcall
        go_wp2_with (go_at_fn g; refine hcall.mono ?_; rintro e w' ⟨rfl, hb'⟩)
        go_ret
        refine ⟨?_, below_step BW.out hb'⟩
        unfold idxI
        rw [idxN_hit p z40 l kk hlt AA.out (by rw [B.out]; exact hq)]; rfl
      | false =>
        rw [hq] at hcall
        go_wp2_with (go_at_fn g; refine hcall.mono ?_; rintro e w' ⟨rfl, hb'⟩)
        go_roundg (l.length - (kk + 1))
        case measure => omega
        case rel =>
          refine ⟨kk + 1, by omega, by omega, by go_num, ⟨below_step BW.out hb'⟩, ⟨fun j hj => ?_⟩⟩
          by_cases e : j = kk
          · subst e
            rw [B.out]; exact hq
          · exact AA.out j (by omega)
    · have hltz : ¬ (kk : Int) < (l.length : Int) := by omega
      obtain rfl : kk = l.length := by omega
      clear hC hp
      go_wp2
      go_ret
      refine ⟨?_, BW.out⟩
      unfold idxI
      rw [idxN_miss p z40 l AA.out]; rfl
end Go.Proofs.Ytoeklekjhaigoaa.HFrom
end
section
namespace Go.Proofs.Ytoeklekjhaigoaa.W1
open Go.Proofs.Ytoeklekjhaigoaa.Al Go.RowKit Go.Proofs.YtoeklekjhaigoaaW.PrintWords Go.Proofs.YtoeklekjhaigoaaW.PrintLast Go.Proofs.YtoeklekjhaigoaaW.PrintMore
attribute [local go_sem] max2_int min2_int max_two min_two max_three min_three max_four min_four IntKind.wrap_u32 IntKind.wrap_u8   -- for this text's walks alone
set_option linter.unusedVariables false
open Go.Proofs.Ytoeklekjhaigoaa.Le Go.Proofs.Ytoeklekjhaigoaa.C1 Go.Proofs.Ytoeklekjhaigoaa.C2 Go.Proofs.Ytoeklekjhaigoaa.HAct Go.Proofs.Ytoeklekjhaigoaa.W0 Go.Proofs.Ytoeklekjhaigoaa.HFrom
set_option linter.unusedSimpArgs false
def errW : Option Int → Value
  | none => .nilIface
  | some c => .iface 0 (.int .i64 c)
theorem errW_none : errW none = .nilIface := rfl
theorem errW_some (c : Int) : errW (some c) = .iface 0 (.int .i64 c) := rfl
end Go.Proofs.Ytoeklekjhaigoaa.W1
end
section
namespace Go.Proofs.Ytoeklekjhaigoaa.R01
open Go.Proofs.Ytoeklekjhaigoaa.Al Go.RowKit Go.Proofs.YtoeklekjhaigoaaW.PrintWords Go.Proofs.YtoeklekjhaigoaaW.PrintLast Go.Proofs.YtoeklekjhaigoaaW.PrintMore
attribute [local go_sem] max2_int min2_int max_two min_two max_three min_three max_four min_four IntKind.wrap_u32 IntKind.wrap_u8   -- for this text's walks alone
set_option linter.unusedVariables false
open Go.Proofs.Ytoeklekjhaigoaa.Le Go.Proofs.Ytoeklekjhaigoaa.C1 Go.Proofs.Ytoeklekjhaigoaa.C2 Go.Proofs.Ytoeklekjhaigoaa.HAct Go.Proofs.Ytoeklekjhaigoaa.W0 Go.Proofs.Ytoeklekjhaigoaa.HFrom Go.Proofs.Ytoeklekjhaigoaa.W1
set_option linter.unusedSimpArgs false
def errW : Option Int → Value
  | none => .nilIface
  | some c => .iface 0 (.int .i64 c)
theorem errW_none : errW none = .nilIface := rfl
theorem errW_some (c : Int) : errW (some c) = .iface 0 (.int .i64 c) := rfl
end Go.Proofs.Ytoeklekjhaigoaa.R01
end
section
namespace Go.Proofs.Ytoeklekjhaigoaa.QLe
open Go.Proofs.Ytoeklekjhaigoaa.Al Go.RowKit Go.Proofs.YtoeklekjhaigoaaW.PrintWords Go.Proofs.YtoeklekjhaigoaaW.PrintLast Go.Proofs.YtoeklekjhaigoaaW.PrintMore Go.Proofs.Ytoeklekjhaigoaa.Le
set_option linter.unusedVariables false
set_option linter.unusedSimpArgs false
def leval (s : ByteArray) (p : Int) : Nat → Int
  | 0 => 0
  | j + 1 => leval s p j + bt s (p + j) * 256 ^ j
theorem pow256 (j : Nat) : (0 : Int) < 256 ^ j := Int.pow_pos (by decide)
theorem p7 (i : Nat) (h : i < 8) : (256 : Int) ^ i ≤ 72057594037927936 := by
  match i, h with
  | 0, _ | 1, _ | 2, _ | 3, _ | 4, _ | 5, _ | 6, _ | 7, _ => decide
theorem leval_range (s : ByteArray) (p : Int) (j : Nat) : 0 ≤ leval s p j ∧ leval s p j < 256 ^ j := by
  induction j with
  | zero => simp [leval]
  | succ j ih =>
    have hb := bt_range s (p + j)
    have hp := pow256 j
    have h1 : bt s (p + j) * 256 ^ j ≤ 255 * 256 ^ j := Int.mul_le_mul_of_nonneg_right hb.2 (Int.le_of_lt hp)
    have h2 : 0 ≤ bt s (p + j) * 256 ^ j := Int.mul_nonneg hb.1 (Int.le_of_lt hp)
    have h3 : (256 : Int) ^ (j + 1) = 256 ^ j * 256 := Int.pow_succ ..
    simp only [leval]
    omega
theorem w64 (x : Int) (h : -9223372036854775808 ≤ x) (h2 : x ≤ 9223372036854775807) : wrap64 x = x := by unfold wrap64; omega
theorem u64_small (x : Int) (h0 : 0 ≤ x) (h1 : x < 18446744073709551616) : IntKind.u64.wrap x = x := by
  have e : IntKind.u64.wrap x = x % 18446744073709551616 := rfl
  rw [e]; exact Int.emod_eq_of_lt h0 h1
theorem or_low (i : Nat) (x y : Int) (hx0 : 0 ≤ x) (hx : x < 2 ^ i) (hy0 : 0 ≤ y) (hy : y % 2 ^ i = 0) (hx1 : x < 2 ^ 64) (hy1 : y < 2 ^ 64) : Go.bits .or .u64 x y = x + y := by
  have hw : ∀ n : Int, 0 ≤ n → n < 2 ^ 64 → IntKind.u64.wrap n = n := by
    intro n a b
    exact u64_small n a (by have e64 : (2 : Int) ^ 64 = 18446744073709551616 := by decide
                            omega)
  have h := Go.bits_join .u64 64 (by decide) hw i y x hy0 hy hy1 hx0 hx hx1
  have hc : Go.bits .or .u64 x y = Go.bits .or .u64 y x := by
    simp only [Go.bits]
    rw [BitVec.or_comm]
  rw [hc, h]; omega
theorem pow_shift (i : Nat) : (2 : Int) ^ (8 * i) = 256 ^ i := by rw [Int.pow_mul]; rfl
theorem shl_byte (c : Int) (i : Nat) (h0 : 0 ≤ c) (h1 : c ≤ 255) (hi : i < 8) : shl .u64 (IntKind.u64.wrap c) (wrap64 (8 * (i : Int))) = c * 256 ^ i := by
  have e : (wrap64 (8 * (i : Int))).toNat = 8 * i := by rw [w64 _ (by omega) (by omega)]; omega
  have hm : min (8 * i) 64 = 8 * i := by omega
  have hp := pow256 i
  have h8 := p7 i hi
  have h2 : c * 256 ^ i ≤ 255 * 256 ^ i := Int.mul_le_mul_of_nonneg_right h1 (Int.le_of_lt hp)
  have h3 : 0 ≤ c * 256 ^ i := Int.mul_nonneg h0 (Int.le_of_lt hp)
  unfold shl
  rw [u64_small c h0 (by omega), e, show IntKind.u64.bits = 64 from rfl, hm, pow_shift, u64_small _ h3 (by omega)]
theorem get_loop (s : ByteArray) (p : Int) (sz : Nat) (hp : 0 ≤ p) (hs : p + sz ≤ s.size) (hz : s.size ≤ 4611686018427387904) (h8 : sz ≤ 8) :
    ∀ d i : Nat, i + d = sz → ∀ k, d < k → le_Get.l0 k s p sz (leval s p i) sz i = some (leval s p sz, p + sz, 0) := by
  intro d
  induction d with
  | zero =>
    intro i hi k hk
    obtain ⟨k, rfl⟩ : ∃ m, k = m + 1 := ⟨k - 1, by omega⟩
    obtain rfl : i = sz := by omega
    simp only [le_Get.l0]
    rw [if_neg (by omega), w64 _ (by omega) (by omega)]
  | succ d ih =>
    intro i hi k hk
    obtain ⟨k, rfl⟩ : ∃ m, k = m + 1 := ⟨k - 1, by omega⟩
    have hb := bt_range s (p + i)
    have hl := leval_range s p i
    simp only [le_Get.l0]
    rw [if_pos (by omega), w64 (p + i) (by omega) (by omega), if_pos (by omega), if_pos (by omega), if_pos (by rw [w64 _ (by omega) (by omega)]; omega), shl_byte _ i hb.1 hb.2 (by omega), w64 ((i : Int) + 1) (by omega) (by omega)]
    have hpp := pow256 i
    have h7 := p7 i (by omega)
    have e64 : (2 : Int) ^ 64 = 18446744073709551616 := by decide
    have h1 : bt s (p + i) * 256 ^ i ≤ 255 * 256 ^ i := Int.mul_le_mul_of_nonneg_right hb.2 (Int.le_of_lt hpp)
    have h2 : 0 ≤ bt s (p + i) * 256 ^ i := Int.mul_nonneg hb.1 (Int.le_of_lt hpp)
    rw [or_low (8 * i) _ _ hl.1 (by rw [pow_shift]; exact hl.2) h2 (by rw [pow_shift]; exact Int.mul_emod_left ..) (by omega) (by omega)]
    have := ih (i + 1) (by omega) k (by omega)
    simpa [leval] using this
theorem get_ok (s : ByteArray) (p : Int) (sz : Nat) (h1 : 1 ≤ sz) (h8 : sz ≤ 8) (hp : 0 ≤ p) (hs : p + sz ≤ s.size) (hz : s.size ≤ 4611686018427387904) :
    ∀ k, 10 ≤ k → le_Get.f k s p sz = some (leval s p sz, p + sz, 0) := by
  intro k hk
  obtain ⟨k, rfl⟩ : ∃ m, k = m + 1 := ⟨k - 1, by omega⟩
  unfold le_Get.f
  rw [if_neg (by omega), if_neg (by omega), decide_eq_false (by omega)]
  simp only [le_Get.j0]
  rw [if_neg (by decide), if_neg (by omega), if_neg (by rw [w64 _ (by omega) (by omega)]; omega)]
  exact get_loop s p sz hp hs hz h8 sz 0 (by omega) k (by omega)
end Go.Proofs.Ytoeklekjhaigoaa.QLe
end
section
namespace Go.Proofs.Ytoeklekjhaigoaa.QNum
open Go.Proofs.Ytoeklekjhaigoaa.Al Go.RowKit Go.Proofs.YtoeklekjhaigoaaW.PrintWords Go.Proofs.YtoeklekjhaigoaaW.PrintLast Go.Proofs.YtoeklekjhaigoaaW.PrintMore Go.Proofs.Ytoeklekjhaigoaa.QLe
set_option linter.unusedVariables false
set_option linter.unusedSimpArgs false
theorem wf_u64 {x : Int} (h : (Lit.int .u64 x).wf = true) : 0 ≤ x ∧ x < 18446744073709551616 := by
  simp [Lit.wf, IntKind.min, IntKind.max, IntKind.bits, IntKind.signed] at h; omega
end Go.Proofs.Ytoeklekjhaigoaa.QNum
end
section
namespace Go.Proofs.Ytoeklekjhaigoaa.HPack
open Go.Proofs.Ytoeklekjhaigoaa.Al Go.RowKit Go.Proofs.YtoeklekjhaigoaaW.PrintWords Go.Proofs.YtoeklekjhaigoaaW.PrintLast Go.Proofs.YtoeklekjhaigoaaW.PrintMore Go.Proofs.Ytoeklekjhaigoaa.Le Go.Proofs.Ytoeklekjhaigoaa.QLe Go.Proofs.Ytoeklekjhaigoaa.QNum
set_option linter.unusedVariables false
set_option linter.unusedSimpArgs false
set_option maxRecDepth 100000
/-- The arguments of a call. -/
def ar (a0 a1 a2 a3 a4 a5 : Int) : Nat → Int
  | 0 => a0
  | 1 => a1
  | 2 => a2
  | 3 => a3
  | 4 => a4
  | _ => a5
end Go.Proofs.Ytoeklekjhaigoaa.HPack
end
section
namespace Go.Proofs.Ytoeklekjhaigoaa.HUnpack
open Go.Proofs.Ytoeklekjhaigoaa.Al Go.RowKit Go.Proofs.YtoeklekjhaigoaaW.PrintWords Go.Proofs.YtoeklekjhaigoaaW.PrintLast Go.Proofs.YtoeklekjhaigoaaW.PrintMore Go.Proofs.Ytoeklekjhaigoaa.Le Go.Proofs.Ytoeklekjhaigoaa.QLe Go.Proofs.Ytoeklekjhaigoaa.QNum Go.Proofs.Ytoeklekjhaigoaa.HPack
set_option linter.unusedVariables false
set_option linter.unusedSimpArgs false
set_option maxRecDepth 100000
theorem get_any (s : ByteArray) (p : Nat) (sz : Nat) (w : World) (h1 : 1 ≤ sz) (h8 : sz ≤ 8) (hp : p + sz ≤ s.size) (hz : s.size ≤ 1000) :
    Calls Try.prog 95 #[.string s, .int .i64 (p : Int), .int .i64 (sz : Int)] w fun e w' => e = .returned (.tuple #[.int .u64 (leval s p sz), .int .i64 ((p : Int) + (sz : Int)), .int .i64 0]) ∧ Below w.heap.size w w' :=
  (le_Get.calls 20 s (p : Int) (sz : Int) (leval s p sz) ((p : Int) + (sz : Int)) 0 w (get_ok s (p : Int) sz h1 h8 (by omega) (by omega) (by omega) 20 (by omega))).mono (fun e w' h => ⟨h.1, by obtain ⟨n, rfl⟩ := h.2.out; exact pbd (Below.refl _ _) n⟩)
def NextPost (sb ab : Nat) (s : ByteArray) (p n : Int) (w : World) (e : Ending) (w' : World) : Prop := e = .returned (.int .u64 n) ∧ w'.heap[ab]? = some (.cells #[.int .i64 p] 3 (0, 0)) ∧ Below ab w w' ∧ KeepBut w w' ab none
set_option maxHeartbeats 1000000 in
theorem next_c {w : World} {sb ab : Nat} {s : ByteArray} {p : Nat} (hs : w.heap[sb]? = some (.cells #[.string s] 9 (0, 0))) (ha : w.heap[ab]? = some (.cells #[.int .i64 (p : Int)] 3 (0, 0))) (sz : Nat) (h1 : 1 ≤ sz) (h8 : sz ≤ 8) (hp : p + sz ≤ s.size) (hz : s.size ≤ 1000) :
    Calls Try.prog 96 #[.int .i64 (sz : Int), .pointer (some ⟨sb, 0, none⟩), .pointer (some ⟨ab, 0, none⟩)] w (NextPost sb ab s ((p : Int) + (sz : Int)) (leval s p sz) w) := by
  have hget := fun W => get_any s p sz W h1 h8 hp hz
  have k1 := blk_cell hs 0
  have k2 := blk_cell ha 0
  have l1 := blk_lt hs
  have l2 := blk_lt ha
  have HA := amk ha
  clear hs ha
  generalize leval s p sz = n at *
  go_enter Try.func96, Try.ntmps96
  go_wp2_with (go_at_call 95; refine (hget _).mono ?_; rintro e w1 ⟨rfl, hb1⟩; have hw1 := blk_below HA.out hb1; have k0 := blk_cell hw1 0; have f0 := blk_frozen hw1 0; have HW1 := amk hw1; clear hw1)
  go_ret
  exact ⟨rfl, blk_put HW1.out 0 _ rfl, (below_then (Below.refl ab w) (Nat.le_of_lt l2) hb1).setCell (p := ⟨ab, 0, none⟩) (Nat.le_refl _) _, by simp [World.setCell]; exact hb1.size, fun i hi hne _ => (Below.heap_setCell _ _ _ _ hne).trans (hb1.block i hi)⟩
structure US (w0 w : World) (cb : Nat) (s : ByteArray) (p : Nat) (cs : Array Value) : Prop where
  hs : w.heap[w0.heap.size]? = some (.cells #[.string s] 9 (0, 0))
  hr : w.heap[w0.heap.size + 1]? = some (.cells #[.int .u32 0, .int .u32 0, .int .u64 0, .int .u64 0, .int .u64 0, .int .u64 0, .int .u64 0, .int .u64 0, .int .u64 0] 49 (0, 0))
  ha : w.heap[w0.heap.size + 1 + 1]? = some (.cells #[.int .i64 (p : Int)] 3 (0, 0))
  hc : w.heap[cb]? = some (.cells cs 49 (0, 0))
  hb : Below w0.heap.size w0 w
  hlt : w0.heap.size + 1 + 1 < cb
theorem US.next {w0 w w' : World} {cb : Nat} {s : ByteArray} {p q : Nat} {cs : Array Value} {n : Int} {e : Ending} (h : US w0 w cb s p cs) (k : NextPost w0.heap.size (w0.heap.size + 1 + 1) s (q : Int) n w e w') : US w0 w' cb s q cs := by
  obtain ⟨_, k1, k2, k3⟩ := k
  have := h.hlt
  exact ⟨(k3.2 _ (blk_lt h.hs) (by omega) (by simp)).trans h.hs, (k3.2 _ (blk_lt h.hr) (by omega) (by simp)).trans h.hr, k1, (k3.2 _ (blk_lt h.hc) (by omega) (by simp)).trans h.hc, below_weaken h.hb (by omega) k2, h.hlt⟩
theorem US.put {w0 w : World} {cb : Nat} {s : ByteArray} {p : Nat} {cs cs' : Array Value} (h : US w0 w cb s p cs) (i : Nat) (u : Value) (e : cs.setIfInBounds i u = cs') : US w0 (w.setCell ⟨cb, i, none⟩ u) cb s p cs' := by
  have := h.hlt
  exact ⟨(Below.heap_setCell _ _ _ _ (by simp only; omega)).trans h.hs, (Below.heap_setCell _ _ _ _ (by simp only; omega)).trans h.hr, (Below.heap_setCell _ _ _ _ (by simp only; omega)).trans h.ha, blk_put h.hc i u e, h.hb.setCell (p := ⟨cb, i, none⟩) (by simp only; omega) _, h.hlt⟩
theorem US.call {w0 w : World} {cb : Nat} {s : ByteArray} {p : Nat} {cs : Array Value} (h : US w0 w cb s p cs) (sz : Nat) (h1 : 1 ≤ sz) (h8 : sz ≤ 8) (hp : p + sz ≤ s.size) (hz : s.size ≤ 1000) :
    Calls Try.prog 96 #[.int .i64 (sz : Int), .pointer (some ⟨w0.heap.size, 0, none⟩), .pointer (some ⟨w0.heap.size + 1 + 1, 0, none⟩)] w fun e w' => e = .returned (.int .u64 (leval s p sz)) ∧ US w0 w' cb s (p + sz) cs :=
  (next_c h.hs h.ha sz h1 h8 hp hz).mono (fun e w' k => ⟨k.1, h.next (q := p + sz) (n := leval s p sz) (by have k' := k; unfold NextPost at k' ⊢; rw [Int.natCast_add]; exact k')⟩)
theorem nine {w : World} {g : Nat} (h : w.heap[g]? = some (.cells #[.int .u32 0, .int .u32 0, .int .u64 0, .int .u64 0, .int .u64 0, .int .u64 0, .int .u64 0, .int .u64 0, .int .u64 0] 49 (0, 0))) (v0 v1 v2 v3 v4 v5 v6 v7 v8 : Value) : (((((((((w.setCell ⟨g, 0, none⟩ v0).setCell ⟨g, 1, none⟩ v1).setCell ⟨g, 2, none⟩ v2).setCell ⟨g, 3, none⟩ v3).setCell ⟨g, 4, none⟩ v4).setCell ⟨g, 5, none⟩ v5).setCell ⟨g, 6, none⟩ v6).setCell ⟨g, 7, none⟩ v7).setCell ⟨g, 8, none⟩ v8).heap[g]? = some (.cells #[v0, v1, v2, v3, v4, v5, v6, v7, v8] 49 (0, 0)) := by
  have h0 := blk_put (cs' := #[v0, .int .u32 0, .int .u64 0, .int .u64 0, .int .u64 0, .int .u64 0, .int .u64 0, .int .u64 0, .int .u64 0]) h 0 v0 rfl
  have h1 := blk_put (cs' := #[v0, v1, .int .u64 0, .int .u64 0, .int .u64 0, .int .u64 0, .int .u64 0, .int .u64 0, .int .u64 0]) h0 1 v1 rfl
  have h2 := blk_put (cs' := #[v0, v1, v2, .int .u64 0, .int .u64 0, .int .u64 0, .int .u64 0, .int .u64 0, .int .u64 0]) h1 2 v2 rfl
  have h3 := blk_put (cs' := #[v0, v1, v2, v3, .int .u64 0, .int .u64 0, .int .u64 0, .int .u64 0, .int .u64 0]) h2 3 v3 rfl
  have h4 := blk_put (cs' := #[v0, v1, v2, v3, v4, .int .u64 0, .int .u64 0, .int .u64 0, .int .u64 0]) h3 4 v4 rfl
  have h5 := blk_put (cs' := #[v0, v1, v2, v3, v4, v5, .int .u64 0, .int .u64 0, .int .u64 0]) h4 5 v5 rfl
  have h6 := blk_put (cs' := #[v0, v1, v2, v3, v4, v5, v6, .int .u64 0, .int .u64 0]) h5 6 v6 rfl
  have h7 := blk_put (cs' := #[v0, v1, v2, v3, v4, v5, v6, v7, .int .u64 0]) h6 7 v7 rfl
  have h8 := blk_put (cs' := #[v0, v1, v2, v3, v4, v5, v6, v7, v8]) h7 8 v8 rfl
  exact h8
theorem nine_below {w0 w : World} {B g : Nat} (h : Below B w0 w) (hg : B ≤ g) (v0 v1 v2 v3 v4 v5 v6 v7 v8 : Value) : Below B w0 (((((((((w.setCell ⟨g, 0, none⟩ v0).setCell ⟨g, 1, none⟩ v1).setCell ⟨g, 2, none⟩ v2).setCell ⟨g, 3, none⟩ v3).setCell ⟨g, 4, none⟩ v4).setCell ⟨g, 5, none⟩ v5).setCell ⟨g, 6, none⟩ v6).setCell ⟨g, 7, none⟩ v7).setCell ⟨g, 8, none⟩ v8) :=
  (Below.setCell (Below.setCell (Below.setCell (Below.setCell (Below.setCell (Below.setCell (Below.setCell (Below.setCell (Below.setCell h (p := ⟨g, 0, none⟩) hg v0) (p := ⟨g, 1, none⟩) hg v1) (p := ⟨g, 2, none⟩) hg v2) (p := ⟨g, 3, none⟩) hg v3) (p := ⟨g, 4, none⟩) hg v4) (p := ⟨g, 5, none⟩) hg v5) (p := ⟨g, 6, none⟩) hg v6) (p := ⟨g, 7, none⟩) hg v7) (p := ⟨g, 8, none⟩) hg v8)
end Go.Proofs.Ytoeklekjhaigoaa.HUnpack
end
section
namespace Go.Proofs.Ytoeklekjhaigoaa.HRefPack
open Go.Proofs.Ytoeklekjhaigoaa.Al Go.RowKit Go.Proofs.YtoeklekjhaigoaaW.PrintWords Go.Proofs.YtoeklekjhaigoaaW.PrintLast Go.Proofs.YtoeklekjhaigoaaW.PrintMore Go.Proofs.Ytoeklekjhaigoaa.Le Go.Proofs.Ytoeklekjhaigoaa.R01 Go.Proofs.Ytoeklekjhaigoaa.W0 Go.Proofs.Ytoeklekjhaigoaa.QLe Go.Proofs.Ytoeklekjhaigoaa.QNum Go.Proofs.Ytoeklekjhaigoaa.HPack Go.Proofs.Ytoeklekjhaigoaa.HUnpack
set_option linter.unusedVariables false
set_option linter.unusedSimpArgs false
set_option maxRecDepth 100000
def CB (w : World) (cb : Nat) (nr arch ip a0 a1 a2 a3 a4 a5 : Int) : Prop := w.heap[cb]? = some (.cells #[.int .u32 nr, .int .u32 arch, .int .u64 ip, .int .u64 a0, .int .u64 a1, .int .u64 a2, .int .u64 a3, .int .u64 a4, .int .u64 a5] 49 (0, 0))
theorem CB.cell {w : World} {cb : Nat} {nr arch ip a0 a1 a2 a3 a4 a5 : Int} (h : CB w cb nr arch ip a0 a1 a2 a3 a4 a5) (j : Nat) (hj : j < 6) : w.cell? ⟨cb, 3 + j, none⟩ = some (.int .u64 (ar a0 a1 a2 a3 a4 a5 j)) := by
  refine (blk_cell h (3 + j)).trans ?_
  match j, hj with
  | 0, _ | 1, _ | 2, _ | 3, _ | 4, _ | 5, _ => rfl
structure UR (w0 w : World) (cs : Array Value) : Prop where
  hr : w.heap[w0.heap.size]? = some (.cells #[.int .u32 0, .int .u32 0, .int .u64 0, .int .u64 0, .int .u64 0, .int .u64 0, .int .u64 0, .int .u64 0, .int .u64 0] 49 (0, 0))
  hc : w.heap[w0.heap.size + 1]? = some (.cells cs 49 (0, 0))
  hb : Below w0.heap.size w0 w
theorem UR.put {w0 w : World} {cs cs' : Array Value} (h : UR w0 w cs) (i : Nat) (u : Value) (e : cs.setIfInBounds i u = cs') : UR w0 (w.setCell ⟨w0.heap.size + 1, i, none⟩ u) cs' :=
  ⟨blk_far h.hr (show w0.heap.size ≠ w0.heap.size + 1 by omega) u, blk_put h.hc i u e, Below.setCell h.hb (p := ⟨w0.heap.size + 1, i, none⟩) (Nat.le_succ _) u⟩
theorem UR.nine {w0 w : World} (h : UR w0 w #[.int .u32 0, .int .u32 0, .int .u64 0, .int .u64 0, .int .u64 0, .int .u64 0, .int .u64 0, .int .u64 0, .int .u64 0]) (v0 v1 v2 v3 v4 v5 v6 v7 v8 : Value) : UR w0 (((((((((w.setCell ⟨w0.heap.size + 1, 0, none⟩ v0).setCell ⟨w0.heap.size + 1, 1, none⟩ v1).setCell ⟨w0.heap.size + 1, 2, none⟩ v2).setCell ⟨w0.heap.size + 1, 3, none⟩ v3).setCell ⟨w0.heap.size + 1, 4, none⟩ v4).setCell ⟨w0.heap.size + 1, 5, none⟩ v5).setCell ⟨w0.heap.size + 1, 6, none⟩ v6).setCell ⟨w0.heap.size + 1, 7, none⟩ v7).setCell ⟨w0.heap.size + 1, 8, none⟩ v8) #[v0, v1, v2, v3, v4, v5, v6, v7, v8] :=
  ⟨blk_far (blk_far (blk_far (blk_far (blk_far (blk_far (blk_far (blk_far (blk_far h.hr (p := ⟨w0.heap.size + 1, 0, none⟩) (Nat.ne_of_lt (Nat.lt_succ_self _)) v0) (p := ⟨w0.heap.size + 1, 1, none⟩) (Nat.ne_of_lt (Nat.lt_succ_self _)) v1) (p := ⟨w0.heap.size + 1, 2, none⟩) (Nat.ne_of_lt (Nat.lt_succ_self _)) v2) (p := ⟨w0.heap.size + 1, 3, none⟩) (Nat.ne_of_lt (Nat.lt_succ_self _)) v3) (p := ⟨w0.heap.size + 1, 4, none⟩) (Nat.ne_of_lt (Nat.lt_succ_self _)) v4) (p := ⟨w0.heap.size + 1, 5, none⟩) (Nat.ne_of_lt (Nat.lt_succ_self _)) v5) (p := ⟨w0.heap.size + 1, 6, none⟩) (Nat.ne_of_lt (Nat.lt_succ_self _)) v6) (p := ⟨w0.heap.size + 1, 7, none⟩) (Nat.ne_of_lt (Nat.lt_succ_self _)) v7) (p := ⟨w0.heap.size + 1, 8, none⟩) (Nat.ne_of_lt (Nat.lt_succ_self _)) v8, Go.Proofs.Ytoeklekjhaigoaa.HUnpack.nine h.hc _ _ _ _ _ _ _ _ _, nine_below h.hb (Nat.le_succ _) _ _ _ _ _ _ _ _ _⟩
end Go.Proofs.Ytoeklekjhaigoaa.HRefPack
end
section
namespace Go.Proofs.Ytoeklekjhaigoaa.M0
open Go.Proofs.Ytoeklekjhaigoaa.Al Go.RowKit Go.Proofs.YtoeklekjhaigoaaW.PrintWords Go.Proofs.YtoeklekjhaigoaaW.PrintLast Go.Proofs.YtoeklekjhaigoaaW.PrintMore
attribute [local go_sem] max2_int min2_int max_two min_two max_three min_three max_four min_four IntKind.wrap_u32 IntKind.wrap_u8   -- for this text's walks alone
set_option linter.unusedVariables false
open Go.Proofs.Ytoeklekjhaigoaa.Le Go.Proofs.Ytoeklekjhaigoaa.C1 Go.Proofs.Ytoeklekjhaigoaa.C2 Go.Proofs.Ytoeklekjhaigoaa.HAct Go.Proofs.Ytoeklekjhaigoaa.W0 Go.Proofs.Ytoeklekjhaigoaa.HFrom Go.Proofs.Ytoeklekjhaigoaa.W1 Go.Proofs.Ytoeklekjhaigoaa.R01 Go.Proofs.Ytoeklekjhaigoaa.HPack Go.Proofs.Ytoeklekjhaigoaa.HUnpack Go.Proofs.Ytoeklekjhaigoaa.HRefPack
set_option linter.unusedSimpArgs false
def errW : Option Int → Value
  | none => .nilIface
  | some c => .iface 0 (.int .i64 c)
theorem errW_none : errW none = .nilIface := rfl
theorem errW_some (c : Int) : errW (some c) = .iface 0 (.int .i64 c) := rfl
structure S46 where
  f0 : Int
  f1 : (List S46)
  f2 : Int
  f3 : Int
  f4 : ByteArray
  f5 : Int
def z46 : S46 := ⟨(0 : Int), ([] : List S46), (0 : Int), (0 : Int), (⟨#[]⟩ : ByteArray), (0 : Int)⟩
def F46 (d : Kd S46) : Kd S46 := Kd.iso (Kd.pair (Kd.int .i64) (Kd.pair (Kd.slice 46 d) (Kd.pair (Kd.int .i64) (Kd.pair (Kd.int .u64) (Kd.pair Kd.string (Kd.int .u64)))))) (fun x : S46 => (x.f0, x.f1, x.f2, x.f3, x.f4, x.f5))
theorem mono46 : Kd.Mono F46 := Kd.mono_iso _ (Kd.mono_pair (Kd.mono_const _) (Kd.mono_pair (Kd.mono_slice 46 Kd.mono_id) (Kd.mono_pair (Kd.mono_const _) (Kd.mono_pair (Kd.mono_const _) (Kd.mono_pair (Kd.mono_const _) (Kd.mono_const _))))))
theorem sub46 : Kd.Sub F46 [46] := Kd.sub_iso _ (Kd.sub_pair (Kd.sub_const _ (by decide)) (Kd.sub_pair (Kd.sub_slice 46 (by decide) Kd.sub_id) (Kd.sub_pair (Kd.sub_const _ (by decide)) (Kd.sub_pair (Kd.sub_const _ (by decide)) (Kd.sub_pair (Kd.sub_const _ (by decide)) (Kd.sub_const _ (by decide)))))))
theorem sz46 : ∀ n, (Kd.upto F46 6 [46] n).sz = 6 := Kd.upto_sz (fun _ => rfl)
def k46 : Kd S46 := Kd.fix F46 6 [46] sz46 (Kd.upto_E sub46)
theorem k46_heap : Kd.Heap k46 := Kd.heap_fix (fun _ h_ => Kd.heap_iso _ (Kd.heap_pair (Kd.heap_int .i64) (Kd.heap_pair (Kd.heap_slice 46 h_) (Kd.heap_pair (Kd.heap_int .i64) (Kd.heap_pair (Kd.heap_int .u64) (Kd.heap_pair Kd.heap_string (Kd.heap_int .u64)))))))
theorem k46_open {w : World} {x : S46} {cs : List Value} (h : k46.K w x cs) : ∃ A1 c1, cs = [.int .i64 x.f0, .slice A1 x.f1.length c1, .int .i64 x.f2, .int .u64 x.f3, .string x.f4, .int .u64 x.f5] ∧ x.f1.length ≤ c1 ∧ k46.C w A1 x.f1.length x.f1 := by
  obtain ⟨n, h⟩ := h
  cases n with
  | zero => exact h.elim
  | succ n =>
    obtain ⟨_, _, rfl, rfl, ⟨_, _, rfl, ⟨A1, c1, rfl, l1, g1⟩, ⟨_, _, rfl, rfl, ⟨_, _, rfl, rfl, ⟨_, _, rfl, rfl, rfl⟩⟩⟩⟩⟩ := h
    exact ⟨A1, c1, rfl, l1, Kd.fix_C g1⟩
theorem k46_mk (w : World) (x : S46) {A1 : Option Addr} {c1 : Nat} (l1 : x.f1.length ≤ c1) (g1 : k46.C w A1 x.f1.length x.f1) : k46.K w x [.int .i64 x.f0, .slice A1 x.f1.length c1, .int .i64 x.f2, .int .u64 x.f3, .string x.f4, .int .u64 x.f5] := by
  obtain ⟨n1, q1⟩ := Kd.fix_C_back mono46 g1
  have r1 := Kd.upto_C_le mono46 sz46 (show n1 ≤ n1 by omega) q1
  exact ⟨n1 + 1, ⟨[.int .i64 x.f0], [.slice A1 x.f1.length c1, .int .i64 x.f2, .int .u64 x.f3, .string x.f4, .int .u64 x.f5], rfl, rfl, ⟨[.slice A1 x.f1.length c1], [.int .i64 x.f2, .int .u64 x.f3, .string x.f4, .int .u64 x.f5], rfl, ⟨A1, c1, rfl, l1, r1⟩, ⟨[.int .i64 x.f2], [.int .u64 x.f3, .string x.f4, .int .u64 x.f5], rfl, rfl, ⟨[.int .u64 x.f3], [.string x.f4, .int .u64 x.f5], rfl, rfl, ⟨[.string x.f4], [.int .u64 x.f5], rfl, rfl, rfl⟩⟩⟩⟩⟩⟩
theorem k46_openF {W : World} {ok : Nat → Prop} {x : S46} {cs : List Value} (h : Kd.FK k46 W ok x cs) : ∃ A1 c1, cs = [.int .i64 x.f0, .slice A1 x.f1.length c1, .int .i64 x.f2, .int .u64 x.f3, .string x.f4, .int .u64 x.f5] ∧ x.f1.length ≤ c1 ∧ Kd.F k46 W ok A1 x.f1.length x.f1 := by
  obtain ⟨A1, c1, rfl, l1, _⟩ := k46_open (Kd.FK_now h)
  exact ⟨A1, c1, rfl, l1, (fun W' hW => by obtain ⟨A1_, c1_, he, l1_, g1_⟩ := k46_open (h W' hW); injection (Option.some.inj (show some (Value.slice A1 x.f1.length c1) = some (Value.slice A1_ x.f1.length c1_) from congrArg (fun l => l[1]?) he)) with ha_ _ _; rw [ha_]; exact g1_)⟩
theorem k46_mkF (W : World) (ok : Nat → Prop) (x : S46) {A1 : Option Addr} {c1 : Nat} (l1 : x.f1.length ≤ c1) (g1 : Kd.F k46 W ok A1 x.f1.length x.f1) : Kd.FK k46 W ok x [.int .i64 x.f0, .slice A1 x.f1.length c1, .int .i64 x.f2, .int .u64 x.f3, .string x.f4, .int .u64 x.f5] := fun W2 hW => k46_mk W2 x l1 (g1 W2 hW)
def rd_T46 (xs : List S46) (i : Int) : S46 := xs.getD i.toNat z46
theorem at_T46 {w : World} {A : Option Addr} {n : Nat} {xs : List S46} (h : Kd.C k46 w A n xs) (i : Int) (h0 : 0 ≤ i) (h1 : i < n) : ∃ ad A1 c1, A = some ad ∧ w.cell? (ad.add (i.toNat * 6)) = some (.int .i64 (rd_T46 xs i).f0) ∧ w.cell? ⟨(ad.add (i.toNat * 6)).block, (ad.add (i.toNat * 6)).off + 1, none⟩ = some (.slice A1 (rd_T46 xs i).f1.length c1) ∧ w.cell? ⟨(ad.add (i.toNat * 6)).block, (ad.add (i.toNat * 6)).off + 2, none⟩ = some (.int .i64 (rd_T46 xs i).f2) ∧ w.cell? ⟨(ad.add (i.toNat * 6)).block, (ad.add (i.toNat * 6)).off + 3, none⟩ = some (.int .u64 (rd_T46 xs i).f3) ∧ w.cell? ⟨(ad.add (i.toNat * 6)).block, (ad.add (i.toNat * 6)).off + 4, none⟩ = some (.string (rd_T46 xs i).f4) ∧ w.cell? ⟨(ad.add (i.toNat * 6)).block, (ad.add (i.toNat * 6)).off + 5, none⟩ = some (.int .u64 (rd_T46 xs i).f5) ∧ (rd_T46 xs i).f1.length ≤ c1 ∧ k46.C w A1 (rd_T46 xs i).f1.length (rd_T46 xs i).f1 := by
  obtain ⟨ad, c, e, _, hK, hc0⟩ := Kd.C_get h z46 i h0 h1
  have hc : ∀ j u, c[j]? = some u → w.cell? (ad.add (i.toNat * 6 + j)) = some u := hc0
  obtain ⟨A1, c1, rfl, l1, g1⟩ := k46_open hK
  exact ⟨ad, A1, c1, e, hc 0 _ rfl, by rw [← add_field _ _ 1 (by omega)]; exact hc 1 _ rfl, by rw [← add_field _ _ 2 (by omega)]; exact hc 2 _ rfl, by rw [← add_field _ _ 3 (by omega)]; exact hc 3 _ rfl, by rw [← add_field _ _ 4 (by omega)]; exact hc 4 _ rfl, by rw [← add_field _ _ 5 (by omega)]; exact hc 5 _ rfl, l1, g1⟩
structure S58 where
  f0 : (List Int)
  f1 : S46
  f2 : Int
def z58 : S58 := ⟨([] : List Int), z46, (0 : Int)⟩
def k58 : Kd S58 := Kd.iso (Kd.pair (Kd.slice 22 (Kd.int .u32)) (Kd.pair k46 (Kd.int .u32))) (fun x : S58 => (x.f0, x.f1, x.f2))
theorem k58_open {w : World} {x : S58} {cs : List Value} (h : k58.K w x cs) : ∃ A0 c0 A2 c2, cs = [.slice A0 x.f0.length c0, .int .i64 x.f1.f0, .slice A2 x.f1.f1.length c2, .int .i64 x.f1.f2, .int .u64 x.f1.f3, .string x.f1.f4, .int .u64 x.f1.f5, .int .u32 x.f2] ∧ x.f0.length ≤ c0 ∧ (Kd.int .u32).C w A0 x.f0.length x.f0 ∧ x.f1.f1.length ≤ c2 ∧ k46.C w A2 x.f1.f1.length x.f1.f1 := by
  obtain ⟨_, _, rfl, ⟨A0, c0, rfl, l0, g0⟩, ⟨_, _, rfl, s1, rfl⟩⟩ := h
  obtain ⟨A2, c2, rfl, l2, g2⟩ := k46_open s1
  exact ⟨A0, c0, A2, c2, rfl, l0, g0, l2, g2⟩
def rd_T58 (xs : List S58) (i : Int) : S58 := xs.getD i.toNat z58
theorem at_T58 {w : World} {A : Option Addr} {n : Nat} {xs : List S58} (h : Kd.C k58 w A n xs) (i : Int) (h0 : 0 ≤ i) (h1 : i < n) : ∃ ad A0 c0 A2 c2, A = some ad ∧ w.cell? (ad.add (i.toNat * 8)) = some (.slice A0 (rd_T58 xs i).f0.length c0) ∧ w.cell? ⟨(ad.add (i.toNat * 8)).block, (ad.add (i.toNat * 8)).off + 1, none⟩ = some (.int .i64 (rd_T58 xs i).f1.f0) ∧ w.cell? ⟨(ad.add (i.toNat * 8)).block, (ad.add (i.toNat * 8)).off + 2, none⟩ = some (.slice A2 (rd_T58 xs i).f1.f1.length c2) ∧ w.cell? ⟨(ad.add (i.toNat * 8)).block, (ad.add (i.toNat * 8)).off + 3, none⟩ = some (.int .i64 (rd_T58 xs i).f1.f2) ∧ w.cell? ⟨(ad.add (i.toNat * 8)).block, (ad.add (i.toNat * 8)).off + 4, none⟩ = some (.int .u64 (rd_T58 xs i).f1.f3) ∧ w.cell? ⟨(ad.add (i.toNat * 8)).block, (ad.add (i.toNat * 8)).off + 5, none⟩ = some (.string (rd_T58 xs i).f1.f4) ∧ w.cell? ⟨(ad.add (i.toNat * 8)).block, (ad.add (i.toNat * 8)).off + 6, none⟩ = some (.int .u64 (rd_T58 xs i).f1.f5) ∧ w.cell? ⟨(ad.add (i.toNat * 8)).block, (ad.add (i.toNat * 8)).off + 7, none⟩ = some (.int .u32 (rd_T58 xs i).f2) ∧ (rd_T58 xs i).f0.length ≤ c0 ∧ (Kd.int .u32).C w A0 (rd_T58 xs i).f0.length (rd_T58 xs i).f0 ∧ (rd_T58 xs i).f1.f1.length ≤ c2 ∧ k46.C w A2 (rd_T58 xs i).f1.f1.length (rd_T58 xs i).f1.f1 := by
  obtain ⟨ad, c, e, _, hK, hc0⟩ := Kd.C_get h z58 i h0 h1
  have hc : ∀ j u, c[j]? = some u → w.cell? (ad.add (i.toNat * 8 + j)) = some u := hc0
  obtain ⟨A0, c0, A2, c2, rfl, l0, g0, l2, g2⟩ := k58_open hK
  exact ⟨ad, A0, c0, A2, c2, e, hc 0 _ rfl, by rw [← add_field _ _ 1 (by omega)]; exact hc 1 _ rfl, by rw [← add_field _ _ 2 (by omega)]; exact hc 2 _ rfl, by rw [← add_field _ _ 3 (by omega)]; exact hc 3 _ rfl, by rw [← add_field _ _ 4 (by omega)]; exact hc 4 _ rfl, by rw [← add_field _ _ 5 (by omega)]; exact hc 5 _ rfl, by rw [← add_field _ _ 6 (by omega)]; exact hc 6 _ rfl, by rw [← add_field _ _ 7 (by omega)]; exact hc 7 _ rfl, l0, g0, l2, g2⟩
end Go.Proofs.Ytoeklekjhaigoaa.M0
end
section
namespace Go.Proofs.Ytoeklekjhaigoaa.QCond
open Go.Proofs.Ytoeklekjhaigoaa.Al Go.RowKit Go.Proofs.YtoeklekjhaigoaaW.PrintWords Go.Proofs.YtoeklekjhaigoaaW.PrintLast Go.Proofs.YtoeklekjhaigoaaW.PrintMore Go.Proofs.Ytoeklekjhaigoaa.M0
set_option linter.unusedVariables false
set_option linter.unusedSimpArgs false
mutual
def nodes : S46 → Nat
  | ⟨_, ks, _, _, _, _⟩ => nodesL ks + 1
def nodesL : List S46 → Nat
  | [] => 0
  | c :: l => nodes c + nodesL l
end
theorem nodes_eq (c : S46) : nodes c = nodesL c.f1 + 1 := by cases c; rfl
theorem nodesL_append (a b : List S46) : nodesL (a ++ b) = nodesL a + nodesL b := by
  induction a with
  | nil => simp [nodesL]
  | cons c a ih => rw [List.cons_append, nodesL, nodesL, ih]; omega
theorem nodes_pos (c : S46) : 1 ≤ nodes c := by rw [nodes_eq]; omega
theorem len_nodes (l : List S46) : l.length ≤ nodesL l := by
  induction l with
  | nil => simp [nodesL]
  | cons c l ih => have := nodes_pos c; rw [nodesL, List.length_cons]; omega
def signs : List (List UInt8) := [[61, 61], [33, 61], [60], [60, 61], [62], [62, 61]]
def signOk (s : ByteArray) : Bool := signs.contains s.toList
def bareB (c : S46) : Bool := decide (c.f2 = 0) && decide (c.f3 = 0) && decide (c.f4.toList = []) && decide (c.f5 = 0)
/-- May a condition be, as far as it itself goes? -/
def oneB (c : S46) : Bool :=
  if c.f0 = 4 then decide (0 ≤ c.f2 ∧ c.f2 < 6) && signOk c.f4 && decide (c.f1.length = 0)
  else if c.f0 = 1 ∨ c.f0 = 2 then bareB c && decide (2 ≤ c.f1.length)
  else if c.f0 = 3 then bareB c && decide (c.f1.length = 1)
  else false
mutual
def fitsB : S46 → Bool
  | ⟨a, ks, b, c, d, e⟩ => oneB ⟨a, ks, b, c, d, e⟩ && fitsL ks
def fitsL : List S46 → Bool
  | [] => true
  | c :: l => fitsB c && fitsL l
end
theorem fits_eq (c : S46) : fitsB c = (oneB c && fitsL c.f1) := by cases c; rfl
theorem fitsL_append (a b : List S46) : fitsL (a ++ b) = (fitsL a && fitsL b) := by
  induction a with
  | nil => simp [fitsL]
  | cons c a ih => rw [List.cons_append, fitsL, fitsL, ih, Bool.and_assoc]
mutual
def testsN : S46 → Nat
  | ⟨a, ks, _, _, _, _⟩ => (if a = 4 then 1 else 0) + testsL ks
def testsL : List S46 → Nat
  | [] => 0
  | c :: l => testsN c + testsL l
end
theorem tests_eq (c : S46) : testsN c = (if c.f0 = 4 then 1 else 0) + testsL c.f1 := by cases c; rfl
theorem testsL_append (a b : List S46) : testsL (a ++ b) = testsL a + testsL b := by
  induction a with
  | nil => simp [testsL]
  | cons c a ih => rw [List.cons_append, testsL, testsL, ih]; omega
/-- May a condition be (types.Right)? -/
def rightB (c : S46) : Bool := fitsB c && decide (nodes c ≤ 100)
def countR (c : S46) : Int × Bool := if rightB c = true then ((testsN c : Int), true) else (0, false)
end Go.Proofs.Ytoeklekjhaigoaa.QCond
end
section
namespace Go.Proofs.Ytoeklekjhaigoaa.K49
open Go.Proofs.Ytoeklekjhaigoaa.Al Go.RowKit Go.Proofs.YtoeklekjhaigoaaW.PrintWords Go.Proofs.YtoeklekjhaigoaaW.PrintLast Go.Proofs.YtoeklekjhaigoaaW.PrintMore
structure S47 where
  f0 : Int
  f1 : Int
  f2 : Int
  f3 : Int
  f4 : Int
  f5 : Int
def k47 : Kd S47 := Kd.iso (Kd.pair (Kd.int .u64) (Kd.pair (Kd.int .u64) (Kd.pair (Kd.int .u64) (Kd.pair (Kd.int .u64) (Kd.pair (Kd.int .u64) (Kd.int .u64)))))) (fun x : S47 => (x.f0, x.f1, x.f2, x.f3, x.f4, x.f5))
structure S49 where
  f0 : Int
  f1 : Int
  f2 : Int
  f3 : S47
def k49 : Kd S49 := Kd.iso (Kd.pair (Kd.int .u32) (Kd.pair (Kd.int .u32) (Kd.pair (Kd.int .u64) k47))) (fun x : S49 => (x.f0, x.f1, x.f2, x.f3))
theorem k49_open {w : World} {x : S49} {cs : List Value} (h : k49.K w x cs) : cs = [.int .u32 x.f0, .int .u32 x.f1, .int .u64 x.f2, .int .u64 x.f3.f0, .int .u64 x.f3.f1, .int .u64 x.f3.f2, .int .u64 x.f3.f3, .int .u64 x.f3.f4, .int .u64 x.f3.f5] := by
  obtain ⟨_, _, rfl, rfl, ⟨_, _, rfl, rfl, ⟨_, _, rfl, rfl, ⟨_, _, rfl, rfl, ⟨_, _, rfl, rfl, ⟨_, _, rfl, rfl, ⟨_, _, rfl, rfl, ⟨_, _, rfl, rfl, rfl⟩⟩⟩⟩⟩⟩⟩⟩ := h
  exact rfl
end Go.Proofs.Ytoeklekjhaigoaa.K49
end
section
namespace Go.Proofs.Ytoeklekjhaigoaa.QMean
open Go.Proofs.Ytoeklekjhaigoaa.Al Go.RowKit Go.Proofs.YtoeklekjhaigoaaW.PrintWords Go.Proofs.YtoeklekjhaigoaaW.PrintLast Go.Proofs.YtoeklekjhaigoaaW.PrintMore Go.Proofs.Ytoeklekjhaigoaa.M0 Go.Proofs.Ytoeklekjhaigoaa.QCond Go.Proofs.Ytoeklekjhaigoaa.K49
set_option linter.unusedVariables false
set_option linter.unusedSimpArgs false
def argAt (a : S47) (i : Int) : Int := if i = 0 then a.f0 else if i = 1 then a.f1 else if i = 2 then a.f2 else if i = 3 then a.f3 else if i = 4 then a.f4 else a.f5
/-- What a sign says of two numbers. -/
def signB (s : List UInt8) (a v : Int) : Bool :=
  if s = [61, 61] then decide (a = v) else if s = [33, 61] then !decide (a = v) else if s = [60] then decide (a < v) else if s = [60, 61] then decide (a ≤ v) else if s = [62] then decide (v < a) else decide (v ≤ a)
def testB (x : S49) (c : S46) : Bool := signB c.f4.toList (bits BinOp.and IntKind.u64 (argAt x.f3 c.f2) c.f3) c.f5
mutual
def semB (x : S49) : S46 → Bool
  | ⟨a, ks, b, c, d, e⟩ => if a = 4 then testB x ⟨a, ks, b, c, d, e⟩ else if a = 1 then semA x ks else if a = 3 then !semO x ks else semO x ks
def semA (x : S49) : List S46 → Bool
  | [] => true
  | c :: l => semB x c && semA x l
def semO (x : S49) : List S46 → Bool
  | [] => false
  | c :: l => semB x c || semO x l
end
theorem sem_eq (x : S49) (c : S46) : semB x c = if c.f0 = 4 then testB x c else if c.f0 = 1 then semA x c.f1 else if c.f0 = 3 then !semO x c.f1 else semO x c.f1 := by cases c; rfl
theorem semA_all (x : S49) (l : List S46) : semA x l = l.all (semB x) := by
  induction l with
  | nil => rfl
  | cons c l ih => rw [semA, ih]; rfl
theorem semO_any (x : S49) (l : List S46) : semO x l = l.any (semB x) := by
  induction l with
  | nil => rfl
  | cons c l ih => rw [semO, ih]; rfl
theorem nodes_mem {l : List S46} {c : S46} (h : c ∈ l) : nodes c ≤ nodesL l := by
  induction l with
  | nil => cases h
  | cons d l ih =>
    rw [nodesL]
    rcases List.mem_cons.1 h with rfl | h
    · omega
    · have := ih h; omega
/-- Is there no condition? -/
def noneB (c : S46) : Bool := decide (c.f0 = 0) && bareB c && decide (c.f1.length = 0)
/-- Does a condition hold? -/
def holdsB (x : S49) (c : S46) : Bool := noneB c || (rightB c && semB x c)
theorem right_fits {c : S46} (h : rightB c = true) : fitsB c = true ∧ nodes c ≤ 100 := by
  unfold rightB at h
  rw [Bool.and_eq_true, decide_eq_true_eq] at h; exact h
theorem right_of {c : S46} (h : fitsB c = true) (g : nodes c ≤ 100) : rightB c = true := by
  unfold rightB
  rw [h, decide_eq_true g]; rfl
theorem one_kind {c : S46} (h : oneB c = true) : c.f0 = 1 ∨ c.f0 = 2 ∨ c.f0 = 3 ∨ c.f0 = 4 := by
  unfold oneB at h
  split at h
  · omega
  · split at h
    · omega
    · split at h
      · omega
      · cases h
theorem fits_one {c : S46} (h : fitsB c = true) : oneB c = true ∧ fitsL c.f1 = true := by
  rw [fits_eq, Bool.and_eq_true] at h; exact h
theorem fitsL_all (l : List S46) : fitsL l = l.all fitsB := by
  induction l with
  | nil => rfl
  | cons c l ih => rw [fitsL, ih]; rfl
theorem fits_mem {l : List S46} (h : fitsL l = true) {c : S46} (hc : c ∈ l) : fitsB c = true := by
  rw [fitsL_all] at h; exact List.all_eq_true.1 h c hc
theorem right_none {c : S46} (h : rightB c = true) : noneB c = false := by
  have := one_kind (fits_one (right_fits h).1).1
  unfold noneB
  rw [decide_eq_false (by omega)]; rfl
theorem holds_right {x : S49} {c : S46} (h : rightB c = true) : holdsB x c = semB x c := by
  unfold holdsB
  rw [right_none h, h]; simp
theorem one_test {c : S46} (h : oneB c = true) (h4 : c.f0 = 4) : 0 ≤ c.f2 ∧ c.f2 < 6 ∧ signOk c.f4 = true := by
  unfold oneB at h
  rw [if_pos h4, Bool.and_eq_true, Bool.and_eq_true, decide_eq_true_eq] at h
  exact ⟨h.1.1.1, h.1.1.2, h.1.2⟩
theorem one_kids {c : S46} (h : oneB c = true) (h4 : c.f0 ≠ 4) : c.f1 ≠ [] ∧ (c.f0 = 3 → c.f1.length = 1) := by
  unfold oneB at h
  rw [if_neg h4] at h
  split at h
  · rw [Bool.and_eq_true, decide_eq_true_eq] at h
    exact ⟨fun e => by rw [e] at h; simp at h, fun e => by omega⟩
  · split at h
    · rw [Bool.and_eq_true, decide_eq_true_eq] at h
      exact ⟨fun e => by rw [e] at h; simp at h, fun _ => h.2⟩
    · cases h
end Go.Proofs.Ytoeklekjhaigoaa.QMean
end
section
namespace Go.Proofs.Ytoeklekjhaigoaa.M0
open Go.Proofs.Ytoeklekjhaigoaa.Al Go.RowKit Go.Proofs.YtoeklekjhaigoaaW.PrintWords Go.Proofs.YtoeklekjhaigoaaW.PrintLast Go.Proofs.YtoeklekjhaigoaaW.PrintMore
attribute [local go_sem] max2_int min2_int max_two min_two max_three min_three max_four min_four IntKind.wrap_u32 IntKind.wrap_u8   -- for this text's walks alone
set_option linter.unusedVariables false
open Go.Proofs.Ytoeklekjhaigoaa.Le Go.Proofs.Ytoeklekjhaigoaa.C1 Go.Proofs.Ytoeklekjhaigoaa.C2 Go.Proofs.Ytoeklekjhaigoaa.HAct Go.Proofs.Ytoeklekjhaigoaa.W0 Go.Proofs.Ytoeklekjhaigoaa.HFrom Go.Proofs.Ytoeklekjhaigoaa.W1 Go.Proofs.Ytoeklekjhaigoaa.R01 Go.Proofs.Ytoeklekjhaigoaa.HPack Go.Proofs.Ytoeklekjhaigoaa.HUnpack Go.Proofs.Ytoeklekjhaigoaa.HRefPack
set_option linter.unusedSimpArgs false
def slices_Index_string_string.l0 : Nat → List ByteArray → ByteArray → Int → Int → Option (Int)
  | 0, _, _, _, _ => none
  | k + 1, x0, x1, x7, x8 => if x8 < x7 then (if 0 ≤ x8 then (if x8 < (x0.length : Int) then (if x1.toList = (rdOf ByteArray.empty x0 x8).toList then (some x8) else (slices_Index_string_string.l0 k x0 x1 x7 (wrap64 (x8 + 1)))) else (none)) else (none)) else (some (-1))
def slices_Index_string_string.f (k : Nat) (l0 : List ByteArray) (a1 : ByteArray) : Option (Int) := slices_Index_string_string.l0 k l0 a1 (l0.length : Int) 0
set_option maxHeartbeats 8000000 in
set_option maxRecDepth 100000 in
theorem slices_Index_string_string.calls (k : Nat) (A0 : Option Addr) (c0 : Nat) (l0 : List ByteArray) (a1 : ByteArray) (r : Int) (w : World) (hr0 : Kd.C Kd.string w A0 l0.length l0) (hc0 : l0.length ≤ c0) (h : slices_Index_string_string.f k l0 a1 = some r) :
    Calls Try.prog 167 #[.slice A0 l0.length c0, .string a1] w fun e w' => e = .returned (.int .i64 r) ∧ Drawn0 w w' := by
  have HR0 := amk hr0
  have HC0 := amk hc0
  clear hr0 hc0
  have H : (slices_Index_string_string.l0 k l0 a1 (l0.length : Int) 0) = some r := h
  clear h
  have H' := amk H
  clear H
  go_enter Try.func167, Try.ntmps167
  go_wp2
  go_loopg [8] k (fun kq v8 w' => ∃ (x8_1 : Int), v8 = .int .i64 x8_1 ∧ Aside0 (slices_Index_string_string.l0 kq l0 a1 (l0.length : Int) x8_1 = some r) ∧ Aside0 (kq ≤ k) ∧ Drawn0 w w')
  case atStart => exact ⟨(0), (by first | rfl | (simp; done) | (simp [*]; done)), H', ⟨Nat.le_refl _⟩, by repeat (first | exact Drawn0.refl _ | apply Drawn0.step)⟩
  case round =>
    clear H'
    try clear c1
    try clear p2
    obtain ⟨x8_1, rfl, HA, HK1, ⟨m1, rfl⟩⟩ := hrel
    cases gk with
    | zero => exact absurd HA.out (by simp [slices_Index_string_string.l0])
    | succ k1 =>
      have H := HA.out
      clear HA
      simp only [slices_Index_string_string.l0] at H
      by_cases c3 : x8_1 < (l0.length : Int)
      · rw [if_pos c3] at H
        have c3b0 : decide (x8_1 < (l0.length : Int)) = true := decide_eq_true c3
        clear c3
        by_cases c4 : 0 ≤ x8_1
        · rw [if_pos c4] at H
          have c4b0 : decide (0 ≤ x8_1) = true := decide_eq_true c4
          clear c4
          by_cases c5 : x8_1 < (l0.length : Int)
          · rw [if_pos c5] at H
            have c5b0 : decide (x8_1 < (l0.length : Int)) = true := decide_eq_true c5
            clear c5
            by_cases c6 : a1.toList = (rdOf ByteArray.empty l0 x8_1).toList
            · rw [if_pos c6] at H
              have c6b0 : (a1.toList == (rdOf ByteArray.empty l0 x8_1).toList) = true := beq_iff_eq.mpr c6
              have c6b1 : (a1.toList != (rdOf ByteArray.empty l0 x8_1).toList) = false := bne_eq_false_iff_eq.mpr c6
              clear c6
              obtain rfl := Option.some.inj H
              have p123 : 0 ≤ (x8_1 : Int) := of_decide_eq_true (by first | (with_reducible assumption) | assumption)
              have q123 : x8_1 < (l0.length : Int) := of_decide_eq_true (by first | (with_reducible assumption) | assumption)
              obtain ⟨ad123, e123, hx123_0⟩ := Kd.at_string HR0.out x8_1 p123 q123
              cases e123
              replace p123 := eq_true p123
              replace q123 := eq_true q123
              go_wp2
              go_ret
              exact ⟨by first | rfl | (simp; done) | (simp [*]; done), by repeat (first | exact Drawn0.refl _ | apply Drawn0.step)⟩
            · rw [if_neg c6] at H
              have c6b0 : (a1.toList == (rdOf ByteArray.empty l0 x8_1).toList) = false := beq_eq_false_iff_ne.mpr c6
              have c6b1 : (a1.toList != (rdOf ByteArray.empty l0 x8_1).toList) = true := bne_iff_ne.mpr c6
              have H' := amk H
              clear H
              have p123 : 0 ≤ (x8_1 : Int) := of_decide_eq_true (by first | (with_reducible assumption) | assumption)
              have q123 : x8_1 < (l0.length : Int) := of_decide_eq_true (by first | (with_reducible assumption) | assumption)
              obtain ⟨ad123, e123, hx123_0⟩ := Kd.at_string HR0.out x8_1 p123 q123
              cases e123
              replace p123 := eq_true p123
              replace q123 := eq_true q123
              go_wp2
              go_roundg k1
              case measure => have := HK1.out; omega
              case rel => exact ⟨(wrap64 (x8_1 + 1)), (by first | rfl | (simp; done) | (simp [*]; done)), H', ⟨by have := HK1.out; omega⟩, by repeat (first | exact Drawn0.refl _ | apply Drawn0.step)⟩
          · rw [if_neg c5] at H
            exact absurd H (by simp)
        · rw [if_neg c4] at H
          exact absurd H (by simp)
      · rw [if_neg c3] at H
        have c3b0 : decide (x8_1 < (l0.length : Int)) = false := decide_eq_false c3
        clear c3
        obtain rfl := Option.some.inj H
        go_wp2
        go_ret
        exact ⟨by first | rfl | (simp; done) | (simp [*]; done), by repeat (first | exact Drawn0.refl _ | apply Drawn0.step)⟩
def slices_Contains_string_string.f (k : Nat) (l0 : List ByteArray) (a1 : ByteArray) : Option (Bool) := (slices_Index_string_string.f k l0 a1).bind fun t124 => (some (decide (t124 ≥ 0)))
set_option maxHeartbeats 8000000 in
set_option maxRecDepth 100000 in
theorem slices_Contains_string_string.calls (k : Nat) (A0 : Option Addr) (c0 : Nat) (l0 : List ByteArray) (a1 : ByteArray) (r : Bool) (w : World) (hr0 : Kd.C Kd.string w A0 l0.length l0) (hc0 : l0.length ≤ c0) (h : slices_Contains_string_string.f k l0 a1 = some r) :
    Calls Try.prog 153 #[.slice A0 l0.length c0, .string a1] w fun e w' => e = .returned (.bool r) ∧ Drawn0 w w' := by
  have HR0 := amk hr0
  have HC0 := amk hc0
  clear hr0 hc0
  have H : ((slices_Index_string_string.f k l0 a1).bind fun t124 => (some (decide (t124 ≥ 0)))) = some r := h
  clear h
  replace H := Option.bind_eq_some_iff.mp H
  obtain ⟨t124, A30, H⟩ := H
  replace H : (some (decide (t124 ≥ 0))) = some r := H
  have A3 := amk A30
  clear A30
  obtain rfl := Option.some.inj H
  go_enter Try.func153, Try.ntmps153
  go_wp2_with (first | ((with_reducible refine gate_callee (f := 167) rfl ?_); refine goesL_ (some 7) rfl rfl Try.func167 (by kernel_rfl) rfl #[.slice A0 l0.length c0, .string a1] rfl (by (try simp only [List.map_toArray, List.map_cons, List.map_nil]); first | done | rfl | (simp only [List.length_drop, List.length_take]; rfl)) ?_; (with_reducible refine (slices_Index_string_string.calls k _ _ l0 a1 t124 _ ?side1 ?side2 A3.out).mono ?_); (case side1 => repeat (first | exact HR0.out | (with_reducible refine Kd.C_alloc ?_ _) | (with_reducible refine Kd.C_drewN ?_ _) | (with_reducible refine Kd.C_drew ?_))); (case side2 => exact HC0.out); rintro e w' ⟨rfl, ⟨nd, rfl⟩⟩; refine ⟨_, rfl, ?_⟩))
  go_ret
  exact ⟨by first | rfl | (simp; done) | (simp [*]; done), by repeat (first | exact Drawn0.refl _ | apply Drawn0.step)⟩
def types_signs.f  : Option (List ByteArray) := some (([(⟨#[61, 61]⟩ : ByteArray), (⟨#[33, 61]⟩ : ByteArray), (⟨#[60]⟩ : ByteArray), (⟨#[60, 61]⟩ : ByteArray), (⟨#[62]⟩ : ByteArray), (⟨#[62, 61]⟩ : ByteArray)] : List ByteArray))
set_option maxHeartbeats 8000000 in
set_option maxRecDepth 100000 in
theorem types_signs.calls  (r : List ByteArray) (w : World) (h : types_signs.f  = some r) :
    Calls Try.prog 154 #[] w fun e w' => ∃ v0_ : Value, e = .returned (v0_) ∧ Kd.R Kd.string 9 w' w.heap.size (fun _ => True) v0_ r ∧ Below w.heap.size w w' := by
  have HB := amk (Below.refl w.heap.size w)
  have H : (some (([(⟨#[61, 61]⟩ : ByteArray), (⟨#[33, 61]⟩ : ByteArray), (⟨#[60]⟩ : ByteArray), (⟨#[60, 61]⟩ : ByteArray), (⟨#[62]⟩ : ByteArray), (⟨#[62, 61]⟩ : ByteArray)] : List ByteArray))) = some r := h
  clear h
  obtain ⟨y125, hy125⟩ : ∃ y_ : List ByteArray, y_ = (([(⟨#[61, 61]⟩ : ByteArray), (⟨#[33, 61]⟩ : ByteArray), (⟨#[60]⟩ : ByteArray), (⟨#[60, 61]⟩ : ByteArray), (⟨#[62]⟩ : ByteArray), (⟨#[62, 61]⟩ : ByteArray)] : List ByteArray)) := ⟨_, rfl⟩
  replace H : (some y125) = some r := by first | (rw [hy125]; with_reducible exact H) | (have H2_ := (Option.bind_some _ _).symm.trans H; rw [hy125]; with_reducible exact H2_) | (have H2_ := (Option.bind_some _ _).symm.trans H; with_reducible exact H2_) | with_reducible exact H | (rw [hy125]; exact H) | exact H
  have Ny125 := amk hy125
  clear hy125
  obtain rfl := Option.some.inj H
  go_enter Try.func154, Try.ntmps154
  go_wp2_with (first | ((with_reducible refine gate_dst (N := 1) rfl ?_); refine Kd.R_lit Kd.string _ 9 ?hg (N := 1) ?hd (xs := ([(⟨#[61, 61]⟩ : ByteArray), (⟨#[33, 61]⟩ : ByteArray), (⟨#[60]⟩ : ByteArray), (⟨#[60, 61]⟩ : ByteArray), (⟨#[62]⟩ : ByteArray), (⟨#[62, 61]⟩ : ByteArray)] : List ByteArray)) (inner := [.string (⟨#[61, 61]⟩ : ByteArray), .string (⟨#[33, 61]⟩ : ByteArray), .string (⟨#[60]⟩ : ByteArray), .string (⟨#[60, 61]⟩ : ByteArray), .string (⟨#[62]⟩ : ByteArray), .string (⟨#[62, 61]⟩ : ByteArray)]) (ok := fun _ => True) (okp := fun _ => True) ?hr ?hp (fun _ hk => hk) trivial (Below.refl _ _) (Nat.le_refl _) (by simp) ?_; (case hd => rfl); (case hg => rfl); (case hr => first | (go_simp; done) | (go_simp; rfl)); (case hp => exact (Reps.one (show Kd.M Kd.string _ _ _ (⟨#[61, 61]⟩ : ByteArray) [.string (⟨#[61, 61]⟩ : ByteArray)] from rfl) (Reps.one (show Kd.M Kd.string _ _ _ (⟨#[33, 61]⟩ : ByteArray) [.string (⟨#[33, 61]⟩ : ByteArray)] from rfl) (Reps.one (show Kd.M Kd.string _ _ _ (⟨#[60]⟩ : ByteArray) [.string (⟨#[60]⟩ : ByteArray)] from rfl) (Reps.one (show Kd.M Kd.string _ _ _ (⟨#[60, 61]⟩ : ByteArray) [.string (⟨#[60, 61]⟩ : ByteArray)] from rfl) (Reps.one (show Kd.M Kd.string _ _ _ (⟨#[62]⟩ : ByteArray) [.string (⟨#[62]⟩ : ByteArray)] from rfl) (Reps.one (show Kd.M Kd.string _ _ _ (⟨#[62, 61]⟩ : ByteArray) [.string (⟨#[62, 61]⟩ : ByteArray)] from rfl) (Reps.none _ _)))))))); intro v126 w1 ho2 hb hg_ hnew_; clear hg_ hnew_; (first | rw [← Ny125.out] at ho2 | (simp only [Int.reduceToNat] at ho2; rw [← Ny125.out] at ho2)); have n0_ := amk (Kd.R_lower ho2 (below_size (by repeat (first | (with_reducible first | exact HB.out | apply bal | apply pbd | apply below_drew1) | exact HB.out)))); have n1_ := amk (below_step (by repeat (first | (with_reducible first | exact HB.out | apply bal | apply pbd | apply below_drew1) | exact HB.out)) hb); clear HB; have HO127 := n0_; have HB := n1_; clear n0_ n1_; clear hb ho2))
  go_ret
  exact ⟨_, by first | rfl | (simp [errW_none, errW_some] <;> rfl) | (simp [*, errW_none, errW_some] <;> rfl), by (with_reducible repeat (first | apply Kd.R_alloc | apply Kd.R_drewN | apply Kd.R_drew)); exact HO127.out, by repeat (first | (with_reducible first | exact HB.out | apply bal | apply pbd | apply below_drew1) | exact HB.out)⟩
end Go.Proofs.Ytoeklekjhaigoaa.M0
end
section
namespace Go.Proofs.Ytoeklekjhaigoaa.M0
open Go.Proofs.Ytoeklekjhaigoaa.Al Go.RowKit Go.Proofs.YtoeklekjhaigoaaW.PrintWords Go.Proofs.YtoeklekjhaigoaaW.PrintLast Go.Proofs.YtoeklekjhaigoaaW.PrintMore
attribute [local go_sem] max2_int min2_int max_two min_two max_three min_three max_four min_four IntKind.wrap_u32 IntKind.wrap_u8   -- for this text's walks alone
set_option linter.unusedVariables false
open Go.Proofs.Ytoeklekjhaigoaa.Le Go.Proofs.Ytoeklekjhaigoaa.C1 Go.Proofs.Ytoeklekjhaigoaa.C2 Go.Proofs.Ytoeklekjhaigoaa.HAct Go.Proofs.Ytoeklekjhaigoaa.W0 Go.Proofs.Ytoeklekjhaigoaa.HFrom Go.Proofs.Ytoeklekjhaigoaa.W1 Go.Proofs.Ytoeklekjhaigoaa.R01 Go.Proofs.Ytoeklekjhaigoaa.HPack Go.Proofs.Ytoeklekjhaigoaa.HUnpack Go.Proofs.Ytoeklekjhaigoaa.HRefPack
set_option linter.unusedSimpArgs false
mutual
def types_one.j0 : Nat → Bool → Int → List (S46) → Int → Int → ByteArray → Int → Option (Bool)
  | 0, _, _, _, _, _, _, _ => none
  | k + 1, x3, x129000, x129001, x129002, x129003, x129004, x129005 => if x129000 = 4 then (if x129002 ≥ 0 then (if x129002 < 6 then ((types_signs.f).bind fun t129 => ((slices_Contains_string_string.f k t129 x129004).bind fun t132 => (if t132 = true then (some ((x129001.length : Int) == 0)) else (some false)))) else (some false)) else (some false)) else (if x129000 = 1 then (types_one.j1 k x3 x129000 (x129000 == 1) x129000 x129001 x129002 x129003 x129004 x129005) else (types_one.j1 k x3 x129000 (x129000 == 2) x129000 x129001 x129002 x129003 x129004 x129005))
def types_one.j1 : Nat → Bool → Int → Bool → Int → List (S46) → Int → Int → ByteArray → Int → Option (Bool)
  | 0, _, _, _, _, _, _, _, _, _ => none
  | k + 1, x3, x23, x46, x129000, x129001, x129002, x129003, x129004, x129005 => if x46 = true then (if x3 = true then (some (decide ((x129001.length : Int) ≥ 2))) else (some false)) else (if x23 = 3 then (if x3 = true then (some ((x129001.length : Int) == 1)) else (some false)) else (some false))
end
def types_one.f (k : Nat) (a0_0 : Int) (l0_1 : List (S46)) (a0_2 : Int) (a0_3 : Int) (a0_4 : ByteArray) (a0_5 : Int) : Option (Bool) := if a0_2 = 0 then (if a0_3 = 0 then (if a0_4.toList = ([] : List UInt8) then (types_one.j0 k (a0_5 == 0) a0_0 l0_1 a0_2 a0_3 a0_4 a0_5) else (types_one.j0 k false a0_0 l0_1 a0_2 a0_3 a0_4 a0_5)) else (types_one.j0 k false a0_0 l0_1 a0_2 a0_3 a0_4 a0_5)) else (types_one.j0 k false a0_0 l0_1 a0_2 a0_3 a0_4 a0_5)
def types_one.T4 : Bool × List (List Nat × List Nat) := (true, [([], []), ([0], [0]), ([1], [1]), ([2], [2]), ([3], [3]), ([4, 3], [3, 4]), ([5, 3], [3, 5]), ([3, 6], [3, 6]), ([7, 3], [7]), ([8, 8], [8]), ([8], [8]), ([10, 8], [8, 10]), ([9, 11, 9, 8], [8, 9, 11]), ([8, 12], [8, 12]), ([13, 12], [13]), ([14], [14]), ([15, 14], [14, 15]), ([16, 14], [14, 16]), ([17, 14], [14, 17]), ([14, 18], [14, 18]), ([19, 14, 0, 1, 2, 3, 4, 5, 6, 7, 8, 9, 10, 11, 12, 13, 14, 15, 16, 17, 18, 19], [19])])
def types_one.B4 : List Nat := [0, 1, 3, 7, 15, 31, 63, 127, 255, 511, 511, 1535, 4095, 8191, 16383, 32767, 65535, 131071, 262143, 524287, 1048575]
theorem types_one.tab4 : rtab .any (opsOf Try.f133 4) = types_one.T4 := by kernel_rfl
theorem types_one.bits4 : waitsOk types_one.T4.2 types_one.B4 = true := by kernel_rfl
set_option maxHeartbeats 8000000 in
set_option maxRecDepth 100000 in
theorem types_one.calls (k : Nat) (a0_0 : Int) (A0_1 : Option Addr) (c0_1 : Nat) (l0_1 : List (S46)) (a0_2 : Int) (a0_3 : Int) (a0_4 : ByteArray) (a0_5 : Int) (r : Bool) (w : World) (hr0_1 : Kd.C k46 w A0_1 l0_1.length l0_1) (hc0_1 : l0_1.length ≤ c0_1) (h : types_one.f k a0_0 l0_1 a0_2 a0_3 a0_4 a0_5 = some r) :
    Calls Try.prog 133 #[.agg #[.int .i64 a0_0, .slice A0_1 l0_1.length c0_1, .int .i64 a0_2, .int .u64 a0_3, .string a0_4, .int .u64 a0_5]] w fun e w' => e = .returned (.bool r) ∧ Below w.heap.size w w' := by
  have hu46 := Try.underlying46
  have HR0_1 := amk hr0_1
  have HC0_1 := amk hc0_1
  clear hr0_1 hc0_1
  have HB := amk (Below.refl w.heap.size w)
  have H : (if a0_2 = 0 then (if a0_3 = 0 then (if a0_4.toList = ([] : List UInt8) then (types_one.j0 k (a0_5 == 0) a0_0 l0_1 a0_2 a0_3 a0_4 a0_5) else (types_one.j0 k false a0_0 l0_1 a0_2 a0_3 a0_4 a0_5)) else (types_one.j0 k false a0_0 l0_1 a0_2 a0_3 a0_4 a0_5)) else (types_one.j0 k false a0_0 l0_1 a0_2 a0_3 a0_4 a0_5)) = some r := h
  clear h
  have HC2 := amk H
  clear H
  go_enter Try.func133, Try.ntmps133
  go_upto_region 1 with (first | ((with_reducible refine gate_dst (N := 1) rfl ?_); (try (refine gate_guard (by rfl) ?_; dsimp only)); refine box_event ?hg (N := 1) ?hd (cs := #[.int .i64 a0_0, .slice A0_1 l0_1.length c0_1, .int .i64 a0_2, .int .u64 a0_3, .string a0_4, .int .u64 a0_5]) (t := 46) ?hr ?_; (case hd => rfl); (case hg => rfl); (case hr => first | (go_simp; done) | (go_simp; rfl)); intro gb128 hg w3 hbox hb; have n0_ := amk (below_step (by repeat (first | (with_reducible first | exact HB.out | apply bal | apply pbd | apply below_drew1) | exact HB.out)) hb); have n1_ := amk (hbox); have n2_ := amk ((by rw [hg]; exact (below_size (by repeat (first | (with_reducible first | exact HB.out | apply bal | apply pbd | apply below_drew1) | exact HB.out))) : w.heap.size ≤ gb128)); have n3_ := amk ((by rw [hg]; exact (below_size (by repeat (first | (with_reducible first | exact HB.out | apply bal | apply pbd | apply below_drew1) | exact HB.out))) : w.heap.size ≤ gb128)); clear HB; have HB := n0_; have BK128 := n1_; have GW128 := n2_; have GE128 := n3_; clear n0_ n1_ n2_ n3_; clear hb hbox hg))
  (try simp only [Act.put, List.setIfInBounds_toArray, List.set_cons_zero, List.set_cons_succ])
  go_cut [3] (fun v3 wc => ∃ (kq : Nat) (x3_1 : Bool), v3 = .bool x3_1 ∧ Aside0 (types_one.j0 kq x3_1 a0_0 l0_1 a0_2 a0_3 a0_4 a0_5 = some r) ∧ Aside0 (kq ≤ k) ∧ Aside0 (wc.heap[gb128]? = some (.cells #[.int .i64 a0_0, (.slice A0_1 l0_1.length c0_1), .int .i64 a0_2, .int .u64 a0_3, .string a0_4, .int .u64 a0_5] 46 (0, 0))) ∧ Aside0 (Below w.heap.size w wc))
  case first =>
    have H := HC2.out
    clear HC2
    by_cases c4 : a0_2 = 0
    · rw [if_pos c4] at H
      have c4b0 : (a0_2 == 0) = true := beq_iff_eq.mpr c4
      have c4b1 : (a0_2 != 0) = false := bne_eq_false_iff_eq.mpr c4
      clear c4
      (first | rw [c4b0] | (simp only [i64_w, i32_w]; rw [c4b0]) | skip)
      by_cases c5 : a0_3 = 0
      · rw [if_pos c5] at H
        have c5b0 : (a0_3 == 0) = true := beq_iff_eq.mpr c5
        have c5b1 : (a0_3 != 0) = false := bne_eq_false_iff_eq.mpr c5
        clear c5
        by_cases c6 : a0_4.toList = ([] : List UInt8)
        · rw [if_pos c6] at H
          have c6b0 : (a0_4.toList == ([] : List UInt8)) = true := beq_iff_eq.mpr c6
          have c6b1 : (a0_4.toList != ([] : List UInt8)) = false := bne_eq_false_iff_eq.mpr c6
          clear c6
          have H' := amk H
          clear H
          have hcz7_0 : w3.cell? ⟨gb128, 0, none⟩ = some (.int .i64 a0_0) := (blk_cell BK128.out 0).trans rfl
          have hcz7_1 : w3.cell? ⟨gb128, 1, none⟩ = some (.slice A0_1 l0_1.length c0_1) := (blk_cell BK128.out 1).trans rfl
          have hcz7_2 : w3.cell? ⟨gb128, 2, none⟩ = some (.int .i64 a0_2) := (blk_cell BK128.out 2).trans rfl
          have hcz7_3 : w3.cell? ⟨gb128, 3, none⟩ = some (.int .u64 a0_3) := (blk_cell BK128.out 3).trans rfl
          have hcz7_4 : w3.cell? ⟨gb128, 4, none⟩ = some (.string a0_4) := (blk_cell BK128.out 4).trans rfl
          have hcz7_5 : w3.cell? ⟨gb128, 5, none⟩ = some (.int .u64 a0_5) := (blk_cell BK128.out 5).trans rfl
          have hfz7_0 := blk_frozen BK128.out 0
          have hfz7_1 := blk_frozen BK128.out 1
          have hfz7_2 := blk_frozen BK128.out 2
          have hfz7_3 := blk_frozen BK128.out 3
          have hfz7_4 := blk_frozen BK128.out 4
          have hfz7_5 := blk_frozen BK128.out 5
          go_wp2
          go_meet
          case rel => exact ⟨_, ((a0_5 == 0)), (by first | rfl | (simp; done) | (simp [*]; done)), H', ⟨by first | omega | exact Nat.le_refl _⟩, ⟨by (with_reducible repeat (first | refine blk_drewN ?_ _ | refine blk_drew ?_ | refine blk_alloc ?_ _)); exact BK128.out⟩, ⟨by repeat (first | (with_reducible first | exact HB.out | apply bal | apply pbd | apply below_drew1 | refine below_set ?_ GE128.out) | exact HB.out)⟩⟩
        · rw [if_neg c6] at H
          have c6b0 : (a0_4.toList == ([] : List UInt8)) = false := beq_eq_false_iff_ne.mpr c6
          have c6b1 : (a0_4.toList != ([] : List UInt8)) = true := bne_iff_ne.mpr c6
          have H' := amk H
          clear H
          have hcz8_0 : w3.cell? ⟨gb128, 0, none⟩ = some (.int .i64 a0_0) := (blk_cell BK128.out 0).trans rfl
          have hcz8_1 : w3.cell? ⟨gb128, 1, none⟩ = some (.slice A0_1 l0_1.length c0_1) := (blk_cell BK128.out 1).trans rfl
          have hcz8_2 : w3.cell? ⟨gb128, 2, none⟩ = some (.int .i64 a0_2) := (blk_cell BK128.out 2).trans rfl
          have hcz8_3 : w3.cell? ⟨gb128, 3, none⟩ = some (.int .u64 a0_3) := (blk_cell BK128.out 3).trans rfl
          have hcz8_4 : w3.cell? ⟨gb128, 4, none⟩ = some (.string a0_4) := (blk_cell BK128.out 4).trans rfl
          have hcz8_5 : w3.cell? ⟨gb128, 5, none⟩ = some (.int .u64 a0_5) := (blk_cell BK128.out 5).trans rfl
          have hfz8_0 := blk_frozen BK128.out 0
          have hfz8_1 := blk_frozen BK128.out 1
          have hfz8_2 := blk_frozen BK128.out 2
          have hfz8_3 := blk_frozen BK128.out 3
          have hfz8_4 := blk_frozen BK128.out 4
          have hfz8_5 := blk_frozen BK128.out 5
          go_wp2
          go_meet
          case rel => exact ⟨_, (false), (by first | rfl | (simp; done) | (simp [*]; done)), H', ⟨by first | omega | exact Nat.le_refl _⟩, ⟨by (with_reducible repeat (first | refine blk_drewN ?_ _ | refine blk_drew ?_ | refine blk_alloc ?_ _)); exact BK128.out⟩, ⟨by repeat (first | (with_reducible first | exact HB.out | apply bal | apply pbd | apply below_drew1 | refine below_set ?_ GE128.out) | exact HB.out)⟩⟩
      · rw [if_neg c5] at H
        have c5b0 : (a0_3 == 0) = false := beq_eq_false_iff_ne.mpr c5
        have c5b1 : (a0_3 != 0) = true := bne_iff_ne.mpr c5
        have H' := amk H
        clear H
        have hcz9_0 : w3.cell? ⟨gb128, 0, none⟩ = some (.int .i64 a0_0) := (blk_cell BK128.out 0).trans rfl
        have hcz9_1 : w3.cell? ⟨gb128, 1, none⟩ = some (.slice A0_1 l0_1.length c0_1) := (blk_cell BK128.out 1).trans rfl
        have hcz9_2 : w3.cell? ⟨gb128, 2, none⟩ = some (.int .i64 a0_2) := (blk_cell BK128.out 2).trans rfl
        have hcz9_3 : w3.cell? ⟨gb128, 3, none⟩ = some (.int .u64 a0_3) := (blk_cell BK128.out 3).trans rfl
        have hcz9_4 : w3.cell? ⟨gb128, 4, none⟩ = some (.string a0_4) := (blk_cell BK128.out 4).trans rfl
        have hcz9_5 : w3.cell? ⟨gb128, 5, none⟩ = some (.int .u64 a0_5) := (blk_cell BK128.out 5).trans rfl
        have hfz9_0 := blk_frozen BK128.out 0
        have hfz9_1 := blk_frozen BK128.out 1
        have hfz9_2 := blk_frozen BK128.out 2
        have hfz9_3 := blk_frozen BK128.out 3
        have hfz9_4 := blk_frozen BK128.out 4
        have hfz9_5 := blk_frozen BK128.out 5
        go_wp2
        go_meet
        case rel => exact ⟨_, (false), (by first | rfl | (simp; done) | (simp [*]; done)), H', ⟨by first | omega | exact Nat.le_refl _⟩, ⟨by (with_reducible repeat (first | refine blk_drewN ?_ _ | refine blk_drew ?_ | refine blk_alloc ?_ _)); exact BK128.out⟩, ⟨by repeat (first | (with_reducible first | exact HB.out | apply bal | apply pbd | apply below_drew1 | refine below_set ?_ GE128.out) | exact HB.out)⟩⟩
    · rw [if_neg c4] at H
      have c4b0 : (a0_2 == 0) = false := beq_eq_false_iff_ne.mpr c4
      have c4b1 : (a0_2 != 0) = true := bne_iff_ne.mpr c4
      (first | rw [c4b0] | (simp only [i64_w, i32_w]; rw [c4b0]) | skip)
      have H' := amk H
      clear H
      have hcz10_0 : w3.cell? ⟨gb128, 0, none⟩ = some (.int .i64 a0_0) := (blk_cell BK128.out 0).trans rfl
      have hcz10_1 : w3.cell? ⟨gb128, 1, none⟩ = some (.slice A0_1 l0_1.length c0_1) := (blk_cell BK128.out 1).trans rfl
      have hcz10_2 : w3.cell? ⟨gb128, 2, none⟩ = some (.int .i64 a0_2) := (blk_cell BK128.out 2).trans rfl
      have hcz10_3 : w3.cell? ⟨gb128, 3, none⟩ = some (.int .u64 a0_3) := (blk_cell BK128.out 3).trans rfl
      have hcz10_4 : w3.cell? ⟨gb128, 4, none⟩ = some (.string a0_4) := (blk_cell BK128.out 4).trans rfl
      have hcz10_5 : w3.cell? ⟨gb128, 5, none⟩ = some (.int .u64 a0_5) := (blk_cell BK128.out 5).trans rfl
      have hfz10_0 := blk_frozen BK128.out 0
      have hfz10_1 := blk_frozen BK128.out 1
      have hfz10_2 := blk_frozen BK128.out 2
      have hfz10_3 := blk_frozen BK128.out 3
      have hfz10_4 := blk_frozen BK128.out 4
      have hfz10_5 := blk_frozen BK128.out 5
      go_wp2
      go_meet
      case rel => exact ⟨_, (false), (by first | rfl | (simp; done) | (simp [*]; done)), H', ⟨by first | omega | exact Nat.le_refl _⟩, ⟨by (with_reducible repeat (first | refine blk_drewN ?_ _ | refine blk_drew ?_ | refine blk_alloc ?_ _)); exact BK128.out⟩, ⟨by repeat (first | (with_reducible first | exact HB.out | apply bal | apply pbd | apply below_drew1 | refine below_set ?_ GE128.out) | exact HB.out)⟩⟩
  case rest =>
    clear HC2
    try clear c1
    try clear p2
    try clear c4
    try clear c4b0
    try clear c4b1
    try clear c5
    try clear c5b0
    try clear c5b1
    try clear c6
    try clear c6b0
    try clear c6b1
    try clear hcz10_0
    try clear hcz10_1
    try clear hcz10_2
    try clear hcz10_3
    try clear hcz10_4
    try clear hcz10_5
    try clear hcz7_0
    try clear hcz7_1
    try clear hcz7_2
    try clear hcz7_3
    try clear hcz7_4
    try clear hcz7_5
    try clear hcz8_0
    try clear hcz8_1
    try clear hcz8_2
    try clear hcz8_3
    try clear hcz8_4
    try clear hcz8_5
    try clear hcz9_0
    try clear hcz9_1
    try clear hcz9_2
    try clear hcz9_3
    try clear hcz9_4
    try clear hcz9_5
    try clear hfz10_0
    try clear hfz10_1
    try clear hfz10_2
    try clear hfz10_3
    try clear hfz10_4
    try clear hfz10_5
    try clear hfz7_0
    try clear hfz7_1
    try clear hfz7_2
    try clear hfz7_3
    try clear hfz7_4
    try clear hfz7_5
    try clear hfz8_0
    try clear hfz8_1
    try clear hfz8_2
    try clear hfz8_3
    try clear hfz8_4
    try clear hfz8_5
    try clear hfz9_0
    try clear hfz9_1
    try clear hfz9_2
    try clear hfz9_3
    try clear hfz9_4
    try clear hfz9_5
    obtain ⟨kq, x3_1, rfl, HA, HJ1, BK128, HB⟩ := hcut
    cases kq with
    | zero => exact absurd HA.out (by simp [types_one.j0])
    | succ kj1 =>
      have H := HA.out
      clear HA
      simp only [types_one.j0] at H
      by_cases c11 : a0_0 = 4
      · rw [if_pos c11] at H
        have c11b0 : (a0_0 == 4) = true := beq_iff_eq.mpr c11
        have c11b1 : (a0_0 != 4) = false := bne_eq_false_iff_eq.mpr c11
        clear c11
        by_cases c12 : a0_2 ≥ 0
        · rw [if_pos c12] at H
          have c12b0 : decide (0 ≤ a0_2) = true := decide_eq_true c12
          clear c12
          by_cases c13 : a0_2 < 6
          · rw [if_pos c13] at H
            have c13b0 : decide (a0_2 < 6) = true := decide_eq_true c13
            clear c13
            replace H := Option.bind_eq_some_iff.mp H
            obtain ⟨t129, A140, H⟩ := H
            replace H : ((slices_Contains_string_string.f kj1 t129 a0_4).bind fun t132 => (if t132 = true then (some ((l0_1.length : Int) == 0)) else (some false))) = some r := H
            have A14 := amk A140
            clear A140
            replace H := Option.bind_eq_some_iff.mp H
            obtain ⟨t132, A150, H⟩ := H
            replace H : (if t132 = true then (some ((l0_1.length : Int) == 0)) else (some false)) = some r := H
            have A15 := amk A150
            clear A150
            by_cases c16 : t132 = true
            · subst c16
              have H1 : (some ((l0_1.length : Int) == 0)) = some r := by rw [if_pos rfl] at H; exact H
              clear H
              have H := H1
              clear H1
              obtain rfl := Option.some.inj H
              have hcz17_0 : wc.cell? ⟨gb128, 0, none⟩ = some (.int .i64 a0_0) := (blk_cell BK128.out 0).trans rfl
              have hcz17_1 : wc.cell? ⟨gb128, 1, none⟩ = some (.slice A0_1 l0_1.length c0_1) := (blk_cell BK128.out 1).trans rfl
              have hcz17_2 : wc.cell? ⟨gb128, 2, none⟩ = some (.int .i64 a0_2) := (blk_cell BK128.out 2).trans rfl
              have hcz17_3 : wc.cell? ⟨gb128, 3, none⟩ = some (.int .u64 a0_3) := (blk_cell BK128.out 3).trans rfl
              have hcz17_4 : wc.cell? ⟨gb128, 4, none⟩ = some (.string a0_4) := (blk_cell BK128.out 4).trans rfl
              have hcz17_5 : wc.cell? ⟨gb128, 5, none⟩ = some (.int .u64 a0_5) := (blk_cell BK128.out 5).trans rfl
              have hfz17_0 := blk_frozen BK128.out 0
              have hfz17_1 := blk_frozen BK128.out 1
              have hfz17_2 := blk_frozen BK128.out 2
              have hfz17_3 := blk_frozen BK128.out 3
              have hfz17_4 := blk_frozen BK128.out 4
              have hfz17_5 := blk_frozen BK128.out 5
              try go_wp2
              have n0_ := amk (blk_drew BK128.out)
              have n1_ := amk (below_drew1 HB.out)
              clear BK128
              clear HB
              have BK128 := n0_
              have HB := n1_
              clear n0_ n1_
              refine start_ (n := 21) (S := fun w' => w'.cell? ⟨gb128, 0, none⟩ = some (.int .i64 a0_0) ∧ w'.cell? ⟨gb128, 1, none⟩ = some (.slice A0_1 l0_1.length c0_1) ∧ w'.cell? ⟨gb128, 2, none⟩ = some (.int .i64 a0_2) ∧ w'.cell? ⟨gb128, 3, none⟩ = some (.int .u64 a0_3) ∧ w'.cell? ⟨gb128, 4, none⟩ = some (.string a0_4) ∧ w'.cell? ⟨gb128, 5, none⟩ = some (.int .u64 a0_5)) (ds := []) #[false, false, false, false, false, false, false, false, false, false, false, false, false, false, false, false, false, false, false, false, false] (by kernel_rfl) rfl rfl ⟨(blk_cell BK128.out 0).trans rfl, (blk_cell BK128.out 1).trans rfl, (blk_cell BK128.out 2).trans rfl, (blk_cell BK128.out 3).trans rfl, (blk_cell BK128.out 4).trans rfl, (blk_cell BK128.out 5).trans rfl⟩ (fun hHeld => ?_); refine with_tabW types_one.tab4 types_one.bits4 (fun HT_ HW_ => ?_)
              generalize wc.drew = w18 at BK128 HB hHeld ⊢
              refine pure_ (i := 0) (N := some 26) (v := ?_) (a' := ?_) #[true, false, false, false, false, false, false, false, false, false, false, false, false, false, false, false, false, false, false, false, false] rfl rfl (any_of HT_.out (by kernel_rfl)) (fun _ _ _ h => h) (Or.inl ⟨by rfl, ?_⟩) ?_ ?_
              rotate_left
              · intro w'
                go_simp
                with_reducible rfl
              rotate_left
              · simp only [Act.put, List.setIfInBounds_toArray, List.set_cons_zero, List.set_cons_succ, i64_w, i32_w]
                rfl
              refine take_ (i := 1) (N := some 27) (v := ?_) (a' := ?_) #[true, true, false, false, false, false, false, false, false, false, false, false, false, false, false, false, false, false, false, false, false] rfl rfl (take_ofW HT_.out HW_.out (by kernel_rfl)) (fun _ _ _ h => h) (Or.inl ⟨by rfl, ?_⟩) hHeld ?_ ?_
              rotate_left
              · rintro w' ⟨s0, s1, s2, s3, s4, s5⟩
                go_simp
                with_reducible rfl
              rotate_left
              · simp only [Act.put, List.setIfInBounds_toArray, List.set_cons_zero, List.set_cons_succ, i64_w, i32_w]
                rfl
              refine pure_ (i := 2) (N := some 28) (v := ?_) (a' := ?_) #[true, true, true, false, false, false, false, false, false, false, false, false, false, false, false, false, false, false, false, false, false] rfl rfl (any_of HT_.out (by kernel_rfl)) (fun _ _ _ h => h) (Or.inl ⟨by rfl, ?_⟩) ?_ ?_
              rotate_left
              · intro w'
                go_simp
                with_reducible rfl
              rotate_left
              · simp only [Act.put, List.setIfInBounds_toArray, List.set_cons_zero, List.set_cons_succ, i64_w, i32_w]
                rfl
              refine pure_ (i := 3) (N := some 29) (v := ?_) (a' := ?_) #[true, true, true, true, false, false, false, false, false, false, false, false, false, false, false, false, false, false, false, false, false] rfl rfl (any_of HT_.out (by kernel_rfl)) (fun _ _ _ h => h) (Or.inl ⟨by rfl, ?_⟩) ?_ ?_
              rotate_left
              · intro w'
                go_simp
                with_reducible rfl
              rotate_left
              · simp only [Act.put, List.setIfInBounds_toArray, List.set_cons_zero, List.set_cons_succ, i64_w, i32_w]
                rfl
              refine pure_ (i := 4) (N := some 30) (v := ?_) (a' := ?_) #[true, true, true, true, true, false, false, false, false, false, false, false, false, false, false, false, false, false, false, false, false] rfl rfl (any_of HT_.out (by kernel_rfl)) (fun _ _ _ h => h) (Or.inl ⟨by rfl, ?_⟩) ?_ ?_
              rotate_left
              · intro w'
                go_simp
                with_reducible rfl
              rotate_left
              · simp only [Act.put, List.setIfInBounds_toArray, List.set_cons_zero, List.set_cons_succ, i64_w, i32_w]
                rfl
              refine take_ (i := 5) (N := some 31) (v := ?_) (a' := ?_) #[true, true, true, true, true, true, false, false, false, false, false, false, false, false, false, false, false, false, false, false, false] rfl rfl (take_ofW HT_.out HW_.out (by kernel_rfl)) (fun _ _ _ h => h) (Or.inl ⟨by rfl, ?_⟩) hHeld ?_ ?_
              rotate_left
              · rintro w' ⟨s0, s1, s2, s3, s4, s5⟩
                go_simp
                with_reducible rfl
              rotate_left
              · simp only [Act.put, List.setIfInBounds_toArray, List.set_cons_zero, List.set_cons_succ, i64_w, i32_w]
                rfl
              refine pure_ (i := 6) (N := some 32) (v := ?_) (a' := ?_) #[true, true, true, true, true, true, true, false, false, false, false, false, false, false, false, false, false, false, false, false, false] rfl rfl (any_of HT_.out (by kernel_rfl)) (fun _ _ _ h => h) (Or.inl ⟨by rfl, ?_⟩) ?_ ?_
              rotate_left
              · intro w'
                go_simp
                with_reducible rfl
              rotate_left
              · simp only [Act.put, List.setIfInBounds_toArray, List.set_cons_zero, List.set_cons_succ, i64_w, i32_w]
                rfl
              refine pure_ (i := 7) (N := some 33) (v := ?_) (a' := ?_) #[true, true, true, true, true, true, true, true, false, false, false, false, false, false, false, false, false, false, false, false, false] rfl rfl (any_of HT_.out (by kernel_rfl)) (fun _ _ _ h => h) (Or.inl ⟨by rfl, ?_⟩) ?_ ?_
              rotate_left
              · intro w'
                go_simp
                with_reducible rfl
              rotate_left
              · simp only [Act.put, List.setIfInBounds_toArray, List.set_cons_zero, List.set_cons_succ, i64_w, i32_w]
                rfl
              refine pure_ (i := 8) (N := some 34) (v := ?_) (a' := ?_) #[true, true, true, true, true, true, true, true, true, false, false, false, false, false, false, false, false, false, false, false, false] rfl rfl (any_of HT_.out (by kernel_rfl)) (fun _ _ _ h => h) (Or.inl ⟨by rfl, ?_⟩) ?_ ?_
              rotate_left
              · intro w'
                go_simp
                with_reducible rfl
              rotate_left
              · simp only [Act.put, List.setIfInBounds_toArray, List.set_cons_zero, List.set_cons_succ, i64_w, i32_w]
                rfl
              refine pure_ (i := 10) (N := some 36) (v := ?_) (a' := ?_) #[true, true, true, true, true, true, true, true, true, false, true, false, false, false, false, false, false, false, false, false, false] rfl rfl (any_of HT_.out (by kernel_rfl)) (fun _ _ _ h => h) (Or.inl ⟨by rfl, ?_⟩) ?_ ?_
              rotate_left
              · intro w'
                go_simp
                with_reducible rfl
              rotate_left
              · simp only [Act.put, List.setIfInBounds_toArray, List.set_cons_zero, List.set_cons_succ, i64_w, i32_w]
                rfl
              refine take_ (i := 11) (N := some 37) (v := ?_) (a' := ?_) #[true, true, true, true, true, true, true, true, true, false, true, true, false, false, false, false, false, false, false, false, false] rfl rfl (take_ofW HT_.out HW_.out (by kernel_rfl)) (fun _ _ _ h => h) (Or.inl ⟨by rfl, ?_⟩) hHeld ?_ ?_
              rotate_left
              · rintro w' ⟨s0, s1, s2, s3, s4, s5⟩
                go_simp
                with_reducible rfl
              rotate_left
              · simp only [Act.put, List.setIfInBounds_toArray, List.set_cons_zero, List.set_cons_succ, i64_w, i32_w]
                rfl
              refine one_ (i := 9) (N := some 35) #[true, true, true, true, true, true, true, true, true, true, true, true, false, false, false, false, false, false, false, false, false] rfl rfl (one_of HT_.out (by kernel_rfl)) (by decide) (fun K hK => ?_)
              refine goes_ Try.func154 (by kernel_rfl) rfl #[] (by rfl) rfl rfl (by (try simp only [List.map_toArray, List.map_cons, List.map_nil]); first | done | rfl | (simp only [List.length_drop, List.length_take]; rfl)) ?_
              with_reducible refine (types_signs.calls  t129 _ A14.out).mono ?_
              rintro e w19 ⟨v130, rfl, ho0, hb⟩
              refine ⟨_, rfl, ?_⟩
              have n0_ := amk (Kd.R_lower ho0 (below_size (by repeat (first | (with_reducible first | exact HB.out | apply bal | apply pbd | apply below_drew1 | refine below_set ?_ GE128.out) | exact HB.out))))
              have n1_ := amk (blk_below (g := gb128) (o := .cells #[.int .i64 a0_0, .slice A0_1 l0_1.length c0_1, .int .i64 a0_2, .int .u64 a0_3, .string a0_4, .int .u64 a0_5] 46 (0, 0)) (by (with_reducible repeat (first | refine blk_drewN ?_ _ | refine blk_drew ?_ | refine blk_alloc ?_ _)); exact BK128.out) hb)
              have n2_ := amk (below_step (by repeat (first | (with_reducible first | exact HB.out | apply bal | apply pbd | apply below_drew1 | refine below_set ?_ GE128.out) | exact HB.out)) hb)
              clear BK128
              clear HB
              have HO131 := n0_
              have BK128 := n1_
              have HB := n2_
              clear n0_ n1_ n2_
              (try clear hb)
              (try clear hb2)
              (try clear hk)
              (try clear hi)
              (try clear ho0)
              obtain ⟨Ao20, co20, eo20⟩ := Kd.R_slice HO131.out
              (first | subst eo20 | (injection eo20 with f1_ f2_ f3_; have f4_ := f1_.symm; have f5_ := f3_.symm; clear f1_ f2_ f3_; subst f4_; subst f5_))
              refine hK.out _ _ ⟨(blk_cell BK128.out 0).trans rfl, (blk_cell BK128.out 1).trans rfl, (blk_cell BK128.out 2).trans rfl, (blk_cell BK128.out 3).trans rfl, (blk_cell BK128.out 4).trans rfl, (blk_cell BK128.out 5).trans rfl⟩ (fun hHeld => ?_)
              clear hK K
              refine norm_ (a' := ?_) ?_ ?_
              rotate_left
              · show Act.put _ (some 35) _ = _
                simp only [Act.put, List.setIfInBounds_toArray, List.set_cons_zero, List.set_cons_succ, i64_w, i32_w]
                rfl
              refine one_ (i := 12) (N := some 38) #[true, true, true, true, true, true, true, true, true, true, true, true, true, false, false, false, false, false, false, false, false] rfl rfl (one_of HT_.out (by kernel_rfl)) (by decide) (fun K hK => ?_)
              refine goes_ Try.func153 (by kernel_rfl) rfl #[.slice Ao20 t129.length co20, .string a0_4] (by rfl) rfl rfl (by (try simp only [List.map_toArray, List.map_cons, List.map_nil]); first | done | rfl | (simp only [List.length_drop, List.length_take]; rfl)) ?_
              with_reducible refine (slices_Contains_string_string.calls kj1 _ _ t129 a0_4 true _ ?side1 ?side2 A15.out).mono ?_
              (case side1 => repeat (first | exact (Kd.R_reads' HO131.out).2.2 | (with_reducible refine Kd.C_alloc ?_ _) | (with_reducible refine Kd.C_drewN ?_ _) | (with_reducible refine Kd.C_drew ?_)))
              (case side2 => exact (Kd.R_reads' HO131.out).2.1)
              rintro e w' ⟨rfl, ⟨nd, rfl⟩⟩
              refine ⟨_, rfl, ?_⟩
              refine hK.out _ _ ⟨(blk_cell BK128.out 0).trans rfl, (blk_cell BK128.out 1).trans rfl, (blk_cell BK128.out 2).trans rfl, (blk_cell BK128.out 3).trans rfl, (blk_cell BK128.out 4).trans rfl, (blk_cell BK128.out 5).trans rfl⟩ (fun hHeld => ?_)
              clear hK K
              refine norm_ (a' := ?_) ?_ ?_
              rotate_left
              · show Act.put _ (some 38) _ = _
                simp only [Act.put, List.setIfInBounds_toArray, List.set_cons_zero, List.set_cons_succ, i64_w, i32_w]
                rfl
              refine pure_ (i := 13) (N := some 39) (v := ?_) (a' := ?_) #[true, true, true, true, true, true, true, true, true, true, true, true, true, true, false, false, false, false, false, false, false] rfl rfl (any_of HT_.out (by kernel_rfl)) (fun _ _ _ h => h) (Or.inl ⟨by rfl, ?_⟩) ?_ ?_
              rotate_left
              · intro w'
                go_simp
                with_reducible rfl
              rotate_left
              · simp only [Act.put, List.setIfInBounds_toArray, List.set_cons_zero, List.set_cons_succ, i64_w, i32_w]
                rfl
              refine pure_ (i := 14) (N := some 40) (v := ?_) (a' := ?_) #[true, true, true, true, true, true, true, true, true, true, true, true, true, true, true, false, false, false, false, false, false] rfl rfl (any_of HT_.out (by kernel_rfl)) (fun _ _ _ h => h) (Or.inl ⟨by rfl, ?_⟩) ?_ ?_
              rotate_left
              · intro w'
                go_simp
                with_reducible rfl
              rotate_left
              · simp only [Act.put, List.setIfInBounds_toArray, List.set_cons_zero, List.set_cons_succ, i64_w, i32_w]
                rfl
              refine pure_ (i := 15) (N := some 41) (v := ?_) (a' := ?_) #[true, true, true, true, true, true, true, true, true, true, true, true, true, true, true, true, false, false, false, false, false] rfl rfl (any_of HT_.out (by kernel_rfl)) (fun _ _ _ h => h) (Or.inl ⟨by rfl, ?_⟩) ?_ ?_
              rotate_left
              · intro w'
                go_simp
                with_reducible rfl
              rotate_left
              · simp only [Act.put, List.setIfInBounds_toArray, List.set_cons_zero, List.set_cons_succ, i64_w, i32_w]
                rfl
              refine take_ (i := 16) (N := some 42) (v := ?_) (a' := ?_) #[true, true, true, true, true, true, true, true, true, true, true, true, true, true, true, true, true, false, false, false, false] rfl rfl (take_ofW HT_.out HW_.out (by kernel_rfl)) (fun _ _ _ h => h) (Or.inl ⟨by rfl, ?_⟩) hHeld ?_ ?_
              rotate_left
              · rintro w' ⟨s0, s1, s2, s3, s4, s5⟩
                go_simp
                with_reducible rfl
              rotate_left
              · simp only [Act.put, List.setIfInBounds_toArray, List.set_cons_zero, List.set_cons_succ, i64_w, i32_w]
                rfl
              refine pure_ (i := 17) (N := some 43) (v := ?_) (a' := ?_) #[true, true, true, true, true, true, true, true, true, true, true, true, true, true, true, true, true, true, false, false, false] rfl rfl (any_of HT_.out (by kernel_rfl)) (fun _ _ _ h => h) (Or.inl ⟨by rfl, ?_⟩) ?_ ?_
              rotate_left
              · intro w'
                go_simp
                with_reducible rfl
              rotate_left
              · simp only [Act.put, List.setIfInBounds_toArray, List.set_cons_zero, List.set_cons_succ, i64_w, i32_w]
                rfl
              refine pure_ (i := 18) (N := some 44) (v := ?_) (a' := ?_) #[true, true, true, true, true, true, true, true, true, true, true, true, true, true, true, true, true, true, true, false, false] rfl rfl (any_of HT_.out (by kernel_rfl)) (fun _ _ _ h => h) (Or.inl ⟨by rfl, ?_⟩) ?_ ?_
              rotate_left
              · intro w'
                go_simp
                with_reducible rfl
              rotate_left
              · simp only [Act.put, List.setIfInBounds_toArray, List.set_cons_zero, List.set_cons_succ, i64_w, i32_w]
                rfl
              refine pure_ (i := 19) (N := some 45) (v := ?_) (a' := ?_) #[true, true, true, true, true, true, true, true, true, true, true, true, true, true, true, true, true, true, true, true, false] rfl rfl (any_of HT_.out (by kernel_rfl)) (fun _ _ _ h => h) (Or.inl ⟨by rfl, ?_⟩) ?_ ?_
              rotate_left
              · intro w'
                go_simp
                with_reducible rfl
              rotate_left
              · simp only [Act.put, List.setIfInBounds_toArray, List.set_cons_zero, List.set_cons_succ, i64_w, i32_w]
                rfl
              refine pure_ (i := 20) (N := some 2) (v := ?_) (a' := ?_) #[true, true, true, true, true, true, true, true, true, true, true, true, true, true, true, true, true, true, true, true, true] rfl rfl (any_of HT_.out (by kernel_rfl)) (fun _ _ _ h => h) (Or.inl ⟨by rfl, ?_⟩) ?_ ?_
              rotate_left
              · intro w'
                go_simp
                with_reducible rfl
              rotate_left
              · simp only [Act.put, List.setIfInBounds_toArray, List.set_cons_zero, List.set_cons_succ, i64_w, i32_w]
                rfl
              refine done_ (done_of HT_.out (by kernel_rfl)) ?_
              try go_wp2
              go_ret
              exact ⟨by first | rfl | (simp [errW_none, errW_some] <;> rfl) | (simp [*, errW_none, errW_some] <;> rfl), by repeat (first | (with_reducible first | exact HB.out | apply bal | apply pbd | apply below_drew1 | refine below_set ?_ GE128.out) | exact HB.out)⟩
            · replace c16 := Bool.eq_false_iff.mpr c16
              subst c16
              have H1 : (some false) = some r := by rw [if_neg (show ¬ (false = true) by decide)] at H; exact H
              clear H
              have H := H1
              clear H1
              obtain rfl := Option.some.inj H
              have hcz21_0 : wc.cell? ⟨gb128, 0, none⟩ = some (.int .i64 a0_0) := (blk_cell BK128.out 0).trans rfl
              have hcz21_1 : wc.cell? ⟨gb128, 1, none⟩ = some (.slice A0_1 l0_1.length c0_1) := (blk_cell BK128.out 1).trans rfl
              have hcz21_2 : wc.cell? ⟨gb128, 2, none⟩ = some (.int .i64 a0_2) := (blk_cell BK128.out 2).trans rfl
              have hcz21_3 : wc.cell? ⟨gb128, 3, none⟩ = some (.int .u64 a0_3) := (blk_cell BK128.out 3).trans rfl
              have hcz21_4 : wc.cell? ⟨gb128, 4, none⟩ = some (.string a0_4) := (blk_cell BK128.out 4).trans rfl
              have hcz21_5 : wc.cell? ⟨gb128, 5, none⟩ = some (.int .u64 a0_5) := (blk_cell BK128.out 5).trans rfl
              have hfz21_0 := blk_frozen BK128.out 0
              have hfz21_1 := blk_frozen BK128.out 1
              have hfz21_2 := blk_frozen BK128.out 2
              have hfz21_3 := blk_frozen BK128.out 3
              have hfz21_4 := blk_frozen BK128.out 4
              have hfz21_5 := blk_frozen BK128.out 5
              try go_wp2
              have n0_ := amk (blk_drew BK128.out)
              have n1_ := amk (below_drew1 HB.out)
              clear BK128
              clear HB
              have BK128 := n0_
              have HB := n1_
              clear n0_ n1_
              refine start_ (n := 21) (S := fun w' => w'.cell? ⟨gb128, 0, none⟩ = some (.int .i64 a0_0) ∧ w'.cell? ⟨gb128, 1, none⟩ = some (.slice A0_1 l0_1.length c0_1) ∧ w'.cell? ⟨gb128, 2, none⟩ = some (.int .i64 a0_2) ∧ w'.cell? ⟨gb128, 3, none⟩ = some (.int .u64 a0_3) ∧ w'.cell? ⟨gb128, 4, none⟩ = some (.string a0_4) ∧ w'.cell? ⟨gb128, 5, none⟩ = some (.int .u64 a0_5)) (ds := []) #[false, false, false, false, false, false, false, false, false, false, false, false, false, false, false, false, false, false, false, false, false] (by kernel_rfl) rfl rfl ⟨(blk_cell BK128.out 0).trans rfl, (blk_cell BK128.out 1).trans rfl, (blk_cell BK128.out 2).trans rfl, (blk_cell BK128.out 3).trans rfl, (blk_cell BK128.out 4).trans rfl, (blk_cell BK128.out 5).trans rfl⟩ (fun hHeld => ?_); refine with_tabW types_one.tab4 types_one.bits4 (fun HT_ HW_ => ?_)
              generalize wc.drew = w22 at BK128 HB hHeld ⊢
              refine pure_ (i := 0) (N := some 26) (v := ?_) (a' := ?_) #[true, false, false, false, false, false, false, false, false, false, false, false, false, false, false, false, false, false, false, false, false] rfl rfl (any_of HT_.out (by kernel_rfl)) (fun _ _ _ h => h) (Or.inl ⟨by rfl, ?_⟩) ?_ ?_
              rotate_left
              · intro w'
                go_simp
                with_reducible rfl
              rotate_left
              · simp only [Act.put, List.setIfInBounds_toArray, List.set_cons_zero, List.set_cons_succ, i64_w, i32_w]
                rfl
              refine take_ (i := 1) (N := some 27) (v := ?_) (a' := ?_) #[true, true, false, false, false, false, false, false, false, false, false, false, false, false, false, false, false, false, false, false, false] rfl rfl (take_ofW HT_.out HW_.out (by kernel_rfl)) (fun _ _ _ h => h) (Or.inl ⟨by rfl, ?_⟩) hHeld ?_ ?_
              rotate_left
              · rintro w' ⟨s0, s1, s2, s3, s4, s5⟩
                go_simp
                with_reducible rfl
              rotate_left
              · simp only [Act.put, List.setIfInBounds_toArray, List.set_cons_zero, List.set_cons_succ, i64_w, i32_w]
                rfl
              refine pure_ (i := 2) (N := some 28) (v := ?_) (a' := ?_) #[true, true, true, false, false, false, false, false, false, false, false, false, false, false, false, false, false, false, false, false, false] rfl rfl (any_of HT_.out (by kernel_rfl)) (fun _ _ _ h => h) (Or.inl ⟨by rfl, ?_⟩) ?_ ?_
              rotate_left
              · intro w'
                go_simp
                with_reducible rfl
              rotate_left
              · simp only [Act.put, List.setIfInBounds_toArray, List.set_cons_zero, List.set_cons_succ, i64_w, i32_w]
                rfl
              refine pure_ (i := 3) (N := some 29) (v := ?_) (a' := ?_) #[true, true, true, true, false, false, false, false, false, false, false, false, false, false, false, false, false, false, false, false, false] rfl rfl (any_of HT_.out (by kernel_rfl)) (fun _ _ _ h => h) (Or.inl ⟨by rfl, ?_⟩) ?_ ?_
              rotate_left
              · intro w'
                go_simp
                with_reducible rfl
              rotate_left
              · simp only [Act.put, List.setIfInBounds_toArray, List.set_cons_zero, List.set_cons_succ, i64_w, i32_w]
                rfl
              refine pure_ (i := 4) (N := some 30) (v := ?_) (a' := ?_) #[true, true, true, true, true, false, false, false, false, false, false, false, false, false, false, false, false, false, false, false, false] rfl rfl (any_of HT_.out (by kernel_rfl)) (fun _ _ _ h => h) (Or.inl ⟨by rfl, ?_⟩) ?_ ?_
              rotate_left
              · intro w'
                go_simp
                with_reducible rfl
              rotate_left
              · simp only [Act.put, List.setIfInBounds_toArray, List.set_cons_zero, List.set_cons_succ, i64_w, i32_w]
                rfl
              refine take_ (i := 5) (N := some 31) (v := ?_) (a' := ?_) #[true, true, true, true, true, true, false, false, false, false, false, false, false, false, false, false, false, false, false, false, false] rfl rfl (take_ofW HT_.out HW_.out (by kernel_rfl)) (fun _ _ _ h => h) (Or.inl ⟨by rfl, ?_⟩) hHeld ?_ ?_
              rotate_left
              · rintro w' ⟨s0, s1, s2, s3, s4, s5⟩
                go_simp
                with_reducible rfl
              rotate_left
              · simp only [Act.put, List.setIfInBounds_toArray, List.set_cons_zero, List.set_cons_succ, i64_w, i32_w]
                rfl
              refine pure_ (i := 6) (N := some 32) (v := ?_) (a' := ?_) #[true, true, true, true, true, true, true, false, false, false, false, false, false, false, false, false, false, false, false, false, false] rfl rfl (any_of HT_.out (by kernel_rfl)) (fun _ _ _ h => h) (Or.inl ⟨by rfl, ?_⟩) ?_ ?_
              rotate_left
              · intro w'
                go_simp
                with_reducible rfl
              rotate_left
              · simp only [Act.put, List.setIfInBounds_toArray, List.set_cons_zero, List.set_cons_succ, i64_w, i32_w]
                rfl
              refine pure_ (i := 7) (N := some 33) (v := ?_) (a' := ?_) #[true, true, true, true, true, true, true, true, false, false, false, false, false, false, false, false, false, false, false, false, false] rfl rfl (any_of HT_.out (by kernel_rfl)) (fun _ _ _ h => h) (Or.inl ⟨by rfl, ?_⟩) ?_ ?_
              rotate_left
              · intro w'
                go_simp
                with_reducible rfl
              rotate_left
              · simp only [Act.put, List.setIfInBounds_toArray, List.set_cons_zero, List.set_cons_succ, i64_w, i32_w]
                rfl
              refine pure_ (i := 8) (N := some 34) (v := ?_) (a' := ?_) #[true, true, true, true, true, true, true, true, true, false, false, false, false, false, false, false, false, false, false, false, false] rfl rfl (any_of HT_.out (by kernel_rfl)) (fun _ _ _ h => h) (Or.inl ⟨by rfl, ?_⟩) ?_ ?_
              rotate_left
              · intro w'
                go_simp
                with_reducible rfl
              rotate_left
              · simp only [Act.put, List.setIfInBounds_toArray, List.set_cons_zero, List.set_cons_succ, i64_w, i32_w]
                rfl
              refine pure_ (i := 10) (N := some 36) (v := ?_) (a' := ?_) #[true, true, true, true, true, true, true, true, true, false, true, false, false, false, false, false, false, false, false, false, false] rfl rfl (any_of HT_.out (by kernel_rfl)) (fun _ _ _ h => h) (Or.inl ⟨by rfl, ?_⟩) ?_ ?_
              rotate_left
              · intro w'
                go_simp
                with_reducible rfl
              rotate_left
              · simp only [Act.put, List.setIfInBounds_toArray, List.set_cons_zero, List.set_cons_succ, i64_w, i32_w]
                rfl
              refine take_ (i := 11) (N := some 37) (v := ?_) (a' := ?_) #[true, true, true, true, true, true, true, true, true, false, true, true, false, false, false, false, false, false, false, false, false] rfl rfl (take_ofW HT_.out HW_.out (by kernel_rfl)) (fun _ _ _ h => h) (Or.inl ⟨by rfl, ?_⟩) hHeld ?_ ?_
              rotate_left
              · rintro w' ⟨s0, s1, s2, s3, s4, s5⟩
                go_simp
                with_reducible rfl
              rotate_left
              · simp only [Act.put, List.setIfInBounds_toArray, List.set_cons_zero, List.set_cons_succ, i64_w, i32_w]
                rfl
              refine one_ (i := 9) (N := some 35) #[true, true, true, true, true, true, true, true, true, true, true, true, false, false, false, false, false, false, false, false, false] rfl rfl (one_of HT_.out (by kernel_rfl)) (by decide) (fun K hK => ?_)
              refine goes_ Try.func154 (by kernel_rfl) rfl #[] (by rfl) rfl rfl (by (try simp only [List.map_toArray, List.map_cons, List.map_nil]); first | done | rfl | (simp only [List.length_drop, List.length_take]; rfl)) ?_
              with_reducible refine (types_signs.calls  t129 _ A14.out).mono ?_
              rintro e w23 ⟨v130, rfl, ho0, hb⟩
              refine ⟨_, rfl, ?_⟩
              have n0_ := amk (Kd.R_lower ho0 (below_size (by repeat (first | (with_reducible first | exact HB.out | apply bal | apply pbd | apply below_drew1 | refine below_set ?_ GE128.out) | exact HB.out))))
              have n1_ := amk (blk_below (g := gb128) (o := .cells #[.int .i64 a0_0, .slice A0_1 l0_1.length c0_1, .int .i64 a0_2, .int .u64 a0_3, .string a0_4, .int .u64 a0_5] 46 (0, 0)) (by (with_reducible repeat (first | refine blk_drewN ?_ _ | refine blk_drew ?_ | refine blk_alloc ?_ _)); exact BK128.out) hb)
              have n2_ := amk (below_step (by repeat (first | (with_reducible first | exact HB.out | apply bal | apply pbd | apply below_drew1 | refine below_set ?_ GE128.out) | exact HB.out)) hb)
              clear BK128
              clear HB
              have HO131 := n0_
              have BK128 := n1_
              have HB := n2_
              clear n0_ n1_ n2_
              (try clear hb)
              (try clear hb2)
              (try clear hk)
              (try clear hi)
              (try clear ho0)
              obtain ⟨Ao24, co24, eo24⟩ := Kd.R_slice HO131.out
              (first | subst eo24 | (injection eo24 with f1_ f2_ f3_; have f4_ := f1_.symm; have f5_ := f3_.symm; clear f1_ f2_ f3_; subst f4_; subst f5_))
              refine hK.out _ _ ⟨(blk_cell BK128.out 0).trans rfl, (blk_cell BK128.out 1).trans rfl, (blk_cell BK128.out 2).trans rfl, (blk_cell BK128.out 3).trans rfl, (blk_cell BK128.out 4).trans rfl, (blk_cell BK128.out 5).trans rfl⟩ (fun hHeld => ?_)
              clear hK K
              refine norm_ (a' := ?_) ?_ ?_
              rotate_left
              · show Act.put _ (some 35) _ = _
                simp only [Act.put, List.setIfInBounds_toArray, List.set_cons_zero, List.set_cons_succ, i64_w, i32_w]
                rfl
              refine one_ (i := 12) (N := some 38) #[true, true, true, true, true, true, true, true, true, true, true, true, true, false, false, false, false, false, false, false, false] rfl rfl (one_of HT_.out (by kernel_rfl)) (by decide) (fun K hK => ?_)
              refine goes_ Try.func153 (by kernel_rfl) rfl #[.slice Ao24 t129.length co24, .string a0_4] (by rfl) rfl rfl (by (try simp only [List.map_toArray, List.map_cons, List.map_nil]); first | done | rfl | (simp only [List.length_drop, List.length_take]; rfl)) ?_
              with_reducible refine (slices_Contains_string_string.calls kj1 _ _ t129 a0_4 false _ ?side1 ?side2 A15.out).mono ?_
              (case side1 => repeat (first | exact (Kd.R_reads' HO131.out).2.2 | (with_reducible refine Kd.C_alloc ?_ _) | (with_reducible refine Kd.C_drewN ?_ _) | (with_reducible refine Kd.C_drew ?_)))
              (case side2 => exact (Kd.R_reads' HO131.out).2.1)
              rintro e w' ⟨rfl, ⟨nd, rfl⟩⟩
              refine ⟨_, rfl, ?_⟩
              refine hK.out _ _ ⟨(blk_cell BK128.out 0).trans rfl, (blk_cell BK128.out 1).trans rfl, (blk_cell BK128.out 2).trans rfl, (blk_cell BK128.out 3).trans rfl, (blk_cell BK128.out 4).trans rfl, (blk_cell BK128.out 5).trans rfl⟩ (fun hHeld => ?_)
              clear hK K
              refine norm_ (a' := ?_) ?_ ?_
              rotate_left
              · show Act.put _ (some 38) _ = _
                simp only [Act.put, List.setIfInBounds_toArray, List.set_cons_zero, List.set_cons_succ, i64_w, i32_w]
                rfl
              refine pure_ (i := 13) (N := some 39) (v := ?_) (a' := ?_) #[true, true, true, true, true, true, true, true, true, true, true, true, true, true, false, false, false, false, false, false, false] rfl rfl (any_of HT_.out (by kernel_rfl)) (fun _ _ _ h => h) (Or.inl ⟨by rfl, ?_⟩) ?_ ?_
              rotate_left
              · intro w'
                go_simp
                with_reducible rfl
              rotate_left
              · simp only [Act.put, List.setIfInBounds_toArray, List.set_cons_zero, List.set_cons_succ, i64_w, i32_w]
                rfl
              refine pure_ (i := 14) (N := some 40) (v := ?_) (a' := ?_) #[true, true, true, true, true, true, true, true, true, true, true, true, true, true, true, false, false, false, false, false, false] rfl rfl (any_of HT_.out (by kernel_rfl)) (fun _ _ _ h => h) (Or.inl ⟨by rfl, ?_⟩) ?_ ?_
              rotate_left
              · intro w'
                go_simp
                with_reducible rfl
              rotate_left
              · simp only [Act.put, List.setIfInBounds_toArray, List.set_cons_zero, List.set_cons_succ, i64_w, i32_w]
                rfl
              refine pure_ (i := 15) (N := some 41) (v := undef) (a' := ?_) #[true, true, true, true, true, true, true, true, true, true, true, true, true, true, true, true, false, false, false, false, false] rfl rfl (any_of HT_.out (by kernel_rfl)) (fun _ _ _ h => h) (Or.inr ⟨by rfl, rfl⟩) ?_ ?_
              rotate_left
              · simp only [Act.put, List.setIfInBounds_toArray, List.set_cons_zero, List.set_cons_succ, i64_w, i32_w]
                rfl
              refine pure_ (i := 16) (N := some 42) (v := undef) (a' := ?_) #[true, true, true, true, true, true, true, true, true, true, true, true, true, true, true, true, true, false, false, false, false] rfl rfl (any_of HT_.out (by kernel_rfl)) (fun _ _ _ h => h) (Or.inr ⟨by rfl, rfl⟩) ?_ ?_
              rotate_left
              · simp only [Act.put, List.setIfInBounds_toArray, List.set_cons_zero, List.set_cons_succ, i64_w, i32_w]
                rfl
              refine pure_ (i := 17) (N := some 43) (v := undef) (a' := ?_) #[true, true, true, true, true, true, true, true, true, true, true, true, true, true, true, true, true, true, false, false, false] rfl rfl (any_of HT_.out (by kernel_rfl)) (fun _ _ _ h => h) (Or.inr ⟨by rfl, rfl⟩) ?_ ?_
              rotate_left
              · simp only [Act.put, List.setIfInBounds_toArray, List.set_cons_zero, List.set_cons_succ, i64_w, i32_w]
                rfl
              refine pure_ (i := 18) (N := some 44) (v := undef) (a' := ?_) #[true, true, true, true, true, true, true, true, true, true, true, true, true, true, true, true, true, true, true, false, false] rfl rfl (any_of HT_.out (by kernel_rfl)) (fun _ _ _ h => h) (Or.inr ⟨by rfl, rfl⟩) ?_ ?_
              rotate_left
              · simp only [Act.put, List.setIfInBounds_toArray, List.set_cons_zero, List.set_cons_succ, i64_w, i32_w]
                rfl
              refine pure_ (i := 19) (N := some 45) (v := ?_) (a' := ?_) #[true, true, true, true, true, true, true, true, true, true, true, true, true, true, true, true, true, true, true, true, false] rfl rfl (any_of HT_.out (by kernel_rfl)) (fun _ _ _ h => h) (Or.inl ⟨by rfl, ?_⟩) ?_ ?_
              rotate_left
              · intro w'
                go_simp
                with_reducible rfl
              rotate_left
              · simp only [Act.put, List.setIfInBounds_toArray, List.set_cons_zero, List.set_cons_succ, i64_w, i32_w]
                rfl
              refine pure_ (i := 20) (N := some 2) (v := ?_) (a' := ?_) #[true, true, true, true, true, true, true, true, true, true, true, true, true, true, true, true, true, true, true, true, true] rfl rfl (any_of HT_.out (by kernel_rfl)) (fun _ _ _ h => h) (Or.inl ⟨by rfl, ?_⟩) ?_ ?_
              rotate_left
              · intro w'
                go_simp
                with_reducible rfl
              rotate_left
              · simp only [Act.put, List.setIfInBounds_toArray, List.set_cons_zero, List.set_cons_succ, i64_w, i32_w]
                rfl
              refine done_ (done_of HT_.out (by kernel_rfl)) ?_
              try go_wp2
              go_ret
              exact ⟨by first | rfl | (simp [errW_none, errW_some] <;> rfl) | (simp [*, errW_none, errW_some] <;> rfl), by repeat (first | (with_reducible first | exact HB.out | apply bal | apply pbd | apply below_drew1 | refine below_set ?_ GE128.out) | exact HB.out)⟩
          · rw [if_neg c13] at H
            have c13b0 : decide (a0_2 < 6) = false := decide_eq_false c13
            clear c13
            obtain rfl := Option.some.inj H
            have hcz25_0 : wc.cell? ⟨gb128, 0, none⟩ = some (.int .i64 a0_0) := (blk_cell BK128.out 0).trans rfl
            have hcz25_1 : wc.cell? ⟨gb128, 1, none⟩ = some (.slice A0_1 l0_1.length c0_1) := (blk_cell BK128.out 1).trans rfl
            have hcz25_2 : wc.cell? ⟨gb128, 2, none⟩ = some (.int .i64 a0_2) := (blk_cell BK128.out 2).trans rfl
            have hcz25_3 : wc.cell? ⟨gb128, 3, none⟩ = some (.int .u64 a0_3) := (blk_cell BK128.out 3).trans rfl
            have hcz25_4 : wc.cell? ⟨gb128, 4, none⟩ = some (.string a0_4) := (blk_cell BK128.out 4).trans rfl
            have hcz25_5 : wc.cell? ⟨gb128, 5, none⟩ = some (.int .u64 a0_5) := (blk_cell BK128.out 5).trans rfl
            have hfz25_0 := blk_frozen BK128.out 0
            have hfz25_1 := blk_frozen BK128.out 1
            have hfz25_2 := blk_frozen BK128.out 2
            have hfz25_3 := blk_frozen BK128.out 3
            have hfz25_4 := blk_frozen BK128.out 4
            have hfz25_5 := blk_frozen BK128.out 5
            try go_wp2
            have n0_ := amk (blk_drew BK128.out)
            have n1_ := amk (below_drew1 HB.out)
            clear BK128
            clear HB
            have BK128 := n0_
            have HB := n1_
            clear n0_ n1_
            refine start_ (n := 21) (S := fun w' => w'.cell? ⟨gb128, 0, none⟩ = some (.int .i64 a0_0) ∧ w'.cell? ⟨gb128, 1, none⟩ = some (.slice A0_1 l0_1.length c0_1) ∧ w'.cell? ⟨gb128, 2, none⟩ = some (.int .i64 a0_2) ∧ w'.cell? ⟨gb128, 3, none⟩ = some (.int .u64 a0_3) ∧ w'.cell? ⟨gb128, 4, none⟩ = some (.string a0_4) ∧ w'.cell? ⟨gb128, 5, none⟩ = some (.int .u64 a0_5)) (ds := []) #[false, false, false, false, false, false, false, false, false, false, false, false, false, false, false, false, false, false, false, false, false] (by kernel_rfl) rfl rfl ⟨(blk_cell BK128.out 0).trans rfl, (blk_cell BK128.out 1).trans rfl, (blk_cell BK128.out 2).trans rfl, (blk_cell BK128.out 3).trans rfl, (blk_cell BK128.out 4).trans rfl, (blk_cell BK128.out 5).trans rfl⟩ (fun hHeld => ?_); refine with_tabW types_one.tab4 types_one.bits4 (fun HT_ HW_ => ?_)
            generalize wc.drew = w26 at BK128 HB hHeld ⊢
            refine pure_ (i := 0) (N := some 26) (v := ?_) (a' := ?_) #[true, false, false, false, false, false, false, false, false, false, false, false, false, false, false, false, false, false, false, false, false] rfl rfl (any_of HT_.out (by kernel_rfl)) (fun _ _ _ h => h) (Or.inl ⟨by rfl, ?_⟩) ?_ ?_
            rotate_left
            · intro w'
              go_simp
              with_reducible rfl
            rotate_left
            · simp only [Act.put, List.setIfInBounds_toArray, List.set_cons_zero, List.set_cons_succ, i64_w, i32_w]
              rfl
            refine take_ (i := 1) (N := some 27) (v := ?_) (a' := ?_) #[true, true, false, false, false, false, false, false, false, false, false, false, false, false, false, false, false, false, false, false, false] rfl rfl (take_ofW HT_.out HW_.out (by kernel_rfl)) (fun _ _ _ h => h) (Or.inl ⟨by rfl, ?_⟩) hHeld ?_ ?_
            rotate_left
            · rintro w' ⟨s0, s1, s2, s3, s4, s5⟩
              go_simp
              with_reducible rfl
            rotate_left
            · simp only [Act.put, List.setIfInBounds_toArray, List.set_cons_zero, List.set_cons_succ, i64_w, i32_w]
              rfl
            refine pure_ (i := 2) (N := some 28) (v := ?_) (a' := ?_) #[true, true, true, false, false, false, false, false, false, false, false, false, false, false, false, false, false, false, false, false, false] rfl rfl (any_of HT_.out (by kernel_rfl)) (fun _ _ _ h => h) (Or.inl ⟨by rfl, ?_⟩) ?_ ?_
            rotate_left
            · intro w'
              go_simp
              with_reducible rfl
            rotate_left
            · simp only [Act.put, List.setIfInBounds_toArray, List.set_cons_zero, List.set_cons_succ, i64_w, i32_w]
              rfl
            refine pure_ (i := 3) (N := some 29) (v := ?_) (a' := ?_) #[true, true, true, true, false, false, false, false, false, false, false, false, false, false, false, false, false, false, false, false, false] rfl rfl (any_of HT_.out (by kernel_rfl)) (fun _ _ _ h => h) (Or.inl ⟨by rfl, ?_⟩) ?_ ?_
            rotate_left
            · intro w'
              go_simp
              with_reducible rfl
            rotate_left
            · simp only [Act.put, List.setIfInBounds_toArray, List.set_cons_zero, List.set_cons_succ, i64_w, i32_w]
              rfl
            refine pure_ (i := 4) (N := some 30) (v := ?_) (a' := ?_) #[true, true, true, true, true, false, false, false, false, false, false, false, false, false, false, false, false, false, false, false, false] rfl rfl (any_of HT_.out (by kernel_rfl)) (fun _ _ _ h => h) (Or.inl ⟨by rfl, ?_⟩) ?_ ?_
            rotate_left
            · intro w'
              go_simp
              with_reducible rfl
            rotate_left
            · simp only [Act.put, List.setIfInBounds_toArray, List.set_cons_zero, List.set_cons_succ, i64_w, i32_w]
              rfl
            refine take_ (i := 5) (N := some 31) (v := ?_) (a' := ?_) #[true, true, true, true, true, true, false, false, false, false, false, false, false, false, false, false, false, false, false, false, false] rfl rfl (take_ofW HT_.out HW_.out (by kernel_rfl)) (fun _ _ _ h => h) (Or.inl ⟨by rfl, ?_⟩) hHeld ?_ ?_
            rotate_left
            · rintro w' ⟨s0, s1, s2, s3, s4, s5⟩
              go_simp
              with_reducible rfl
            rotate_left
            · simp only [Act.put, List.setIfInBounds_toArray, List.set_cons_zero, List.set_cons_succ, i64_w, i32_w]
              rfl
            refine pure_ (i := 6) (N := some 32) (v := ?_) (a' := ?_) #[true, true, true, true, true, true, true, false, false, false, false, false, false, false, false, false, false, false, false, false, false] rfl rfl (any_of HT_.out (by kernel_rfl)) (fun _ _ _ h => h) (Or.inl ⟨by rfl, ?_⟩) ?_ ?_
            rotate_left
            · intro w'
              go_simp
              with_reducible rfl
            rotate_left
            · simp only [Act.put, List.setIfInBounds_toArray, List.set_cons_zero, List.set_cons_succ, i64_w, i32_w]
              rfl
            refine pure_ (i := 7) (N := some 33) (v := ?_) (a' := ?_) #[true, true, true, true, true, true, true, true, false, false, false, false, false, false, false, false, false, false, false, false, false] rfl rfl (any_of HT_.out (by kernel_rfl)) (fun _ _ _ h => h) (Or.inl ⟨by rfl, ?_⟩) ?_ ?_
            rotate_left
            · intro w'
              go_simp
              with_reducible rfl
            rotate_left
            · simp only [Act.put, List.setIfInBounds_toArray, List.set_cons_zero, List.set_cons_succ, i64_w, i32_w]
              rfl
            refine pure_ (i := 8) (N := some 34) (v := ?_) (a' := ?_) #[true, true, true, true, true, true, true, true, true, false, false, false, false, false, false, false, false, false, false, false, false] rfl rfl (any_of HT_.out (by kernel_rfl)) (fun _ _ _ h => h) (Or.inl ⟨by rfl, ?_⟩) ?_ ?_
            rotate_left
            · intro w'
              go_simp
              with_reducible rfl
            rotate_left
            · simp only [Act.put, List.setIfInBounds_toArray, List.set_cons_zero, List.set_cons_succ, i64_w, i32_w]
              rfl
            refine pure_ (i := 9) (N := some 35) (v := undef) (a' := ?_) #[true, true, true, true, true, true, true, true, true, true, false, false, false, false, false, false, false, false, false, false, false] rfl rfl (any_of HT_.out (by kernel_rfl)) (fun _ _ _ h => h) (Or.inr ⟨by rfl, rfl⟩) ?_ ?_
            rotate_left
            · simp only [Act.put, List.setIfInBounds_toArray, List.set_cons_zero, List.set_cons_succ, i64_w, i32_w]
              rfl
            refine pure_ (i := 10) (N := some 36) (v := undef) (a' := ?_) #[true, true, true, true, true, true, true, true, true, true, true, false, false, false, false, false, false, false, false, false, false] rfl rfl (any_of HT_.out (by kernel_rfl)) (fun _ _ _ h => h) (Or.inr ⟨by rfl, rfl⟩) ?_ ?_
            rotate_left
            · simp only [Act.put, List.setIfInBounds_toArray, List.set_cons_zero, List.set_cons_succ, i64_w, i32_w]
              rfl
            refine pure_ (i := 11) (N := some 37) (v := undef) (a' := ?_) #[true, true, true, true, true, true, true, true, true, true, true, true, false, false, false, false, false, false, false, false, false] rfl rfl (any_of HT_.out (by kernel_rfl)) (fun _ _ _ h => h) (Or.inr ⟨by rfl, rfl⟩) ?_ ?_
            rotate_left
            · simp only [Act.put, List.setIfInBounds_toArray, List.set_cons_zero, List.set_cons_succ, i64_w, i32_w]
              rfl
            refine pure_ (i := 12) (N := some 38) (v := undef) (a' := ?_) #[true, true, true, true, true, true, true, true, true, true, true, true, true, false, false, false, false, false, false, false, false] rfl rfl (any_of HT_.out (by kernel_rfl)) (fun _ _ _ h => h) (Or.inr ⟨by rfl, rfl⟩) ?_ ?_
            rotate_left
            · simp only [Act.put, List.setIfInBounds_toArray, List.set_cons_zero, List.set_cons_succ, i64_w, i32_w]
              rfl
            refine pure_ (i := 13) (N := some 39) (v := ?_) (a' := ?_) #[true, true, true, true, true, true, true, true, true, true, true, true, true, true, false, false, false, false, false, false, false] rfl rfl (any_of HT_.out (by kernel_rfl)) (fun _ _ _ h => h) (Or.inl ⟨by rfl, ?_⟩) ?_ ?_
            rotate_left
            · intro w'
              go_simp
              with_reducible rfl
            rotate_left
            · simp only [Act.put, List.setIfInBounds_toArray, List.set_cons_zero, List.set_cons_succ, i64_w, i32_w]
              rfl
            refine pure_ (i := 14) (N := some 40) (v := ?_) (a' := ?_) #[true, true, true, true, true, true, true, true, true, true, true, true, true, true, true, false, false, false, false, false, false] rfl rfl (any_of HT_.out (by kernel_rfl)) (fun _ _ _ h => h) (Or.inl ⟨by rfl, ?_⟩) ?_ ?_
            rotate_left
            · intro w'
              go_simp
              with_reducible rfl
            rotate_left
            · simp only [Act.put, List.setIfInBounds_toArray, List.set_cons_zero, List.set_cons_succ, i64_w, i32_w]
              rfl
            refine pure_ (i := 15) (N := some 41) (v := undef) (a' := ?_) #[true, true, true, true, true, true, true, true, true, true, true, true, true, true, true, true, false, false, false, false, false] rfl rfl (any_of HT_.out (by kernel_rfl)) (fun _ _ _ h => h) (Or.inr ⟨by rfl, rfl⟩) ?_ ?_
            rotate_left
            · simp only [Act.put, List.setIfInBounds_toArray, List.set_cons_zero, List.set_cons_succ, i64_w, i32_w]
              rfl
            refine pure_ (i := 16) (N := some 42) (v := undef) (a' := ?_) #[true, true, true, true, true, true, true, true, true, true, true, true, true, true, true, true, true, false, false, false, false] rfl rfl (any_of HT_.out (by kernel_rfl)) (fun _ _ _ h => h) (Or.inr ⟨by rfl, rfl⟩) ?_ ?_
            rotate_left
            · simp only [Act.put, List.setIfInBounds_toArray, List.set_cons_zero, List.set_cons_succ, i64_w, i32_w]
              rfl
            refine pure_ (i := 17) (N := some 43) (v := undef) (a' := ?_) #[true, true, true, true, true, true, true, true, true, true, true, true, true, true, true, true, true, true, false, false, false] rfl rfl (any_of HT_.out (by kernel_rfl)) (fun _ _ _ h => h) (Or.inr ⟨by rfl, rfl⟩) ?_ ?_
            rotate_left
            · simp only [Act.put, List.setIfInBounds_toArray, List.set_cons_zero, List.set_cons_succ, i64_w, i32_w]
              rfl
            refine pure_ (i := 18) (N := some 44) (v := undef) (a' := ?_) #[true, true, true, true, true, true, true, true, true, true, true, true, true, true, true, true, true, true, true, false, false] rfl rfl (any_of HT_.out (by kernel_rfl)) (fun _ _ _ h => h) (Or.inr ⟨by rfl, rfl⟩) ?_ ?_
            rotate_left
            · simp only [Act.put, List.setIfInBounds_toArray, List.set_cons_zero, List.set_cons_succ, i64_w, i32_w]
              rfl
            refine pure_ (i := 19) (N := some 45) (v := ?_) (a' := ?_) #[true, true, true, true, true, true, true, true, true, true, true, true, true, true, true, true, true, true, true, true, false] rfl rfl (any_of HT_.out (by kernel_rfl)) (fun _ _ _ h => h) (Or.inl ⟨by rfl, ?_⟩) ?_ ?_
            rotate_left
            · intro w'
              go_simp
              with_reducible rfl
            rotate_left
            · simp only [Act.put, List.setIfInBounds_toArray, List.set_cons_zero, List.set_cons_succ, i64_w, i32_w]
              rfl
            refine pure_ (i := 20) (N := some 2) (v := ?_) (a' := ?_) #[true, true, true, true, true, true, true, true, true, true, true, true, true, true, true, true, true, true, true, true, true] rfl rfl (any_of HT_.out (by kernel_rfl)) (fun _ _ _ h => h) (Or.inl ⟨by rfl, ?_⟩) ?_ ?_
            rotate_left
            · intro w'
              go_simp
              with_reducible rfl
            rotate_left
            · simp only [Act.put, List.setIfInBounds_toArray, List.set_cons_zero, List.set_cons_succ, i64_w, i32_w]
              rfl
            refine done_ (done_of HT_.out (by kernel_rfl)) ?_
            try go_wp2
            go_ret
            exact ⟨by first | rfl | (simp [errW_none, errW_some] <;> rfl) | (simp [*, errW_none, errW_some] <;> rfl), by repeat (first | (with_reducible first | exact HB.out | apply bal | apply pbd | apply below_drew1 | refine below_set ?_ GE128.out) | exact HB.out)⟩
        · rw [if_neg c12] at H
          have c12b0 : decide (0 ≤ a0_2) = false := decide_eq_false c12
          clear c12
          obtain rfl := Option.some.inj H
          have hcz27_0 : wc.cell? ⟨gb128, 0, none⟩ = some (.int .i64 a0_0) := (blk_cell BK128.out 0).trans rfl
          have hcz27_1 : wc.cell? ⟨gb128, 1, none⟩ = some (.slice A0_1 l0_1.length c0_1) := (blk_cell BK128.out 1).trans rfl
          have hcz27_2 : wc.cell? ⟨gb128, 2, none⟩ = some (.int .i64 a0_2) := (blk_cell BK128.out 2).trans rfl
          have hcz27_3 : wc.cell? ⟨gb128, 3, none⟩ = some (.int .u64 a0_3) := (blk_cell BK128.out 3).trans rfl
          have hcz27_4 : wc.cell? ⟨gb128, 4, none⟩ = some (.string a0_4) := (blk_cell BK128.out 4).trans rfl
          have hcz27_5 : wc.cell? ⟨gb128, 5, none⟩ = some (.int .u64 a0_5) := (blk_cell BK128.out 5).trans rfl
          have hfz27_0 := blk_frozen BK128.out 0
          have hfz27_1 := blk_frozen BK128.out 1
          have hfz27_2 := blk_frozen BK128.out 2
          have hfz27_3 := blk_frozen BK128.out 3
          have hfz27_4 := blk_frozen BK128.out 4
          have hfz27_5 := blk_frozen BK128.out 5
          try go_wp2
          have n0_ := amk (blk_drew BK128.out)
          have n1_ := amk (below_drew1 HB.out)
          clear BK128
          clear HB
          have BK128 := n0_
          have HB := n1_
          clear n0_ n1_
          refine start_ (n := 21) (S := fun w' => w'.cell? ⟨gb128, 0, none⟩ = some (.int .i64 a0_0) ∧ w'.cell? ⟨gb128, 1, none⟩ = some (.slice A0_1 l0_1.length c0_1) ∧ w'.cell? ⟨gb128, 2, none⟩ = some (.int .i64 a0_2) ∧ w'.cell? ⟨gb128, 3, none⟩ = some (.int .u64 a0_3) ∧ w'.cell? ⟨gb128, 4, none⟩ = some (.string a0_4) ∧ w'.cell? ⟨gb128, 5, none⟩ = some (.int .u64 a0_5)) (ds := []) #[false, false, false, false, false, false, false, false, false, false, false, false, false, false, false, false, false, false, false, false, false] (by kernel_rfl) rfl rfl ⟨(blk_cell BK128.out 0).trans rfl, (blk_cell BK128.out 1).trans rfl, (blk_cell BK128.out 2).trans rfl, (blk_cell BK128.out 3).trans rfl, (blk_cell BK128.out 4).trans rfl, (blk_cell BK128.out 5).trans rfl⟩ (fun hHeld => ?_); refine with_tabW types_one.tab4 types_one.bits4 (fun HT_ HW_ => ?_)
          generalize wc.drew = w28 at BK128 HB hHeld ⊢
          refine pure_ (i := 0) (N := some 26) (v := ?_) (a' := ?_) #[true, false, false, false, false, false, false, false, false, false, false, false, false, false, false, false, false, false, false, false, false] rfl rfl (any_of HT_.out (by kernel_rfl)) (fun _ _ _ h => h) (Or.inl ⟨by rfl, ?_⟩) ?_ ?_
          rotate_left
          · intro w'
            go_simp
            with_reducible rfl
          rotate_left
          · simp only [Act.put, List.setIfInBounds_toArray, List.set_cons_zero, List.set_cons_succ, i64_w, i32_w]
            rfl
          refine take_ (i := 1) (N := some 27) (v := ?_) (a' := ?_) #[true, true, false, false, false, false, false, false, false, false, false, false, false, false, false, false, false, false, false, false, false] rfl rfl (take_ofW HT_.out HW_.out (by kernel_rfl)) (fun _ _ _ h => h) (Or.inl ⟨by rfl, ?_⟩) hHeld ?_ ?_
          rotate_left
          · rintro w' ⟨s0, s1, s2, s3, s4, s5⟩
            go_simp
            with_reducible rfl
          rotate_left
          · simp only [Act.put, List.setIfInBounds_toArray, List.set_cons_zero, List.set_cons_succ, i64_w, i32_w]
            rfl
          refine pure_ (i := 2) (N := some 28) (v := ?_) (a' := ?_) #[true, true, true, false, false, false, false, false, false, false, false, false, false, false, false, false, false, false, false, false, false] rfl rfl (any_of HT_.out (by kernel_rfl)) (fun _ _ _ h => h) (Or.inl ⟨by rfl, ?_⟩) ?_ ?_
          rotate_left
          · intro w'
            go_simp
            with_reducible rfl
          rotate_left
          · simp only [Act.put, List.setIfInBounds_toArray, List.set_cons_zero, List.set_cons_succ, i64_w, i32_w]
            rfl
          refine pure_ (i := 3) (N := some 29) (v := ?_) (a' := ?_) #[true, true, true, true, false, false, false, false, false, false, false, false, false, false, false, false, false, false, false, false, false] rfl rfl (any_of HT_.out (by kernel_rfl)) (fun _ _ _ h => h) (Or.inl ⟨by rfl, ?_⟩) ?_ ?_
          rotate_left
          · intro w'
            go_simp
            with_reducible rfl
          rotate_left
          · simp only [Act.put, List.setIfInBounds_toArray, List.set_cons_zero, List.set_cons_succ, i64_w, i32_w]
            rfl
          refine pure_ (i := 4) (N := some 30) (v := undef) (a' := ?_) #[true, true, true, true, true, false, false, false, false, false, false, false, false, false, false, false, false, false, false, false, false] rfl rfl (any_of HT_.out (by kernel_rfl)) (fun _ _ _ h => h) (Or.inr ⟨by rfl, rfl⟩) ?_ ?_
          rotate_left
          · simp only [Act.put, List.setIfInBounds_toArray, List.set_cons_zero, List.set_cons_succ, i64_w, i32_w]
            rfl
          refine pure_ (i := 5) (N := some 31) (v := undef) (a' := ?_) #[true, true, true, true, true, true, false, false, false, false, false, false, false, false, false, false, false, false, false, false, false] rfl rfl (any_of HT_.out (by kernel_rfl)) (fun _ _ _ h => h) (Or.inr ⟨by rfl, rfl⟩) ?_ ?_
          rotate_left
          · simp only [Act.put, List.setIfInBounds_toArray, List.set_cons_zero, List.set_cons_succ, i64_w, i32_w]
            rfl
          refine pure_ (i := 6) (N := some 32) (v := undef) (a' := ?_) #[true, true, true, true, true, true, true, false, false, false, false, false, false, false, false, false, false, false, false, false, false] rfl rfl (any_of HT_.out (by kernel_rfl)) (fun _ _ _ h => h) (Or.inr ⟨by rfl, rfl⟩) ?_ ?_
          rotate_left
          · simp only [Act.put, List.setIfInBounds_toArray, List.set_cons_zero, List.set_cons_succ, i64_w, i32_w]
            rfl
          refine pure_ (i := 7) (N := some 33) (v := ?_) (a' := ?_) #[true, true, true, true, true, true, true, true, false, false, false, false, false, false, false, false, false, false, false, false, false] rfl rfl (any_of HT_.out (by kernel_rfl)) (fun _ _ _ h => h) (Or.inl ⟨by rfl, ?_⟩) ?_ ?_
          rotate_left
          · intro w'
            go_simp
            with_reducible rfl
          rotate_left
          · simp only [Act.put, List.setIfInBounds_toArray, List.set_cons_zero, List.set_cons_succ, i64_w, i32_w]
            rfl
          refine pure_ (i := 8) (N := some 34) (v := ?_) (a' := ?_) #[true, true, true, true, true, true, true, true, true, false, false, false, false, false, false, false, false, false, false, false, false] rfl rfl (any_of HT_.out (by kernel_rfl)) (fun _ _ _ h => h) (Or.inl ⟨by rfl, ?_⟩) ?_ ?_
          rotate_left
          · intro w'
            go_simp
            with_reducible rfl
          rotate_left
          · simp only [Act.put, List.setIfInBounds_toArray, List.set_cons_zero, List.set_cons_succ, i64_w, i32_w]
            rfl
          refine pure_ (i := 9) (N := some 35) (v := undef) (a' := ?_) #[true, true, true, true, true, true, true, true, true, true, false, false, false, false, false, false, false, false, false, false, false] rfl rfl (any_of HT_.out (by kernel_rfl)) (fun _ _ _ h => h) (Or.inr ⟨by rfl, rfl⟩) ?_ ?_
          rotate_left
          · simp only [Act.put, List.setIfInBounds_toArray, List.set_cons_zero, List.set_cons_succ, i64_w, i32_w]
            rfl
          refine pure_ (i := 10) (N := some 36) (v := undef) (a' := ?_) #[true, true, true, true, true, true, true, true, true, true, true, false, false, false, false, false, false, false, false, false, false] rfl rfl (any_of HT_.out (by kernel_rfl)) (fun _ _ _ h => h) (Or.inr ⟨by rfl, rfl⟩) ?_ ?_
          rotate_left
          · simp only [Act.put, List.setIfInBounds_toArray, List.set_cons_zero, List.set_cons_succ, i64_w, i32_w]
            rfl
          refine pure_ (i := 11) (N := some 37) (v := undef) (a' := ?_) #[true, true, true, true, true, true, true, true, true, true, true, true, false, false, false, false, false, false, false, false, false] rfl rfl (any_of HT_.out (by kernel_rfl)) (fun _ _ _ h => h) (Or.inr ⟨by rfl, rfl⟩) ?_ ?_
          rotate_left
          · simp only [Act.put, List.setIfInBounds_toArray, List.set_cons_zero, List.set_cons_succ, i64_w, i32_w]
            rfl
          refine pure_ (i := 12) (N := some 38) (v := undef) (a' := ?_) #[true, true, true, true, true, true, true, true, true, true, true, true, true, false, false, false, false, false, false, false, false] rfl rfl (any_of HT_.out (by kernel_rfl)) (fun _ _ _ h => h) (Or.inr ⟨by rfl, rfl⟩) ?_ ?_
          rotate_left
          · simp only [Act.put, List.setIfInBounds_toArray, List.set_cons_zero, List.set_cons_succ, i64_w, i32_w]
            rfl
          refine pure_ (i := 13) (N := some 39) (v := ?_) (a' := ?_) #[true, true, true, true, true, true, true, true, true, true, true, true, true, true, false, false, false, false, false, false, false] rfl rfl (any_of HT_.out (by kernel_rfl)) (fun _ _ _ h => h) (Or.inl ⟨by rfl, ?_⟩) ?_ ?_
          rotate_left
          · intro w'
            go_simp
            with_reducible rfl
          rotate_left
          · simp only [Act.put, List.setIfInBounds_toArray, List.set_cons_zero, List.set_cons_succ, i64_w, i32_w]
            rfl
          refine pure_ (i := 14) (N := some 40) (v := ?_) (a' := ?_) #[true, true, true, true, true, true, true, true, true, true, true, true, true, true, true, false, false, false, false, false, false] rfl rfl (any_of HT_.out (by kernel_rfl)) (fun _ _ _ h => h) (Or.inl ⟨by rfl, ?_⟩) ?_ ?_
          rotate_left
          · intro w'
            go_simp
            with_reducible rfl
          rotate_left
          · simp only [Act.put, List.setIfInBounds_toArray, List.set_cons_zero, List.set_cons_succ, i64_w, i32_w]
            rfl
          refine pure_ (i := 15) (N := some 41) (v := undef) (a' := ?_) #[true, true, true, true, true, true, true, true, true, true, true, true, true, true, true, true, false, false, false, false, false] rfl rfl (any_of HT_.out (by kernel_rfl)) (fun _ _ _ h => h) (Or.inr ⟨by rfl, rfl⟩) ?_ ?_
          rotate_left
          · simp only [Act.put, List.setIfInBounds_toArray, List.set_cons_zero, List.set_cons_succ, i64_w, i32_w]
            rfl
          refine pure_ (i := 16) (N := some 42) (v := undef) (a' := ?_) #[true, true, true, true, true, true, true, true, true, true, true, true, true, true, true, true, true, false, false, false, false] rfl rfl (any_of HT_.out (by kernel_rfl)) (fun _ _ _ h => h) (Or.inr ⟨by rfl, rfl⟩) ?_ ?_
          rotate_left
          · simp only [Act.put, List.setIfInBounds_toArray, List.set_cons_zero, List.set_cons_succ, i64_w, i32_w]
            rfl
          refine pure_ (i := 17) (N := some 43) (v := undef) (a' := ?_) #[true, true, true, true, true, true, true, true, true, true, true, true, true, true, true, true, true, true, false, false, false] rfl rfl (any_of HT_.out (by kernel_rfl)) (fun _ _ _ h => h) (Or.inr ⟨by rfl, rfl⟩) ?_ ?_
          rotate_left
          · simp only [Act.put, List.setIfInBounds_toArray, List.set_cons_zero, List.set_cons_succ, i64_w, i32_w]
            rfl
          refine pure_ (i := 18) (N := some 44) (v := undef) (a' := ?_) #[true, true, true, true, true, true, true, true, true, true, true, true, true, true, true, true, true, true, true, false, false] rfl rfl (any_of HT_.out (by kernel_rfl)) (fun _ _ _ h => h) (Or.inr ⟨by rfl, rfl⟩) ?_ ?_
          rotate_left
          · simp only [Act.put, List.setIfInBounds_toArray, List.set_cons_zero, List.set_cons_succ, i64_w, i32_w]
            rfl
          refine pure_ (i := 19) (N := some 45) (v := ?_) (a' := ?_) #[true, true, true, true, true, true, true, true, true, true, true, true, true, true, true, true, true, true, true, true, false] rfl rfl (any_of HT_.out (by kernel_rfl)) (fun _ _ _ h => h) (Or.inl ⟨by rfl, ?_⟩) ?_ ?_
          rotate_left
          · intro w'
            go_simp
            with_reducible rfl
          rotate_left
          · simp only [Act.put, List.setIfInBounds_toArray, List.set_cons_zero, List.set_cons_succ, i64_w, i32_w]
            rfl
          refine pure_ (i := 20) (N := some 2) (v := ?_) (a' := ?_) #[true, true, true, true, true, true, true, true, true, true, true, true, true, true, true, true, true, true, true, true, true] rfl rfl (any_of HT_.out (by kernel_rfl)) (fun _ _ _ h => h) (Or.inl ⟨by rfl, ?_⟩) ?_ ?_
          rotate_left
          · intro w'
            go_simp
            with_reducible rfl
          rotate_left
          · simp only [Act.put, List.setIfInBounds_toArray, List.set_cons_zero, List.set_cons_succ, i64_w, i32_w]
            rfl
          refine done_ (done_of HT_.out (by kernel_rfl)) ?_
          try go_wp2
          go_ret
          exact ⟨by first | rfl | (simp [errW_none, errW_some] <;> rfl) | (simp [*, errW_none, errW_some] <;> rfl), by repeat (first | (with_reducible first | exact HB.out | apply bal | apply pbd | apply below_drew1 | refine below_set ?_ GE128.out) | exact HB.out)⟩
      · rw [if_neg c11] at H
        have c11b0 : (a0_0 == 4) = false := beq_eq_false_iff_ne.mpr c11
        have c11b1 : (a0_0 != 4) = true := bne_iff_ne.mpr c11
        have HC29 := amk H
        clear H
        have hcz30_0 : wc.cell? ⟨gb128, 0, none⟩ = some (.int .i64 a0_0) := (blk_cell BK128.out 0).trans rfl
        have hcz30_1 : wc.cell? ⟨gb128, 1, none⟩ = some (.slice A0_1 l0_1.length c0_1) := (blk_cell BK128.out 1).trans rfl
        have hcz30_2 : wc.cell? ⟨gb128, 2, none⟩ = some (.int .i64 a0_2) := (blk_cell BK128.out 2).trans rfl
        have hcz30_3 : wc.cell? ⟨gb128, 3, none⟩ = some (.int .u64 a0_3) := (blk_cell BK128.out 3).trans rfl
        have hcz30_4 : wc.cell? ⟨gb128, 4, none⟩ = some (.string a0_4) := (blk_cell BK128.out 4).trans rfl
        have hcz30_5 : wc.cell? ⟨gb128, 5, none⟩ = some (.int .u64 a0_5) := (blk_cell BK128.out 5).trans rfl
        have hfz30_0 := blk_frozen BK128.out 0
        have hfz30_1 := blk_frozen BK128.out 1
        have hfz30_2 := blk_frozen BK128.out 2
        have hfz30_3 := blk_frozen BK128.out 3
        have hfz30_4 := blk_frozen BK128.out 4
        have hfz30_5 := blk_frozen BK128.out 5
        go_upto_if 46 with (fail)
        go_cut [46] (fun v46 wc => ∃ (kq : Nat) (x46_28 : Bool), v46 = .bool x46_28 ∧ Aside0 (types_one.j1 kq x3_1 a0_0 x46_28 a0_0 l0_1 a0_2 a0_3 a0_4 a0_5 = some r) ∧ Aside0 (kq ≤ kj1) ∧ Aside0 (wc.heap[gb128]? = some (.cells #[.int .i64 a0_0, (.slice A0_1 l0_1.length c0_1), .int .i64 a0_2, .int .u64 a0_3, .string a0_4, .int .u64 a0_5] 46 (0, 0))) ∧ Aside0 (Below w.heap.size w wc))
        case first =>
          have H := HC29.out
          clear HC29
          by_cases c31 : a0_0 = 1
          · rw [if_pos c31] at H
            have c31b0 : (a0_0 == 1) = true := beq_iff_eq.mpr c31
            have c31b1 : (a0_0 != 1) = false := bne_eq_false_iff_eq.mpr c31
            clear c31
            (first | rw [c31b0] | (simp only [i64_w, i32_w]; rw [c31b0]) | skip)
            have H' := amk H
            clear H
            go_wp2
            go_meet
            case rel => exact ⟨_, ((a0_0 == 1)), (by first | rfl | (simp; done) | (simp [*]; done)), H', ⟨by have := HJ1.out; first | omega | exact Nat.le_refl _⟩, ⟨by (with_reducible repeat (first | refine blk_drewN ?_ _ | refine blk_drew ?_ | refine blk_alloc ?_ _)); exact BK128.out⟩, ⟨by repeat (first | (with_reducible first | exact HB.out | apply bal | apply pbd | apply below_drew1 | refine below_set ?_ GE128.out) | exact HB.out)⟩⟩
          · rw [if_neg c31] at H
            have c31b0 : (a0_0 == 1) = false := beq_eq_false_iff_ne.mpr c31
            have c31b1 : (a0_0 != 1) = true := bne_iff_ne.mpr c31
            (first | rw [c31b0] | (simp only [i64_w, i32_w]; rw [c31b0]) | skip)
            have H' := amk H
            clear H
            go_wp2
            go_meet
            case rel => exact ⟨_, ((a0_0 == 2)), (by first | rfl | (simp; done) | (simp [*]; done)), H', ⟨by have := HJ1.out; first | omega | exact Nat.le_refl _⟩, ⟨by (with_reducible repeat (first | refine blk_drewN ?_ _ | refine blk_drew ?_ | refine blk_alloc ?_ _)); exact BK128.out⟩, ⟨by repeat (first | (with_reducible first | exact HB.out | apply bal | apply pbd | apply below_drew1 | refine below_set ?_ GE128.out) | exact HB.out)⟩⟩
        case rest =>
          clear HC29
          try clear c1
          try clear p2
          try clear c3
          try clear c11
          try clear c11b0
          try clear c11b1
          try clear c12
          try clear c12b0
          try clear c13
          try clear c13b0
          try clear c15
          try clear c16
          try clear c31
          try clear c31b0
          try clear c31b1
          try clear hcz21_0
          try clear hcz21_1
          try clear hcz21_2
          try clear hcz21_3
          try clear hcz21_4
          try clear hcz21_5
          try clear hcz25_0
          try clear hcz25_1
          try clear hcz25_2
          try clear hcz25_3
          try clear hcz25_4
          try clear hcz25_5
          try clear hcz27_0
          try clear hcz27_1
          try clear hcz27_2
          try clear hcz27_3
          try clear hcz27_4
          try clear hcz27_5
          try clear hcz30_0
          try clear hcz30_1
          try clear hcz30_2
          try clear hcz30_3
          try clear hcz30_4
          try clear hcz30_5
          try clear hfz21_0
          try clear hfz21_1
          try clear hfz21_2
          try clear hfz21_3
          try clear hfz21_4
          try clear hfz21_5
          try clear hfz25_0
          try clear hfz25_1
          try clear hfz25_2
          try clear hfz25_3
          try clear hfz25_4
          try clear hfz25_5
          try clear hfz27_0
          try clear hfz27_1
          try clear hfz27_2
          try clear hfz27_3
          try clear hfz27_4
          try clear hfz27_5
          try clear hfz30_0
          try clear hfz30_1
          try clear hfz30_2
          try clear hfz30_3
          try clear hfz30_4
          try clear hfz30_5
          obtain ⟨kq, x46_28, rfl, HA, HJ28, BK128, HB⟩ := hcut
          cases kq with
          | zero => exact absurd HA.out (by simp [types_one.j1])
          | succ kj28 =>
            have H := HA.out
            clear HA
            simp only [types_one.j1] at H
            by_cases c32 : x46_28 = true
            · subst c32
              have H1 : (if x3_1 = true then (some (decide ((l0_1.length : Int) ≥ 2))) else (some false)) = some r := by rw [if_pos rfl] at H; exact H
              clear H
              have H := H1
              clear H1
              by_cases c33 : x3_1 = true
              · subst c33
                have H1 : (some (decide ((l0_1.length : Int) ≥ 2))) = some r := by rw [if_pos rfl] at H; exact H
                clear H
                have H := H1
                clear H1
                obtain rfl := Option.some.inj H
                have hcz34_0 : wc.cell? ⟨gb128, 0, none⟩ = some (.int .i64 a0_0) := (blk_cell BK128.out 0).trans rfl
                have hcz34_1 : wc.cell? ⟨gb128, 1, none⟩ = some (.slice A0_1 l0_1.length c0_1) := (blk_cell BK128.out 1).trans rfl
                have hcz34_2 : wc.cell? ⟨gb128, 2, none⟩ = some (.int .i64 a0_2) := (blk_cell BK128.out 2).trans rfl
                have hcz34_3 : wc.cell? ⟨gb128, 3, none⟩ = some (.int .u64 a0_3) := (blk_cell BK128.out 3).trans rfl
                have hcz34_4 : wc.cell? ⟨gb128, 4, none⟩ = some (.string a0_4) := (blk_cell BK128.out 4).trans rfl
                have hcz34_5 : wc.cell? ⟨gb128, 5, none⟩ = some (.int .u64 a0_5) := (blk_cell BK128.out 5).trans rfl
                have hfz34_0 := blk_frozen BK128.out 0
                have hfz34_1 := blk_frozen BK128.out 1
                have hfz34_2 := blk_frozen BK128.out 2
                have hfz34_3 := blk_frozen BK128.out 3
                have hfz34_4 := blk_frozen BK128.out 4
                have hfz34_5 := blk_frozen BK128.out 5
                go_wp2
                go_ret
                exact ⟨by first | rfl | (simp [errW_none, errW_some] <;> rfl) | (simp [*, errW_none, errW_some] <;> rfl), by repeat (first | (with_reducible first | exact HB.out | apply bal | apply pbd | apply below_drew1 | refine below_set ?_ GE128.out) | exact HB.out)⟩
              · replace c33 := Bool.eq_false_iff.mpr c33
                subst c33
                have H1 : (some false) = some r := by rw [if_neg (show ¬ (false = true) by decide)] at H; exact H
                clear H
                have H := H1
                clear H1
                obtain rfl := Option.some.inj H
                go_wp2
                go_ret
                exact ⟨by first | rfl | (simp [errW_none, errW_some] <;> rfl) | (simp [*, errW_none, errW_some] <;> rfl), by repeat (first | (with_reducible first | exact HB.out | apply bal | apply pbd | apply below_drew1 | refine below_set ?_ GE128.out) | exact HB.out)⟩
            · replace c32 := Bool.eq_false_iff.mpr c32
              subst c32
              have H1 : (if a0_0 = 3 then (if x3_1 = true then (some ((l0_1.length : Int) == 1)) else (some false)) else (some false)) = some r := by rw [if_neg (show ¬ (false = true) by decide)] at H; exact H
              clear H
              have H := H1
              clear H1
              by_cases c35 : a0_0 = 3
              · rw [if_pos c35] at H
                have c35b0 : (a0_0 == 3) = true := beq_iff_eq.mpr c35
                have c35b1 : (a0_0 != 3) = false := bne_eq_false_iff_eq.mpr c35
                clear c35
                by_cases c36 : x3_1 = true
                · subst c36
                  have H1 : (some ((l0_1.length : Int) == 1)) = some r := by rw [if_pos rfl] at H; exact H
                  clear H
                  have H := H1
                  clear H1
                  obtain rfl := Option.some.inj H
                  have hcz37_0 : wc.cell? ⟨gb128, 0, none⟩ = some (.int .i64 a0_0) := (blk_cell BK128.out 0).trans rfl
                  have hcz37_1 : wc.cell? ⟨gb128, 1, none⟩ = some (.slice A0_1 l0_1.length c0_1) := (blk_cell BK128.out 1).trans rfl
                  have hcz37_2 : wc.cell? ⟨gb128, 2, none⟩ = some (.int .i64 a0_2) := (blk_cell BK128.out 2).trans rfl
                  have hcz37_3 : wc.cell? ⟨gb128, 3, none⟩ = some (.int .u64 a0_3) := (blk_cell BK128.out 3).trans rfl
                  have hcz37_4 : wc.cell? ⟨gb128, 4, none⟩ = some (.string a0_4) := (blk_cell BK128.out 4).trans rfl
                  have hcz37_5 : wc.cell? ⟨gb128, 5, none⟩ = some (.int .u64 a0_5) := (blk_cell BK128.out 5).trans rfl
                  have hfz37_0 := blk_frozen BK128.out 0
                  have hfz37_1 := blk_frozen BK128.out 1
                  have hfz37_2 := blk_frozen BK128.out 2
                  have hfz37_3 := blk_frozen BK128.out 3
                  have hfz37_4 := blk_frozen BK128.out 4
                  have hfz37_5 := blk_frozen BK128.out 5
                  go_wp2
                  go_ret
                  exact ⟨by first | rfl | (simp [errW_none, errW_some] <;> rfl) | (simp [*, errW_none, errW_some] <;> rfl), by repeat (first | (with_reducible first | exact HB.out | apply bal | apply pbd | apply below_drew1 | refine below_set ?_ GE128.out) | exact HB.out)⟩
                · replace c36 := Bool.eq_false_iff.mpr c36
                  subst c36
                  have H1 : (some false) = some r := by rw [if_neg (show ¬ (false = true) by decide)] at H; exact H
                  clear H
                  have H := H1
                  clear H1
                  obtain rfl := Option.some.inj H
                  go_wp2
                  go_ret
                  exact ⟨by first | rfl | (simp [errW_none, errW_some] <;> rfl) | (simp [*, errW_none, errW_some] <;> rfl), by repeat (first | (with_reducible first | exact HB.out | apply bal | apply pbd | apply below_drew1 | refine below_set ?_ GE128.out) | exact HB.out)⟩
              · rw [if_neg c35] at H
                have c35b0 : (a0_0 == 3) = false := beq_eq_false_iff_ne.mpr c35
                have c35b1 : (a0_0 != 3) = true := bne_iff_ne.mpr c35
                obtain rfl := Option.some.inj H
                go_wp2
                go_ret
                exact ⟨by first | rfl | (simp [errW_none, errW_some] <;> rfl) | (simp [*, errW_none, errW_some] <;> rfl), by repeat (first | (with_reducible first | exact HB.out | apply bal | apply pbd | apply below_drew1 | refine below_set ?_ GE128.out) | exact HB.out)⟩
end Go.Proofs.Ytoeklekjhaigoaa.M0
end
section
namespace Go.Proofs.Ytoeklekjhaigoaa.M0
open Go.Proofs.Ytoeklekjhaigoaa.Al Go.RowKit Go.Proofs.YtoeklekjhaigoaaW.PrintWords Go.Proofs.YtoeklekjhaigoaaW.PrintLast Go.Proofs.YtoeklekjhaigoaaW.PrintMore
attribute [local go_sem] max2_int min2_int max_two min_two max_three min_three max_four min_four IntKind.wrap_u32 IntKind.wrap_u8   -- for this text's walks alone
set_option linter.unusedVariables false
open Go.Proofs.Ytoeklekjhaigoaa.Le Go.Proofs.Ytoeklekjhaigoaa.C1 Go.Proofs.Ytoeklekjhaigoaa.C2 Go.Proofs.Ytoeklekjhaigoaa.HAct Go.Proofs.Ytoeklekjhaigoaa.W0 Go.Proofs.Ytoeklekjhaigoaa.HFrom Go.Proofs.Ytoeklekjhaigoaa.W1 Go.Proofs.Ytoeklekjhaigoaa.R01 Go.Proofs.Ytoeklekjhaigoaa.HPack Go.Proofs.Ytoeklekjhaigoaa.HUnpack Go.Proofs.Ytoeklekjhaigoaa.HRefPack
set_option linter.unusedSimpArgs false
def mean_none.f (a0_0 : Int) (l0_1 : List (S46)) (a0_2 : Int) (a0_3 : Int) (a0_4 : ByteArray) (a0_5 : Int) : Option (Bool) := if a0_0 = 0 then (if a0_2 = 0 then (if a0_3 = 0 then (if a0_4.toList = ([] : List UInt8) then (if a0_5 = 0 then (some ((l0_1.length : Int) == 0)) else (some false)) else (some false)) else (some false)) else (some false)) else (some false)
set_option maxHeartbeats 8000000 in
set_option maxRecDepth 100000 in
theorem mean_none.calls (a0_0 : Int) (A0_1 : Option Addr) (c0_1 : Nat) (l0_1 : List (S46)) (a0_2 : Int) (a0_3 : Int) (a0_4 : ByteArray) (a0_5 : Int) (r : Bool) (w : World) (hr0_1 : Kd.C k46 w A0_1 l0_1.length l0_1) (hc0_1 : l0_1.length ≤ c0_1) (h : mean_none.f a0_0 l0_1 a0_2 a0_3 a0_4 a0_5 = some r) :
    Calls Try.prog 88 #[.agg #[.int .i64 a0_0, .slice A0_1 l0_1.length c0_1, .int .i64 a0_2, .int .u64 a0_3, .string a0_4, .int .u64 a0_5]] w fun e w' => e = .returned (.bool r) ∧ Below w.heap.size w w' := by
  have hu46 := Try.underlying46
  have HR0_1 := amk hr0_1
  have HC0_1 := amk hc0_1
  clear hr0_1 hc0_1
  have HB := amk (Below.refl w.heap.size w)
  have H : (if a0_0 = 0 then (if a0_2 = 0 then (if a0_3 = 0 then (if a0_4.toList = ([] : List UInt8) then (if a0_5 = 0 then (some ((l0_1.length : Int) == 0)) else (some false)) else (some false)) else (some false)) else (some false)) else (some false)) = some r := h
  clear h
  by_cases c2 : a0_0 = 0
  · rw [if_pos c2] at H
    have c2b0 : (a0_0 == 0) = true := beq_iff_eq.mpr c2
    have c2b1 : (a0_0 != 0) = false := bne_eq_false_iff_eq.mpr c2
    clear c2
    by_cases c3 : a0_2 = 0
    · rw [if_pos c3] at H
      have c3b0 : (a0_2 == 0) = true := beq_iff_eq.mpr c3
      have c3b1 : (a0_2 != 0) = false := bne_eq_false_iff_eq.mpr c3
      clear c3
      by_cases c4 : a0_3 = 0
      · rw [if_pos c4] at H
        have c4b0 : (a0_3 == 0) = true := beq_iff_eq.mpr c4
        have c4b1 : (a0_3 != 0) = false := bne_eq_false_iff_eq.mpr c4
        clear c4
        by_cases c5 : a0_4.toList = ([] : List UInt8)
        · rw [if_pos c5] at H
          have c5b0 : (a0_4.toList == ([] : List UInt8)) = true := beq_iff_eq.mpr c5
          have c5b1 : (a0_4.toList != ([] : List UInt8)) = false := bne_eq_false_iff_eq.mpr c5
          clear c5
          by_cases c6 : a0_5 = 0
          · rw [if_pos c6] at H
            have c6b0 : (a0_5 == 0) = true := beq_iff_eq.mpr c6
            have c6b1 : (a0_5 != 0) = false := bne_eq_false_iff_eq.mpr c6
            clear c6
            obtain rfl := Option.some.inj H
            go_enter Try.func88, Try.ntmps88
            go_wp2_with (first | ((with_reducible refine gate_dst (N := 1) rfl ?_); (try (refine gate_guard (by rfl) ?_; dsimp only)); refine box_event ?hg (N := 1) ?hd (cs := #[.int .i64 a0_0, .slice A0_1 l0_1.length c0_1, .int .i64 a0_2, .int .u64 a0_3, .string a0_4, .int .u64 a0_5]) (t := 46) ?hr ?_; (case hd => rfl); (case hg => rfl); (case hr => first | (go_simp; done) | (go_simp; rfl)); intro gb134 hg w7 hbox hb; have n0_ := amk (below_step (by repeat (first | (with_reducible first | exact HB.out | apply bal | apply pbd | apply below_drew1) | exact HB.out)) hb); have n1_ := amk (hbox); have n2_ := amk ((by rw [hg]; exact (below_size (by repeat (first | (with_reducible first | exact HB.out | apply bal | apply pbd | apply below_drew1) | exact HB.out))) : w.heap.size ≤ gb134)); have n3_ := amk ((by rw [hg]; exact (below_size (by repeat (first | (with_reducible first | exact HB.out | apply bal | apply pbd | apply below_drew1) | exact HB.out))) : w.heap.size ≤ gb134)); clear HB; have HB := n0_; have BK134 := n1_; have GW134 := n2_; have GE134 := n3_; clear n0_ n1_ n2_ n3_; clear hb hbox hg; have hcz8_0 : w7.cell? ⟨gb134, 0, none⟩ = some (.int .i64 a0_0) := (blk_cell BK134.out 0).trans rfl; have hcz8_1 : w7.cell? ⟨gb134, 1, none⟩ = some (.slice A0_1 l0_1.length c0_1) := (blk_cell BK134.out 1).trans rfl; have hcz8_2 : w7.cell? ⟨gb134, 2, none⟩ = some (.int .i64 a0_2) := (blk_cell BK134.out 2).trans rfl; have hcz8_3 : w7.cell? ⟨gb134, 3, none⟩ = some (.int .u64 a0_3) := (blk_cell BK134.out 3).trans rfl; have hcz8_4 : w7.cell? ⟨gb134, 4, none⟩ = some (.string a0_4) := (blk_cell BK134.out 4).trans rfl; have hcz8_5 : w7.cell? ⟨gb134, 5, none⟩ = some (.int .u64 a0_5) := (blk_cell BK134.out 5).trans rfl; have hfz8_0 := blk_frozen BK134.out 0; have hfz8_1 := blk_frozen BK134.out 1; have hfz8_2 := blk_frozen BK134.out 2; have hfz8_3 := blk_frozen BK134.out 3; have hfz8_4 := blk_frozen BK134.out 4; have hfz8_5 := blk_frozen BK134.out 5))
            go_ret
            exact ⟨by first | rfl | (simp [errW_none, errW_some] <;> rfl) | (simp [*, errW_none, errW_some] <;> rfl), by repeat (first | (with_reducible first | exact HB.out | apply bal | apply pbd | apply below_drew1 | refine below_set ?_ GE134.out) | exact HB.out)⟩
          · rw [if_neg c6] at H
            have c6b0 : (a0_5 == 0) = false := beq_eq_false_iff_ne.mpr c6
            have c6b1 : (a0_5 != 0) = true := bne_iff_ne.mpr c6
            obtain rfl := Option.some.inj H
            go_enter Try.func88, Try.ntmps88
            go_wp2_with (first | ((with_reducible refine gate_dst (N := 1) rfl ?_); (try (refine gate_guard (by rfl) ?_; dsimp only)); refine box_event ?hg (N := 1) ?hd (cs := #[.int .i64 a0_0, .slice A0_1 l0_1.length c0_1, .int .i64 a0_2, .int .u64 a0_3, .string a0_4, .int .u64 a0_5]) (t := 46) ?hr ?_; (case hd => rfl); (case hg => rfl); (case hr => first | (go_simp; done) | (go_simp; rfl)); intro gb134 hg w9 hbox hb; have n0_ := amk (below_step (by repeat (first | (with_reducible first | exact HB.out | apply bal | apply pbd | apply below_drew1) | exact HB.out)) hb); have n1_ := amk (hbox); have n2_ := amk ((by rw [hg]; exact (below_size (by repeat (first | (with_reducible first | exact HB.out | apply bal | apply pbd | apply below_drew1) | exact HB.out))) : w.heap.size ≤ gb134)); have n3_ := amk ((by rw [hg]; exact (below_size (by repeat (first | (with_reducible first | exact HB.out | apply bal | apply pbd | apply below_drew1) | exact HB.out))) : w.heap.size ≤ gb134)); clear HB; have HB := n0_; have BK134 := n1_; have GW134 := n2_; have GE134 := n3_; clear n0_ n1_ n2_ n3_; clear hb hbox hg; have hcz10_0 : w9.cell? ⟨gb134, 0, none⟩ = some (.int .i64 a0_0) := (blk_cell BK134.out 0).trans rfl; have hcz10_1 : w9.cell? ⟨gb134, 1, none⟩ = some (.slice A0_1 l0_1.length c0_1) := (blk_cell BK134.out 1).trans rfl; have hcz10_2 : w9.cell? ⟨gb134, 2, none⟩ = some (.int .i64 a0_2) := (blk_cell BK134.out 2).trans rfl; have hcz10_3 : w9.cell? ⟨gb134, 3, none⟩ = some (.int .u64 a0_3) := (blk_cell BK134.out 3).trans rfl; have hcz10_4 : w9.cell? ⟨gb134, 4, none⟩ = some (.string a0_4) := (blk_cell BK134.out 4).trans rfl; have hcz10_5 : w9.cell? ⟨gb134, 5, none⟩ = some (.int .u64 a0_5) := (blk_cell BK134.out 5).trans rfl; have hfz10_0 := blk_frozen BK134.out 0; have hfz10_1 := blk_frozen BK134.out 1; have hfz10_2 := blk_frozen BK134.out 2; have hfz10_3 := blk_frozen BK134.out 3; have hfz10_4 := blk_frozen BK134.out 4; have hfz10_5 := blk_frozen BK134.out 5))
            go_ret
            exact ⟨by first | rfl | (simp [errW_none, errW_some] <;> rfl) | (simp [*, errW_none, errW_some] <;> rfl), by repeat (first | (with_reducible first | exact HB.out | apply bal | apply pbd | apply below_drew1 | refine below_set ?_ GE134.out) | exact HB.out)⟩
        · rw [if_neg c5] at H
          have c5b0 : (a0_4.toList == ([] : List UInt8)) = false := beq_eq_false_iff_ne.mpr c5
          have c5b1 : (a0_4.toList != ([] : List UInt8)) = true := bne_iff_ne.mpr c5
          obtain rfl := Option.some.inj H
          go_enter Try.func88, Try.ntmps88
          go_wp2_with (first | ((with_reducible refine gate_dst (N := 1) rfl ?_); (try (refine gate_guard (by rfl) ?_; dsimp only)); refine box_event ?hg (N := 1) ?hd (cs := #[.int .i64 a0_0, .slice A0_1 l0_1.length c0_1, .int .i64 a0_2, .int .u64 a0_3, .string a0_4, .int .u64 a0_5]) (t := 46) ?hr ?_; (case hd => rfl); (case hg => rfl); (case hr => first | (go_simp; done) | (go_simp; rfl)); intro gb134 hg w11 hbox hb; have n0_ := amk (below_step (by repeat (first | (with_reducible first | exact HB.out | apply bal | apply pbd | apply below_drew1) | exact HB.out)) hb); have n1_ := amk (hbox); have n2_ := amk ((by rw [hg]; exact (below_size (by repeat (first | (with_reducible first | exact HB.out | apply bal | apply pbd | apply below_drew1) | exact HB.out))) : w.heap.size ≤ gb134)); have n3_ := amk ((by rw [hg]; exact (below_size (by repeat (first | (with_reducible first | exact HB.out | apply bal | apply pbd | apply below_drew1) | exact HB.out))) : w.heap.size ≤ gb134)); clear HB; have HB := n0_; have BK134 := n1_; have GW134 := n2_; have GE134 := n3_; clear n0_ n1_ n2_ n3_; clear hb hbox hg; have hcz12_0 : w11.cell? ⟨gb134, 0, none⟩ = some (.int .i64 a0_0) := (blk_cell BK134.out 0).trans rfl; have hcz12_1 : w11.cell? ⟨gb134, 1, none⟩ = some (.slice A0_1 l0_1.length c0_1) := (blk_cell BK134.out 1).trans rfl; have hcz12_2 : w11.cell? ⟨gb134, 2, none⟩ = some (.int .i64 a0_2) := (blk_cell BK134.out 2).trans rfl; have hcz12_3 : w11.cell? ⟨gb134, 3, none⟩ = some (.int .u64 a0_3) := (blk_cell BK134.out 3).trans rfl; have hcz12_4 : w11.cell? ⟨gb134, 4, none⟩ = some (.string a0_4) := (blk_cell BK134.out 4).trans rfl; have hcz12_5 : w11.cell? ⟨gb134, 5, none⟩ = some (.int .u64 a0_5) := (blk_cell BK134.out 5).trans rfl; have hfz12_0 := blk_frozen BK134.out 0; have hfz12_1 := blk_frozen BK134.out 1; have hfz12_2 := blk_frozen BK134.out 2; have hfz12_3 := blk_frozen BK134.out 3; have hfz12_4 := blk_frozen BK134.out 4; have hfz12_5 := blk_frozen BK134.out 5))
          go_ret
          exact ⟨by first | rfl | (simp [errW_none, errW_some] <;> rfl) | (simp [*, errW_none, errW_some] <;> rfl), by repeat (first | (with_reducible first | exact HB.out | apply bal | apply pbd | apply below_drew1 | refine below_set ?_ GE134.out) | exact HB.out)⟩
      · rw [if_neg c4] at H
        have c4b0 : (a0_3 == 0) = false := beq_eq_false_iff_ne.mpr c4
        have c4b1 : (a0_3 != 0) = true := bne_iff_ne.mpr c4
        obtain rfl := Option.some.inj H
        go_enter Try.func88, Try.ntmps88
        go_wp2_with (first | ((with_reducible refine gate_dst (N := 1) rfl ?_); (try (refine gate_guard (by rfl) ?_; dsimp only)); refine box_event ?hg (N := 1) ?hd (cs := #[.int .i64 a0_0, .slice A0_1 l0_1.length c0_1, .int .i64 a0_2, .int .u64 a0_3, .string a0_4, .int .u64 a0_5]) (t := 46) ?hr ?_; (case hd => rfl); (case hg => rfl); (case hr => first | (go_simp; done) | (go_simp; rfl)); intro gb134 hg w13 hbox hb; have n0_ := amk (below_step (by repeat (first | (with_reducible first | exact HB.out | apply bal | apply pbd | apply below_drew1) | exact HB.out)) hb); have n1_ := amk (hbox); have n2_ := amk ((by rw [hg]; exact (below_size (by repeat (first | (with_reducible first | exact HB.out | apply bal | apply pbd | apply below_drew1) | exact HB.out))) : w.heap.size ≤ gb134)); have n3_ := amk ((by rw [hg]; exact (below_size (by repeat (first | (with_reducible first | exact HB.out | apply bal | apply pbd | apply below_drew1) | exact HB.out))) : w.heap.size ≤ gb134)); clear HB; have HB := n0_; have BK134 := n1_; have GW134 := n2_; have GE134 := n3_; clear n0_ n1_ n2_ n3_; clear hb hbox hg; have hcz14_0 : w13.cell? ⟨gb134, 0, none⟩ = some (.int .i64 a0_0) := (blk_cell BK134.out 0).trans rfl; have hcz14_1 : w13.cell? ⟨gb134, 1, none⟩ = some (.slice A0_1 l0_1.length c0_1) := (blk_cell BK134.out 1).trans rfl; have hcz14_2 : w13.cell? ⟨gb134, 2, none⟩ = some (.int .i64 a0_2) := (blk_cell BK134.out 2).trans rfl; have hcz14_3 : w13.cell? ⟨gb134, 3, none⟩ = some (.int .u64 a0_3) := (blk_cell BK134.out 3).trans rfl; have hcz14_4 : w13.cell? ⟨gb134, 4, none⟩ = some (.string a0_4) := (blk_cell BK134.out 4).trans rfl; have hcz14_5 : w13.cell? ⟨gb134, 5, none⟩ = some (.int .u64 a0_5) := (blk_cell BK134.out 5).trans rfl; have hfz14_0 := blk_frozen BK134.out 0; have hfz14_1 := blk_frozen BK134.out 1; have hfz14_2 := blk_frozen BK134.out 2; have hfz14_3 := blk_frozen BK134.out 3; have hfz14_4 := blk_frozen BK134.out 4; have hfz14_5 := blk_frozen BK134.out 5))
        go_ret
        exact ⟨by first | rfl | (simp [errW_none, errW_some] <;> rfl) | (simp [*, errW_none, errW_some] <;> rfl), by repeat (first | (with_reducible first | exact HB.out | apply bal | apply pbd | apply below_drew1 | refine below_set ?_ GE134.out) | exact HB.out)⟩
    · rw [if_neg c3] at H
      have c3b0 : (a0_2 == 0) = false := beq_eq_false_iff_ne.mpr c3
      have c3b1 : (a0_2 != 0) = true := bne_iff_ne.mpr c3
      obtain rfl := Option.some.inj H
      go_enter Try.func88, Try.ntmps88
      go_wp2_with (first | ((with_reducible refine gate_dst (N := 1) rfl ?_); (try (refine gate_guard (by rfl) ?_; dsimp only)); refine box_event ?hg (N := 1) ?hd (cs := #[.int .i64 a0_0, .slice A0_1 l0_1.length c0_1, .int .i64 a0_2, .int .u64 a0_3, .string a0_4, .int .u64 a0_5]) (t := 46) ?hr ?_; (case hd => rfl); (case hg => rfl); (case hr => first | (go_simp; done) | (go_simp; rfl)); intro gb134 hg w15 hbox hb; have n0_ := amk (below_step (by repeat (first | (with_reducible first | exact HB.out | apply bal | apply pbd | apply below_drew1) | exact HB.out)) hb); have n1_ := amk (hbox); have n2_ := amk ((by rw [hg]; exact (below_size (by repeat (first | (with_reducible first | exact HB.out | apply bal | apply pbd | apply below_drew1) | exact HB.out))) : w.heap.size ≤ gb134)); have n3_ := amk ((by rw [hg]; exact (below_size (by repeat (first | (with_reducible first | exact HB.out | apply bal | apply pbd | apply below_drew1) | exact HB.out))) : w.heap.size ≤ gb134)); clear HB; have HB := n0_; have BK134 := n1_; have GW134 := n2_; have GE134 := n3_; clear n0_ n1_ n2_ n3_; clear hb hbox hg; have hcz16_0 : w15.cell? ⟨gb134, 0, none⟩ = some (.int .i64 a0_0) := (blk_cell BK134.out 0).trans rfl; have hcz16_1 : w15.cell? ⟨gb134, 1, none⟩ = some (.slice A0_1 l0_1.length c0_1) := (blk_cell BK134.out 1).trans rfl; have hcz16_2 : w15.cell? ⟨gb134, 2, none⟩ = some (.int .i64 a0_2) := (blk_cell BK134.out 2).trans rfl; have hcz16_3 : w15.cell? ⟨gb134, 3, none⟩ = some (.int .u64 a0_3) := (blk_cell BK134.out 3).trans rfl; have hcz16_4 : w15.cell? ⟨gb134, 4, none⟩ = some (.string a0_4) := (blk_cell BK134.out 4).trans rfl; have hcz16_5 : w15.cell? ⟨gb134, 5, none⟩ = some (.int .u64 a0_5) := (blk_cell BK134.out 5).trans rfl; have hfz16_0 := blk_frozen BK134.out 0; have hfz16_1 := blk_frozen BK134.out 1; have hfz16_2 := blk_frozen BK134.out 2; have hfz16_3 := blk_frozen BK134.out 3; have hfz16_4 := blk_frozen BK134.out 4; have hfz16_5 := blk_frozen BK134.out 5))
      go_ret
      exact ⟨by first | rfl | (simp [errW_none, errW_some] <;> rfl) | (simp [*, errW_none, errW_some] <;> rfl), by repeat (first | (with_reducible first | exact HB.out | apply bal | apply pbd | apply below_drew1 | refine below_set ?_ GE134.out) | exact HB.out)⟩
  · rw [if_neg c2] at H
    have c2b0 : (a0_0 == 0) = false := beq_eq_false_iff_ne.mpr c2
    have c2b1 : (a0_0 != 0) = true := bne_iff_ne.mpr c2
    obtain rfl := Option.some.inj H
    go_enter Try.func88, Try.ntmps88
    go_wp2_with (first | ((with_reducible refine gate_dst (N := 1) rfl ?_); (try (refine gate_guard (by rfl) ?_; dsimp only)); refine box_event ?hg (N := 1) ?hd (cs := #[.int .i64 a0_0, .slice A0_1 l0_1.length c0_1, .int .i64 a0_2, .int .u64 a0_3, .string a0_4, .int .u64 a0_5]) (t := 46) ?hr ?_; (case hd => rfl); (case hg => rfl); (case hr => first | (go_simp; done) | (go_simp; rfl)); intro gb134 hg w17 hbox hb; have n0_ := amk (below_step (by repeat (first | (with_reducible first | exact HB.out | apply bal | apply pbd | apply below_drew1) | exact HB.out)) hb); have n1_ := amk (hbox); have n2_ := amk ((by rw [hg]; exact (below_size (by repeat (first | (with_reducible first | exact HB.out | apply bal | apply pbd | apply below_drew1) | exact HB.out))) : w.heap.size ≤ gb134)); have n3_ := amk ((by rw [hg]; exact (below_size (by repeat (first | (with_reducible first | exact HB.out | apply bal | apply pbd | apply below_drew1) | exact HB.out))) : w.heap.size ≤ gb134)); clear HB; have HB := n0_; have BK134 := n1_; have GW134 := n2_; have GE134 := n3_; clear n0_ n1_ n2_ n3_; clear hb hbox hg; have hcz18_0 : w17.cell? ⟨gb134, 0, none⟩ = some (.int .i64 a0_0) := (blk_cell BK134.out 0).trans rfl; have hcz18_1 : w17.cell? ⟨gb134, 1, none⟩ = some (.slice A0_1 l0_1.length c0_1) := (blk_cell BK134.out 1).trans rfl; have hcz18_2 : w17.cell? ⟨gb134, 2, none⟩ = some (.int .i64 a0_2) := (blk_cell BK134.out 2).trans rfl; have hcz18_3 : w17.cell? ⟨gb134, 3, none⟩ = some (.int .u64 a0_3) := (blk_cell BK134.out 3).trans rfl; have hcz18_4 : w17.cell? ⟨gb134, 4, none⟩ = some (.string a0_4) := (blk_cell BK134.out 4).trans rfl; have hcz18_5 : w17.cell? ⟨gb134, 5, none⟩ = some (.int .u64 a0_5) := (blk_cell BK134.out 5).trans rfl; have hfz18_0 := blk_frozen BK134.out 0; have hfz18_1 := blk_frozen BK134.out 1; have hfz18_2 := blk_frozen BK134.out 2; have hfz18_3 := blk_frozen BK134.out 3; have hfz18_4 := blk_frozen BK134.out 4; have hfz18_5 := blk_frozen BK134.out 5))
    go_ret
    exact ⟨by first | rfl | (simp [errW_none, errW_some] <;> rfl) | (simp [*, errW_none, errW_some] <;> rfl), by repeat (first | (with_reducible first | exact HB.out | apply bal | apply pbd | apply below_drew1 | refine below_set ?_ GE134.out) | exact HB.out)⟩
end Go.Proofs.Ytoeklekjhaigoaa.M0
end
section
namespace Go.Proofs.Ytoeklekjhaigoaa.QOne
open Go.Proofs.Ytoeklekjhaigoaa.Al Go.RowKit Go.Proofs.YtoeklekjhaigoaaW.PrintWords Go.Proofs.YtoeklekjhaigoaaW.PrintLast Go.Proofs.YtoeklekjhaigoaaW.PrintMore Go.Proofs.Ytoeklekjhaigoaa.M0 Go.Proofs.Ytoeklekjhaigoaa.QCond Go.Proofs.Ytoeklekjhaigoaa.QMean
set_option linter.unusedVariables false
set_option linter.unusedSimpArgs false
theorem rd46 (l : List S46) (i : Nat) (h : i < l.length) : rd_T46 l (i : Int) = l[i] := by
  unfold rd_T46; simp [List.getD, h]
theorem wr_succ (i : Nat) (h : i ≤ 100000) : wrap64 ((i : Int) + 1) = ((i + 1 : Nat) : Int) := by unfold wrap64; omega
theorem none_f0 (c : S46) : mean_none.f c.f0 c.f1 c.f2 c.f3 c.f4 c.f5 = some (noneB c) := by
  unfold mean_none.f noneB bareB
  by_cases h0 : c.f0 = 0
  · by_cases h2 : c.f2 = 0
    · by_cases h3 : c.f3 = 0
      · by_cases h4 : c.f4.toList = []
        · by_cases h5 : c.f5 = 0
          · rw [if_pos h0, if_pos h2, if_pos h3, if_pos h4, if_pos h5, Bool.eq_iff_iff.2 (show ((c.f1.length : Int) == 0) = true ↔ decide (c.f1.length = 0) = true by simp)]
            simp [h0, h2, h3, h4, h5]
          · simp [h0, h2, h3, h4, h5]
        · simp [h0, h2, h3, h4]
      · simp [h0, h2, h3]
    · simp [h0, h2]
  · simp [h0]
theorem idx_loop (s : ByteArray) : ∀ (n i : Nat), 6 - i ≤ n → i ≤ 6 → ∀ k, n < k →
    (slices_Index_string_string.l0 k ([(⟨#[61, 61]⟩ : ByteArray), (⟨#[33, 61]⟩ : ByteArray), (⟨#[60]⟩ : ByteArray), (⟨#[60, 61]⟩ : ByteArray), (⟨#[62]⟩ : ByteArray), (⟨#[62, 61]⟩ : ByteArray)]) s 6 (i : Int)).map (fun t => decide (t ≥ 0)) = some ((signs.drop i).contains s.toList) := by
  intro n
  induction n with
  | zero =>
    intro i h1 h2 k hk
    obtain ⟨k, rfl⟩ : ∃ m, k = m + 1 := ⟨k - 1, by omega⟩
    obtain rfl : i = 6 := by omega
    simp only [slices_Index_string_string.l0]
    rw [if_neg (by omega)]
    rfl
  | succ n ih =>
    intro i h1 h2 k hk
    obtain ⟨k, rfl⟩ : ∃ m, k = m + 1 := ⟨k - 1, by omega⟩
    by_cases h6 : i = 6
    · subst h6
      simp only [slices_Index_string_string.l0]
      rw [if_neg (by omega)]
      rfl
    · have hi := ih (i + 1) (by omega) (by omega) k (by omega)
      simp only [slices_Index_string_string.l0]
      rw [if_pos (by omega), if_pos (by omega), if_pos (by simp; omega), wr_succ i (by omega)]
      have hd : signs.drop i = (rdOf ByteArray.empty [(⟨#[61, 61]⟩ : ByteArray), (⟨#[33, 61]⟩ : ByteArray), (⟨#[60]⟩ : ByteArray), (⟨#[60, 61]⟩ : ByteArray), (⟨#[62]⟩ : ByteArray), (⟨#[62, 61]⟩ : ByteArray)] (i : Int)).toList :: signs.drop (i + 1) := by
        have hi6 : i = 0 ∨ i = 1 ∨ i = 2 ∨ i = 3 ∨ i = 4 ∨ i = 5 := by omega
        rcases hi6 with rfl | rfl | rfl | rfl | rfl | rfl <;> (rw [ByteArray.toList_eq]; rfl)
      rw [hd, List.contains_cons]
      generalize (rdOf ByteArray.empty [(⟨#[61, 61]⟩ : ByteArray), (⟨#[33, 61]⟩ : ByteArray), (⟨#[60]⟩ : ByteArray), (⟨#[60, 61]⟩ : ByteArray), (⟨#[62]⟩ : ByteArray), (⟨#[62, 61]⟩ : ByteArray)] (i : Int)).toList = q
      by_cases hs : s.toList = q
      · rw [if_pos hs, hs]
        simp
      · rw [if_neg hs, hi]
        have : (s.toList == q) = false := by simpa using hs
        rw [this, Bool.false_or]
theorem signs_f (s : ByteArray) (k : Nat) (hk : 7 ≤ k) : (types_signs.f).bind (fun t => slices_Contains_string_string.f k t s) = some (signOk s) := by
  unfold types_signs.f slices_Contains_string_string.f slices_Index_string_string.f
  have h := idx_loop s 6 0 (by omega) (by omega) k (by omega)
  rw [Option.bind_some]
  show (slices_Index_string_string.l0 k _ s 6 0).bind (fun t => some (decide (t ≥ 0))) = _
  have hb : ∀ o : Option Int, (o.bind fun t => some (decide (t ≥ 0))) = o.map fun t => decide (t ≥ 0) := by intro o; cases o <;> rfl
  rw [hb]
  exact h
theorem one_f (c : S46) (k : Nat) (hk : 10 ≤ k) : types_one.f k c.f0 c.f1 c.f2 c.f3 c.f4 c.f5 = some (oneB c) := by
  have j : ∀ b : Bool, b = bareB c → types_one.j0 k b c.f0 c.f1 c.f2 c.f3 c.f4 c.f5 = some (oneB c) := by
    intro b hb
    obtain ⟨k, rfl⟩ : ∃ m, k = m + 1 + 1 := ⟨k - 2, by omega⟩
    simp only [types_one.j0, types_one.j1]
    unfold oneB
    rw [← hb]
    by_cases h4 : c.f0 = 4
    · rw [if_pos h4, if_pos h4]
      by_cases g0 : 0 ≤ c.f2
      · rw [if_pos g0]
        by_cases g6 : c.f2 < 6
        · rw [if_pos g6, decide_eq_true (show 0 ≤ c.f2 ∧ c.f2 < 6 from ⟨g0, g6⟩)]
          have hs := signs_f c.f4 (k + 1) (by omega)
          unfold types_signs.f at hs ⊢
          rw [Option.bind_some] at hs ⊢
          rw [hs, Option.bind_some, Bool.eq_iff_iff.2 (show ((c.f1.length : Int) == 0) = true ↔ decide (c.f1.length = 0) = true by simp)]
          cases signOk c.f4 <;> rfl
        · rw [if_neg g6, decide_eq_false (show ¬ (0 ≤ c.f2 ∧ c.f2 < 6) by omega)]; rfl
      · rw [if_neg g0, decide_eq_false (show ¬ (0 ≤ c.f2 ∧ c.f2 < 6) by omega)]; rfl
    · rw [if_neg h4, if_neg h4]
      by_cases h1 : c.f0 = 1
      · rw [if_pos h1, if_pos (by rw [h1]; rfl), if_pos (Or.inl h1)]
        cases b
        · rfl
        · rw [if_pos rfl, Bool.true_and, decide_eq_decide.2 (show ((c.f1.length : Int) ≥ 2) ↔ 2 ≤ c.f1.length by omega)]
      · rw [if_neg h1]
        by_cases h2 : c.f0 = 2
        · rw [if_pos (by rw [h2]; rfl), if_pos (Or.inr h2)]
          cases b
          · rfl
          · rw [if_pos rfl, Bool.true_and, decide_eq_decide.2 (show ((c.f1.length : Int) ≥ 2) ↔ 2 ≤ c.f1.length by omega)]
        · rw [if_neg (by simpa using h2), if_neg (show ¬ (c.f0 = 1 ∨ c.f0 = 2) by omega)]
          by_cases h3 : c.f0 = 3
          · rw [if_pos h3, if_pos h3]
            cases b
            · rfl
            · rw [if_pos rfl, Bool.true_and, Bool.eq_iff_iff.2 (show ((c.f1.length : Int) == 1) = true ↔ decide (c.f1.length = 1) = true by simp; omega)]
          · rw [if_neg h3, if_neg h3]
  unfold types_one.f
  by_cases h2 : c.f2 = 0
  · rw [if_pos h2]
    by_cases h3 : c.f3 = 0
    · rw [if_pos h3]
      by_cases h4 : c.f4.toList = []
      · rw [if_pos h4]
        refine j _ ?_
        unfold bareB
        rw [decide_eq_true h2, decide_eq_true h3, decide_eq_true h4]
        simp only [Bool.true_and]
        by_cases h5 : c.f5 = 0 <;> simp [h5]
      · rw [if_neg h4]
        exact j _ (by unfold bareB; rw [decide_eq_false h4]; simp)
    · rw [if_neg h3]
      exact j _ (by unfold bareB; rw [decide_eq_false h3]; simp)
  · rw [if_neg h2]
    exact j _ (by unfold bareB; rw [decide_eq_false h2]; simp)
end Go.Proofs.Ytoeklekjhaigoaa.QOne
end
section
namespace Go.Proofs.Ytoeklekjhaigoaa.HMany
open Go.Proofs.Ytoeklekjhaigoaa.Al Go.RowKit Go.Proofs.YtoeklekjhaigoaaW.PrintWords Go.Proofs.YtoeklekjhaigoaaW.PrintLast Go.Proofs.YtoeklekjhaigoaaW.PrintMore Go.Proofs.Ytoeklekjhaigoaa.M0 Go.Proofs.Ytoeklekjhaigoaa.QCond
set_option linter.unusedVariables false
set_option linter.unusedSimpArgs false
set_option maxRecDepth 100000
attribute [local go_sem] max2_int min2_int max_two min_two
theorem hInfo46 : (Try.prog.info? 46).map (fun i => (i.zero, i.size, i.bytes)) = some (some (.agg #[(.int .i64 0), (.slice none 0 0), (.int .i64 0), (.int .u64 0), (.string ⟨#[]⟩), (.int .u64 0)]), 6, 72) := by kernel_rfl
abbrev cells46 (c : S46) (A : Option Addr) (n : Nat) : List Value := [.int .i64 c.f0, .slice A c.f1.length n, .int .i64 c.f2, .int .u64 c.f3, .string c.f4, .int .u64 c.f5]
/-- A condition that is read, as an element that may stand in a row: it leads to elder blocks. -/
theorem elder46 {w : World} {c : S46} {A : Option Addr} {n : Nat} (hC : Kd.C k46 w A c.f1.length c.f1) (hn : c.f1.length ≤ n) : Kd.FK k46 w (fun k => k < w.heap.size) c (cells46 c A n) :=
  k46_mkF w _ c hn (Kd.C_F k46_heap hC)
theorem reps_one46 {W : World} {ok : Nat → Prop} {c : S46} {A : Option Addr} {n : Nat} (h : Kd.FK k46 W ok c (cells46 c A n)) : Reps (Kd.FK k46 W ok) k46.sz [c] (cells46 c A n) := by
  have := Reps.snoc (Reps.none (Kd.FK k46 W ok) k46.sz) h rfl
  simpa using this
/-- The queue. -/
structure Qu (w wr : World) (v : Value) (xs : List S46) : Prop where
  N : Kd.N k46 46 wr w.heap.size (fun _ => True) v xs
  B : Below w.heap.size w wr
theorem nodesL_take (l : List S46) (d : Nat) (h : d < l.length) : nodesL (l.drop d) = nodes (rd_T46 l d) + nodesL (l.drop (d + 1)) := by
  rw [List.drop_eq_getElem_cons h, nodesL]
  unfold rd_T46; simp [List.getD, h]
def cutQ (L : Nat) (xs : List S46) : List S46 := xs.take (L + 1)
theorem cut_len (L : Nat) (xs : List S46) : (cutQ L xs).length = min (L + 1) xs.length := by unfold cutQ; rw [List.length_take]
structure Inv (c : S46) (L : Nat) (xs : List S46) (d : Nat) : Prop where
  h1 : xs.length ≤ L + 1
  h2 : 1 ≤ xs.length
  h3 : d ≤ xs.length
  h4 : xs.length ≤ L → d + nodesL (xs.drop d) = nodes c
  h5 : L < xs.length → L + 1 ≤ nodes c
theorem Inv.start (c : S46) (L : Nat) (hL : 1 ≤ L) : Inv c L [c] 0 :=
  ⟨by simp, by simp, by simp, fun _ => by rw [List.drop_zero, nodesL, nodesL]; omega, fun h => by simp at h; omega⟩
theorem Inv.next {c : S46} {L : Nat} {xs ys ks : List S46} {d : Nat} (h : Inv c L xs d) (hd : d < xs.length) (hl : xs.length ≤ L) (hk : (rd_T46 xs d).f1 = ks) (hy : cutQ L (xs ++ ks.take ks.length) = ys) : Inv c L ys (d + 1) := by
  rw [List.take_length] at hy
  have e := cut_len L (xs ++ ks)
  rw [hy, List.length_append] at e
  have e1 := h.h4 hl
  rw [nodesL_take xs d hd, nodes_eq, hk] at e1
  have e2 := len_nodes ks
  have e3 := len_nodes (xs.drop (d + 1))
  rw [List.length_drop] at e3
  refine ⟨by omega, by omega, by omega, fun g => ?_, fun g => by omega⟩
  have hy2 : ys = xs ++ ks := by rw [← hy]; unfold cutQ; rw [List.take_of_length_le]; rw [List.length_append]; omega
  rw [hy2, List.drop_append_of_le_length (by omega), nodesL_append]; omega
theorem Inv.done {c : S46} {L : Nat} {xs : List S46} {d : Nat} (h : Inv c L xs d) (hd : xs.length ≤ d ∨ L < xs.length) : xs.length = min (nodes c) (L + 1) := by
  by_cases hl : xs.length ≤ L
  · have e1 := h.h4 hl
    have : d = xs.length := by have := h.h3; omega
    rw [List.drop_eq_nil_of_le (by omega), nodesL] at e1; omega
  · have := h.h5 (by omega); have := h.h1; omega
theorem own_of (g n c k : Nat) : (some k ≠ (Value.slice (some ⟨g, 0, none⟩) n c).ownBlock) = (k ≠ g) := by simp [Value.ownBlock]
end Go.Proofs.Ytoeklekjhaigoaa.HMany
end
section
namespace Go.Proofs.Ytoeklekjhaigoaa.HCount
open Go.Proofs.Ytoeklekjhaigoaa.Al Go.RowKit Go.Proofs.YtoeklekjhaigoaaW.PrintWords Go.Proofs.YtoeklekjhaigoaaW.PrintLast Go.Proofs.YtoeklekjhaigoaaW.PrintMore Go.Proofs.Ytoeklekjhaigoaa.M0 Go.Proofs.Ytoeklekjhaigoaa.QCond Go.Proofs.Ytoeklekjhaigoaa.QMean Go.Proofs.Ytoeklekjhaigoaa.QOne Go.Proofs.Ytoeklekjhaigoaa.HMany
set_option linter.unusedVariables false
set_option linter.unusedSimpArgs false
set_option maxRecDepth 100000
attribute [local go_sem] max2_int min2_int max_two min_two
/-- The captured queue and the tests counted so far. -/
structure Sq (w0 w : World) (tb qb : Nat) (t : Nat) (v : Value) (xs : List S46) : Prop where
  ht : w.heap[tb]? = some (.cells #[.int .i64 (t : Int)] 3 (0, 0))
  hq : w.heap[qb]? = some (.cells #[v] 44 (0, 0))
  N : Kd.N k46 46 w w0.heap.size (fun k => k ≠ tb ∧ k ≠ qb) v xs
  B : Below w0.heap.size w0 w
  bt : w0.heap.size ≤ tb
  bq : w0.heap.size ≤ qb
  ne : tb ≠ qb
theorem Sq.below {w0 w w1 : World} {tb qb t : Nat} {v : Value} {xs : List S46} (h : Sq w0 w tb qb t v xs) (hb : Below w.heap.size w w1) : Sq w0 w1 tb qb t v xs :=
  ⟨(hb.block _ (blk_lt h.ht)).trans h.ht, (hb.block _ (blk_lt h.hq)).trans h.hq, Kd.N_below h.N hb, below_step h.B hb, h.bt, h.bq, h.ne⟩
theorem Sq.tick {w0 w : World} {tb qb t : Nat} {v : Value} {xs : List S46} (h : Sq w0 w tb qb t v xs) : Sq w0 (w.setCell ⟨tb, 0, none⟩ (.int .i64 ((t : Int) + 1))) tb qb (t + 1) v xs :=
  ⟨by have := blk_put h.ht 0 (.int .i64 ((t : Int) + 1)) rfl; exact this, (Below.heap_setCell _ _ _ _ h.ne.symm).trans h.hq, Kd.N_far h.N (fun k hk => hk.1) _, h.B.setCell (p := ⟨tb, 0, none⟩) h.bt _, h.bt, h.bq, h.ne⟩
theorem Sq.put {w0 w w1 : World} {tb qb t : Nat} {v v1 : Value} {xs ys : List S46} (h : Sq w0 w tb qb t v xs) (hN : Kd.N k46 46 w1 w0.heap.size (fun k => k ≠ tb ∧ k ≠ qb) v1 (xs ++ ys)) (hB : Below w0.heap.size w0 w1) (hg : w.grownBy w1 v.ownBlock) : Sq w0 (w1.setCell ⟨qb, 0, none⟩ v1) tb qb t v1 (xs ++ ys) := by
  have n1 := Kd.N_ne h.N h.ht (by decide)
  have n2 := Kd.N_ne h.N h.hq (by decide)
  have h1 := (hg.block tb (blk_lt h.ht) n1).trans h.ht
  have h2 := (hg.block qb (blk_lt h.hq) n2).trans h.hq
  exact ⟨(Below.heap_setCell _ _ _ _ h.ne).trans h1, blk_put h2 0 _ rfl, Kd.N_far hN (fun k hk => hk.2) _, hB.setCell (p := ⟨qb, 0, none⟩) h.bq _, h.bt, h.bq, h.ne⟩
theorem one_any (c : S46) (A : Option Addr) (n : Nat) (w : World) (hC : Kd.C k46 w A c.f1.length c.f1) (hn : c.f1.length ≤ n) :
    Calls Try.prog 133 #[.agg #[.int .i64 c.f0, .slice A c.f1.length n, .int .i64 c.f2, .int .u64 c.f3, .string c.f4, .int .u64 c.f5]] w fun e w' => e = .returned (.bool (oneB c)) ∧ Below w.heap.size w w' :=
  types_one.calls 10 c.f0 A n c.f1 c.f2 c.f3 c.f4 c.f5 (oneB c) w hC hn (one_f c 10 (Nat.le_refl _))
theorem new_blk (w : World) (a : Addr) (v : Value) (o : Obj) : ((w.setCell a v).alloc o).heap[w.heap.size]? = some o := by
  have e : (w.setCell a v).heap.size = w.heap.size := by simp [World.setCell]
  have := heap_alloc_new (w.setCell a v) o
  rw [e] at this; exact this
/-- What the closure leaves. -/
def SeePost (w0 : World) (tb qb t : Nat) (v : Value) (xs : List S46) (c : S46) (e : Ending) (w' : World) : Prop :=
  if 100 < c.f1.length + xs.length then e = .returned (.bool false) ∧ Sq w0 w' tb qb (t + (if c.f0 = 4 then 1 else 0)) v xs
  else ∃ v', e = .returned (.bool (oneB c)) ∧ Sq w0 w' tb qb (t + (if c.f0 = 4 then 1 else 0)) v' (xs ++ c.f1)
set_option maxHeartbeats 2000000 in
theorem see_c {w0 w : World} {tb qb t : Nat} {v : Value} {xs : List S46} (h : Sq w0 w tb qb t v xs) (c : S46) (A : Option Addr) (n : Nat) (hn : c.f1.length ≤ n) (hF : Kd.F k46 w (fun k => (k ≠ tb ∧ k ≠ qb) ∧ some k ≠ v.ownBlock) A c.f1.length c.f1) (ht : t ≤ 1000) (hx : xs.length ≤ 1000) :
    Calls Try.prog 132 #[.agg #[.int .i64 c.f0, .slice A c.f1.length n, .int .i64 c.f2, .int .u64 c.f3, .string c.f4, .int .u64 c.f5], .pointer (some ⟨tb, 0, none⟩), .pointer (some ⟨qb, 0, none⟩)] w (SeePost w0 tb qb t v xs c) := by
  have hu46 := Try.underlying46
  have hb0 := bal (Below.refl w.heap.size w) (.cells #[.int .i64 c.f0, .slice A c.f1.length n, .int .i64 c.f2, .int .u64 c.f3, .string c.f4, .int .u64 c.f5] 46)
  have HS := amk (h.below hb0)
  have HF := amk (Kd.F_below hF hb0)
  have HX := amk (heap_alloc_new w (.cells #[.int .i64 c.f0, .slice A c.f1.length n, .int .i64 c.f2, .int .u64 c.f3, .string c.f4, .int .u64 c.f5] 46))
  have HU := amk (h.tick.below (bal (Below.refl _ _) (.cells #[.int .i64 c.f0, .slice A c.f1.length n, .int .i64 c.f2, .int .u64 c.f3, .string c.f4, .int .u64 c.f5] 46)))
  have HV := amk (Kd.F_alloc (Kd.F_far hF (p := ⟨tb, 0, none⟩) (fun k hk => hk.1.1) (.int .i64 ((t : Int) + 1))) (.cells #[.int .i64 c.f0, .slice A c.f1.length n, .int .i64 c.f2, .int .u64 c.f3, .string c.f4, .int .u64 c.f5] 46))
  have HY := amk (new_blk w ⟨tb, 0, none⟩ (.int .i64 ((t : Int) + 1)) (.cells #[.int .i64 c.f0, .slice A c.f1.length n, .int .i64 c.f2, .int .u64 c.f3, .string c.f4, .int .u64 c.f5] 46))
  have l1 := blk_lt h.ht
  have l2 := blk_lt h.hq
  have k1 := blk_cell h.ht 0
  have f1 := blk_frozen h.ht 0
  obtain ⟨Av, cv, rfl⟩ := Kd.N_slice h.N
  have hm := Kd.F_max hF
  have tw : wrap64 ((t : Int) + 1) = (t : Int) + 1 := by unfold wrap64; omega
  have sw : wrap64 (100 - (xs.length : Int)) = 100 - (xs.length : Int) := by unfold wrap64; omega
  have HT := amk ht
  have HXL := amk hx
  have HN := amk hn
  have HLT := amk (Kd.N_lt h.N)
  have HLQ := amk l2
  clear h hF hb0 ht hx
  unfold SeePost
  generalize hT : (if c.f0 = 4 then t + 1 else t) = T
  have hT' : t + (if c.f0 = 4 then 1 else 0) = T := by rw [← hT]; split <;> rfl
  rw [hT']
  clear hT'
  by_cases h4 : c.f0 = 4
  · have d4 : (c.f0 == 4) = true := by rw [h4]; rfl
    rw [if_pos h4] at hT
    rw [hT] at HU
    clear hT h4 HS HF HX
    go_enter Try.func132, Try.ntmps132
    go_upto_region 3 with (fail)
    clear k1 f1
    generalize ((w.setCell ⟨tb, 0, none⟩ (.int .i64 ((t : Int) + 1))).alloc (.cells #[.int .i64 c.f0, .slice A c.f1.length n, .int .i64 c.f2, .int .u64 c.f3, .string c.f4, .int .u64 c.f5] 46)) = W at *
    have HS := HU
    have HF := HV
    have HX := HY
    clear HU HV HY tw
    have kq := blk_cell HS.out.hq 0
    have kb1 := blk_cell HX.out 1
    have kb0 := blk_cell HX.out 0
    have kb2 := blk_cell HX.out 2
    have kb3 := blk_cell HX.out 3
    have kb4 := blk_cell HX.out 4
    have kb5 := blk_cell HX.out 5
    by_cases hov : 100 < c.f1.length + xs.length
    · have d5 : decide (100 - (xs.length : Int) < (c.f1.length : Int)) = true := decide_eq_true (by omega)
      have HE := amk HS.out
      have HO := amk hov
      clear HS HF HX hov
      go_wp2
      · go_ret
        exact ⟨rfl, HE.out⟩
      · exact absurd HO.out (by assumption)
    · have d5 : decide (100 - (xs.length : Int) < (c.f1.length : Int)) = false := decide_eq_false (by omega)
      have HO := amk hov
      have hl100 : xs.length + c.f1.length ≤ 100 := by omega
      clear hov
      have HB := amk HS.out.B
      have HNN := amk HS.out.N
      have HFR := amk (fun k (hk : W.heap.size ≤ k) => (show k ≠ tb ∧ k ≠ qb from ⟨by have := blk_lt HS.out.ht; omega, by have := blk_lt HS.out.hq; omega⟩))
      have HPUT := amk (fun w1 v1 => HS.out.put (w1 := w1) (v1 := v1) (ys := c.f1))
      have HX2 := HX
      clear HX
      go_upto_region 6 with (at_builtin; refine Kd.N_append_rows k46 (w0 := w0) w0.heap.size rfl (.tmp 17) (.tmp 19) 44 46 _ 72 rfl Try.underlying44 hInfo46 rfl (by decide) (by decide) _ xs c.f1 A c.f1.length n (fun k => k ≠ tb ∧ k ≠ qb) _ rfl rfl HNN.out HF.out (fun _ hk => hk) HFR.out HB.out HB.out.size (by omega) ?_; intro v1 w1 hN1 hb1 hg1 hat1; obtain ⟨Aq, cq, rfl⟩ := Kd.N_slice hN1; rw [List.length_append] at hN1; have hh2 := (hg1.block qb (blk_lt HS.out.hq) (Kd.N_ne HNN.out HS.out.hq (by decide))).trans HS.out.hq; have k2 := blk_cell hh2 0; have f2 := blk_frozen hh2 0; have HP := amk (HPUT.out w1 _ hN1 hb1 hg1); have HF3 := amk (Kd.F_now (Kd.F_far (Kd.F_grown HF.out hg1 (fun k hk => hk.2)) (p := ⟨qb, 0, none⟩) (fun k hk => hk.1.2) (.slice Aq (xs.length + c.f1.length) cq))); have HX3 := amk ((Below.heap_setCell w1 ⟨qb, 0, none⟩ (.slice Aq (xs.length + c.f1.length) cq) w.heap.size (by have := HLQ.out; simp only; omega)).trans ((hg1.block w.heap.size (blk_lt HX2.out) (fun e => by have := HLT.out _ e.symm; omega)).trans HX2.out)); clear hh2 hN1 hb1 hg1 hat1)
      clear k2 f2 kq kb0 kb1 kb2 kb3 kb4 kb5 HS HF HX2 HB HNN HPUT HFR
      generalize w1.setCell ⟨qb, 0, none⟩ (.slice Aq (xs.length + c.f1.length) cq) = W2 at *
      have kb1 := blk_cell HX3.out 1
      have kb0 := blk_cell HX3.out 0
      have kb2 := blk_cell HX3.out 2
      have kb3 := blk_cell HX3.out 3
      have kb4 := blk_cell HX3.out 4
      have kb5 := blk_cell HX3.out 5
      go_wp2_with (go_at_call 133; refine (one_any c A n _ HF3.out HN.out).mono ?_; rintro e w3 ⟨rfl, hb3⟩; have HE := amk (HP.out.below hb3); clear hb3)
      go_ret
      first | exact ⟨rfl, _, HE.out⟩ | exact ⟨_, rfl, HE.out⟩ | (rw [if_neg HO.out]; exact ⟨_, rfl, HE.out⟩)
  · have d4 : (c.f0 == 4) = false := by simpa using h4
    rw [if_neg h4] at hT
    rw [hT] at HS
    clear hT h4 HU HV HY k1 f1
    go_enter Try.func132, Try.ntmps132
    go_upto_region 3 with (fail)
    generalize (w.alloc (.cells #[.int .i64 c.f0, .slice A c.f1.length n, .int .i64 c.f2, .int .u64 c.f3, .string c.f4, .int .u64 c.f5] 46)) = W at *
    clear tw
    have kq := blk_cell HS.out.hq 0
    have kb1 := blk_cell HX.out 1
    have kb0 := blk_cell HX.out 0
    have kb2 := blk_cell HX.out 2
    have kb3 := blk_cell HX.out 3
    have kb4 := blk_cell HX.out 4
    have kb5 := blk_cell HX.out 5
    by_cases hov : 100 < c.f1.length + xs.length
    · have d5 : decide (100 - (xs.length : Int) < (c.f1.length : Int)) = true := decide_eq_true (by omega)
      have HE := amk HS.out
      have HO := amk hov
      clear HS HF HX hov
      go_wp2
      · go_ret
        exact ⟨rfl, HE.out⟩
      · exact absurd HO.out (by assumption)
    · have d5 : decide (100 - (xs.length : Int) < (c.f1.length : Int)) = false := decide_eq_false (by omega)
      have HO := amk hov
      have hl100 : xs.length + c.f1.length ≤ 100 := by omega
      clear hov
      have HB := amk HS.out.B
      have HNN := amk HS.out.N
      have HFR := amk (fun k (hk : W.heap.size ≤ k) => (show k ≠ tb ∧ k ≠ qb from ⟨by have := blk_lt HS.out.ht; omega, by have := blk_lt HS.out.hq; omega⟩))
      have HPUT := amk (fun w1 v1 => HS.out.put (w1 := w1) (v1 := v1) (ys := c.f1))
      have HX2 := HX
      clear HX
      go_upto_region 6 with (at_builtin; refine Kd.N_append_rows k46 (w0 := w0) w0.heap.size rfl (.tmp 17) (.tmp 19) 44 46 _ 72 rfl Try.underlying44 hInfo46 rfl (by decide) (by decide) _ xs c.f1 A c.f1.length n (fun k => k ≠ tb ∧ k ≠ qb) _ rfl rfl HNN.out HF.out (fun _ hk => hk) HFR.out HB.out HB.out.size (by omega) ?_; intro v1 w1 hN1 hb1 hg1 hat1; obtain ⟨Aq, cq, rfl⟩ := Kd.N_slice hN1; rw [List.length_append] at hN1; have hh2 := (hg1.block qb (blk_lt HS.out.hq) (Kd.N_ne HNN.out HS.out.hq (by decide))).trans HS.out.hq; have k2 := blk_cell hh2 0; have f2 := blk_frozen hh2 0; have HP := amk (HPUT.out w1 _ hN1 hb1 hg1); have HF3 := amk (Kd.F_now (Kd.F_far (Kd.F_grown HF.out hg1 (fun k hk => hk.2)) (p := ⟨qb, 0, none⟩) (fun k hk => hk.1.2) (.slice Aq (xs.length + c.f1.length) cq))); have HX3 := amk ((Below.heap_setCell w1 ⟨qb, 0, none⟩ (.slice Aq (xs.length + c.f1.length) cq) w.heap.size (by have := HLQ.out; simp only; omega)).trans ((hg1.block w.heap.size (blk_lt HX2.out) (fun e => by have := HLT.out _ e.symm; omega)).trans HX2.out)); clear hh2 hN1 hb1 hg1 hat1)
      clear k2 f2 kq kb0 kb1 kb2 kb3 kb4 kb5 HS HF HX2 HB HNN HPUT HFR
      generalize w1.setCell ⟨qb, 0, none⟩ (.slice Aq (xs.length + c.f1.length) cq) = W2 at *
      have kb1 := blk_cell HX3.out 1
      have kb0 := blk_cell HX3.out 0
      have kb2 := blk_cell HX3.out 2
      have kb3 := blk_cell HX3.out 3
      have kb4 := blk_cell HX3.out 4
      have kb5 := blk_cell HX3.out 5
      go_wp2_with (go_at_call 133; refine (one_any c A n _ HF3.out HN.out).mono ?_; rintro e w3 ⟨rfl, hb3⟩; have HE := amk (HP.out.below hb3); clear hb3)
      go_ret
      first | exact ⟨rfl, _, HE.out⟩ | exact ⟨_, rfl, HE.out⟩ | (rw [if_neg HO.out]; exact ⟨_, rfl, HE.out⟩)
def rest (xs : List S46) (d t : Nat) : Option Nat := if (fitsL (xs.drop d) && decide (d + nodesL (xs.drop d) ≤ 100)) = true then some (t + testsL (xs.drop d)) else none
theorem rest_cons (xs : List S46) (d t : Nat) (hd : d < xs.length) : rest xs d t = if (fitsB (rd_T46 xs d) && fitsL (xs.drop (d + 1)) && decide (d + (nodes (rd_T46 xs d) + nodesL (xs.drop (d + 1))) ≤ 100)) = true then some (t + (testsN (rd_T46 xs d) + testsL (xs.drop (d + 1)))) else none := by
  unfold rest
  have e : rd_T46 xs (d : Int) = xs[d] := rd46 xs d hd
  rw [List.drop_eq_getElem_cons hd, fitsL, nodesL, testsL, e]
theorem rest_over (xs : List S46) (d t : Nat) (hd : d < xs.length) (ho : 100 < (rd_T46 xs d).f1.length + xs.length) : rest xs d t = none := by
  rw [rest_cons xs d t hd, if_neg]
  intro h
  rw [Bool.and_eq_true, decide_eq_true_eq] at h
  have h := h.2
  have e1 := nodes_eq (rd_T46 xs d)
  have e2 := len_nodes (rd_T46 xs d).f1
  have e3 := len_nodes (xs.drop (d + 1))
  rw [List.length_drop] at e3
  omega
theorem rest_bad (xs : List S46) (d t : Nat) (hd : d < xs.length) (ho : oneB (rd_T46 xs d) = false) : rest xs d t = none := by
  rw [rest_cons xs d t hd, if_neg]
  intro h
  rw [fits_eq, ho] at h
  simp at h
theorem rest_next (xs : List S46) (d t : Nat) (hd : d < xs.length) (ho : oneB (rd_T46 xs d) = true) : rest xs d t = rest (xs ++ (rd_T46 xs d).f1) (d + 1) (t + (if (rd_T46 xs d).f0 = 4 then 1 else 0)) := by
  rw [rest_cons xs d t hd]
  unfold rest
  rw [List.drop_append_of_le_length (by omega), fitsL_append, nodesL_append, testsL_append, fits_eq, ho, Bool.true_and, nodes_eq, tests_eq]
  generalize nodesL (rd_T46 xs d).f1 = a
  generalize nodesL (xs.drop (d + 1)) = b
  generalize testsL (rd_T46 xs d).f1 = x
  generalize testsL (xs.drop (d + 1)) = y
  generalize (if (rd_T46 xs d).f0 = 4 then 1 else 0) = z
  rw [decide_eq_decide.2 (show d + (a + 1 + b) ≤ 100 ↔ d + 1 + (b + a) ≤ 100 by omega), show t + (z + x + y) = t + z + (y + x) by omega, Bool.and_comm (fitsL (rd_T46 xs d).f1)]
theorem rest_done (xs : List S46) (t : Nat) (h : xs.length ≤ 100) : rest xs xs.length t = some t := by
  unfold rest
  rw [List.drop_eq_nil_of_le (Nat.le_refl _), fitsL, nodesL, testsL, decide_eq_true (by omega)]; rfl
theorem rest_all (c : S46) : rest [c] 0 0 = if rightB c = true then some (testsN c) else none := by
  unfold rest rightB
  rw [List.drop_zero, fitsL, fitsL, nodesL, nodesL, testsL, testsL, Bool.and_true, Nat.zero_add, Nat.zero_add, Nat.add_zero, Nat.add_zero]
theorem count_some {c : S46} {t : Nat} (h : rest [c] 0 0 = some t) : countR c = ((t : Int), true) := by
  rw [rest_all] at h
  unfold countR
  split at h
  · rename_i hr
    rw [if_pos hr, Option.some.inj h]
  · cases h
theorem count_none {c : S46} (h : rest [c] 0 0 = none) : countR c = (0, false) := by
  rw [rest_all] at h
  unfold countR
  split at h
  · cases h
  · rename_i hr
    rw [if_neg hr]
structure CI (c : S46) (xs : List S46) (d t : Nat) : Prop where
  h1 : xs.length ≤ 100
  h2 : 1 ≤ xs.length
  h3 : d ≤ xs.length
  h4 : t ≤ d
  h5 : rest xs d t = rest [c] 0 0
set_option maxHeartbeats 2000000 in
theorem count_any (c : S46) (A1 : Option Addr) (c1 : Nat) (w : World) (hC : Kd.C k46 w A1 c.f1.length c.f1) (hc1 : c.f1.length ≤ c1) :
    Calls Try.prog 101 #[.agg #[.int .i64 c.f0, .slice A1 c.f1.length c1, .int .i64 c.f2, .int .u64 c.f3, .string c.f4, .int .u64 c.f5]] w fun e w' => e = .returned (.tuple #[.int .i64 (countR c).1, .bool (countR c).2]) ∧ Below w.heap.size w w' := by
  have hu46 := Try.underlying46
  have hmf : ∀ (fn : Fn) (first cap : Array Value) (w : World), (Instr.makeFunc fn first cap).run Try.prog w = .ok (.func fn first cap) w := fun _ _ _ _ => rfl
  have hFK := elder46 hC hc1
  have HB0 := amk (bal (Below.refl w.heap.size w) (.cells #[.int .i64 c.f0, .slice A1 c.f1.length c1, .int .i64 c.f2, .int .u64 c.f3, .string c.f4, .int .u64 c.f5] 46))
  have HF0 := amk (Kd.FK_below hFK HB0.out)
  clear hC hFK
  go_enter Try.func101, Try.ntmps101
  go_wp2_with ((with_reducible refine gate_dst (N := 9) rfl ?_); refine Kd.N_lit k46 w.heap.size 46 ?hg (N' := 9) ?hd (xs := [c]) (inner := cells46 c A1 c1) (ok := fun _ => True) (okp := fun k => k < w.heap.size) ?hr ?hp (fun _ _ => trivial) trivial HB0.out HB0.out.size (by simp) ?_; (case hd => rfl); (case hg => rfl); (case hr => first | (go_simp; done) | (go_simp; rfl)); (case hp => exact reps_one46 HF0.out); intro v1 w1 hN hb hg hat; have HQ := amk (Qu.mk hN hb); obtain ⟨Aq, cq, rfl⟩ := Kd.N_slice hN; clear hN hb hg hat)
  have HS := amk (show Sq w ((w1.alloc (.cells #[.slice Aq 1 cq] 44)).alloc (.cells #[.int .i64 0] 3)) (w1.heap.size + 1) w1.heap.size 0 (.slice Aq 1 cq) [c] from by
    have hq := HQ.out
    have e : (w1.alloc (.cells #[.slice Aq 1 cq] 44)).heap.size = w1.heap.size + 1 := by simp
    refine ⟨?_, ?_, ?_, bal (bal hq.B _) _, ?_, hq.B.size, by omega⟩
    · have := heap_alloc_new (w1.alloc (.cells #[.slice Aq 1 cq] 44)) (.cells #[.int .i64 0] 3)
      rw [e] at this; exact this
    · have h1 := heap_alloc_new w1 (.cells #[.slice Aq 1 cq] 44)
      exact (Below.heap_alloc _ _ _ (by rw [e]; omega)).trans h1
    · have h1 := Kd.N_elderB (Kd.N_elderB hq.N w1.heap.size (Nat.le_refl _)) (w1.heap.size + 1) (by omega)
      exact Kd.N_alloc (Kd.N_alloc (Kd.N_mono h1 (fun k hk => ⟨hk.2, hk.1.2⟩)) _) _
    · have := hq.B.size; omega)
  have HI := amk (show CI c [c] 0 0 from ⟨by simp, by simp, by simp, Nat.le_refl _, rfl⟩)
  clear HQ HF0 HB0
  generalize htb : w1.heap.size + 1 = tb at *
  generalize hqb : w1.heap.size = qb at *
  generalize hwr : (w1.alloc (.cells #[.slice Aq 1 cq] 44)).alloc (.cells #[.int .i64 0] 3) = w2 at *
  clear hwr htb hqb
  go_loopw [7] (fun i wr => ∃ (d t : Nat) (v : Value) (xs : List S46), i = .int .i64 d ∧ Aside0 (Sq w wr tb qb t v xs) ∧ Aside0 (CI c xs d t)) (fun i _ => 101 - (intOf i).toNat)
  case atStart => exact ⟨0, 0, _, _, rfl, HS, HI⟩
  case round =>
    clear HS HI
    obtain ⟨d, t, v, xs, rfl, hs, hi⟩ := hrel
    have hi1 := hi.out.h1
    have hi3 := hi.out.h3
    have hi4 := hi.out.h4
    obtain ⟨g, cap, rfl, hg, hgl, _⟩ := Kd.N_form hs.out.N (by have := hi.out.h2; omega)
    have kq := blk_cell hs.out.hq 0
    by_cases hlt : d < xs.length
    · have d1 : decide ((d : Int) < (xs.length : Int)) = true := decide_eq_true (by omega)
      obtain ⟨c', hcl, hFK, hcc, _⟩ := Kd.N_elem hs.out.N z46 (d : Int) (by omega) (by omega)
      obtain ⟨A', n', rfl, hn', hFk⟩ := k46_openF hFK
      have hx0 := hcc 0 _ rfl
      have hx1 := hcc 1 _ rfl
      have hx2 := hcc 2 _ rfl
      have hx3 := hcc 3 _ rfl
      have hx4 := hcc 4 _ rfl
      have hx5 := hcc 5 _ rfl
      have hrd : xs.getD (d : Int).toNat z46 = rd_T46 xs (d : Int) := rfl
      rw [hrd] at hFK hn' hFk hx0 hx1 hx2 hx3 hx4 hx5
      simp only [Int.toNat_natCast] at hx0 hx1 hx2 hx3 hx4 hx5
      rw [show k46.sz = 6 from rfl] at hx0 hx1 hx2 hx3 hx4 hx5
      rw [Nat.add_zero] at hx0
      have HR1 := amk (rest_over xs d t hlt)
      have HR2 := amk (rest_bad xs d t hlt)
      have HR3 := amk (rest_next xs d t hlt)
      have i0 : (0 : Int) ≤ (d : Int) := by omega
      have i1 : (d : Int) < (xs.length : Int) := by omega
      have HF := amk (show Kd.F k46 wr (fun b => (b ≠ tb ∧ b ≠ qb) ∧ some b ≠ (Value.slice (some ⟨g, 0, none⟩) xs.length cap).ownBlock) A' _ _ from Kd.F_mono hFk (fun b hb => ⟨hb.1, by rw [own_of]; exact hb.2⟩))
      generalize hx : rd_T46 xs (d : Int) = x at *
      clear hx
      have HSEE := amk (see_c hs.out x A' n' hn' HF.out (by omega) (by omega))
      have hln : xs.length ≤ 100 := hi1
      have HIS := amk (⟨hlt, hi1, hi4⟩ : d < xs.length ∧ xs.length ≤ 100 ∧ t ≤ d)
      clear hFK hFk hcc hcl hrd hs hi1 hi3 hi4 hg hgl HF hlt
      by_cases hov : 100 < x.f1.length + xs.length
      · have HN := amk (count_none (hi.out.h5.symm.trans (HR1.out hov)))
        unfold SeePost at HSEE
        simp only [if_pos hov] at HSEE
        clear HR1 HR2 HR3 hi
        go_wp2_with (go_at_call 132; refine HSEE.out.mono ?_; rintro e w3 ⟨rfl, hs3⟩; have HE := amk hs3.B; clear hs3)
        go_ret2
        exact ⟨congrArg (fun r : Int × Bool => Ending.returned (.tuple #[.int .i64 r.1, .bool r.2])) HN.out.symm, HE.out⟩
      · unfold SeePost at HSEE
        simp only [if_neg hov] at HSEE
        clear HR1
        cases ho : oneB x with
        | false =>
          have HN := amk (count_none (hi.out.h5.symm.trans (HR2.out ho)))
          rw [ho] at HSEE
          clear HR2 HR3 hi ho hov
          go_wp2_with (go_at_call 132; refine HSEE.out.mono ?_; rintro e w3 ⟨v3, rfl, hs3⟩; have HE := amk hs3.B; clear hs3)
          go_ret2
          exact ⟨congrArg (fun r : Int × Bool => Ending.returned (.tuple #[.int .i64 r.1, .bool r.2])) HN.out.symm, HE.out⟩
        | true =>
          have HN := amk (hi.out.h5.symm.trans (HR3.out ho))
          have HOV := amk hov
          have HI2 := amk hi.out.h2
          rw [ho] at HSEE
          clear HR2 HR3 hi ho hov
          go_wp2_with (go_at_call 132; refine HSEE.out.mono ?_; rintro e w3 ⟨v3, rfl, hs3⟩; have HE := amk hs3; clear hs3)
          refine ⟨⟨d + 1, _, v3, xs ++ x.f1, by rfl, HE, ⟨?_, ?_, ?_, ?_, HN.out.symm⟩⟩, ?_⟩
          · have := HOV.out; rw [List.length_append]; omega
          · have := HI2.out; rw [List.length_append]; omega
          · have := HIS.out; rw [List.length_append]; omega
          · have := HIS.out; split <;> omega
          · have := HIS.out
            simp [intOf]; omega
    · have d1 : decide ((d : Int) < (xs.length : Int)) = false := decide_eq_false (by omega)
      obtain rfl : d = xs.length := by omega
      have HN := amk (count_some (hi.out.h5.symm.trans (rest_done xs t hi1)))
      have kt := blk_cell hs.out.ht 0
      have HE := amk hs.out.B
      clear hi hs hg hgl
      go_wp2
      go_ret2
      exact ⟨congrArg (fun r : Int × Bool => Ending.returned (.tuple #[.int .i64 r.1, .bool r.2])) HN.out.symm, HE.out⟩
def types_count.f (a0_0 : Int) (l0_1 : List (S46)) (a0_2 : Int) (a0_3 : Int) (a0_4 : ByteArray) (a0_5 : Int) : Option (Int × Bool) := some (countR ⟨a0_0, l0_1, a0_2, a0_3, a0_4, a0_5⟩)
theorem types_count.calls (a0_0 : Int) (A0_1 : Option Addr) (c0_1 : Nat) (l0_1 : List (S46)) (a0_2 : Int) (a0_3 : Int) (a0_4 : ByteArray) (a0_5 : Int) (r1 : Int) (r2 : Bool) (w : World) (hr0_1 : Kd.C k46 w A0_1 l0_1.length l0_1) (hc0_1 : l0_1.length ≤ c0_1) (h : types_count.f a0_0 l0_1 a0_2 a0_3 a0_4 a0_5 = some (r1, r2)) :
    Calls Try.prog 101 #[.agg #[.int .i64 a0_0, .slice A0_1 l0_1.length c0_1, .int .i64 a0_2, .int .u64 a0_3, .string a0_4, .int .u64 a0_5]] w fun e w' => e = .returned (.tuple #[.int .i64 r1, .bool r2]) ∧ Below w.heap.size w w' := by
  have h2 := count_any ⟨a0_0, l0_1, a0_2, a0_3, a0_4, a0_5⟩ A0_1 c0_1 w hr0_1 hc0_1
  rw [Option.some.inj h] at h2
  exact h2
end Go.Proofs.Ytoeklekjhaigoaa.HCount
end
section
namespace Go.Proofs.Ytoeklekjhaigoaa.M1
open Go.Proofs.Ytoeklekjhaigoaa.Al Go.RowKit Go.Proofs.YtoeklekjhaigoaaW.PrintWords Go.Proofs.YtoeklekjhaigoaaW.PrintLast Go.Proofs.YtoeklekjhaigoaaW.PrintMore
attribute [local go_sem] max2_int min2_int max_two min_two max_three min_three max_four min_four IntKind.wrap_u32 IntKind.wrap_u8   -- for this text's walks alone
set_option linter.unusedVariables false
open Go.Proofs.Ytoeklekjhaigoaa.Le Go.Proofs.Ytoeklekjhaigoaa.C1 Go.Proofs.Ytoeklekjhaigoaa.C2 Go.Proofs.Ytoeklekjhaigoaa.HAct Go.Proofs.Ytoeklekjhaigoaa.W0 Go.Proofs.Ytoeklekjhaigoaa.HFrom Go.Proofs.Ytoeklekjhaigoaa.W1 Go.Proofs.Ytoeklekjhaigoaa.R01 Go.Proofs.Ytoeklekjhaigoaa.HPack Go.Proofs.Ytoeklekjhaigoaa.HUnpack Go.Proofs.Ytoeklekjhaigoaa.HRefPack Go.Proofs.Ytoeklekjhaigoaa.M0 Go.Proofs.Ytoeklekjhaigoaa.HMany Go.Proofs.Ytoeklekjhaigoaa.HCount
set_option linter.unusedSimpArgs false
def errW : Option Int → Value
  | none => .nilIface
  | some c => .iface 0 (.int .i64 c)
theorem errW_none : errW none = .nilIface := rfl
theorem errW_some (c : Int) : errW (some c) = .iface 0 (.int .i64 c) := rfl
end Go.Proofs.Ytoeklekjhaigoaa.M1
end
section
namespace Go.Proofs.Ytoeklekjhaigoaa.M1
open Go.Proofs.Ytoeklekjhaigoaa.Al Go.RowKit Go.Proofs.YtoeklekjhaigoaaW.PrintWords Go.Proofs.YtoeklekjhaigoaaW.PrintLast Go.Proofs.YtoeklekjhaigoaaW.PrintMore
attribute [local go_sem] max2_int min2_int max_two min_two max_three min_three max_four min_four IntKind.wrap_u32 IntKind.wrap_u8   -- for this text's walks alone
set_option linter.unusedVariables false
open Go.Proofs.Ytoeklekjhaigoaa.Le Go.Proofs.Ytoeklekjhaigoaa.C1 Go.Proofs.Ytoeklekjhaigoaa.C2 Go.Proofs.Ytoeklekjhaigoaa.HAct Go.Proofs.Ytoeklekjhaigoaa.W0 Go.Proofs.Ytoeklekjhaigoaa.HFrom Go.Proofs.Ytoeklekjhaigoaa.W1 Go.Proofs.Ytoeklekjhaigoaa.R01 Go.Proofs.Ytoeklekjhaigoaa.HPack Go.Proofs.Ytoeklekjhaigoaa.HUnpack Go.Proofs.Ytoeklekjhaigoaa.HRefPack Go.Proofs.Ytoeklekjhaigoaa.M0 Go.Proofs.Ytoeklekjhaigoaa.HMany Go.Proofs.Ytoeklekjhaigoaa.HCount
set_option linter.unusedSimpArgs false
def types_Right.f (a0_0 : Int) (l0_1 : List (S46)) (a0_2 : Int) (a0_3 : Int) (a0_4 : ByteArray) (a0_5 : Int) : Option (Bool) := (types_count.f a0_0 l0_1 a0_2 a0_3 a0_4 a0_5).bind fun bt108 => (some bt108.2)
set_option maxHeartbeats 8000000 in
set_option maxRecDepth 100000 in
theorem types_Right.calls (a0_0 : Int) (A0_1 : Option Addr) (c0_1 : Nat) (l0_1 : List (S46)) (a0_2 : Int) (a0_3 : Int) (a0_4 : ByteArray) (a0_5 : Int) (r : Bool) (w : World) (hr0_1 : Kd.C k46 w A0_1 l0_1.length l0_1) (hc0_1 : l0_1.length ≤ c0_1) (h : types_Right.f a0_0 l0_1 a0_2 a0_3 a0_4 a0_5 = some r) :
    Calls Try.prog 65 #[.agg #[.int .i64 a0_0, .slice A0_1 l0_1.length c0_1, .int .i64 a0_2, .int .u64 a0_3, .string a0_4, .int .u64 a0_5]] w fun e w' => e = .returned (.bool r) ∧ Below w.heap.size w w' := by
  have hu46 := Try.underlying46
  have HR0_1 := amk hr0_1
  have HC0_1 := amk hc0_1
  clear hr0_1 hc0_1
  have HB := amk (Below.refl w.heap.size w)
  have H : ((types_count.f a0_0 l0_1 a0_2 a0_3 a0_4 a0_5).bind fun bt108 => (some bt108.2)) = some r := h
  clear h
  replace H := Option.bind_eq_some_iff.mp H
  obtain ⟨⟨t108, t109⟩, A20, H⟩ := H
  replace H : (some t109) = some r := H
  have A2 := amk A20
  clear A20
  obtain rfl := Option.some.inj H
  go_enter Try.func65, Try.ntmps65
  go_wp2_with (first | ((with_reducible refine gate_dst (N := 1) rfl ?_); refine box_event ?hg (N := 1) ?hd (cs := #[.int .i64 a0_0, .slice A0_1 l0_1.length c0_1, .int .i64 a0_2, .int .u64 a0_3, .string a0_4, .int .u64 a0_5]) (t := 46) ?hr ?_; (case hd => rfl); (case hg => rfl); (case hr => first | (go_simp; done) | (go_simp; rfl)); intro gb107 hg w3 hbox hb; have n0_ := amk (below_step (by repeat (first | (with_reducible first | exact HB.out | apply bal | apply pbd | apply below_drew1) | exact HB.out)) hb); have n1_ := amk (hbox); have n2_ := amk ((by rw [hg]; exact (below_size (by repeat (first | (with_reducible first | exact HB.out | apply bal | apply pbd | apply below_drew1) | exact HB.out))) : w.heap.size ≤ gb107)); have n3_ := amk ((by rw [hg]; exact (below_size (by repeat (first | (with_reducible first | exact HB.out | apply bal | apply pbd | apply below_drew1) | exact HB.out))) : w.heap.size ≤ gb107)); clear HB; have HB := n0_; have BK107 := n1_; have GW107 := n2_; have GE107 := n3_; clear n0_ n1_ n2_ n3_; clear hb hbox hg; have hcz4_0 : w3.cell? ⟨gb107, 0, none⟩ = some (.int .i64 a0_0) := (blk_cell BK107.out 0).trans rfl; have hcz4_1 : w3.cell? ⟨gb107, 1, none⟩ = some (.slice A0_1 l0_1.length c0_1) := (blk_cell BK107.out 1).trans rfl; have hcz4_2 : w3.cell? ⟨gb107, 2, none⟩ = some (.int .i64 a0_2) := (blk_cell BK107.out 2).trans rfl; have hcz4_3 : w3.cell? ⟨gb107, 3, none⟩ = some (.int .u64 a0_3) := (blk_cell BK107.out 3).trans rfl; have hcz4_4 : w3.cell? ⟨gb107, 4, none⟩ = some (.string a0_4) := (blk_cell BK107.out 4).trans rfl; have hcz4_5 : w3.cell? ⟨gb107, 5, none⟩ = some (.int .u64 a0_5) := (blk_cell BK107.out 5).trans rfl; have hfz4_0 := blk_frozen BK107.out 0; have hfz4_1 := blk_frozen BK107.out 1; have hfz4_2 := blk_frozen BK107.out 2; have hfz4_3 := blk_frozen BK107.out 3; have hfz4_4 := blk_frozen BK107.out 4; have hfz4_5 := blk_frozen BK107.out 5) | ((with_reducible refine gate_callee (f := 101) rfl ?_); refine goesL_ (some 7) rfl rfl Try.func101 (by kernel_rfl) rfl #[.agg #[.int .i64 a0_0, .slice A0_1 l0_1.length c0_1, .int .i64 a0_2, .int .u64 a0_3, .string a0_4, .int .u64 a0_5]] rfl (by (try simp only [List.map_toArray, List.map_cons, List.map_nil]); first | done | rfl | (simp only [List.length_drop, List.length_take]; rfl)) ?_; (with_reducible refine (types_count.calls a0_0 _ _ l0_1 a0_2 a0_3 a0_4 a0_5 t108 t109 _ ?side1 ?side2 A2.out).mono ?_); (case side1 => repeat (first | exact (Kd.C_below HR0_1.out HB.out) | (with_reducible refine Kd.C_alloc ?_ _) | (with_reducible refine Kd.C_drewN ?_ _) | (with_reducible refine Kd.C_drew ?_))); (case side2 => exact HC0_1.out); rintro e w5 ⟨rfl, hb⟩; refine ⟨_, rfl, ?_⟩; have n0_ := amk (blk_below (g := gb107) (o := .cells #[.int .i64 a0_0, .slice A0_1 l0_1.length c0_1, .int .i64 a0_2, .int .u64 a0_3, .string a0_4, .int .u64 a0_5] 46 (0, 0)) (by (with_reducible repeat (first | refine blk_drewN ?_ _ | refine blk_drew ?_ | refine blk_alloc ?_ _)); exact BK107.out) hb); have n1_ := amk (below_step (by repeat (first | (with_reducible first | exact HB.out | apply bal | apply pbd | apply below_drew1 | refine below_set ?_ GE107.out) | exact HB.out)) hb); clear BK107; clear HB; have BK107 := n0_; have HB := n1_; clear n0_ n1_; (try clear hb); (try clear hb2); (try clear hk); (try clear hi)))
  go_ret
  exact ⟨by first | rfl | (simp [errW_none, errW_some] <;> rfl) | (simp [*, errW_none, errW_some] <;> rfl), by repeat (first | (with_reducible first | exact HB.out | apply bal | apply pbd | apply below_drew1 | refine below_set ?_ GE107.out) | exact HB.out)⟩
end Go.Proofs.Ytoeklekjhaigoaa.M1
end
section
namespace Go.Proofs.Ytoeklekjhaigoaa.HHold
open Go.Proofs.Ytoeklekjhaigoaa.Al Go.RowKit Go.Proofs.YtoeklekjhaigoaaW.PrintWords Go.Proofs.YtoeklekjhaigoaaW.PrintLast Go.Proofs.YtoeklekjhaigoaaW.PrintMore Go.Proofs.Ytoeklekjhaigoaa.M0 Go.Proofs.Ytoeklekjhaigoaa.QCond Go.Proofs.Ytoeklekjhaigoaa.QMean Go.Proofs.Ytoeklekjhaigoaa.QOne Go.Proofs.Ytoeklekjhaigoaa.HMany Go.Proofs.Ytoeklekjhaigoaa.WMap Go.Proofs.Ytoeklekjhaigoaa.K49
set_option linter.unusedVariables false
set_option linter.unusedSimpArgs false
set_option maxRecDepth 100000
attribute [local go_sem] max2_int min2_int max_two min_two
def idxN {α : Type} (p : α → Bool) : List α → Option Nat
  | [] => none
  | x :: l => if p x = true then some 0 else (idxN p l).map (· + 1)
def idxI {α : Type} (p : α → Bool) (l : List α) : Int := match idxN p l with | some i => (i : Int) | none => -1
theorem idxN_hit {α : Type} (p : α → Bool) (z : α) : ∀ (l : List α) (k : Nat), k < l.length → (∀ j, j < k → p (l.getD j z) = false) → p (l.getD k z) = true → idxN p l = some k := by
  intro l
  induction l with
  | nil => intro k h; exact absurd h (Nat.not_lt_zero _)
  | cons x l ih =>
    intro k h h1 h2
    unfold idxN
    cases k with
    | zero => rw [if_pos (by simpa using h2)]
    | succ k =>
      have h0 := h1 0 (by omega)
      rw [if_neg (by simpa using h0), ih k (by simpa using h) (fun j hj => by simpa using h1 (j + 1) (by omega)) (by simpa using h2)]
      rfl
theorem idxN_miss {α : Type} (p : α → Bool) (z : α) : ∀ (l : List α), (∀ j, j < l.length → p (l.getD j z) = false) → idxN p l = none := by
  intro l
  induction l with
  | nil => intro _; rfl
  | cons x l ih =>
    intro h1
    unfold idxN
    have h0 := h1 0 (by simp)
    rw [if_neg (by simpa using h0), ih (fun j hj => by simpa using h1 (j + 1) (by simpa using hj))]
    rfl
theorem idxI_any {α : Type} (p : α → Bool) (l : List α) : decide (idxI p l ≥ 0) = l.any p := by
  unfold idxI
  induction l with
  | nil => rfl
  | cons x l ih =>
    unfold idxN
    rw [List.any_cons]
    cases hx : p x with
    | true => rw [if_pos rfl]; rfl
    | false =>
      rw [if_neg (by decide), Bool.false_or, ← ih]
      cases idxN p l with
      | none => rfl
      | some i => exact decide_eq_decide.2 ⟨fun _ => by show (0 : Int) ≤ (i : Int); omega, fun _ => by show (0 : Int) ≤ ((i + 1 : Nat) : Int); omega⟩
set_option maxHeartbeats 2000000 in
theorem idx_c {g : Nat} {lb : Array Value} (p : S46 → Bool) (eg : ∀ args w, (callFunc g args).run Try.prog w = .ok (.enter g args) w) (A : Option Addr) (c0 : Nat) (l : List S46) (w : World) (hC : Kd.C k46 w A l.length l) (hl : l.length ≤ 1000000)
    (hp : ∀ (W : World) (x : S46) (A1 : Option Addr) (n1 : Nat), x ∈ l → Below w.heap.size w W → Kd.C k46 W A1 x.f1.length x.f1 → x.f1.length ≤ n1 → Calls Try.prog g (#[.agg #[.int .i64 x.f0, .slice A1 x.f1.length n1, .int .i64 x.f2, .int .u64 x.f3, .string x.f4, .int .u64 x.f5]] ++ lb) W fun e w' => e = .returned (.bool (p x)) ∧ Below W.heap.size W w') :
    Calls Try.prog 148 #[.slice A l.length c0, .func (.func g) #[] lb] w fun e w' => e = .returned (.int .i64 (idxI p l)) ∧ Below w.heap.size w w' := by
  go_enter Try.func148, Try.ntmps148
  go_wp2
  go_loopg [5, 8] l.length (fun gg _ s8 wr => ∃ kk : Nat, kk ≤ l.length ∧ l.length - kk ≤ gg ∧ s8 = .int .i64 kk ∧ Aside0 (Below w.heap.size w wr) ∧ Aside0 (∀ j, j < kk → p (l.getD j z46) = false))
  case atStart => exact ⟨0, Nat.zero_le _, by omega, rfl, ⟨Below.refl _ w⟩, ⟨fun j hj => absurd hj (Nat.not_lt_zero _)⟩⟩
  case round =>
    obtain ⟨kk, hkk, hg, rfl, BW, AA⟩ := hrel
    by_cases hlt : kk < l.length
    · have hltz : (kk : Int) < (l.length : Int) := by omega
      obtain ⟨ad, A1, n1, e102, hx0, hx1, hx2, hx3, hx4, hx5, hn1, hC1⟩ := at_T46 (Kd.C_below hC BW.out) (kk : Int) (by omega) (by omega)
      cases e102
      have hmem : rd_T46 l (kk : Int) ∈ l := by rw [rd46 l kk hlt]; exact List.getElem_mem hlt
      have hcall := hp wr (rd_T46 l (kk : Int)) A1 n1 hmem BW.out hC1 hn1
      have hrd : rd_T46 l (kk : Int) = l.getD kk z46 := rfl
      rw [hrd] at hx0 hx1 hx2 hx3 hx4 hx5 hcall
      simp only [Int.toNat_natCast] at hx0 hx1 hx2 hx3 hx4 hx5
      clear hrd hC hp hC1 hn1 hmem
      generalize hy : l.getD kk z46 = y at hx0 hx1 hx2 hx3 hx4 hx5 hcall
      have B : Aside0 (l.getD kk z46 = y) := ⟨hy⟩
      clear hy
      cases hq : p y with
      | true =>
        rw [hq] at hcall
        go_wp2_with (go_at_fn g; refine hcall.mono ?_; rintro e w' ⟨rfl, hb'⟩)
        go_ret
        refine ⟨?_, below_step BW.out hb'⟩
        unfold idxI
        rw [idxN_hit p z46 l kk hlt AA.out (by rw [B.out]; exact hq)]; rfl
      | false =>
        rw [hq] at hcall
        go_wp2_with (go_at_fn g; refine hcall.mono ?_; rintro e w' ⟨rfl, hb'⟩)
        go_roundg (l.length - (kk + 1))
        case measure => omega
        case rel =>
          refine ⟨kk + 1, by omega, by omega, by go_num, ⟨below_step BW.out hb'⟩, ⟨fun j hj => ?_⟩⟩
          by_cases e : j = kk
          · subst e
            rw [B.out]; exact hq
          · exact AA.out j (by omega)
    · have hltz : ¬ (kk : Int) < (l.length : Int) := by omega
      obtain rfl : kk = l.length := by omega
      clear hC hp
      go_wp2
      go_ret
      refine ⟨?_, BW.out⟩
      unfold idxI
      rw [idxN_miss p z46 l AA.out]; rfl
theorem contains_c {g : Nat} {lb : Array Value} (p : S46 → Bool) (eg : ∀ args w, (callFunc g args).run Try.prog w = .ok (.enter g args) w) (A : Option Addr) (c0 : Nat) (l : List S46) (w : World) (hC : Kd.C k46 w A l.length l) (hl : l.length ≤ 1000000)
    (hp : ∀ (W : World) (x : S46) (A1 : Option Addr) (n1 : Nat), x ∈ l → Below w.heap.size w W → Kd.C k46 W A1 x.f1.length x.f1 → x.f1.length ≤ n1 → Calls Try.prog g (#[.agg #[.int .i64 x.f0, .slice A1 x.f1.length n1, .int .i64 x.f2, .int .u64 x.f3, .string x.f4, .int .u64 x.f5]] ++ lb) W fun e w' => e = .returned (.bool (p x)) ∧ Below W.heap.size W w') :
    Calls Try.prog 123 #[.slice A l.length c0, .func (.func g) #[] lb] w fun e w' => e = .returned (.bool (l.any p)) ∧ Below w.heap.size w w' := by
  have hI := idx_c p eg A c0 l w hC hl hp
  have hA := amk (idxI_any p l)
  clear hC hp
  generalize idxI p l = i at *
  go_enter Try.func123, Try.ntmps123
  go_wp2_with (go_at_call 148; refine hI.mono ?_; rintro e w1 ⟨rfl, hb1⟩)
  go_ret
  exact ⟨congrArg (fun b : Bool => Ending.returned (.bool b)) hA.out, hb1⟩
theorem zero161 (w : World) : (zeroValue 161).run Try.prog w = .ok .nilFunc w := by kernel_rfl
theorem MapV.look0 {P : Program} {K : TypeId} {w : World} {b n : Nat} {L : Lit → Option Value} {t e : TypeId} {z : Value} (h : MapV P K w b n L) (hK : Maps.Keyed P K) (ht : P.underlying t = some (.map K e)) (hz : (zeroValue e).run P w = .ok z w) {key : Value} {kl : Lit} (hkey : keyOf P K key = some kl) :
    (Instr.lookup t (.map (some b)) key false).run P w = .ok ((L kl).getD z) w := by
  obtain ⟨D, ho, hm, hat⟩ := h
  obtain ⟨v, ps, hrun, hv⟩ := ho.lookup (t := t) (e := e) hK ht hz (zd := .held z) (zp := []) rfl hkey
  rw [hrun]
  have hv' : (some (DataW.held v, []) : Option (DataW Value × List MemPlace)) = some (D.atKey kl (.held z), ps) := hv
  rw [hat] at hv'
  cases hL : L kl with
  | none => rw [hL] at hv'; injection hv' with hv'; injection hv' with h1 _; injection h1 with h1; rw [h1]; rfl
  | some x => rw [hL] at hv'; injection hv' with hv'; injection hv' with h1 _; injection h1 with h1; rw [h1]; rfl
abbrev fnV (f : Nat) : Value := .func (.func f) #[] #[]
/-- The function for a sign. -/
def fnOf (s : List UInt8) : Nat := if s = [62, 61] then 147 else if s = [62] then 146 else if s = [60, 61] then 145 else if s = [60] then 144 else if s = [33, 61] then 143 else 142
def askL (x : Lit) : Option Value :=
  if x.sameKey (.string [62, 61]) = true then some (fnV 147) else if x.sameKey (.string [62]) = true then some (fnV 146) else if x.sameKey (.string [60, 61]) = true then some (fnV 145)
  else if x.sameKey (.string [60]) = true then some (fnV 144) else if x.sameKey (.string [33, 61]) = true then some (fnV 143) else if x.sameKey (.string [61, 61]) = true then some (fnV 142) else none
theorem askL_sign (s : List UInt8) (h : s ∈ signs) : askL (.string s) = some (fnV (fnOf s)) := by
  unfold signs at h
  simp only [List.mem_cons, List.not_mem_nil, or_false] at h
  rcases h with rfl | rfl | rfl | rfl | rfl | rfl <;> rfl
theorem asks_c (w : World) : Calls Try.prog 122 #[] w fun e w' => ∃ b, e = .returned (.map (some b)) ∧ MapV Try.prog 9 w' b 6 askL ∧ Below w.heap.size w w' := by
  have hmm := @run_makeMap Try.prog
  have h0 := MapV.made Try.prog 9 w
  obtain ⟨w1, r1, h1, g1⟩ := h0.store (t := 162) (e := 161) (val := fnV 142) HAct.keyed9 Try.underlying162 (by omega) (HAct.keyS ⟨#[61, 61]⟩ (by decide)) trivial
  obtain ⟨w2, r2, h2, g2⟩ := h1.store (t := 162) (e := 161) (val := fnV 143) HAct.keyed9 Try.underlying162 (by omega) (HAct.keyS ⟨#[33, 61]⟩ (by decide)) trivial
  obtain ⟨w3, r3, h3, g3⟩ := h2.store (t := 162) (e := 161) (val := fnV 144) HAct.keyed9 Try.underlying162 (by omega) (HAct.keyS ⟨#[60]⟩ (by decide)) trivial
  obtain ⟨w4, r4, h4, g4⟩ := h3.store (t := 162) (e := 161) (val := fnV 145) HAct.keyed9 Try.underlying162 (by omega) (HAct.keyS ⟨#[60, 61]⟩ (by decide)) trivial
  obtain ⟨w5, r5, h5, g5⟩ := h4.store (t := 162) (e := 161) (val := fnV 146) HAct.keyed9 Try.underlying162 (by omega) (HAct.keyS ⟨#[62]⟩ (by decide)) trivial
  obtain ⟨w6, r6, h6, g6⟩ := h5.store (t := 162) (e := 161) (val := fnV 147) HAct.keyed9 Try.underlying162 (by omega) (HAct.keyS ⟨#[62, 61]⟩ (by decide)) trivial
  have hb0 : Below w.heap.size w (w.alloc (.map #[] 0)) := Below.alloc (Below.refl w.heap.size w) (Nat.le_refl _) _
  have hb1 := hb0.grown g1 hb0.size (fun k hk => by cases hk; exact Nat.le_refl _)
  have hb2 := hb1.grown g2 hb1.size (fun k hk => by cases hk; exact Nat.le_refl _)
  have hb3 := hb2.grown g3 hb2.size (fun k hk => by cases hk; exact Nat.le_refl _)
  have hb4 := hb3.grown g4 hb3.size (fun k hk => by cases hk; exact Nat.le_refl _)
  have hb5 := hb4.grown g5 hb4.size (fun k hk => by cases hk; exact Nat.le_refl _)
  have hb6 := amk (hb5.grown g6 hb5.size (fun k hk => by cases hk; exact Nat.le_refl _))
  have HM := amk h6
  clear h0 h1 h2 h3 h4 h5 h6 g1 g2 g3 g4 g5 g6 hb0 hb1 hb2 hb3 hb4 hb5
  go_enter Try.func122, Try.ntmps122
  go_wp2
  go_ret
  exact ⟨_, rfl, HM.out, hb6.out⟩
theorem ask142 (a v : Int) (w : World) : Calls Try.prog 142 #[.int .u64 a, .int .u64 v] w fun e w' => e = .returned (.bool (decide (a = v))) ∧ Below w.heap.size w w' := by
  go_enter Try.func142, Try.ntmps142
  go_wp2
  go_ret
  exact ⟨by first | rfl | (congr 2; by_cases h : a = v <;> simp [h]), Below.refl _ _⟩
theorem ask143 (a v : Int) (w : World) : Calls Try.prog 143 #[.int .u64 a, .int .u64 v] w fun e w' => e = .returned (.bool (!decide (a = v))) ∧ Below w.heap.size w w' := by
  go_enter Try.func143, Try.ntmps143
  go_wp2
  go_ret
  exact ⟨by first | rfl | (congr 2; by_cases h : a = v <;> simp [h]), Below.refl _ _⟩
theorem ask144 (a v : Int) (w : World) : Calls Try.prog 144 #[.int .u64 a, .int .u64 v] w fun e w' => e = .returned (.bool (decide (a < v))) ∧ Below w.heap.size w w' := by
  go_enter Try.func144, Try.ntmps144
  go_wp2
  go_ret
  exact ⟨rfl, Below.refl _ _⟩
theorem ask145 (a v : Int) (w : World) : Calls Try.prog 145 #[.int .u64 a, .int .u64 v] w fun e w' => e = .returned (.bool (decide (a ≤ v))) ∧ Below w.heap.size w w' := by
  go_enter Try.func145, Try.ntmps145
  go_wp2
  go_ret
  exact ⟨rfl, Below.refl _ _⟩
theorem ask146 (a v : Int) (w : World) : Calls Try.prog 146 #[.int .u64 a, .int .u64 v] w fun e w' => e = .returned (.bool (decide (v < a))) ∧ Below w.heap.size w w' := by
  go_enter Try.func146, Try.ntmps146
  go_wp2
  go_ret
  exact ⟨rfl, Below.refl _ _⟩
theorem ask147 (a v : Int) (w : World) : Calls Try.prog 147 #[.int .u64 a, .int .u64 v] w fun e w' => e = .returned (.bool (decide (v ≤ a))) ∧ Below w.heap.size w w' := by
  go_enter Try.func147, Try.ntmps147
  go_wp2
  go_ret
  exact ⟨rfl, Below.refl _ _⟩
theorem ask_c (s : List UInt8) (h : s ∈ signs) (a v : Int) (w : World) : Calls Try.prog (fnOf s) #[.int .u64 a, .int .u64 v] w fun e w' => e = .returned (.bool (signB s a v)) ∧ Below w.heap.size w w' := by
  unfold signs at h
  simp only [List.mem_cons, List.not_mem_nil, or_false] at h
  rcases h with rfl | rfl | rfl | rfl | rfl | rfl
  · exact ask142 a v w
  · exact ask143 a v w
  · exact ask144 a v w
  · exact ask145 a v w
  · exact ask146 a v w
  · exact ask147 a v w
theorem eg_ask (s : List UInt8) (h : s ∈ signs) : ∀ args w, (callFunc (fnOf s) args).run Try.prog w = .ok (.enter (fnOf s) args) w := by
  unfold signs at h
  simp only [List.mem_cons, List.not_mem_nil, or_false] at h
  rcases h with rfl | rfl | rfl | rfl | rfl | rfl
  · exact enters_of Try.func142 (by kernel_rfl) rfl
  · exact enters_of Try.func143 (by kernel_rfl) rfl
  · exact enters_of Try.func144 (by kernel_rfl) rfl
  · exact enters_of Try.func145 (by kernel_rfl) rfl
  · exact enters_of Try.func146 (by kernel_rfl) rfl
  · exact enters_of Try.func147 (by kernel_rfl) rfl
end Go.Proofs.Ytoeklekjhaigoaa.HHold
end
section
namespace Go.Proofs.Ytoeklekjhaigoaa.HMean
open Go.Proofs.Ytoeklekjhaigoaa.Al Go.RowKit Go.Proofs.YtoeklekjhaigoaaW.PrintWords Go.Proofs.YtoeklekjhaigoaaW.PrintLast Go.Proofs.YtoeklekjhaigoaaW.PrintMore Go.Proofs.Ytoeklekjhaigoaa.M0 Go.Proofs.Ytoeklekjhaigoaa.QCond Go.Proofs.Ytoeklekjhaigoaa.QMean Go.Proofs.Ytoeklekjhaigoaa.QOne Go.Proofs.Ytoeklekjhaigoaa.HMany Go.Proofs.Ytoeklekjhaigoaa.HHold Go.Proofs.Ytoeklekjhaigoaa.K49 Go.Proofs.Ytoeklekjhaigoaa.WMap
set_option linter.unusedVariables false
set_option linter.unusedSimpArgs false
set_option maxRecDepth 100000
attribute [local go_sem] max2_int min2_int max_two min_two
def HoldsAt (x : S49) (c : S46) : Prop := ∀ (A : Option Addr) (n : Nat) (w : World), Kd.C k46 w A c.f1.length c.f1 → c.f1.length ≤ n →
  Calls Try.prog 89 #[.agg #[.int .i64 c.f0, .slice A c.f1.length n, .int .i64 c.f2, .int .u64 c.f3, .string c.f4, .int .u64 c.f5], .agg #[.int .u32 x.f0, .int .u32 x.f1, .int .u64 x.f2, .int .u64 x.f3.f0, .int .u64 x.f3.f1, .int .u64 x.f3.f2, .int .u64 x.f3.f3, .int .u64 x.f3.f4, .int .u64 x.f3.f5]] w fun e w' => e = .returned (.bool (semB x c)) ∧ Below w.heap.size w w'
theorem does_c {x : S49} {c : S46} (h : HoldsAt x c) {xb : Nat} (A : Option Addr) (n : Nat) (w : World) (hx : w.heap[xb]? = some (.cells #[.int .u32 x.f0, .int .u32 x.f1, .int .u64 x.f2, .int .u64 x.f3.f0, .int .u64 x.f3.f1, .int .u64 x.f3.f2, .int .u64 x.f3.f3, .int .u64 x.f3.f4, .int .u64 x.f3.f5] 49 (0, 0))) (hC : Kd.C k46 w A c.f1.length c.f1) (hn : c.f1.length ≤ n) :
    Calls Try.prog 121 #[.agg #[.int .i64 c.f0, .slice A c.f1.length n, .int .i64 c.f2, .int .u64 c.f3, .string c.f4, .int .u64 c.f5], .pointer (some ⟨xb, 0, none⟩)] w fun e w' => e = .returned (.bool (semB x c)) ∧ Below w.heap.size w w' := by
  have hu46 := Try.underlying46
  have hu49 := Try.underlying49
  have hb := bal (Below.refl w.heap.size w) (.cells #[.int .i64 c.f0, .slice A c.f1.length n, .int .i64 c.f2, .int .u64 c.f3, .string c.f4, .int .u64 c.f5] 46)
  have hx1 := (hb.block xb (blk_lt hx)).trans hx
  have k0 := blk_cell hx1 0
  have k1 := blk_cell hx1 1
  have k2 := blk_cell hx1 2
  have k3 := blk_cell hx1 3
  have k4 := blk_cell hx1 4
  have k5 := blk_cell hx1 5
  have k6 := blk_cell hx1 6
  have k7 := blk_cell hx1 7
  have k8 := blk_cell hx1 8
  have HC := amk (h A n _ (Kd.C_below hC hb) hn)
  have HB := amk hb
  clear h hx hx1 hC hb
  generalize semB x c = r at *
  go_enter Try.func121, Try.ntmps121
  go_wp2_with (go_at_call 89; refine HC.out.mono ?_; rintro e w1 ⟨rfl, hb1⟩; have HE := amk (below_step HB.out hb1); clear hb1)
  go_ret
  exact ⟨rfl, HE.out⟩
theorem not_c {x : S49} {c : S46} (h : HoldsAt x c) {xb db : Nat} (A : Option Addr) (n : Nat) (w : World) (hx : w.heap[xb]? = some (.cells #[.int .u32 x.f0, .int .u32 x.f1, .int .u64 x.f2, .int .u64 x.f3.f0, .int .u64 x.f3.f1, .int .u64 x.f3.f2, .int .u64 x.f3.f3, .int .u64 x.f3.f4, .int .u64 x.f3.f5] 49 (0, 0))) (hd : w.heap[db]? = some (.cells #[.func (.func 121) #[] #[.pointer (some ⟨xb, 0, none⟩)]] 52 (0, 0))) (hC : Kd.C k46 w A c.f1.length c.f1) (hn : c.f1.length ≤ n) :
    Calls Try.prog 124 #[.agg #[.int .i64 c.f0, .slice A c.f1.length n, .int .i64 c.f2, .int .u64 c.f3, .string c.f4, .int .u64 c.f5], .pointer (some ⟨db, 0, none⟩)] w fun e w' => e = .returned (.bool (!semB x c)) ∧ Below w.heap.size w w' := by
  have hu46 := Try.underlying46
  have hb := bal (Below.refl w.heap.size w) (.cells #[.int .i64 c.f0, .slice A c.f1.length n, .int .i64 c.f2, .int .u64 c.f3, .string c.f4, .int .u64 c.f5] 46)
  have hd1 := (hb.block db (blk_lt hd)).trans hd
  have hx1 := (hb.block xb (blk_lt hx)).trans hx
  have k0 := blk_cell hd1 0
  have HC := amk (does_c h A n _ hx1 (Kd.C_below hC hb) hn)
  have HB := amk hb
  clear h hx hx1 hd hd1 hC hb
  generalize semB x c = r at *
  go_enter Try.func124, Try.ntmps124
  go_wp2_with (go_at_call 121; refine HC.out.mono ?_; rintro e w1 ⟨rfl, hb1⟩; have HE := amk (below_step HB.out hb1); clear hb1)
  go_ret
  exact ⟨rfl, HE.out⟩
theorem eg121 : ∀ args w, (callFunc 121 args).run Try.prog w = .ok (.enter 121 args) w := enters_of Try.func121 (by kernel_rfl) rfl
theorem eg124 : ∀ args w, (callFunc 124 args).run Try.prog w = .ok (.enter 124 args) w := enters_of Try.func124 (by kernel_rfl) rfl
theorem any_not (x : S49) (l : List S46) : (!l.any fun k => !semB x k) = semA x l := by
  rw [semA_all]
  induction l with
  | nil => rfl
  | cons c l ih => rw [List.any_cons, List.all_cons, ← ih, Bool.not_or, Bool.not_not]
set_option maxHeartbeats 4000000 in
theorem holds_c (x : S49) : ∀ (m : Nat), m ≤ 1000 → ∀ (c : S46), nodes c ≤ m → fitsB c = true → HoldsAt x c := by
  intro m
  induction m with
  | zero => intro _ c h; have := nodes_pos c; omega
  | succ m ih =>
    intro hm c h hf A n w hC hn
    have ⟨ho, hL⟩ := fits_one hf
    have hsem := sem_eq x c
    have e1 := nodes_eq c
    have e2 := len_nodes c.f1
    have hkid : ∀ d ∈ c.f1, HoldsAt x d := fun d hd => ih (by omega) d (by have := nodes_mem hd; omega) (fits_mem hL hd)
    have hu46 := Try.underlying46
    have hu49 := Try.underlying49
    have hmf : ∀ (fn : Fn) (first cap : Array Value) (w : World), (Instr.makeFunc fn first cap).run Try.prog w = .ok (.func fn first cap) w := fun _ _ _ _ => rfl
    have hb := bal (bal (bal (Below.refl w.heap.size w) (.cells #[.int .i64 c.f0, .slice A c.f1.length n, .int .i64 c.f2, .int .u64 c.f3, .string c.f4, .int .u64 c.f5] 46)) (.cells #[.int .u32 x.f0, .int .u32 x.f1, .int .u64 x.f2, .int .u64 x.f3.f0, .int .u64 x.f3.f1, .int .u64 x.f3.f2, .int .u64 x.f3.f3, .int .u64 x.f3.f4, .int .u64 x.f3.f5] 49)) (.cells #[.func (.func 121) #[] #[.pointer (some ⟨w.heap.size + 1, 0, none⟩)]] 52)
    have s1 : (w.alloc (.cells #[.int .i64 c.f0, .slice A c.f1.length n, .int .i64 c.f2, .int .u64 c.f3, .string c.f4, .int .u64 c.f5] 46)).heap.size = w.heap.size + 1 := by simp
    have s2 : ((w.alloc (.cells #[.int .i64 c.f0, .slice A c.f1.length n, .int .i64 c.f2, .int .u64 c.f3, .string c.f4, .int .u64 c.f5] 46)).alloc (.cells #[.int .u32 x.f0, .int .u32 x.f1, .int .u64 x.f2, .int .u64 x.f3.f0, .int .u64 x.f3.f1, .int .u64 x.f3.f2, .int .u64 x.f3.f3, .int .u64 x.f3.f4, .int .u64 x.f3.f5] 49)).heap.size = w.heap.size + 1 + 1 := by simp
    have hc1 := heap_alloc_new w (.cells #[.int .i64 c.f0, .slice A c.f1.length n, .int .i64 c.f2, .int .u64 c.f3, .string c.f4, .int .u64 c.f5] 46)
    have hx1 := heap_alloc_new (w.alloc (.cells #[.int .i64 c.f0, .slice A c.f1.length n, .int .i64 c.f2, .int .u64 c.f3, .string c.f4, .int .u64 c.f5] 46)) (.cells #[.int .u32 x.f0, .int .u32 x.f1, .int .u64 x.f2, .int .u64 x.f3.f0, .int .u64 x.f3.f1, .int .u64 x.f3.f2, .int .u64 x.f3.f3, .int .u64 x.f3.f4, .int .u64 x.f3.f5] 49)
    have hd1 := heap_alloc_new ((w.alloc (.cells #[.int .i64 c.f0, .slice A c.f1.length n, .int .i64 c.f2, .int .u64 c.f3, .string c.f4, .int .u64 c.f5] 46)).alloc (.cells #[.int .u32 x.f0, .int .u32 x.f1, .int .u64 x.f2, .int .u64 x.f3.f0, .int .u64 x.f3.f1, .int .u64 x.f3.f2, .int .u64 x.f3.f3, .int .u64 x.f3.f4, .int .u64 x.f3.f5] 49)) (.cells #[.func (.func 121) #[] #[.pointer (some ⟨w.heap.size + 1, 0, none⟩)]] 52)
    rw [s1] at hx1
    rw [s2] at hd1
    have hc2 := (Below.heap_alloc (w.alloc (.cells #[.int .i64 c.f0, .slice A c.f1.length n, .int .i64 c.f2, .int .u64 c.f3, .string c.f4, .int .u64 c.f5] 46)) (.cells #[.int .u32 x.f0, .int .u32 x.f1, .int .u64 x.f2, .int .u64 x.f3.f0, .int .u64 x.f3.f1, .int .u64 x.f3.f2, .int .u64 x.f3.f3, .int .u64 x.f3.f4, .int .u64 x.f3.f5] 49) w.heap.size (by rw [s1]; omega)).trans hc1
    have hc3 := (Below.heap_alloc ((w.alloc (.cells #[.int .i64 c.f0, .slice A c.f1.length n, .int .i64 c.f2, .int .u64 c.f3, .string c.f4, .int .u64 c.f5] 46)).alloc (.cells #[.int .u32 x.f0, .int .u32 x.f1, .int .u64 x.f2, .int .u64 x.f3.f0, .int .u64 x.f3.f1, .int .u64 x.f3.f2, .int .u64 x.f3.f3, .int .u64 x.f3.f4, .int .u64 x.f3.f5] 49)) (.cells #[.func (.func 121) #[] #[.pointer (some ⟨w.heap.size + 1, 0, none⟩)]] 52) w.heap.size (by rw [s2]; omega)).trans hc2
    have hx2 := (Below.heap_alloc ((w.alloc (.cells #[.int .i64 c.f0, .slice A c.f1.length n, .int .i64 c.f2, .int .u64 c.f3, .string c.f4, .int .u64 c.f5] 46)).alloc (.cells #[.int .u32 x.f0, .int .u32 x.f1, .int .u64 x.f2, .int .u64 x.f3.f0, .int .u64 x.f3.f1, .int .u64 x.f3.f2, .int .u64 x.f3.f3, .int .u64 x.f3.f4, .int .u64 x.f3.f5] 49)) (.cells #[.func (.func 121) #[] #[.pointer (some ⟨w.heap.size + 1, 0, none⟩)]] 52) (w.heap.size + 1) (by rw [s2]; omega)).trans hx1
    have hC1 := Kd.C_below hC hb
    clear hc1 hc2 hx1 hC hf hL ih
    have HNE := amk (one_kids ho)
    have HT := amk (one_test ho)
    have HS := amk hsem
    have HLEN := amk (show c.f1.length ≤ 1000000 by omega)
    clear ho hsem e1 e2 h s1 s2
    go_enter Try.func89, Try.ntmps89
    go_upto_region 2 with (fail)
    generalize ((w.alloc (.cells #[.int .i64 c.f0, .slice A c.f1.length n, .int .i64 c.f2, .int .u64 c.f3, .string c.f4, .int .u64 c.f5] 46)).alloc (.cells #[.int .u32 x.f0, .int .u32 x.f1, .int .u64 x.f2, .int .u64 x.f3.f0, .int .u64 x.f3.f1, .int .u64 x.f3.f2, .int .u64 x.f3.f3, .int .u64 x.f3.f4, .int .u64 x.f3.f5] 49)).alloc (.cells #[.func (.func 121) #[] #[.pointer (some ⟨w.heap.size + 1, 0, none⟩)]] 52) = W at *
    have k0 := blk_cell hc3 0
    have k1 := blk_cell hc3 1
    have kd := blk_cell hd1 0
    have HB := amk hb
    have HC := amk hC1
    have HX := amk hx2
    have HCC := amk hc3
    have HD := amk hd1
    have HK := amk hkid
    have HN := amk hn
    clear hb hC1 hx2 hc3 hd1 hkid hn
    by_cases h4 : c.f0 = 4
    · have d4 : (c.f0 == 4) = true := by simpa using h4
      obtain ⟨g0, g6, gs⟩ := HT.out h4
      have hs' : c.f4.toList ∈ signs := by unfold signOk at gs; exact List.contains_iff_mem.1 gs
      have S5 := amk (fun (W' : World) (hc : W'.heap[w.heap.size]? = some (.cells #[.int .i64 c.f0, .slice A c.f1.length n, .int .i64 c.f2, .int .u64 c.f3, .string c.f4, .int .u64 c.f5] 46 (0, 0))) (hx : W'.heap[w.heap.size + 1]? = some (.cells #[.int .u32 x.f0, .int .u32 x.f1, .int .u64 x.f2, .int .u64 x.f3.f0, .int .u64 x.f3.f1, .int .u64 x.f3.f2, .int .u64 x.f3.f3, .int .u64 x.f3.f4, .int .u64 x.f3.f5] 49 (0, 0))) => (show W'.cell? ⟨w.heap.size, 4, none⟩ = some (.string c.f4) ∧ W'.cell? ⟨w.heap.size, 2, none⟩ = some (.int .i64 c.f2) ∧ W'.cell? ⟨w.heap.size, 3, none⟩ = some (.int .u64 c.f3) ∧ W'.cell? ⟨w.heap.size, 5, none⟩ = some (.int .u64 c.f5) ∧ W'.cell? ⟨w.heap.size + 1, 3 + c.f2.toNat, none⟩ = some (.int .u64 (argAt x.f3 c.f2)) from ⟨blk_cell hc 4, blk_cell hc 2, blk_cell hc 3, blk_cell hc 5, by
        have hi6 : c.f2 = 0 ∨ c.f2 = 1 ∨ c.f2 = 2 ∨ c.f2 = 3 ∨ c.f2 = 4 ∨ c.f2 = 5 := by omega
        unfold argAt
        rcases hi6 with e | e | e | e | e | e <;> rw [e] <;> exact blk_cell hx _⟩))
      have HE := amk (show signB c.f4.toList (bits BinOp.and IntKind.u64 (argAt x.f3 c.f2) c.f3) c.f5 = semB x c from by rw [HS.out, if_pos h4]; rfl)
      have HQ := amk (ask_c c.f4.toList hs' (bits BinOp.and IntKind.u64 (argAt x.f3 c.f2) c.f3) c.f5)
      have hkey : keyOf Try.prog 9 (.string c.f4) = some (.string c.f4.toList) := by
        have hz : c.f4.size ≤ 2 := by
          rw [ByteArray.toList_eq] at hs'
          have e : c.f4.data.toList.length = c.f4.size := by rw [Array.length_toList]; rfl
          rw [← e]
          generalize c.f4.data.toList = q at hs'
          unfold signs at hs'
          simp only [List.mem_cons, List.not_mem_nil, or_false] at hs'
          rcases hs' with rfl | rfl | rfl | rfl | rfl | rfl <;> decide
        rw [ByteArray.toList_eq]
        exact HAct.keyS c.f4 (by unfold maxLen; omega)
      have HL := amk (fun (W' : World) (b : Nat) (hM : MapV Try.prog 9 W' b 6 askL) => (MapV.look0 hM (t := 162) (e := 161) HAct.keyed9 Try.underlying162 (zero161 W') hkey).trans (by rw [askL_sign _ hs']; rfl : _ = Result.ok (fnV (fnOf c.f4.toList)) W'))
      have eg := eg_ask c.f4.toList hs'
      generalize argAt x.f3 c.f2 = a at *
      generalize fnOf c.f4.toList = fn at *
      generalize signB c.f4.toList (bits BinOp.and IntKind.u64 a c.f3) c.f5 = r at *
      clear h4 HS HT HNE HK HD HC hkey gs hs'
      go_upto_region 4 with (fail)
      go_region_held3 (fun W' : World => W'.cell? ⟨w.heap.size, 4, none⟩ = some (.string c.f4) ∧ W'.cell? ⟨w.heap.size, 2, none⟩ = some (.int .i64 c.f2) ∧ W'.cell? ⟨w.heap.size, 3, none⟩ = some (.int .u64 c.f3) ∧ W'.cell? ⟨w.heap.size, 5, none⟩ = some (.int .u64 c.f5) ∧ W'.cell? ⟨w.heap.size + 1, 3 + c.f2.toNat, none⟩ = some (.int .u64 a)) (first | exact S5.out _ HC1.out HX1.out | exact S5.out _ HCC.out HX.out) (first | (go_at_call 122; (with_reducible refine (asks_c _).mono ?_); rintro e w1 ⟨b, rfl, hM, hb1⟩; have HB1 := amk (below_step (below_drew HB.out) hb1); have hl := HL.out w1 b hM; have HC1 := amk ((hb1.block w.heap.size (blk_lt HCC.out)).trans HCC.out); have HX1 := amk ((hb1.block (w.heap.size + 1) (blk_lt HX.out)).trans HX.out); clear hb1 hM) | (go_at_fn fn; (with_reducible refine (HQ.out _).mono ?_); rintro e w2 ⟨rfl, hb2⟩; have HB2 := amk (below_step HB1.out hb2); have HC1 := amk ((hb2.block w.heap.size (blk_lt HC1.out)).trans HC1.out); have HX1 := amk ((hb2.block (w.heap.size + 1) (blk_lt HX1.out)).trans HX1.out); clear hb2))
      all_goals go_wp2
      all_goals go_ret
      all_goals exact ⟨congrArg (fun b : Bool => Ending.returned (.bool b)) HE.out, HB2.out⟩
    · have d4 : (c.f0 == 4) = false := by simpa using h4
      by_cases h1 : c.f0 = 1
      · have d1 : (c.f0 == 1) = true := by simpa using h1
        have HE := amk (show (!c.f1.any fun k => !semB x k) = semB x c from by rw [HS.out, if_neg h4, if_pos h1, any_not])
        have HQ := amk (contains_c (g := 124) (lb := #[.pointer (some ⟨w.heap.size + 1 + 1, 0, none⟩)]) (fun k => !semB x k) eg124 A n c.f1 W HC.out HLEN.out (fun W2 k A2 n2 hk hW hC2 hn2 => not_c (HK.out k hk) A2 n2 W2 ((hW.block _ (blk_lt HX.out)).trans HX.out) ((hW.block _ (blk_lt HD.out)).trans HD.out) hC2 hn2))
        clear h4 h1 HS HT HNE HK HX HD HCC HC
        go_wp2_with (go_at_call 123; refine HQ.out.mono ?_; rintro e w1 ⟨rfl, hb1⟩; have HB1 := amk (below_step HB.out hb1); clear hb1)
        go_ret
        exact ⟨congrArg (fun b : Bool => Ending.returned (.bool b)) HE.out, HB1.out⟩
      · have d1 : (c.f0 == 1) = false := by simpa using h1
        by_cases h3 : c.f0 = 3
        · have d3 : (c.f0 == 3) = true := by simpa using h3
          have hl1 : c.f1.length = 1 := (HNE.out h4).2 h3
          obtain ⟨ad, A1, n1, hA, hx0, hx1, hx2, hx3, hx4, hx5, hn1, hC1⟩ := at_T46 HC.out 0 (by omega) (by omega)
          have hmem : rd_T46 c.f1 (0 : Int) ∈ c.f1 := by
            have := rd46 c.f1 0 (by omega)
            rw [show ((0 : Nat) : Int) = 0 from rfl] at this
            rw [this]; exact List.getElem_mem _
          have HE := amk (show (!semB x (rd_T46 c.f1 (0 : Int))) = semB x c from by
            rw [HS.out, if_neg h4, if_neg h1, if_pos h3]
            obtain ⟨d, e⟩ := List.length_eq_one_iff.1 hl1
            rw [e, semO, semO, Bool.or_false]; rfl)
          have HQ := amk (fun (W' : World) (hW : Below W.heap.size W W') => does_c (HK.out _ hmem) A1 n1 W' ((hW.block _ (blk_lt HX.out)).trans HX.out) (Kd.C_below hC1 hW) hn1)
          simp only [Int.toNat_zero, Nat.zero_mul, Addr.add_zero'] at hx0 hx1 hx2 hx3 hx4 hx5
          have hi1 : (0 : Int) < (c.f1.length : Int) := by omega
          clear hmem hC1 hn1 h4 h1 h3 HS HT HNE HK HX HD HCC HC
          subst hA
          generalize rd_T46 c.f1 (0 : Int) = y at *
          go_upto_region 8 with (fail)
          go_region_with (go_at_call 121; refine (HQ.out _ (by first | exact below_drew (Below.refl _ _) | exact Below.refl _ _)).mono ?_; rintro e w1 ⟨rfl, hb1⟩; have HB1 := amk (below_step (below_drew HB.out) hb1); clear hb1)
          all_goals go_wp2
          all_goals go_ret
          all_goals exact ⟨congrArg (fun b : Bool => Ending.returned (.bool b)) HE.out, HB1.out⟩
        · have d3 : (c.f0 == 3) = false := by simpa using h3
          have HE := amk (show (c.f1.any fun k => semB x k) = semB x c from by rw [HS.out, if_neg h4, if_neg h1, if_neg h3, semO_any])
          have HQ := amk (contains_c (g := 121) (lb := #[.pointer (some ⟨w.heap.size + 1, 0, none⟩)]) (fun k => semB x k) eg121 A n c.f1 W HC.out HLEN.out (fun W2 k A2 n2 hk hW hC2 hn2 => does_c (HK.out k hk) A2 n2 W2 ((hW.block _ (blk_lt HX.out)).trans HX.out) hC2 hn2))
          clear h4 h1 h3 HS HT HNE HK HX HD HCC HC
          go_wp2_with (go_at_call 123; refine HQ.out.mono ?_; rintro e w1 ⟨rfl, hb1⟩; have HB1 := amk (below_step HB.out hb1); clear hb1)
          go_ret
          exact ⟨congrArg (fun b : Bool => Ending.returned (.bool b)) HE.out, HB1.out⟩
def mean_holds.f (a0_0 : Int) (l0_1 : List (S46)) (a0_2 : Int) (a0_3 : Int) (a0_4 : ByteArray) (a0_5 : Int) (a1_0 a1_1 a1_2 a1_3 a1_4 a1_5 a1_6 a1_7 a1_8 : Int) : Option (Bool) :=
  if (fitsB ⟨a0_0, l0_1, a0_2, a0_3, a0_4, a0_5⟩ && decide (nodes ⟨a0_0, l0_1, a0_2, a0_3, a0_4, a0_5⟩ ≤ 1000)) = true then some (semB ⟨a1_0, a1_1, a1_2, ⟨a1_3, a1_4, a1_5, a1_6, a1_7, a1_8⟩⟩ ⟨a0_0, l0_1, a0_2, a0_3, a0_4, a0_5⟩) else none
theorem mean_holds.calls (a0_0 : Int) (A0_1 : Option Addr) (c0_1 : Nat) (l0_1 : List (S46)) (a0_2 : Int) (a0_3 : Int) (a0_4 : ByteArray) (a0_5 : Int) (a1_0 a1_1 a1_2 a1_3 a1_4 a1_5 a1_6 a1_7 a1_8 : Int) (r : Bool) (w : World) (hr0_1 : Kd.C k46 w A0_1 l0_1.length l0_1) (hc0_1 : l0_1.length ≤ c0_1) (h : mean_holds.f a0_0 l0_1 a0_2 a0_3 a0_4 a0_5 a1_0 a1_1 a1_2 a1_3 a1_4 a1_5 a1_6 a1_7 a1_8 = some r) :
    Calls Try.prog 89 #[.agg #[.int .i64 a0_0, .slice A0_1 l0_1.length c0_1, .int .i64 a0_2, .int .u64 a0_3, .string a0_4, .int .u64 a0_5], .agg #[.int .u32 a1_0, .int .u32 a1_1, .int .u64 a1_2, .int .u64 a1_3, .int .u64 a1_4, .int .u64 a1_5, .int .u64 a1_6, .int .u64 a1_7, .int .u64 a1_8]] w fun e w' => e = .returned (.bool r) ∧ Below w.heap.size w w' := by
  unfold mean_holds.f at h
  split at h
  · rename_i hc
    rw [Bool.and_eq_true, decide_eq_true_eq] at hc
    have h2 := holds_c ⟨a1_0, a1_1, a1_2, ⟨a1_3, a1_4, a1_5, a1_6, a1_7, a1_8⟩⟩ _ hc.2 ⟨a0_0, l0_1, a0_2, a0_3, a0_4, a0_5⟩ (Nat.le_refl _) hc.1 A0_1 c0_1 w hr0_1 hc0_1
    rw [Option.some.inj h] at h2
    exact h2
  · cases h
end Go.Proofs.Ytoeklekjhaigoaa.HMean
end
section
namespace Go.Proofs.Ytoeklekjhaigoaa.M2
open Go.Proofs.Ytoeklekjhaigoaa.Al Go.RowKit Go.Proofs.YtoeklekjhaigoaaW.PrintWords Go.Proofs.YtoeklekjhaigoaaW.PrintLast Go.Proofs.YtoeklekjhaigoaaW.PrintMore
attribute [local go_sem] max2_int min2_int max_two min_two max_three min_three max_four min_four IntKind.wrap_u32 IntKind.wrap_u8   -- for this text's walks alone
set_option linter.unusedVariables false
open Go.Proofs.Ytoeklekjhaigoaa.Le Go.Proofs.Ytoeklekjhaigoaa.C1 Go.Proofs.Ytoeklekjhaigoaa.C2 Go.Proofs.Ytoeklekjhaigoaa.HAct Go.Proofs.Ytoeklekjhaigoaa.W0 Go.Proofs.Ytoeklekjhaigoaa.HFrom Go.Proofs.Ytoeklekjhaigoaa.W1 Go.Proofs.Ytoeklekjhaigoaa.R01 Go.Proofs.Ytoeklekjhaigoaa.HPack Go.Proofs.Ytoeklekjhaigoaa.HUnpack Go.Proofs.Ytoeklekjhaigoaa.HRefPack Go.Proofs.Ytoeklekjhaigoaa.M0 Go.Proofs.Ytoeklekjhaigoaa.HMany Go.Proofs.Ytoeklekjhaigoaa.HCount Go.Proofs.Ytoeklekjhaigoaa.M1 Go.Proofs.Ytoeklekjhaigoaa.HMean
set_option linter.unusedSimpArgs false
def errW : Option Int → Value
  | none => .nilIface
  | some c => .iface 0 (.int .i64 c)
theorem errW_none : errW none = .nilIface := rfl
theorem errW_some (c : Int) : errW (some c) = .iface 0 (.int .i64 c) := rfl
end Go.Proofs.Ytoeklekjhaigoaa.M2
end
