/- CheckRuns: a filter that may be never goes wrong: it returns on any record, within as many steps as it has instructions. -/
import Derived.Test.YtefkhcijgiagdaaProg
import Derived.Below
import Derived.Deep.Draws
import Derived.Deep.AppendLies
import Derived.Maps.AppendAt
import Derived.OwnWalk
import Derived.Laws.BytesArg
import Derived.Laws.MakeOwn
import Derived.Laws.OwnMore
import Derived.Deep.OwnRows
import Derived.Tactics
import Derived.Lib.ConvBytes
import Derived.Laws.Slices
import Derived.WalkKit
import Derived.KernelRfl
import Derived.RowKit3
import Derived.Deep.LoopGhost
import Derived.Deep.QuietTactic
import Derived.BigQuiet
import Derived.WideLaws
import Derived.Deep.DeepCutAuto
import Derived.Deep.CutBlock
import Derived.Deep.RegionHeld3
import Derived.Laws.Rows
import Derived.Lib.AppendStr
import Derived.ArgAppend
import Derived.Laws.IdiomCopy
import Derived.OrdersHeld
import Derived.Laws.BitsLemmas
import Derived.RowKit
import Derived.Test.YtefkhcijgiagdaaWWords
import Derived.Test.YtefkhcijgiagdaaWLast
import Derived.Test.YtefkhcijgiagdaaWTab
import Derived.Test.YtefkhcijgiagdaaWFour
import Derived.Test.YtefkhcijgiagdaaWQPut
import Derived.Test.YtefkhcijgiagdaaWApart
import Derived.Test.YtefkhcijgiagdaaWArr
import Derived.Test.YtefkhcijgiagdaaWZeros
import Derived.Test.YtefkhcijgiagdaaWFoot
import Derived.Test.YtefkhcijgiagdaaWKept
import Derived.Test.YtefkhcijgiagdaaWShare
import Derived.Test.YtefkhcijgiagdaaWN
import Derived.Test.YtefkhcijgiagdaaWFootNe
import Derived.Test.YtefkhcijgiagdaaWAt
import Derived.Test.YtefkhcijgiagdaaWEqStruct
import Derived.Test.YtefkhcijgiagdaaWRepsOne
import Derived.Test.YtefkhcijgiagdaaWInv
import Derived.Test.YtefkhcijgiagdaaWInvWords
import Derived.Test.YtefkhcijgiagdaaWGuard
import Derived.Test.YtefkhcijgiagdaaWNEv
import Derived.Test.YtefkhcijgiagdaaWMore
import Derived.Laws.Tables
import Derived.Laws.CopyOwn
import Derived.Deep.WholeRow
import Derived.ChangeKeysEq
import Derived.Shelf.Abstract
import Derived.Deep.RegionLaw
import Derived.Maps.OwnSet
import Derived.Shelf.Strings.BuilderK
import Derived.Laws.Externs
import Derived.Laws.EntriesVeiled
import Derived.WalkSpells
import Derived.Deep.RegionLawGrows
import Derived.StillTailTactics
import Derived.DataReads
import Derived.DataElems
import Derived.SizedLaws
import Derived.ProofKit
import Derived.Test.YtefkhcijgiagdaaRows
import Derived.Test.YtefkhcijgiagdaaOrder
import Derived.OpenShut
import Derived.ShutString
import Derived.ChangeOld
section
namespace Go.Proofs.Ytefkhcijgiagdaa.Le
open Go.RowKit Go.Proofs.YtefkhcijgiagdaaW.PrintWords Go.Proofs.YtefkhcijgiagdaaW.PrintLast Go.Proofs.YtefkhcijgiagdaaW.PrintMore
attribute [local go_sem] max2_int min2_int max_two min_two max_three min_three max_four min_four IntKind.wrap_u32 IntKind.wrap_u8   -- for this text's walks alone
set_option linter.unusedVariables false
set_option linter.unusedSimpArgs false
def errW : Option Int → Value
  | none => .nilIface
  | some c => .iface 0 (.int .i64 c)
theorem errW_none : errW none = .nilIface := rfl
theorem errW_some (c : Int) : errW (some c) = .iface 0 (.int .i64 c) := rfl
end Go.Proofs.Ytefkhcijgiagdaa.Le
end
section
namespace Go.Proofs.Ytefkhcijgiagdaa.Le
open Go.RowKit Go.Proofs.YtefkhcijgiagdaaW.PrintWords Go.Proofs.YtefkhcijgiagdaaW.PrintLast Go.Proofs.YtefkhcijgiagdaaW.PrintMore
attribute [local go_sem] max2_int min2_int max_two min_two max_three min_three max_four min_four IntKind.wrap_u32 IntKind.wrap_u8   -- for this text's walks alone
set_option linter.unusedVariables false
set_option linter.unusedSimpArgs false
mutual
def le_Get.j0 : Nat → ByteArray → Int → Int → Bool → Option (Int × Int × Int)
  | 0, _, _, _, _ => none
  | k + 1, x0, x1, x2, x11 => if x11 = true then (some (0, 0, 1)) else (if x1 > (x0.size : Int) then (some (0, 0, 3)) else (if (wrap64 ((x0.size : Int) - x1)) < x2 then (some (0, 0, 3)) else (le_Get.l0 k x0 x1 x2 0 x2 0)))
def le_Get.l0 : Nat → ByteArray → Int → Int → Int → Int → Int → Option (Int × Int × Int)
  | 0, _, _, _, _, _, _ => none
  | k + 1, x0, x1, x2, x9, x35, x36 => if x36 < x35 then (if 0 ≤ (wrap64 (x1 + x36)) then (if (wrap64 (x1 + x36)) < (x0.size : Int) then (if 0 ≤ (wrap64 (8 * x36)) then (le_Get.l0 k x0 x1 x2 (Go.bits .or .u64 x9 (shl .u64 (IntKind.u64.wrap (bt x0 (wrap64 (x1 + x36)))) (wrap64 (8 * x36)))) x35 (wrap64 (x36 + 1))) else (none)) else (none)) else (none)) else (some (x9, wrap64 (x1 + x2), 0))
end
def le_Get.f (k : Nat) (a0 : ByteArray) (a1 : Int) (a2 : Int) : Option (Int × Int × Int) := if a2 < 1 then (le_Get.j0 k a0 a1 a2 true) else (if a2 > 8 then (le_Get.j0 k a0 a1 a2 true) else (le_Get.j0 k a0 a1 a2 (decide (a1 < 0))))
set_option maxHeartbeats 8000000 in
set_option maxRecDepth 100000 in
theorem le_Get.calls (k : Nat) (a0 : ByteArray) (a1 : Int) (a2 : Int) (r1 : Int) (r2 : Int) (r3 : Int) (w : World) (h : le_Get.f k a0 a1 a2 = some (r1, r2, r3)) :
    Calls Try.prog 91 #[.string a0, .int .i64 a1, .int .i64 a2] w fun e w' => e = .returned (.tuple #[.int .u64 r1, .int .i64 r2, .int .i64 r3]) ∧ Drawn0 w w' := by
  have H : (if a2 < 1 then (le_Get.j0 k a0 a1 a2 true) else (if a2 > 8 then (le_Get.j0 k a0 a1 a2 true) else (le_Get.j0 k a0 a1 a2 (decide (a1 < 0))))) = some (r1, r2, r3) := h
  clear h
  have HC4 := Aside0.mk H
  clear H
  go_enter Try.func91, Try.ntmps91
  go_upto_region 1 with (fail)
  go_cut [11] (fun v11 wc => ∃ (kq : Nat) (x11_3 : Bool), v11 = .bool x11_3 ∧ Aside0 (le_Get.j0 kq a0 a1 a2 x11_3 = some (r1, r2, r3)) ∧ Aside0 (kq ≤ k) ∧ Drawn0 w wc)
  case first =>
    have H := HC4.out
    clear HC4
    by_cases c5 : a2 < 1
    · rw [if_pos c5] at H
      have c5b0 : decide (a2 < 1) = true := decide_eq_true c5
      clear c5
      (first | rw [c5b0] | (simp only [i64_w, i32_w]; rw [c5b0]) | skip)
      have H' := Aside0.mk H
      clear H
      go_wp2
      go_meet
      case rel => exact ⟨_, (true), (by first | rfl | (simp; done) | (simp [*]; done)), H', ⟨by first | omega | exact Nat.le_refl _⟩, by repeat (first | exact Drawn0.refl _ | apply Drawn0.step)⟩
    · rw [if_neg c5] at H
      have c5b0 : decide (a2 < 1) = false := decide_eq_false c5
      clear c5
      (first | rw [c5b0] | (simp only [i64_w, i32_w]; rw [c5b0]) | skip)
      by_cases c6 : a2 > 8
      · rw [if_pos c6] at H
        have c6b0 : decide (8 < a2) = true := decide_eq_true c6
        clear c6
        have H' := Aside0.mk H
        clear H
        go_wp2
        go_meet
        case rel => exact ⟨_, (true), (by first | rfl | (simp; done) | (simp [*]; done)), H', ⟨by first | omega | exact Nat.le_refl _⟩, by repeat (first | exact Drawn0.refl _ | apply Drawn0.step)⟩
      · rw [if_neg c6] at H
        have c6b0 : decide (8 < a2) = false := decide_eq_false c6
        clear c6
        have H' := Aside0.mk H
        clear H
        go_wp2
        go_meet
        case rel => exact ⟨_, (decide (a1 < 0)), (by first | rfl | (simp; done) | (simp [*]; done)), H', ⟨by first | omega | exact Nat.le_refl _⟩, by repeat (first | exact Drawn0.refl _ | apply Drawn0.step)⟩
  case rest =>
    clear HC4
    try clear p2
    try clear c5
    try clear c5b0
    try clear c6
    try clear c6b0
    obtain ⟨kq, x11_3, rfl, HA, HJ3, ⟨mc3, rfl⟩⟩ := hcut
    cases kq with
    | zero => exact absurd HA.out (by simp [le_Get.j0])
    | succ kj3 =>
      have H := HA.out
      clear HA
      simp only [le_Get.j0] at H
      by_cases c7 : x11_3 = true
      · subst c7
        have H1 : (some (0, 0, 1)) = some (r1, r2, r3) := by rw [if_pos rfl] at H; exact H
        clear H
        have H := H1
        clear H1
        simp only [Option.some.injEq, Prod.mk.injEq] at H
        obtain ⟨rfl, rfl, rfl⟩ := H
        go_wp2
        go_ret3
        exact ⟨by first | rfl | (simp; done) | (simp [*]; done), by repeat (first | exact Drawn0.refl _ | apply Drawn0.step)⟩
      · replace c7 := Bool.eq_false_iff.mpr c7
        subst c7
        have H1 : (if a1 > (a0.size : Int) then (some (0, 0, 3)) else (if (wrap64 ((a0.size : Int) - a1)) < a2 then (some (0, 0, 3)) else (le_Get.l0 kj3 a0 a1 a2 0 a2 0))) = some (r1, r2, r3) := by rw [if_neg (show ¬ (false = true) by decide)] at H; exact H
        clear H
        have H := H1
        clear H1
        by_cases c8 : a1 > (a0.size : Int)
        · rw [if_pos c8] at H
          have c8b0 : decide ((a0.size : Int) < a1) = true := decide_eq_true c8
          clear c8
          simp only [Option.some.injEq, Prod.mk.injEq] at H
          obtain ⟨rfl, rfl, rfl⟩ := H
          go_wp2
          go_ret3
          exact ⟨by first | rfl | (simp; done) | (simp [*]; done), by repeat (first | exact Drawn0.refl _ | apply Drawn0.step)⟩
        · rw [if_neg c8] at H
          have c8b0 : decide ((a0.size : Int) < a1) = false := decide_eq_false c8
          clear c8
          by_cases c9 : (wrap64 ((a0.size : Int) - a1)) < a2
          · rw [if_pos c9] at H
            have c9b0 : decide ((wrap64 ((a0.size : Int) - a1)) < a2) = true := decide_eq_true c9
            clear c9
            simp only [Option.some.injEq, Prod.mk.injEq] at H
            obtain ⟨rfl, rfl, rfl⟩ := H
            go_wp2
            go_ret3
            exact ⟨by first | rfl | (simp; done) | (simp [*]; done), by repeat (first | exact Drawn0.refl _ | apply Drawn0.step)⟩
          · rw [if_neg c9] at H
            have c9b0 : decide ((wrap64 ((a0.size : Int) - a1)) < a2) = false := decide_eq_false c9
            clear c9
            have H' := Aside0.mk H
            clear H
            go_wp2
            go_loopg [9, 36] kj3 (fun kq v9 v36 w' => ∃ (x9_2 : Int) (x36_2 : Int), v9 = .int .u64 x9_2 ∧ v36 = .int .i64 x36_2 ∧ Aside0 (le_Get.l0 kq a0 a1 a2 x9_2 a2 x36_2 = some (r1, r2, r3)) ∧ Aside0 (kq ≤ kj3) ∧ Drawn0 w w')
            case atStart => exact ⟨(0), (0), (by first | rfl | (simp; done) | (simp [*]; done)), (by first | rfl | (simp; done) | (simp [*]; done)), H', ⟨Nat.le_refl _⟩, by repeat (first | exact Drawn0.refl _ | apply Drawn0.step)⟩
            case round =>
              clear H'
              try clear p2
              try clear c3
              try clear c5
              try clear c5b0
              try clear c6
              try clear c6b0
              try clear p6
              try clear c7
              try clear c8
              try clear c8b0
              try clear c9
              try clear c9b0
              try clear p2
              obtain ⟨x9_2, x36_2, rfl, rfl, HA, HK2, ⟨m2, rfl⟩⟩ := hrel
              cases gk with
              | zero => exact absurd HA.out (by simp [le_Get.l0])
              | succ k2 =>
                have H := HA.out
                clear HA
                simp only [le_Get.l0] at H
                by_cases c10 : x36_2 < a2
                · rw [if_pos c10] at H
                  have c10b0 : decide (x36_2 < a2) = true := decide_eq_true c10
                  clear c10
                  obtain ⟨ji11, hji11⟩ : ∃ j_ : Int, (wrap64 (a1 + x36_2)) = j_ := ⟨_, rfl⟩
                  replace H : (if 0 ≤ (ji11) then (if (ji11) < (a0.size : Int) then (if 0 ≤ (wrap64 (8 * x36_2)) then (le_Get.l0 k2 a0 a1 a2 (Go.bits .or .u64 x9_2 (shl .u64 (IntKind.u64.wrap (bt a0 (ji11))) (wrap64 (8 * x36_2)))) a2 (wrap64 (x36_2 + 1))) else (none)) else (none)) else (none)) = some (r1, r2, r3) := by first | (rw [hji11] at H; exact H) | (simp only [hji11] at H ⊢; exact H)
                  have hji11w : (IntKind.i64.wrap (a1 + x36_2)) = ji11 := (i64_w _).trans hji11
                  by_cases c12 : 0 ≤ (ji11)
                  · rw [if_pos c12] at H
                    have c12b0 : decide (0 ≤ (ji11)) = true := decide_eq_true c12
                    clear c12
                    by_cases c13 : (ji11) < (a0.size : Int)
                    · rw [if_pos c13] at H
                      have c13b0 : decide ((ji11) < (a0.size : Int)) = true := decide_eq_true c13
                      clear c13
                      obtain ⟨ji15, hji15⟩ : ∃ j_ : Int, (wrap64 (8 * x36_2)) = j_ := ⟨_, rfl⟩
                      replace H : (if 0 ≤ (ji15) then (le_Get.l0 k2 a0 a1 a2 (Go.bits .or .u64 x9_2 (shl .u64 (IntKind.u64.wrap (bt a0 (ji11))) (ji15))) a2 (wrap64 (x36_2 + 1))) else (none)) = some (r1, r2, r3) := by first | (rw [hji15] at H; exact H) | (simp only [hji15] at H ⊢; exact H)
                      have hji15w : (IntKind.i64.wrap (8 * x36_2)) = ji15 := (i64_w _).trans hji15
                      by_cases c16 : 0 ≤ (ji15)
                      · rw [if_pos c16] at H
                        have c16b0 := eq_true c16
                        have c16b1 : decide (0 ≤ (ji15)) = true := decide_eq_true c16
                        clear c16
                        obtain ⟨ji17, hji17⟩ : ∃ j_ : Int, (shl .u64 (IntKind.u64.wrap (bt a0 (ji11))) (ji15)) = j_ := ⟨_, rfl⟩
                        replace H : (le_Get.l0 k2 a0 a1 a2 (Go.bits .or .u64 x9_2 (ji17)) a2 (wrap64 (x36_2 + 1))) = some (r1, r2, r3) := by first | (rw [hji17] at H; exact H) | (simp only [hji17] at H ⊢; exact H)
                        have hji17_ : (IntKind.u64.wrap ((IntKind.u64.wrap (bt a0 (ji11))) * 2 ^ min (ji15).toNat 64)) = ji17 := hji17
                        have hji17z : (ji15) ≤ 64 → (IntKind.u64.wrap ((IntKind.u64.wrap (bt a0 (ji11))) * 2 ^ (ji15).toNat)) = ji17 := shl_small hji17
                        have H' := Aside0.mk H
                        clear H
                        have p14 : 0 ≤ ((ji11) : Int) := of_decide_eq_true (by first | (with_reducible assumption) | assumption)
                        have q14 : (ji11) < (a0.size : Int) := of_decide_eq_true (by first | (with_reducible assumption) | assumption)
                        have hx14 := bt_at a0 (ji11)
                        replace p14 := eq_true p14
                        replace q14 := eq_true q14
                        go_wp2
                        go_roundg k2
                        case measure => have := HJ3.out; have := HK2.out; omega
                        case rel => exact ⟨(Go.bits .or .u64 x9_2 (ji17)), (wrap64 (x36_2 + 1)), (by first | rfl | (simp; done) | (simp only [← hji17] <;> (first | rfl | simp)) | (simp [*]; done)), (by first | rfl | (simp; done) | (simp [*]; done)), H', ⟨by have := HJ3.out; have := HK2.out; omega⟩, by repeat (first | exact Drawn0.refl _ | apply Drawn0.step)⟩
                      · rw [if_neg c16] at H
                        exact absurd H (by simp)
                    · rw [if_neg c13] at H
                      exact absurd H (by simp)
                  · rw [if_neg c12] at H
                    exact absurd H (by simp)
                · rw [if_neg c10] at H
                  have c10b0 : decide (x36_2 < a2) = false := decide_eq_false c10
                  clear c10
                  simp only [Option.some.injEq, Prod.mk.injEq] at H
                  obtain ⟨rfl, rfl, rfl⟩ := H
                  go_wp2
                  go_ret3
                  exact ⟨by first | rfl | (simp; done) | (simp [*]; done), by repeat (first | exact Drawn0.refl _ | apply Drawn0.step)⟩
end Go.Proofs.Ytefkhcijgiagdaa.Le
end
section
namespace Go.Proofs.Ytefkhcijgiagdaa.QLe
open Go.RowKit Go.Proofs.YtefkhcijgiagdaaW.PrintWords Go.Proofs.YtefkhcijgiagdaaW.PrintLast Go.Proofs.YtefkhcijgiagdaaW.PrintMore Go.Proofs.Ytefkhcijgiagdaa.Le
set_option linter.unusedVariables false
set_option linter.unusedSimpArgs false
def leval (s : ByteArray) (p : Int) : Nat → Int
  | 0 => 0
  | j + 1 => leval s p j + bt s (p + j) * 256 ^ j
theorem pow256 (j : Nat) : (0 : Int) < 256 ^ j := Int.pow_pos (by decide)
theorem p7 (i : Nat) (h : i < 8) : (256 : Int) ^ i ≤ 72057594037927936 := by
  match i, h with
  | 0, _ | 1, _ | 2, _ | 3, _ | 4, _ | 5, _ | 6, _ | 7, _ => decide
theorem leval_range (s : ByteArray) (p : Int) (j : Nat) : 0 ≤ leval s p j ∧ leval s p j < 256 ^ j := by
  induction j with
  | zero => simp [leval]
  | succ j ih =>
    have hb := bt_range s (p + j)
    have hp := pow256 j
    have h1 : bt s (p + j) * 256 ^ j ≤ 255 * 256 ^ j := Int.mul_le_mul_of_nonneg_right hb.2 (Int.le_of_lt hp)
    have h2 : 0 ≤ bt s (p + j) * 256 ^ j := Int.mul_nonneg hb.1 (Int.le_of_lt hp)
    have h3 : (256 : Int) ^ (j + 1) = 256 ^ j * 256 := Int.pow_succ ..
    simp only [leval]
    omega
theorem w64 (x : Int) (h : -9223372036854775808 ≤ x) (h2 : x ≤ 9223372036854775807) : wrap64 x = x := by unfold wrap64; omega
theorem u64_small (x : Int) (h0 : 0 ≤ x) (h1 : x < 18446744073709551616) : IntKind.u64.wrap x = x := by
  have e : IntKind.u64.wrap x = x % 18446744073709551616 := rfl
  rw [e]; exact Int.emod_eq_of_lt h0 h1
theorem or_low (i : Nat) (x y : Int) (hx0 : 0 ≤ x) (hx : x < 2 ^ i) (hy0 : 0 ≤ y) (hy : y % 2 ^ i = 0) (hx1 : x < 2 ^ 64) (hy1 : y < 2 ^ 64) : Go.bits .or .u64 x y = x + y := by
  have hw : ∀ n : Int, 0 ≤ n → n < 2 ^ 64 → IntKind.u64.wrap n = n := by
    intro n a b
    exact u64_small n a (by have e64 : (2 : Int) ^ 64 = 18446744073709551616 := by decide
                            omega)
  have h := Go.bits_join .u64 64 (by decide) hw i y x hy0 hy hy1 hx0 hx hx1
  have hc : Go.bits .or .u64 x y = Go.bits .or .u64 y x := by
    simp only [Go.bits]
    rw [BitVec.or_comm]
  rw [hc, h]; omega
theorem pow_shift (i : Nat) : (2 : Int) ^ (8 * i) = 256 ^ i := by rw [Int.pow_mul]; rfl
theorem shl_byte (c : Int) (i : Nat) (h0 : 0 ≤ c) (h1 : c ≤ 255) (hi : i < 8) : shl .u64 (IntKind.u64.wrap c) (wrap64 (8 * (i : Int))) = c * 256 ^ i := by
  have e : (wrap64 (8 * (i : Int))).toNat = 8 * i := by rw [w64 _ (by omega) (by omega)]; omega
  have hm : min (8 * i) 64 = 8 * i := by omega
  have hp := pow256 i
  have h8 := p7 i hi
  have h2 : c * 256 ^ i ≤ 255 * 256 ^ i := Int.mul_le_mul_of_nonneg_right h1 (Int.le_of_lt hp)
  have h3 : 0 ≤ c * 256 ^ i := Int.mul_nonneg h0 (Int.le_of_lt hp)
  unfold shl
  rw [u64_small c h0 (by omega), e, show IntKind.u64.bits = 64 from rfl, hm, pow_shift, u64_small _ h3 (by omega)]
theorem get_loop (s : ByteArray) (p : Int) (sz : Nat) (hp : 0 ≤ p) (hs : p + sz ≤ s.size) (hz : s.size ≤ 4611686018427387904) (h8 : sz ≤ 8) :
    ∀ d i : Nat, i + d = sz → ∀ k, d < k → le_Get.l0 k s p sz (leval s p i) sz i = some (leval s p sz, p + sz, 0) := by
  intro d
  induction d with
  | zero =>
    intro i hi k hk
    obtain ⟨k, rfl⟩ : ∃ m, k = m + 1 := ⟨k - 1, by omega⟩
    obtain rfl : i = sz := by omega
    simp only [le_Get.l0]
    rw [if_neg (by omega), w64 _ (by omega) (by omega)]
  | succ d ih =>
    intro i hi k hk
    obtain ⟨k, rfl⟩ : ∃ m, k = m + 1 := ⟨k - 1, by omega⟩
    have hb := bt_range s (p + i)
    have hl := leval_range s p i
    simp only [le_Get.l0]
    rw [if_pos (by omega), w64 (p + i) (by omega) (by omega), if_pos (by omega), if_pos (by omega), if_pos (by rw [w64 _ (by omega) (by omega)]; omega), shl_byte _ i hb.1 hb.2 (by omega), w64 ((i : Int) + 1) (by omega) (by omega)]
    have hpp := pow256 i
    have h7 := p7 i (by omega)
    have e64 : (2 : Int) ^ 64 = 18446744073709551616 := by decide
    have h1 : bt s (p + i) * 256 ^ i ≤ 255 * 256 ^ i := Int.mul_le_mul_of_nonneg_right hb.2 (Int.le_of_lt hpp)
    have h2 : 0 ≤ bt s (p + i) * 256 ^ i := Int.mul_nonneg hb.1 (Int.le_of_lt hpp)
    rw [or_low (8 * i) _ _ hl.1 (by rw [pow_shift]; exact hl.2) h2 (by rw [pow_shift]; exact Int.mul_emod_left ..) (by omega) (by omega)]
    have := ih (i + 1) (by omega) k (by omega)
    simpa [leval] using this
theorem get_ok (s : ByteArray) (p : Int) (sz : Nat) (h1 : 1 ≤ sz) (h8 : sz ≤ 8) (hp : 0 ≤ p) (hs : p + sz ≤ s.size) (hz : s.size ≤ 4611686018427387904) :
    ∀ k, 10 ≤ k → le_Get.f k s p sz = some (leval s p sz, p + sz, 0) := by
  intro k hk
  obtain ⟨k, rfl⟩ : ∃ m, k = m + 1 := ⟨k - 1, by omega⟩
  unfold le_Get.f
  rw [if_neg (by omega), if_neg (by omega), decide_eq_false (by omega)]
  simp only [le_Get.j0]
  rw [if_neg (by decide), if_neg (by omega), if_neg (by rw [w64 _ (by omega) (by omega)]; omega)]
  exact get_loop s p sz hp hs hz h8 sz 0 (by omega) k (by omega)
def leB (n : Int) (sz : Nat) : List Int := (List.range sz).map fun i => n / 256 ^ i % 256
def part (n : Int) (sz i : Nat) : List Int := (List.range sz).map fun j => if j < i then n / 256 ^ j % 256 else 0
theorem bt_data (s : ByteArray) (i : Nat) (h : i < s.size) : bt s i = ((s.data.toList[i]'(by rw [Array.length_toList]; exact h)).toNat : Int) := by
  have := bt_at s (i : Int) (by simpa using h)
  rw [← this]; simp [ByteArray.getElem_eq_getElem_data]
theorem len_data (a : ByteArray) : a.data.toList.length = a.size := by rw [Array.length_toList]; rfl
end Go.Proofs.Ytefkhcijgiagdaa.QLe
end
section
namespace Go.Proofs.Ytefkhcijgiagdaa.HKnown
open Go.RowKit Go.Proofs.YtefkhcijgiagdaaW.PrintWords Go.Proofs.YtefkhcijgiagdaaW.PrintLast Go.Proofs.YtefkhcijgiagdaaW.PrintMore Go.Proofs.Ytefkhcijgiagdaa.Le Go.Proofs.Ytefkhcijgiagdaa.QLe
set_option linter.unusedVariables false
set_option linter.unusedSimpArgs false
def codes : List Nat := [32, 128, 0, 96, 1, 97, 129, 2, 3, 4, 20, 36, 52, 68, 84, 100, 116, 132, 164, 12, 28, 44, 60, 76, 92, 108, 124, 172, 5, 21, 37, 53, 69, 29, 45, 61, 77, 6, 22, 7, 135]
def arrK (k : Nat) : Array Value := ((List.range 256).map fun i => Value.bool ((codes.take k).contains i)).toArray
theorem arrK_size (k : Nat) : (arrK k).size = 256 := by simp [arrK]
theorem arrK_one (k : Nat) : (arrK k).all (·.oneCell') = true := by simp [arrK, Value.oneCell']
theorem arrK_get (k j : Nat) (h : j < 256) : (arrK k)[j]? = some (.bool ((codes.take k).contains j)) := by simp [arrK, h]
theorem codes_lt (k : Nat) (h : k < 41) : codes.getD k 0 < 256 := by
  have : ∀ k : Fin 41, codes.getD k.1 0 < 256 := by decide
  exact this ⟨k, h⟩
theorem arrK_succ (k : Nat) (h : k < 41) : (arrK k).setIfInBounds (codes.getD k 0) (.bool true) = arrK (k + 1) := by
  apply Array.ext'
  have hl : k < codes.length := h
  rw [Array.toList_setIfInBounds]
  apply List.ext_getElem
  · simp [arrK]
  · intro j h1 h2
    have hj : j < 256 := by simpa [arrK] using h2
    simp only [arrK, List.getElem_set, List.getElem_map, List.getElem_range]
    have e : (List.take (k + 1) codes).contains j = ((List.take k codes).contains j || codes[k] == j) := by
      rw [List.take_succ_eq_append_getElem hl, Bool.eq_iff_iff]
      simp only [List.contains_eq_mem, List.mem_append, List.mem_singleton, decide_eq_true_eq, Bool.or_eq_true, beq_iff_eq]
      exact or_congr_right eq_comm
    rw [e, List.getD_eq_getElem?_getD, List.getElem?_eq_getElem hl, Option.getD_some]
    by_cases hc : codes[k] = j
    · rw [if_pos hc, beq_iff_eq.mpr hc, Bool.or_true]
    · rw [if_neg hc, beq_eq_false_iff_ne.mpr hc, Bool.or_false]
theorem run_index_agg {P : Program} (t e : TypeId) (n : Nat) (d : TypeDesc) (ht : P.underlying t = some (.array n e)) (hu : P.underlying e = some d) (hd : (match d with | .struct _ | .array _ _ => true | _ => false) = false)
    (i : Nat) (inf : TypeInfo) (hi : P.info? e = some inf) (hs : inf.size = 1) (cs : Array Value) (v : Value) (hv : cs[i]? = some v) (hn : i < n) (w : World) :
    (Instr.index t (.agg cs) (.int .i64 (i : Int))).run P w = .ok v w := by
  have h1 : (sizeOf e).run P w = .ok 1 w := by rw [run_sizeOf w hi]; simp [Program.cellsOf, hi, hs]
  have h2 := run_isAgg_plain (P := P) hu hd w
  have h3 : (0 : Int) ≤ (i : Int) ∧ (i : Int) < (n : Int) := by omega
  simp [Instr.index, run_underlying ht, asIntOf, h1, h2, h3, hn, hv, part, go_sem]
set_option maxRecDepth 100000 in
set_option maxHeartbeats 1000000 in
theorem known_any (w : World) : Calls Try.prog 93 #[] w fun e w' => e = .returned (.agg (arrK 41)) ∧ Below w.heap.size w w' := by
  go_enter Try.func93, Try.ntmps93
  go_wp2
  have hix : ∀ k : Nat, k < 41 → ∀ W, (Instr.index 166 (.agg (#[Value.int .i64 32, Value.int .i64 128, Value.int .i64 0, Value.int .i64 96, Value.int .i64 1, Value.int .i64 97, Value.int .i64 129, Value.int .i64 2, Value.int .i64 3, Value.int .i64 4, Value.int .i64 20, Value.int .i64 36, Value.int .i64 52, Value.int .i64 68, Value.int .i64 84, Value.int .i64 100, Value.int .i64 116, Value.int .i64 132, Value.int .i64 164, Value.int .i64 12, Value.int .i64 28, Value.int .i64 44, Value.int .i64 60, Value.int .i64 76, Value.int .i64 92, Value.int .i64 108, Value.int .i64 124, Value.int .i64 172, Value.int .i64 5, Value.int .i64 21, Value.int .i64 37, Value.int .i64 53, Value.int .i64 69, Value.int .i64 29, Value.int .i64 45, Value.int .i64 61, Value.int .i64 77, Value.int .i64 6, Value.int .i64 22, Value.int .i64 7, Value.int .i64 135] : Array Value)) (.int .i64 (k : Int))).run Try.prog W = .ok (.int .i64 (codes.getD k 0)) W := by
    intro k hk W
    obtain ⟨inf, hi, hs⟩ : ∃ inf, Try.prog.info? 3 = some inf ∧ inf.size = 1 := ⟨_, rfl, rfl⟩
    refine run_index_agg 166 3 41 _ Try.underlying166 Try.underlying3 rfl k inf hi hs _ _ ?_ hk W
    have hE : (#[Value.int .i64 32, Value.int .i64 128, Value.int .i64 0, Value.int .i64 96, Value.int .i64 1, Value.int .i64 97, Value.int .i64 129, Value.int .i64 2, Value.int .i64 3, Value.int .i64 4, Value.int .i64 20, Value.int .i64 36, Value.int .i64 52, Value.int .i64 68, Value.int .i64 84, Value.int .i64 100, Value.int .i64 116, Value.int .i64 132, Value.int .i64 164, Value.int .i64 12, Value.int .i64 28, Value.int .i64 44, Value.int .i64 60, Value.int .i64 76, Value.int .i64 92, Value.int .i64 108, Value.int .i64 124, Value.int .i64 172, Value.int .i64 5, Value.int .i64 21, Value.int .i64 37, Value.int .i64 53, Value.int .i64 69, Value.int .i64 29, Value.int .i64 45, Value.int .i64 61, Value.int .i64 77, Value.int .i64 6, Value.int .i64 22, Value.int .i64 7, Value.int .i64 135] : Array Value) = (codes.map fun c : Nat => Value.int .i64 (c : Int)).toArray := rfl
    have hk2 : k < codes.length := hk
    rw [hE, List.getElem?_toArray, List.getElem?_map, List.getElem?_eq_getElem hk2, List.getD_eq_getElem?_getD, List.getElem?_eq_getElem hk2]; rfl
  generalize hA : (#[Value.int .i64 32, Value.int .i64 128, Value.int .i64 0, Value.int .i64 96, Value.int .i64 1, Value.int .i64 97, Value.int .i64 129, Value.int .i64 2, Value.int .i64 3, Value.int .i64 4, Value.int .i64 20, Value.int .i64 36, Value.int .i64 52, Value.int .i64 68, Value.int .i64 84, Value.int .i64 100, Value.int .i64 116, Value.int .i64 132, Value.int .i64 164, Value.int .i64 12, Value.int .i64 28, Value.int .i64 44, Value.int .i64 60, Value.int .i64 76, Value.int .i64 92, Value.int .i64 108, Value.int .i64 124, Value.int .i64 172, Value.int .i64 5, Value.int .i64 21, Value.int .i64 37, Value.int .i64 53, Value.int .i64 69, Value.int .i64 29, Value.int .i64 45, Value.int .i64 61, Value.int .i64 77, Value.int .i64 6, Value.int .i64 22, Value.int .i64 7, Value.int .i64 135] : Array Value) = ar at hix ⊢
  go_loopw [5] (fun i wr => ∃ k : Nat, k ≤ 41 ∧ i = .int .i64 k ∧ wr.heap[w.heap.size + 1]? = some (.cells (arrK k) 114 (0, 0)) ∧ wr.heap[w.heap.size]? = some (.cells (arrK 0) 114 (0, 0)) ∧ Below w.heap.size w wr) (fun i _ => 41 - (intOf i).toNat)
  case atStart => exact ⟨0, by omega, rfl, heap_alloc2_new _ _ _, heap_alloc2_old _ _ _, by repeat (first | exact Below.refl _ _ | apply below_alloc)⟩
  case round =>
    obtain ⟨k, hk, rfl, hb, hb0, HB⟩ := hrel
    by_cases hlt : k < 41
    · have hd : decide ((k : Int) < 41) = true := decide_eq_true (by omega)
      have hc : wr.cell? ⟨w.heap.size + 1, codes.getD k 0, none⟩ = some (.bool ((codes.take k).contains (codes.getD k 0))) := by rw [blk_cell hb, arrK_get k _ (codes_lt k hlt)]
      have hf : wr.frozen? ⟨w.heap.size + 1, codes.getD k 0, none⟩ = false := blk_frozen hb _
      have hx := hix k hlt
      clear hix
      have hcl := codes_lt k hlt
      have hset := arrK_succ k hlt
      generalize codes.getD k 0 = c at hc hf hx hcl hset
      replace hset := Aside0.mk hset
      go_wp2
      go_roundw
      case rel => exact ⟨k + 1, by omega, by go_num, by rw [← hset.out]; exact blk_set hb c _, blk_far hb0 (by simp) _, HB.setCell (by simp) _⟩
      case measure => simp [intOf]; omega
    · obtain rfl : k = 41 := by omega
      clear hix
      have hb2 := setRow_heap wr w.heap.size (arrK 0) (arrK 41) 114 (0, 0) hb0
      have hd : decide (((41 : Nat) : Int) < 41) = false := rfl
      go_wp2_with (first | (refine wpList_load_row rfl 114 (.tmp 1) rfl (w.heap.size + 1) rfl 114 (arrK 41) (0, 0) _ hb Try.underlying114 rfl (by kernel_rfl) ?_) | (refine wpList_store_row rfl 114 (.tmp 0) (.tmp 11) rfl w.heap.size (arrK 41) rfl rfl 114 (arrK 0) hb0 (by kernel_rfl) (by simp [arrK_size]) (arrK_one _) ?_))
      refine bodyPost_ret (v := .agg (arrK 41)) (results_cell_row (p := 0) (by kernel_rfl) _ _ w.heap.size 114 (arrK 41) (0, 0) _ rfl hb2 Try.underlying114 rfl (by kernel_rfl)) rfl ⟨rfl, ?_⟩
      exact below_setRow HB (Nat.le_refl _) _
/-- is there such a code? -/
def knownB (c : Int) : Bool := decide (0 ≤ c ∧ c < 256) && codes.contains c.toNat
set_option maxRecDepth 100000 in
set_option maxHeartbeats 1000000 in
theorem Known_any (c : Int) (w : World) : Calls Try.prog 44 #[.int .i64 c] w fun e w' => e = .returned (.bool (knownB c)) ∧ Below w.heap.size w w' := by
  by_cases h0 : 0 ≤ c
  · have d0 : decide (0 ≤ c) = true := decide_eq_true h0
    by_cases h1 : c < 256
    · have d1 : decide (c < 256) = true := decide_eq_true h1
      have hr : codes.contains c.toNat = knownB c := by simp [knownB, h0, h1]
      have hg : (arrK 41)[c.toNat]? = some (.bool (knownB c)) := by rw [arrK_get 41 _ (by omega), List.take_of_length_le (by decide), hr]
      clear hr
      go_enter Try.func44, Try.ntmps44
      go_wp2_with (first | (go_at_call 93; refine (known_any _).mono ?_; rintro e w1 ⟨rfl, hb1⟩) | (refine wpList_store_row rfl 114 (.tmp 3) (.tmp 4) rfl _ (arrK 41) rfl rfl 114 _ (heap_alloc_new _ _) (by kernel_rfl) (by simp [arrK_size]) (arrK_one _) ?_; rw [World.setRow_alloc_new]))
      go_ret
      exact ⟨rfl, below_alloc hb1 _⟩
    · have d1 : decide (c < 256) = false := decide_eq_false h1
      have hr : knownB c = false := by simp [knownB, h1]
      rw [hr]
      clear hr
      go_enter Try.func44, Try.ntmps44
      go_wp2_with (first | (go_at_call 93; refine (known_any _).mono ?_; rintro e w1 ⟨rfl, hb1⟩) | (refine wpList_store_row rfl 114 (.tmp 3) (.tmp 4) rfl _ (arrK 41) rfl rfl 114 _ (heap_alloc_new _ _) (by kernel_rfl) (by simp [arrK_size]) (arrK_one _) ?_; rw [World.setRow_alloc_new]))
      go_ret
      exact ⟨rfl, below_alloc hb1 _⟩
  · have d0 : decide (0 ≤ c) = false := decide_eq_false h0
    have hr : knownB c = false := by simp [knownB, h0]
    rw [hr]
    clear hr
    go_enter Try.func44, Try.ntmps44
    go_wp2_with (first | (go_at_call 93; refine (known_any _).mono ?_; rintro e w1 ⟨rfl, hb1⟩) | (refine wpList_store_row rfl 114 (.tmp 3) (.tmp 4) rfl _ (arrK 41) rfl rfl 114 _ (heap_alloc_new _ _) (by kernel_rfl) (by simp [arrK_size]) (arrK_one _) ?_; rw [World.setRow_alloc_new]))
    go_ret
    exact ⟨rfl, below_alloc hb1 _⟩
end Go.Proofs.Ytefkhcijgiagdaa.HKnown
end
section
namespace Go.Proofs.Ytefkhcijgiagdaa.HPut
open Go.RowKit Go.Proofs.YtefkhcijgiagdaaW.PrintWords Go.Proofs.YtefkhcijgiagdaaW.PrintLast Go.Proofs.YtefkhcijgiagdaaW.PrintMore Go.Proofs.Ytefkhcijgiagdaa.Le Go.Proofs.Ytefkhcijgiagdaa.QLe
set_option linter.unusedVariables false
set_option linter.unusedSimpArgs false
def putOk (a b c : Int) : Bool := decide (0 ≤ a ∧ a < 65536 ∧ 0 ≤ b ∧ b < 256 ∧ 0 ≤ c ∧ c < 256)
end Go.Proofs.Ytefkhcijgiagdaa.HPut
end
section
namespace Go.Proofs.Ytefkhcijgiagdaa.I1
open Go.RowKit Go.Proofs.YtefkhcijgiagdaaW.PrintWords Go.Proofs.YtefkhcijgiagdaaW.PrintLast Go.Proofs.YtefkhcijgiagdaaW.PrintMore
attribute [local go_sem] max2_int min2_int max_two min_two max_three min_three max_four min_four IntKind.wrap_u32 IntKind.wrap_u8   -- for this text's walks alone
set_option linter.unusedVariables false
open Go.Proofs.Ytefkhcijgiagdaa.Le Go.Proofs.Ytefkhcijgiagdaa.HKnown Go.Proofs.Ytefkhcijgiagdaa.HPut
set_option linter.unusedSimpArgs false
def errW : Option Int → Value
  | none => .nilIface
  | some c => .iface 0 (.int .i64 c)
theorem errW_none : errW none = .nilIface := rfl
theorem errW_some (c : Int) : errW (some c) = .iface 0 (.int .i64 c) := rfl
theorem info28 : (Try.prog.info? 28).map (fun i => (i.zero, i.size, i.bytes)) = some (some (.agg #[(.int .i64 0), (.int .i64 0), (.int .i64 0), (.int .u32 0)]), 4, 32) := by kernel_rfl
structure S28 where
  f0 : Int
  f1 : Int
  f2 : Int
  f3 : Int
def z28 : S28 := ⟨(0 : Int), (0 : Int), (0 : Int), (0 : Int)⟩
def k28 : Kd S28 := Kd.iso (Kd.pair (Kd.int .i64) (Kd.pair (Kd.int .i64) (Kd.pair (Kd.int .i64) (Kd.int .u32)))) (fun x : S28 => (x.f0, x.f1, x.f2, x.f3))
theorem k28_heap : Kd.Heap k28 := Kd.heap_iso _ (Kd.heap_pair (Kd.heap_int .i64) (Kd.heap_pair (Kd.heap_int .i64) (Kd.heap_pair (Kd.heap_int .i64) (Kd.heap_int .u32))))
theorem k28_open {w : World} {x : S28} {cs : List Value} (h : k28.K w x cs) : cs = [.int .i64 x.f0, .int .i64 x.f1, .int .i64 x.f2, .int .u32 x.f3] := by
  obtain ⟨_, _, rfl, rfl, ⟨_, _, rfl, rfl, ⟨_, _, rfl, rfl, rfl⟩⟩⟩ := h
  exact rfl
theorem k28_mkM (w : World) (base : Nat) (ok : Nat → Prop) (x : S28)  : k28.M w base ok x [.int .i64 x.f0, .int .i64 x.f1, .int .i64 x.f2, .int .u32 x.f3] := ⟨[.int .i64 x.f0], [.int .i64 x.f1, .int .i64 x.f2, .int .u32 x.f3], rfl, rfl, ⟨[.int .i64 x.f1], [.int .i64 x.f2, .int .u32 x.f3], rfl, rfl, ⟨[.int .i64 x.f2], [.int .u32 x.f3], rfl, rfl, rfl⟩⟩⟩
def rd_T28 (xs : List S28) (i : Int) : S28 := xs.getD i.toNat z28
theorem at_T28 {w : World} {A : Option Addr} {n : Nat} {xs : List S28} (h : Kd.C k28 w A n xs) (i : Int) (h0 : 0 ≤ i) (h1 : i < n) : ∃ ad , A = some ad ∧ w.cell? (ad.add (i.toNat * 4)) = some (.int .i64 (rd_T28 xs i).f0) ∧ w.cell? ⟨(ad.add (i.toNat * 4)).block, (ad.add (i.toNat * 4)).off + 1, none⟩ = some (.int .i64 (rd_T28 xs i).f1) ∧ w.cell? ⟨(ad.add (i.toNat * 4)).block, (ad.add (i.toNat * 4)).off + 2, none⟩ = some (.int .i64 (rd_T28 xs i).f2) ∧ w.cell? ⟨(ad.add (i.toNat * 4)).block, (ad.add (i.toNat * 4)).off + 3, none⟩ = some (.int .u32 (rd_T28 xs i).f3) := by
  obtain ⟨ad, c, e, _, hK, hc0⟩ := Kd.C_get h z28 i h0 h1
  have hc : ∀ j u, c[j]? = some u → w.cell? (ad.add (i.toNat * 4 + j)) = some u := hc0
  obtain rfl := k28_open hK
  exact ⟨ad, e, hc 0 _ rfl, by rw [← add_field _ _ 1 (by omega)]; exact hc 1 _ rfl, by rw [← add_field _ _ 2 (by omega)]; exact hc 2 _ rfl, by rw [← add_field _ _ 3 (by omega)]; exact hc 3 _ rfl⟩
end Go.Proofs.Ytefkhcijgiagdaa.I1
end
section
namespace Go.Proofs.Ytefkhcijgiagdaa.E1
open Go.RowKit Go.Proofs.YtefkhcijgiagdaaW.PrintWords Go.Proofs.YtefkhcijgiagdaaW.PrintLast Go.Proofs.YtefkhcijgiagdaaW.PrintMore
attribute [local go_sem] max2_int min2_int max_two min_two max_three min_three max_four min_four IntKind.wrap_u32 IntKind.wrap_u8   -- for this text's walks alone
set_option linter.unusedVariables false
open Go.Proofs.Ytefkhcijgiagdaa.Le Go.Proofs.Ytefkhcijgiagdaa.HKnown Go.Proofs.Ytefkhcijgiagdaa.HPut Go.Proofs.Ytefkhcijgiagdaa.I1
set_option linter.unusedSimpArgs false
def errW : Option Int → Value
  | none => .nilIface
  | some c => .iface 0 (.int .i64 c)
theorem errW_none : errW none = .nilIface := rfl
theorem errW_some (c : Int) : errW (some c) = .iface 0 (.int .i64 c) := rfl
structure S40 where
  f0 : Int
  f1 : Int
  f2 : Int
  f3 : Int
def k40 : Kd S40 := Kd.iso (Kd.pair (Kd.int .i64) (Kd.pair (Kd.int .u32) (Kd.pair (Kd.int .i64) (Kd.int .i64)))) (fun x : S40 => (x.f0, x.f1, x.f2, x.f3))
end Go.Proofs.Ytefkhcijgiagdaa.E1
end
section
namespace Go.Proofs.Ytefkhcijgiagdaa.HAsm
open Go.RowKit Go.Proofs.YtefkhcijgiagdaaW.PrintWords Go.Proofs.YtefkhcijgiagdaaW.PrintLast Go.Proofs.YtefkhcijgiagdaaW.PrintMore Go.Proofs.Ytefkhcijgiagdaa.I1 Go.Proofs.Ytefkhcijgiagdaa.E1
set_option linter.unusedVariables false
set_option linter.unusedSimpArgs false
set_option maxRecDepth 100000
theorem law3 : Maps.Keyed Try.prog 3 := Maps.int_keyed Try.underlying3
theorem zero3 (w : World) : (zeroValue 3).run Try.prog w = .ok (.int .i64 0) w := by kernel_rfl
def MapIs (w : World) (b n : Nat) (L : Int → Option Int) : Prop :=
  ∃ D : DataW Unit, w.ownsMap Try.prog 3 (plainElem Try.prog 3) b n D ∧ Maps.IsMap D ∧ ∀ (k : Int) (z : DataW Unit), D.atKey (.int .i64 k) z = match L k with | some v => .lit (.int .i64 v) | none => z
theorem MapIs.lt {w : World} {b n : Nat} {L : Int → Option Int} (h : MapIs w b n L) : b < w.heap.size := by obtain ⟨D, h, _⟩ := h; exact h.lt
theorem MapIs.kept {w w' : World} {b n : Nat} {L : Int → Option Int} (h : MapIs w b n L) (he : w'.heap[b]? = w.heap[b]?) : MapIs w' b n L := by
  obtain ⟨D, ⟨es, clock, hb, F, hs, hD⟩, h2⟩ := h
  exact ⟨D, ⟨es, clock, he.trans hb, F, hs, hD⟩, h2⟩
theorem MapIs.made (w : World) : MapIs (w.alloc (.map #[] 0)) w.heap.size 0 (fun _ => none) := ⟨.map [], World.ownsMap_made _ _ _ _, Maps.isMap_empty, fun _ _ => rfl⟩
theorem MapIs.look {w : World} {b n : Nat} {L : Int → Option Int} (h : MapIs w b n L) (k : Int) (hk : (Lit.int .i64 k).wf = true) :
    (Instr.lookup 105 (.map (some b)) (.int .i64 k) true).run Try.prog w = .ok (.tuple #[.int .i64 ((L k).getD 0), .bool (L k).isSome]) w := by
  obtain ⟨D, ho, hm, hat⟩ := h
  obtain ⟨v, ps, hrun, hv⟩ := ho.look_ok (t := 105) (e := 3) law3 Try.underlying105 (zero3 w) (plainElem_int Try.underlying3 (by decide)) (Maps.keyOf_int_mk Try.underlying3 hk)
  rw [hrun]
  have e1 : Maps.has D (.int .i64 k) = (L k).isSome := by
    cases hL : L k with
    | none => exact Maps.has_false_of_atKey (fun z => by rw [hat, hL])
    | some x => exact Maps.has_true_of_atKey (y := .lit (.int .i64 x)) (fun z => by rw [hat, hL])
  have e2 : v = .int .i64 ((L k).getD 0) := by
    obtain ⟨c, rfl, hc, _⟩ := plainElem_int_inv Try.underlying3 hv
    rw [hat] at hc
    cases hL : L k with
    | none => rw [hL] at hc; cases hc; rfl
    | some x => rw [hL] at hc; cases hc; rfl
  rw [e1, e2]
theorem MapIs.store {w : World} {b n : Nat} {L : Int → Option Int} (h : MapIs w b n L) (hn : n < 1000000) (k v : Int) (hk : (Lit.int .i64 k).wf = true) (hv : (Lit.int .i64 v).wf = true) :
    ∃ w', (Instr.mapUpdate 105 (.map (some b)) (.int .i64 k) (.int .i64 v)).run Try.prog w = .ok () w' ∧ MapIs w' b (n + 1) (fun x => if x = k then some v else L x) ∧ w.grownBy w' (some b) := by
  obtain ⟨D, ho, hm, hat⟩ := h
  obtain ⟨w', hrun, ho', hg⟩ := ho.update (t := 105) (e := 3) law3 Try.underlying105 (by unfold maxLen; omega) (Maps.keyOf_int_mk Try.underlying3 hk) (plainElem_int Try.underlying3 hv)
  refine ⟨w', hrun, ⟨_, ho', hm.put _ _, fun x z => ?_⟩, hg⟩
  by_cases hx : x = k
  · subst hx
    show _ = match (if x = x then some v else L x) with | some v => _ | none => _
    rw [if_pos rfl, Maps.atKey_put_same hm (show WideAt.IsKeyLit (.int .i64 x) from trivial)]
  · show _ = match (if x = k then some v else L x) with | some v => _ | none => _
    rw [if_neg hx, Maps.atKey_put_other (fun e => hx (by cases e; rfl)), hat]
structure Fr (B : Nat) (w w' : World) : Prop where
  bel : Below B w w'
  keep : ∀ (g t : Nat) (cs : Array Value), t ≠ 28 → t ≠ 107 → w.heap[g]? = some (Obj.cells cs t (0, 0)) → w'.heap[g]? = some (Obj.cells cs t (0, 0))
theorem Fr.refl (B : Nat) (w : World) : Fr B w w := ⟨Below.refl B w, fun _ _ _ _ _ h => h⟩
theorem Fr.trans {B : Nat} {a b c : World} (h : Fr B a b) (k : Fr B b c) : Fr B a c := ⟨h.bel.trans k.bel, fun g t cs h1 h2 h3 => k.keep g t cs h1 h2 (h.keep g t cs h1 h2 h3)⟩
theorem Fr.alloc {B : Nat} {a w : World} (h : Fr B a w) (hB : B ≤ w.heap.size) (o : Obj) : Fr B a (w.alloc o) :=
  ⟨h.bel.alloc hB o, fun g t cs h1 h2 h3 => (Below.heap_alloc w o g (Array.getElem?_eq_some_iff.1 (h.keep g t cs h1 h2 h3)).1).trans (h.keep g t cs h1 h2 h3)⟩
theorem Fr.drew {B : Nat} {a w : World} (h : Fr B a w) : Fr B a w.drew := ⟨h.bel.drew, h.keep⟩
theorem Fr.of_below {B : Nat} {a w w' : World} (h : Fr B a w) (hB : B ≤ w.heap.size) (k : Below w.heap.size w w') : Fr B a w' :=
  ⟨below_then h.bel hB k, fun g t cs h1 h2 h3 => (k.block g (Array.getElem?_eq_some_iff.1 (h.keep g t cs h1 h2 h3)).1).trans (h.keep g t cs h1 h2 h3)⟩
theorem Fr.setCell {B : Nat} {a w : World} (h : Fr B a w) {g : Nat} (hB : B ≤ g) {cs : Array Value} (hg : w.heap[g]? = some (Obj.cells cs 107 (0, 0))) (j : Nat) (u : Value) : Fr B a (w.setCell ⟨g, j, none⟩ u) :=
  ⟨h.bel.setCell hB u, fun k t cs' h1 h2 h3 => by
    have h4 := h.keep k t cs' h1 h2 h3
    refine (Below.heap_setCell w ⟨g, j, none⟩ u k ?_).trans h4
    rintro rfl
    rw [hg] at h4; injection h4 with h4; injection h4 with _ h4; exact h2 h4.symm⟩
theorem Fr.grown {B : Nat} {a w w' : World} {row : Option Nat} (h : Fr B a w) (hg : w.grownBy w' row) (hB : B ≤ w.heap.size) (hr : ∀ k, row = some k → B ≤ k ∧ ∀ t cs, t ≠ 28 → w.heap[k]? ≠ some (Obj.cells cs t (0, 0))) : Fr B a w' :=
  ⟨h.bel.grown hg hB (fun k hk => (hr k hk).1), fun k t cs h1 h2 h3 => by
    have h4 := h.keep k t cs h1 h2 h3
    refine (hg.block k (Array.getElem?_eq_some_iff.1 h4).1 ?_).trans h4
    intro hk
    exact (hr k hk.symm).2 t cs h1 h4⟩
structure St (w : World) (B Wb Mb : Nat) (A : Option Addr) (cap : Nat) (xs : List S28) (L : Int → Option Int) (n : Nat) (bad : Bool) : Prop where
  hW : w.heap[Wb]? = some (.cells #[.slice A xs.length cap, .map (some Mb), .bool bad] 107 (0, 0))
  hR : Kd.R k28 28 w B (fun _ => True) (.slice A xs.length cap) xs
  hM : MapIs w Mb n L
  bW : B ≤ Wb
  bM : B ≤ Mb
theorem St.lt {w : World} {B Wb Mb : Nat} {A : Option Addr} {cap : Nat} {xs : List S28} {L : Int → Option Int} {n : Nat} {bad : Bool} (h : St w B Wb Mb A cap xs L n bad) : Wb < w.heap.size :=
  (Array.getElem?_eq_some_iff.1 h.hW).1
/-- A world in which all blocks stand as they did. -/
theorem St.below {w w' : World} {B Wb Mb : Nat} {A : Option Addr} {cap : Nat} {xs : List S28} {L : Int → Option Int} {n : Nat} {bad : Bool} (h : St w B Wb Mb A cap xs L n bad) (hb : Below w.heap.size w w') : St w' B Wb Mb A cap xs L n bad :=
  ⟨(hb.block _ h.lt).trans h.hW, Kd.R_below h.hR hb, h.hM.kept (hb.block _ h.hM.lt), h.bW, h.bM⟩
theorem St.ne {w : World} {B Wb Mb : Nat} {A : Option Addr} {cap : Nat} {xs : List S28} {L : Int → Option Int} {n : Nat} {bad : Bool} (h : St w B Wb Mb A cap xs L n bad) : Mb ≠ Wb := by
  rintro rfl
  obtain ⟨D, ⟨es, clock, hb, _⟩, _⟩ := h.hM
  rw [h.hW] at hb; cases hb
theorem hInfo28 : (Try.prog.info? 28).map (fun i => (i.zero, i.size, i.bytes)) = some (some (.agg #[(.int .i64 0), (.int .i64 0), (.int .i64 0), (.int .u32 0)]), 4, 32) := by kernel_rfl
/-- append, one cell's struct, as a step of a region that draws: behind the draw. -/
theorem append_step {P : Program} {ops : Array Oper} {o : Oper} {a : Act} {Q : Exit → Act → World → Prop} {Kc : Act → World → Prop} {α : Type} (d : Kd α) {W : World} (base : Nat) (hgd : o.guard = none) (s x : Operand) (t e : TypeId) (z : Value) (bytes : Nat)
    (ho : o.op = .call { callee := .builtin .append, args := #[s, x], argTypes := #[t, t] })
    (ht : P.underlying t = some (.slice e)) (hinfo : (P.info? e).map (fun i => (i.zero, i.size, i.bytes)) = some (some z, d.sz, bytes)) (hz : z.cells.size = d.sz) (hs0 : 0 < d.sz) (hb0 : 0 < bytes)
    (v : Value) (xs : List α) (p : α) (cs : List Value) (hs : a.eval s = v) (hx : a.eval x = .slice (some ⟨W.heap.size, 0, none⟩) 1 1) (hp : d.M W base (fun _ => False) p cs)
    (HO : d.R e W base (fun _ => True) v xs) (hbase : base ≤ W.heap.size) (hl : (xs.length + 1) * bytes ≤ 140737488355328)
    (h : ∀ v1 w1, d.R e w1 base (fun _ => True) v1 (xs ++ [p]) → Below base W w1 → W.grownBy w1 v.ownBlock → Kc (a.put o.dst v1) w1) :
    if Region.wanted o (yielded ops a.tmps) = true then Oper.wp P o a (W.alloc (.cells cs.toArray e)).drew Kc Q else Kc (a.put o.dst undef) (W.alloc (.cells cs.toArray e)).drew := by
  have hw : Region.wanted o (yielded ops a.tmps) = true := by simp [Region.wanted, hgd]
  exact Kd.R_append_step d (w0 := W) (W := W.drew) base hw s x t e z bytes ho ht hinfo hz hs0 hb0 v xs p cs (fun _ => True) (fun _ => False) hs hx (d.M_move (fun k hk => hk.elim) hp) (fun _ hk => hk.elim) (fun _ _ => trivial) (Kd.R_move HO (fun _ _ => rfl)) (Below.refl _ _).drew hbase hl (fun v1 w1 h1 h2 h3 _ => h v1 w1 h1 h2 ⟨h3.os, h3.tape, h3.output, h3.size, h3.block⟩)
theorem St.put {w0 w w1 : World} {B Wb Mb : Nat} {A A1 : Option Addr} {cap c1 : Nat} {xs : List S28} {L : Int → Option Int} {n : Nat} {bad : Bool} {x : S28} (hb0 : Fr B w0 w) (h : St w B Wb Mb A cap xs L n bad)
    (hR1 : Kd.R k28 28 w1 B (fun _ => True) (.slice A1 (xs ++ [x]).length c1) (xs ++ [x])) (hB1 : Below B w w1) (hg1 : w.grownBy w1 (Value.slice A xs.length cap).ownBlock) :
    Fr B w0 (w1.setCell ⟨Wb, 0, none⟩ (.slice A1 (xs.length + 1) c1)) ∧ St (w1.setCell ⟨Wb, 0, none⟩ (.slice A1 (xs.length + 1) c1)) B Wb Mb A1 c1 (xs ++ [x]) L n bad := by
  have e : (xs ++ [x]).length = xs.length + 1 := by simp
  have hWb := (hg1.block Wb h.lt (Kd.R_ne h.hR h.hW (by decide))).trans h.hW
  have hMb : w1.heap[Mb]? = w.heap[Mb]? := by
    refine hg1.block Mb h.hM.lt ?_
    intro hk
    obtain ⟨D, ⟨es, clock, hb, _⟩, _⟩ := h.hM
    obtain ⟨inner, ho⟩ := Kd.R_own h.hR
    obtain ⟨cells, hc⟩ := own_typed ho Mb hk.symm
    rw [hc] at hb; cases hb
  have hrow : ∀ k, (Value.slice A xs.length cap).ownBlock = some k → B ≤ k ∧ ∀ t cs, t ≠ 28 → w.heap[k]? ≠ some (.cells cs t (0, 0)) := by
    intro k hk
    obtain ⟨inner, ho⟩ := Kd.R_own h.hR
    obtain ⟨cells, hc⟩ := own_typed ho k hk
    refine ⟨own_base ho k hk, fun t cs ht hc2 => ?_⟩
    rw [hc] at hc2; injection hc2 with hc2; injection hc2 with _ hc2; exact ht hc2.symm
  have hBw : B ≤ w.heap.size := Nat.le_of_lt (Nat.lt_of_le_of_lt h.bW h.lt)
  refine ⟨(hb0.grown hg1 hBw hrow).setCell h.bW hWb 0 _, ?_, ?_, ?_, h.bW, h.bM⟩
  · have := blk_set hWb 0 (.slice A1 (xs.length + 1) c1)
    rw [e]; exact this
  · exact Kd.R_set hR1 hWb (by decide) 0 _
  · refine MapIs.kept (h.hM.kept hMb) ?_
    exact Below.heap_setCell _ _ _ _ h.ne
set_option maxHeartbeats 2000000 in
theorem put_c {w : World} {B Wb Mb : Nat} {A : Option Addr} {cap : Nat} {xs : List S28} {L : Int → Option Int} {n : Nat} {bad : Bool} (h : St w B Wb Mb A cap xs L n bad) (x : S28) (hl : xs.length ≤ 1000000) :
    Calls Try.prog 124 #[.pointer (some ⟨Wb, 0, none⟩), .agg #[.int .i64 x.f0, .int .i64 x.f1, .int .i64 x.f2, .int .u32 x.f3]] w fun e w' => e = .returned (.tuple #[]) ∧ Fr B w w' ∧ ∃ A' cap', St w' B Wb Mb A' cap' (xs ++ [x]) L n bad := by
  have hu107 := Try.underlying107
  have hu28 := Try.underlying28
  have hlt := h.lt
  have c0 : w.cell? ⟨Wb, 0, none⟩ = some (.slice A xs.length cap) := blk_cell h.hW 0
  have hh := Aside0.mk h
  have hx0 := Aside0.mk (h.below (below_alloc (Below.refl _ _) (.cells #[.int .i64 x.f0, .int .i64 x.f1, .int .i64 x.f2, .int .u32 x.f3] 28)))
  have hl' := Aside0.mk hl
  have hBw := Aside0.mk (show B ≤ w.heap.size from Nat.le_of_lt (Nat.lt_of_le_of_lt h.bW hlt))
  clear h hl
  go_enter Try.func124, Try.ntmps124
  go_wp2
  go_region_law (refine append_step k28 (W := (w.alloc (.cells #[.int .i64 x.f0, .int .i64 x.f1, .int .i64 x.f2, .int .u32 x.f3] 28))) B rfl (.tmp 8) (.tmp 10) 34 28 _ 32 rfl Try.underlying34 hInfo28 rfl (by decide) (by decide) (.slice A xs.length cap) xs x [.int .i64 x.f0, .int .i64 x.f1, .int .i64 x.f2, .int .u32 x.f3] (by simp [Act.eval, Act.put]) (by simp [Act.eval, Act.put]) (k28_mkM _ _ _ x) hx0.out.hR (Nat.le_of_lt (Nat.lt_of_le_of_lt hx0.out.bW hx0.out.lt)) (by have := hl'.out; omega) ?_; intro v1 w1 hR1 hB1 hg1; obtain ⟨A1, c1, rfl⟩ := Kd.R_slice hR1; have HF := Aside0.mk (St.put (Fr.alloc (Fr.refl B w) hBw.out _) hx0.out hR1 hB1 hg1); have hWb := (hg1.block Wb hx0.out.lt (Kd.R_ne hx0.out.hR hx0.out.hW (by decide))).trans hx0.out.hW; have f1 := blk_frozen hWb 0; have c1_ : w1.cell? ⟨Wb, 0, none⟩ = some (.slice A xs.length cap) := blk_cell hWb 0; clear hWb hR1 hB1 hg1)
  all_goals (go_wp2; go_end0; exact ⟨rfl, HF.out.1, _, _, HF.out.2⟩)
theorem St.setBad {w : World} {B Wb Mb : Nat} {A : Option Addr} {cap : Nat} {xs : List S28} {L : Int → Option Int} {n : Nat} {bad : Bool} (h : St w B Wb Mb A cap xs L n bad) (b : Bool) : Fr B w (w.setCell ⟨Wb, 2, none⟩ (.bool b)) ∧ St (w.setCell ⟨Wb, 2, none⟩ (.bool b)) B Wb Mb A cap xs L n b :=
  ⟨(Fr.refl B w).setCell h.bW h.hW 2 _, blk_set h.hW 2 (.bool b), Kd.R_set h.hR h.hW (by decide) 2 _, h.hM.kept (Below.heap_setCell _ _ _ _ h.ne), h.bW, h.bM⟩
theorem St.alloc {w : World} {B Wb Mb : Nat} {A : Option Addr} {cap : Nat} {xs : List S28} {L : Int → Option Int} {n : Nat} {bad : Bool} (h : St w B Wb Mb A cap xs L n bad) (o : Obj) : St (w.alloc o) B Wb Mb A cap xs L n bad := h.below (below_alloc (Below.refl _ _) _)
theorem St.base {w : World} {B Wb Mb : Nat} {A : Option Addr} {cap : Nat} {xs : List S28} {L : Int → Option Int} {n : Nat} {bad : Bool} (h : St w B Wb Mb A cap xs L n bad) : B ≤ w.heap.size := Nat.le_of_lt (Nat.lt_of_le_of_lt h.bW h.lt)
theorem new_blk (w : World) (a : Addr) (v : Value) (o : Obj) : ((w.setCell a v).alloc o).heap[w.heap.size]? = some o := by
  have e : (w.setCell a v).heap.size = w.heap.size := by simp [World.setCell]
  have := heap_alloc_new (w.setCell a v) o
  rw [e] at this; exact this
/-- A jump: its instruction, and whether its label is unknown. -/
def goI (xs : List S28) (L : Int → Option Int) (label : Int) : S28 := ⟨5, 0, 0, (wrap64 ((xs.length : Int) - (L label).getD 0)) % 4294967296⟩
set_option maxHeartbeats 2000000 in
theorem goes_c {w : World} {B Wb Mb : Nat} {A : Option Addr} {cap : Nat} {xs : List S28} {L : Int → Option Int} {n : Nat} {bad : Bool} (h : St w B Wb Mb A cap xs L n bad) (label : Int) (hk : (Lit.int .i64 label).wf = true) (hl : xs.length ≤ 1000000) :
    Calls Try.prog 125 #[.pointer (some ⟨Wb, 0, none⟩), .int .i64 label] w fun e w' => e = .returned (.agg #[.int .i64 5, .int .i64 0, .int .i64 0, .int .u32 ((wrap64 ((xs.length : Int) - (L label).getD 0)) % 4294967296)]) ∧ Fr B w w' ∧ St w' B Wb Mb A cap xs L n (bad || !(L label).isSome) := by
  have hu107 := Try.underlying107
  have hu28 := Try.underlying28
  have hlt := h.lt
  have c0 : w.cell? ⟨Wb, 0, none⟩ = some (.slice A xs.length cap) := blk_cell h.hW 0
  have c1 : w.cell? ⟨Wb, 1, none⟩ = some (.map (some Mb)) := blk_cell h.hW 1
  have c2 : w.cell? ⟨Wb, 2, none⟩ = some (.bool bad) := blk_cell h.hW 2
  have f2 := blk_frozen h.hW 2
  have hlook := fun o => (h.below (below_alloc (Below.refl w.heap.size w) o)).hM.look label hk
  have HF := Aside0.mk (fun (b : Bool) (o : Obj) => (⟨((h.setBad b).1.alloc (h.setBad b).2.base o), (h.setBad b).2.alloc o⟩ : Fr B w ((w.setCell ⟨Wb, 2, none⟩ (.bool b)).alloc o) ∧ St ((w.setCell ⟨Wb, 2, none⟩ (.bool b)).alloc o) B Wb Mb A cap xs L n b))
  clear h
  generalize hat : (L label).getD 0 = at_ at hlook ⊢
  generalize his : (L label).isSome = is at hlook ⊢
  clear hat his
  cases bad
  · go_enter Try.func125, Try.ntmps125
    go_wp2
    refine bodyPost_ret (v := .agg #[.int .i64 5, .int .i64 0, .int .i64 0, .int .u32 ((wrap64 ((xs.length : Int) - at_)) % 4294967296)]) (results_cell_row (p := 4) (by kernel_rfl) _ _ w.heap.size 28 #[.int .i64 5, .int .i64 0, .int .i64 0, .int .u32 ((wrap64 ((xs.length : Int) - at_)) % 4294967296)] (0, 0) _ rfl (new_blk _ _ _ _) Try.underlying28 rfl (by kernel_rfl)) rfl ⟨rfl, (HF.out (!is) _).1, (HF.out (!is) _).2⟩
  · go_enter Try.func125, Try.ntmps125
    go_wp2
    refine bodyPost_ret (v := .agg #[.int .i64 5, .int .i64 0, .int .i64 0, .int .u32 ((wrap64 ((xs.length : Int) - at_)) % 4294967296)]) (results_cell_row (p := 4) (by kernel_rfl) _ _ w.heap.size 28 #[.int .i64 5, .int .i64 0, .int .i64 0, .int .u32 ((wrap64 ((xs.length : Int) - at_)) % 4294967296)] (0, 0) _ rfl (new_blk _ _ _ _) Try.underlying28 rfl (by kernel_rfl)) rfl ⟨rfl, (HF.out true _).1, (HF.out true _).2⟩
end Go.Proofs.Ytefkhcijgiagdaa.HAsm
end
section
namespace Go.Proofs.Ytefkhcijgiagdaa.HAsm
open Go.RowKit Go.Proofs.YtefkhcijgiagdaaW.PrintWords Go.Proofs.YtefkhcijgiagdaaW.PrintLast Go.Proofs.YtefkhcijgiagdaaW.PrintMore Go.Proofs.Ytefkhcijgiagdaa.I1 Go.Proofs.Ytefkhcijgiagdaa.E1
set_option linter.unusedVariables false
set_option linter.unusedSimpArgs false
set_option maxRecDepth 100000
def codeB (k : Int) : Int := if k = 3 then 21 else if k = 4 then 37 else 53
theorem code_c (k : Int) (w : World) : Calls Try.prog 126 #[.int .i64 k] w fun e w' => e = .returned (.int .i64 (codeB k)) ∧ Below w.heap.size w w' := by
  unfold codeB
  split
  · subst_vars
    go_enter Try.func126, Try.ntmps126
    go_wp2
    go_ret
    exact ⟨rfl, Below.refl _ _⟩
  · split
    · subst_vars
      go_enter Try.func126, Try.ntmps126
      go_wp2
      go_ret
      exact ⟨rfl, Below.refl _ _⟩
    · go_enter Try.func126, Try.ntmps126
      go_wp2
      go_ret
      exact ⟨rfl, Below.refl _ _⟩
/-- The writer, as it is told of. -/
structure WS where
  xs : List S28
  L : Int → Option Int
  n : Nat
  bad : Bool
def WS.put (s : WS) (x : S28) : WS := ⟨s.xs ++ [x], s.L, s.n, s.bad⟩
def WS.go (s : WS) (label : Int) : WS := ⟨s.xs ++ [goI s.xs s.L label], s.L, s.n, s.bad || !(s.L label).isSome⟩
def stepS (s : WS) (o : S40) : WS :=
  if o.f0 = 1 then s.put ⟨32, 0, 0, o.f1⟩
  else if o.f0 = 2 then s.put ⟨84, 0, 0, o.f1⟩
  else if o.f0 = 3 ∨ o.f0 = 4 ∨ o.f0 = 5 then ((s.go o.f3).go o.f2).put ⟨codeB o.f0, 0, 1, o.f1⟩
  else if o.f0 = 6 then ⟨s.xs, fun x => if x = o.f2 then some (s.xs.length : Int) else s.L x, s.n + 1, s.bad⟩
  else if o.f0 = 7 then s.go o.f2
  else if o.f0 = 8 then s.put ⟨6, 0, 0, o.f1⟩
  else ⟨s.xs, s.L, s.n, true⟩
def StW (w : World) (B Wb Mb : Nat) (s : WS) : Prop := ∃ A cap, St w B Wb Mb A cap s.xs s.L s.n s.bad
def StepPost (w : World) (B Wb Mb : Nat) (s : WS) (e : Ending) (w' : World) : Prop := e = .returned (.tuple #[]) ∧ Fr B w w' ∧ StW w' B Wb Mb s
theorem put_w {w : World} {B Wb Mb : Nat} {s : WS} (h : StW w B Wb Mb s) (a b c d : Int) (hl : s.xs.length ≤ 1000000) :
    Calls Try.prog 124 #[.pointer (some ⟨Wb, 0, none⟩), .agg #[.int .i64 a, .int .i64 b, .int .i64 c, .int .u32 d]] w (StepPost w B Wb Mb (s.put ⟨a, b, c, d⟩)) := by
  obtain ⟨A, cap, h⟩ := h
  refine (put_c h ⟨a, b, c, d⟩ hl).mono ?_
  rintro e w' ⟨rfl, hb, A', c', h'⟩
  exact ⟨rfl, hb, A', c', h'⟩
theorem goes_w {w : World} {B Wb Mb : Nat} {s : WS} (h : StW w B Wb Mb s) (label : Int) (hk : (Lit.int .i64 label).wf = true) (hl : s.xs.length ≤ 1000000) :
    Calls Try.prog 125 #[.pointer (some ⟨Wb, 0, none⟩), .int .i64 label] w fun e w' => e = .returned (.agg #[.int .i64 5, .int .i64 0, .int .i64 0, .int .u32 (goI s.xs s.L label).f3]) ∧ Fr B w w' ∧ StW w' B Wb Mb ⟨s.xs, s.L, s.n, s.bad || !(s.L label).isSome⟩ := by
  obtain ⟨A, cap, h⟩ := h
  refine (goes_c h label hk hl).mono ?_
  rintro e w' ⟨rfl, hb, h'⟩
  exact ⟨rfl, hb, A, cap, h'⟩
theorem StW.box {w : World} {B Wb Mb : Nat} {s : WS} (h : StW w B Wb Mb s) (o : Obj) : Fr B w (w.alloc o) ∧ StW (w.alloc o) B Wb Mb s := by
  obtain ⟨A, cap, h⟩ := h
  exact ⟨(Fr.refl B w).alloc h.base o, A, cap, h.alloc o⟩
theorem StW.drew {w : World} {B Wb Mb : Nat} {s : WS} (h : StW w B Wb Mb s) : StW w.drew B Wb Mb s := by
  obtain ⟨A, cap, h⟩ := h
  exact ⟨A, cap, h.below ⟨rfl, rfl, rfl, Nat.le_refl _, fun _ _ => rfl⟩⟩
theorem StW.below {w w' : World} {B Wb Mb : Nat} {s : WS} (h : StW w B Wb Mb s) (hb : Below w.heap.size w w') : StW w' B Wb Mb s := by
  obtain ⟨A, cap, h⟩ := h
  exact ⟨A, cap, h.below hb⟩
theorem StW.base {w : World} {B Wb Mb : Nat} {s : WS} (h : StW w B Wb Mb s) : B ≤ w.heap.size := by
  obtain ⟨A, cap, h⟩ := h
  exact h.base
def StepC (o : S40) (s : WS) (B Wb Mb : Nat) (w : World) : Prop :=
  Calls Try.prog 90 #[.pointer (some ⟨Wb, 0, none⟩), .agg #[.int .i64 o.f0, .int .u32 o.f1, .int .i64 o.f2, .int .i64 o.f3]] w (StepPost w B Wb Mb (stepS s o))
set_option maxHeartbeats 2000000 in
theorem step1 {w : World} {B Wb Mb : Nat} {s : WS} (h : StW w B Wb Mb s) (o : S40) (hl : s.xs.length ≤ 999990) (ho : o.f0 = 1 ∨ o.f0 = 2 ∨ o.f0 = 8) : StepC o s B Wb Mb w := by
  obtain ⟨a, b, c, d⟩ := o
  have hu40 := Try.underlying40
  have hu28 := Try.underlying28
  have hbox := h.box (.cells #[.int .i64 a, .int .u32 b, .int .i64 c, .int .i64 d] 40)
  clear h
  rcases ho with rfl | rfl | rfl
  · go_enter Try.func90, Try.ntmps90
    go_wp2_with (go_at_call 124; refine (put_w hbox.2 _ _ _ _ (by omega)).mono ?_; rintro e w1 ⟨rfl, hb1, hs1⟩)
    go_end0
    exact ⟨rfl, hbox.1.trans hb1, hs1⟩
  · go_enter Try.func90, Try.ntmps90
    go_wp2_with (go_at_call 124; refine (put_w hbox.2 _ _ _ _ (by omega)).mono ?_; rintro e w1 ⟨rfl, hb1, hs1⟩)
    go_end0
    exact ⟨rfl, hbox.1.trans hb1, hs1⟩
  · go_enter Try.func90, Try.ntmps90
    go_wp2_with (go_at_call 124; refine (put_w hbox.2 _ _ _ _ (by omega)).mono ?_; rintro e w1 ⟨rfl, hb1, hs1⟩)
    go_end0
    exact ⟨rfl, hbox.1.trans hb1, hs1⟩
set_option maxHeartbeats 2000000 in
theorem step7 {w : World} {B Wb Mb : Nat} {s : WS} (h : StW w B Wb Mb s) (o : S40) (hl : s.xs.length ≤ 999990) (ho : o.f0 = 7) (hT : (Lit.int .i64 o.f2).wf = true) : StepC o s B Wb Mb w := by
  obtain ⟨a, b, c, d⟩ := o
  have hu40 := Try.underlying40
  have hu28 := Try.underlying28
  have hbox := h.box (.cells #[.int .i64 a, .int .u32 b, .int .i64 c, .int .i64 d] 40)
  clear h
  subst ho
  go_enter Try.func90, Try.ntmps90
  go_wp2_with (first | (go_at_call 125; refine (goes_w hbox.2 c hT (by omega)).mono ?_; rintro e w1 ⟨rfl, hb1, hs1⟩) | (go_at_call 124; refine (put_w hs1 _ _ _ _ (by simp only; omega)).mono ?_; rintro e w2 ⟨rfl, hb2, hs2⟩))
  go_end0
  exact ⟨rfl, (hbox.1.trans hb1).trans hb2, hs2⟩
set_option maxHeartbeats 2000000 in
theorem stepElse {w : World} {B Wb Mb : Nat} {s : WS} (h : StW w B Wb Mb s) (o : S40) (hl : s.xs.length ≤ 999990) (ho : o.f0 ≤ 0 ∨ 9 ≤ o.f0) : StepC o s B Wb Mb w := by
  obtain ⟨a, b, c, d⟩ := o
  have hu40 := Try.underlying40
  have hu28 := Try.underlying28
  have hu107 := Try.underlying107
  obtain ⟨A, cap, h⟩ := h
  have hlt := h.lt
  have c2 : w.cell? ⟨Wb, 2, none⟩ = some (.bool s.bad) := blk_cell h.hW 2
  have f2 := blk_frozen h.hW 2
  have HF := Aside0.mk (h.setBad true)
  have e : stepS s ⟨a, b, c, d⟩ = ⟨s.xs, s.L, s.n, true⟩ := by
    simp only at ho
    unfold stepS
    simp only
    rw [if_neg (by omega), if_neg (by omega), if_neg (by omega), if_neg (by omega), if_neg (by omega), if_neg (by omega)]
  unfold StepC
  rw [e]
  clear e h
  simp only at ho ⊢
  have n1 : ¬ a = 1 := by omega
  have n2 : ¬ a = 2 := by omega
  have n3 : ¬ a = 3 := by omega
  have n4 : ¬ a = 4 := by omega
  have n5 : ¬ a = 5 := by omega
  have n6 : ¬ a = 6 := by omega
  have n7 : ¬ a = 7 := by omega
  have n8 : ¬ a = 8 := by omega
  go_enter Try.func90, Try.ntmps90
  go_wp2
  go_end0
  exact ⟨rfl, HF.out.1.alloc HF.out.2.base _, _, _, HF.out.2.alloc _⟩
set_option maxHeartbeats 1000000 in
theorem step345 {w : World} {B Wb Mb : Nat} {s : WS} (h : StW w B Wb Mb s) (o : S40) (hl : s.xs.length ≤ 999990) (ho : o.f0 = 3 ∨ o.f0 = 4 ∨ o.f0 = 5) (hT : (Lit.int .i64 o.f2).wf = true) (hF : (Lit.int .i64 o.f3).wf = true) : StepC o s B Wb Mb w := by
  obtain ⟨a, b, c, d⟩ := o
  have hu40 := Try.underlying40
  have hu28 := Try.underlying28
  have hbox := h.box (.cells #[.int .i64 a, .int .u32 b, .int .i64 c, .int .i64 d] 40)
  have hblk := heap_alloc_new w (.cells #[.int .i64 a, .int .u32 b, .int .i64 c, .int .i64 d] 40)
  clear h
  have hcode := code_c a
  rcases ho with rfl | rfl | rfl <;>
  · have tok1 : True := trivial
    have tok2 : True := trivial
    have tok3 : True := trivial
    have tok4 : True := trivial
    go_enter Try.func90, Try.ntmps90
    go_wp2_with (first | (go_at_call 125; have _t := tok1; refine (goes_w hbox.2 d hF (by omega)).mono ?_; rintro e w1 ⟨rfl, hb1, hs1⟩; clear tok1 _t) | (go_at_call 124; have _t := tok2; refine (put_w hs1 _ _ _ _ (by simp only; omega)).mono ?_; rintro e w2 ⟨rfl, hb2, hs2⟩; have hblk2 := hb2.keep _ _ _ (by decide) (by decide) (hb1.keep _ _ _ (by decide) (by decide) hblk); have k22 := blk_cell hblk2 2; clear tok2 _t) | (go_at_call 125; have _t := tok3; refine (goes_w hs2 c hT (by simp only [WS.put, List.length_append, List.length_cons, List.length_nil]; omega)).mono ?_; rintro e w3 ⟨rfl, hb3, hs3⟩; clear tok3 _t) | (go_at_call 124; have _t := tok4; refine (put_w hs3 _ _ _ _ (by simp only [WS.put, List.length_append, List.length_cons, List.length_nil]; omega)).mono ?_; rintro e w4 ⟨rfl, hb4, hs4⟩; have hblk4 := hb4.keep _ _ _ (by decide) (by decide) (hb3.keep _ _ _ (by decide) (by decide) hblk2); have k40 := blk_cell hblk4 0; have k41 := blk_cell hblk4 1; clear tok4 _t))
    have tok5 : True := trivial
    have tok6 : True := trivial
    go_region_with (first | (go_at_call 126; have _t := tok5; refine (code_c _ _).mono ?_; rintro e w5 ⟨rfl, hb5⟩; have hblk5 := ((Fr.refl B w4).drew.of_below hs4.drew.base hb5).keep _ _ _ (by decide) (by decide) hblk4; have k51 := blk_cell hblk5 1; clear tok5 _t) | (go_at_call 124; have _t := tok6; refine (put_w (hs4.drew.below hb5) _ _ _ _ (by simp only [WS.put, List.length_append, List.length_cons, List.length_nil]; omega)).mono ?_; rintro e w6 ⟨rfl, hb6, hs6⟩; clear tok6 _t))
    all_goals
      go_end0
      exact ⟨rfl, ((((((hbox.1.trans hb1).trans hb2).trans hb3).trans hb4).drew).of_below hs4.drew.base hb5).trans hb6, hs6⟩
end Go.Proofs.Ytefkhcijgiagdaa.HAsm
end
section
namespace Go.Proofs.Ytefkhcijgiagdaa.HAsm
open Go.RowKit Go.Proofs.YtefkhcijgiagdaaW.PrintWords Go.Proofs.YtefkhcijgiagdaaW.PrintLast Go.Proofs.YtefkhcijgiagdaaW.PrintMore Go.Proofs.Ytefkhcijgiagdaa.I1 Go.Proofs.Ytefkhcijgiagdaa.E1
set_option linter.unusedVariables false
set_option linter.unusedSimpArgs false
set_option maxRecDepth 100000
theorem St.grownMap {w w1 : World} {B Wb Mb : Nat} {A : Option Addr} {cap : Nat} {xs : List S28} {L L1 : Int → Option Int} {n n1 : Nat} {bad : Bool} (h : St w B Wb Mb A cap xs L n bad)
    (hm : MapIs w1 Mb n1 L1) (hg : w.grownBy w1 (some Mb)) : Fr B w w1 ∧ St w1 B Wb Mb A cap xs L1 n1 bad := by
  have hmap : ∀ (t : Nat) (cs : Array Value), w.heap[Mb]? ≠ some (Obj.cells cs t (0, 0)) := by
    intro t cs hc
    obtain ⟨D, ⟨es, clock, hb, _⟩, _⟩ := h.hM
    rw [hc] at hb; cases hb
  refine ⟨(Fr.refl B w).grown hg h.base (fun k hk => ?_), ?_, ?_, hm, h.bW, h.bM⟩
  · cases hk; exact ⟨h.bM, fun t cs _ => hmap t cs⟩
  · exact (hg.block Wb h.lt (fun e => h.ne (by injection e with e; exact e.symm))).trans h.hW
  · refine Kd.R_mono (Kd.R_grown (Kd.R_bound h.hR) hg (fun k hk => ?_)) (fun k hk => trivial)
    obtain ⟨_, _, _, q, hq, cells, hc⟩ := hk
    intro e; injection e with e; subst e
    exact hmap q cells hc
set_option maxHeartbeats 1000000 in
theorem step6 {w : World} {B Wb Mb : Nat} {s : WS} (h : StW w B Wb Mb s) (o : S40) (hl : s.xs.length ≤ 999990) (hn : s.n < 1000000) (ho : o.f0 = 6) (hT : (Lit.int .i64 o.f2).wf = true) : StepC o s B Wb Mb w := by
  obtain ⟨a, b, c, d⟩ := o
  have hu40 := Try.underlying40
  have hu28 := Try.underlying28
  have hu107 := Try.underlying107
  obtain ⟨A, cap, h⟩ := h
  have hlt := h.lt
  have c0 : w.cell? ⟨Wb, 0, none⟩ = some (.slice A s.xs.length cap) := blk_cell h.hW 0
  have c1 : w.cell? ⟨Wb, 1, none⟩ = some (.map (some Mb)) := blk_cell h.hW 1
  subst ho
  have h1 := (h.alloc (.cells #[.int .i64 6, .int .u32 b, .int .i64 c, .int .i64 d] 40)).below (Below.refl _ _).drew
  obtain ⟨w1, hrun, hm1, hg1⟩ := h1.hM.store hn c (s.xs.length : Int) hT (WalkArith.wf_i64 (n := (s.xs.length : Int)) (by omega))
  have hF := St.grownMap h1 hm1 hg1
  have hbx := ((Fr.refl B w).alloc h.base (.cells #[.int .i64 6, .int .u32 b, .int .i64 c, .int .i64 d] 40)).drew.trans hF.1
  have hFF := Aside0.mk (show Fr B w w1 ∧ StW w1 B Wb Mb ⟨s.xs, fun x => if x = c then some (s.xs.length : Int) else s.L x, s.n + 1, s.bad⟩ from ⟨hbx, A, cap, hF.2⟩)
  clear hF hbx hm1 hg1 h1 h
  go_enter Try.func90, Try.ntmps90
  go_wp2
  go_region
  go_wp2
  go_end0
  exact ⟨rfl, hFF.out.1, hFF.out.2⟩
theorem step_c {w : World} {B Wb Mb : Nat} {s : WS} (h : StW w B Wb Mb s) (o : S40) (hl : s.xs.length ≤ 999990) (hn : s.n < 1000000) (hT : (Lit.int .i64 o.f2).wf = true) (hF : (Lit.int .i64 o.f3).wf = true) : StepC o s B Wb Mb w := by
  by_cases h1 : o.f0 = 1 ∨ o.f0 = 2 ∨ o.f0 = 8
  · exact step1 h o hl h1
  · by_cases h2 : o.f0 = 3 ∨ o.f0 = 4 ∨ o.f0 = 5
    · exact step345 h o hl h2 hT hF
    · by_cases h6 : o.f0 = 6
      · exact step6 h o hl hn h6 hT
      · by_cases h7 : o.f0 = 7
        · exact step7 h o hl h7 hT
        · exact stepElse h o hl (by omega)
end Go.Proofs.Ytefkhcijgiagdaa.HAsm
end
section
namespace Go.Proofs.Ytefkhcijgiagdaa.HAsm
open Go.RowKit Go.Proofs.YtefkhcijgiagdaaW.PrintWords Go.Proofs.YtefkhcijgiagdaaW.PrintLast Go.Proofs.YtefkhcijgiagdaaW.PrintMore Go.Proofs.Ytefkhcijgiagdaa.I1 Go.Proofs.Ytefkhcijgiagdaa.E1
set_option linter.unusedVariables false
set_option linter.unusedSimpArgs false
set_option maxRecDepth 100000
theorem St.made (w : World) (o1 : Obj) : StW (((w.alloc o1).alloc (.map #[] 0)).alloc (.cells #[.slice none 0 0, .map (some (w.heap.size + 1)), .bool false] 107)) w.heap.size (w.heap.size + 1 + 1) (w.heap.size + 1) ⟨[], fun _ => none, 0, false⟩ := by
  have e1 : (w.alloc o1).heap.size = w.heap.size + 1 := by simp
  have e2 : ((w.alloc o1).alloc (.map #[] 0)).heap.size = w.heap.size + 1 + 1 := by simp
  refine ⟨none, 0, ?_, Kd.R_nil _ _ _ _ _, ?_, by omega, by omega⟩
  · have := heap_alloc_new ((w.alloc o1).alloc (.map #[] 0)) (.cells #[.slice none 0 0, .map (some (w.heap.size + 1)), .bool false] 107)
    rw [e2] at this; exact this
  · have h := MapIs.made (w.alloc o1)
    rw [e1] at h
    exact h.kept (Below.heap_alloc _ _ _ (by rw [e2]; omega))
end Go.Proofs.Ytefkhcijgiagdaa.HAsm
end
section
namespace Go.Proofs.Ytefkhcijgiagdaa.E2
open Go.RowKit Go.Proofs.YtefkhcijgiagdaaW.PrintWords Go.Proofs.YtefkhcijgiagdaaW.PrintLast Go.Proofs.YtefkhcijgiagdaaW.PrintMore
attribute [local go_sem] max2_int min2_int max_two min_two max_three min_three max_four min_four IntKind.wrap_u32 IntKind.wrap_u8   -- for this text's walks alone
set_option linter.unusedVariables false
open Go.Proofs.Ytefkhcijgiagdaa.Le Go.Proofs.Ytefkhcijgiagdaa.HKnown Go.Proofs.Ytefkhcijgiagdaa.HPut Go.Proofs.Ytefkhcijgiagdaa.I1 Go.Proofs.Ytefkhcijgiagdaa.E1 Go.Proofs.Ytefkhcijgiagdaa.HAsm
set_option linter.unusedSimpArgs false
def errW : Option Int → Value
  | none => .nilIface
  | some c => .iface 0 (.int .i64 c)
theorem errW_none : errW none = .nilIface := rfl
theorem errW_some (c : Int) : errW (some c) = .iface 0 (.int .i64 c) := rfl
end Go.Proofs.Ytefkhcijgiagdaa.E2
end
section
namespace Go.Proofs.Ytefkhcijgiagdaa.QNum
open Go.RowKit Go.Proofs.YtefkhcijgiagdaaW.PrintWords Go.Proofs.YtefkhcijgiagdaaW.PrintLast Go.Proofs.YtefkhcijgiagdaaW.PrintMore Go.Proofs.Ytefkhcijgiagdaa.QLe
set_option linter.unusedVariables false
set_option linter.unusedSimpArgs false
/-- a row of small numbers, as bytes. -/
def by8 (xs : List Int) : List UInt8 := xs.map fun n => UInt8.ofNat n.toNat
/-- the number of a row of bytes. -/
def num : List UInt8 → Int
  | [] => 0
  | c :: l => 256 * num l + (c.toNat : Int)
theorem num_nonneg : ∀ l, 0 ≤ num l
  | [] => by simp [num]
  | c :: l => by have := num_nonneg l; simp only [num]; omega
theorem num_lt : ∀ l : List UInt8, num l < 256 ^ l.length
  | [] => by simp [num]
  | c :: l => by
    have h := num_lt l
    have hc : c.toNat < 256 := c.toNat_lt
    have e : (256 : Int) ^ (c :: l).length = 256 ^ l.length * 256 := Int.pow_succ ..
    rw [e]; simp only [num]; omega
theorem num_append (l m : List UInt8) : num (l ++ m) = num l + num m * 256 ^ l.length := by
  induction l with
  | nil => simp [num]
  | cons c l ih =>
    have e : (256 : Int) ^ (c :: l).length = 256 ^ l.length * 256 := Int.pow_succ ..
    rw [List.cons_append, num, ih, num, e, Int.mul_add]
    have : 256 * (num m * 256 ^ l.length) = num m * (256 ^ l.length * 256) := by rw [Int.mul_comm 256, Int.mul_assoc]
    omega
theorem leval_num (s : ByteArray) (p : Nat) : ∀ j : Nat, p + j ≤ s.size → leval s p j = num ((s.data.toList.drop p).take j) := by
  intro j
  induction j with
  | zero => intro _; simp [leval, num]
  | succ j ih =>
    intro h
    have hl : j < (s.data.toList.drop p).length := by rw [List.length_drop, len_data]; omega
    rw [leval, ih (by omega), List.take_succ_eq_append_getElem hl, num_append]
    have e1 : ((p : Int) + (j : Int)) = ((p + j : Nat) : Int) := by omega
    have e2 : (List.take j (List.drop p s.data.toList)).length = j := by rw [List.length_take]; omega
    rw [e1, bt_data s (p + j) (by omega), e2, List.getElem_drop]
    simp [num]
theorem wf_i64 {x : Int} (h : (Lit.int .i64 x).wf = true) : -9223372036854775808 ≤ x ∧ x ≤ 9223372036854775807 := by
  simp [Lit.wf, IntKind.min, IntKind.max, IntKind.bits, IntKind.signed] at h; omega
theorem wf_u32 {x : Int} (h : (Lit.int .u32 x).wf = true) : 0 ≤ x ∧ x < 4294967296 := by
  simp [Lit.wf, IntKind.min, IntKind.max, IntKind.bits, IntKind.signed] at h; omega
end Go.Proofs.Ytefkhcijgiagdaa.QNum
end
section
namespace Go.Proofs.Ytefkhcijgiagdaa.QIn
open Go.RowKit Go.Proofs.YtefkhcijgiagdaaW.PrintWords Go.Proofs.YtefkhcijgiagdaaW.PrintLast Go.Proofs.YtefkhcijgiagdaaW.PrintMore Go.Proofs.Ytefkhcijgiagdaa.Le Go.Proofs.Ytefkhcijgiagdaa.QLe Go.Proofs.Ytefkhcijgiagdaa.QNum Go.Proofs.Ytefkhcijgiagdaa.HKnown Go.Proofs.Ytefkhcijgiagdaa.HPut Go.Proofs.Ytefkhcijgiagdaa.I1
set_option linter.unusedVariables false
set_option linter.unusedSimpArgs false
def bytes (a b c d : Int) : List UInt8 := by8 (leB a 2) ++ by8 (leB b 1) ++ by8 (leB c 1) ++ by8 (leB d 4)
end Go.Proofs.Ytefkhcijgiagdaa.QIn
end
section
namespace Go.Proofs.Ytefkhcijgiagdaa.HAll
open Go.RowKit Go.Proofs.YtefkhcijgiagdaaW.PrintWords Go.Proofs.YtefkhcijgiagdaaW.PrintLast Go.Proofs.YtefkhcijgiagdaaW.PrintMore Go.Proofs.Ytefkhcijgiagdaa.I1 Go.Proofs.Ytefkhcijgiagdaa.HPut Go.Proofs.Ytefkhcijgiagdaa.QIn Go.Proofs.Ytefkhcijgiagdaa.QLe Go.Proofs.Ytefkhcijgiagdaa.QNum
set_option linter.unusedVariables false
set_option linter.unusedSimpArgs false
set_option maxRecDepth 100000
def okI (i : S28) : Bool := putOk i.f0 i.f1 i.f2
def byI (i : S28) : List UInt8 := QIn.bytes i.f0 i.f1 i.f2 i.f3
def allB : List S28 → Option (List UInt8)
  | [] => some []
  | i :: l => if okI i = true then (allB l).map (byI i ++ ·) else none
def allR (l : List S28) : ByteArray × Int := if 4096 < l.length then (⟨#[]⟩, 2) else match allB l with | some x => (⟨x.toArray⟩, 0) | none => (⟨#[]⟩, 1)
end Go.Proofs.Ytefkhcijgiagdaa.HAll
end
section
namespace Go.Proofs.Ytefkhcijgiagdaa.V0
open Go.RowKit Go.Proofs.YtefkhcijgiagdaaW.PrintWords Go.Proofs.YtefkhcijgiagdaaW.PrintLast Go.Proofs.YtefkhcijgiagdaaW.PrintMore
attribute [local go_sem] max2_int min2_int max_two min_two max_three min_three max_four min_four IntKind.wrap_u32 IntKind.wrap_u8   -- for this text's walks alone
set_option linter.unusedVariables false
open Go.Proofs.Ytefkhcijgiagdaa.Le Go.Proofs.Ytefkhcijgiagdaa.HKnown Go.Proofs.Ytefkhcijgiagdaa.HPut Go.Proofs.Ytefkhcijgiagdaa.I1 Go.Proofs.Ytefkhcijgiagdaa.E1 Go.Proofs.Ytefkhcijgiagdaa.HAsm Go.Proofs.Ytefkhcijgiagdaa.E2 Go.Proofs.Ytefkhcijgiagdaa.HAll
set_option linter.unusedSimpArgs false
def errW : Option Int → Value
  | none => .nilIface
  | some c => .iface 0 (.int .i64 c)
theorem errW_none : errW none = .nilIface := rfl
theorem errW_some (c : Int) : errW (some c) = .iface 0 (.int .i64 c) := rfl
end Go.Proofs.Ytefkhcijgiagdaa.V0
end
section
namespace Go.Proofs.Ytefkhcijgiagdaa.V0
open Go.RowKit Go.Proofs.YtefkhcijgiagdaaW.PrintWords Go.Proofs.YtefkhcijgiagdaaW.PrintLast Go.Proofs.YtefkhcijgiagdaaW.PrintMore
attribute [local go_sem] max2_int min2_int max_two min_two max_three min_three max_four min_four IntKind.wrap_u32 IntKind.wrap_u8   -- for this text's walks alone
set_option linter.unusedVariables false
open Go.Proofs.Ytefkhcijgiagdaa.Le Go.Proofs.Ytefkhcijgiagdaa.HKnown Go.Proofs.Ytefkhcijgiagdaa.HPut Go.Proofs.Ytefkhcijgiagdaa.I1 Go.Proofs.Ytefkhcijgiagdaa.E1 Go.Proofs.Ytefkhcijgiagdaa.HAsm Go.Proofs.Ytefkhcijgiagdaa.E2 Go.Proofs.Ytefkhcijgiagdaa.HAll
set_option linter.unusedSimpArgs false
def vm_Word.f (k : Nat) (a0 : ByteArray) (a1 : Int) : Option (Int × Int) := if (a0.size : Int) = 64 then (if a1 < 0 then (some (0, 51)) else (if a1 > 60 then (some (0, 51)) else (if (Int.tmod a1 4) = 0 then ((le_Get.f k a0 a1 4).bind fun bt101 => (some ((bt101.1) % 4294967296, bt101.2.2))) else (some (0, 51))))) else (some (0, 52))
set_option maxHeartbeats 8000000 in
set_option maxRecDepth 100000 in
theorem vm_Word.calls (k : Nat) (a0 : ByteArray) (a1 : Int) (r1 : Int) (r2 : Int) (w : World) (h : vm_Word.f k a0 a1 = some (r1, r2)) :
    Calls Try.prog 82 #[.string a0, .int .i64 a1] w fun e w' => e = .returned (.tuple #[.int .u32 r1, .int .i64 r2]) ∧ Drawn0 w w' := by
  have H : (if (a0.size : Int) = 64 then (if a1 < 0 then (some (0, 51)) else (if a1 > 60 then (some (0, 51)) else (if (Int.tmod a1 4) = 0 then ((le_Get.f k a0 a1 4).bind fun bt101 => (some ((bt101.1) % 4294967296, bt101.2.2))) else (some (0, 51))))) else (some (0, 52))) = some (r1, r2) := h
  clear h
  by_cases c3 : (a0.size : Int) = 64
  · rw [if_pos c3] at H
    have c3b0 : ((a0.size : Int) == 64) = true := beq_iff_eq.mpr c3
    have c3b1 : ((a0.size : Int) != 64) = false := bne_eq_false_iff_eq.mpr c3
    clear c3
    by_cases c4 : a1 < 0
    · rw [if_pos c4] at H
      have c4b0 : decide (a1 < 0) = true := decide_eq_true c4
      clear c4
      simp only [Option.some.injEq, Prod.mk.injEq] at H
      obtain ⟨rfl, rfl⟩ := H
      go_enter Try.func82, Try.ntmps82
      go_wp2
      go_ret2
      exact ⟨by first | rfl | (simp; done) | (simp [*]; done), by repeat (first | exact Drawn0.refl _ | apply Drawn0.step)⟩
    · rw [if_neg c4] at H
      have c4b0 : decide (a1 < 0) = false := decide_eq_false c4
      clear c4
      by_cases c5 : a1 > 60
      · rw [if_pos c5] at H
        have c5b0 : decide (60 < a1) = true := decide_eq_true c5
        clear c5
        simp only [Option.some.injEq, Prod.mk.injEq] at H
        obtain ⟨rfl, rfl⟩ := H
        go_enter Try.func82, Try.ntmps82
        go_wp2
        go_ret2
        exact ⟨by first | rfl | (simp; done) | (simp [*]; done), by repeat (first | exact Drawn0.refl _ | apply Drawn0.step)⟩
      · rw [if_neg c5] at H
        have c5b0 : decide (60 < a1) = false := decide_eq_false c5
        clear c5
        by_cases c6 : (Int.tmod a1 4) = 0
        · rw [if_pos c6] at H
          have c6b0 : ((Int.tmod a1 4) == 0) = true := beq_iff_eq.mpr c6
          have c6b1 : ((Int.tmod a1 4) != 0) = false := bne_eq_false_iff_eq.mpr c6
          clear c6
          replace H := Option.bind_eq_some_iff.mp H
          obtain ⟨⟨t101, t102, t103⟩, A70, H⟩ := H
          replace H : (some ((t101) % 4294967296, t103)) = some (r1, r2) := H
          have A7 := Aside0.mk A70
          clear A70
          simp only [Option.some.injEq, Prod.mk.injEq] at H
          obtain ⟨rfl, rfl⟩ := H
          go_enter Try.func82, Try.ntmps82
          go_wp2_with (first | ((with_reducible refine gate_callee (f := 91) rfl ?_); refine goesL_ (some 28) rfl rfl Try.func91 (by kernel_rfl) rfl #[.string a0, .int .i64 a1, .int .i64 4] rfl (by (try simp only [List.map_toArray, List.map_cons, List.map_nil]); first | done | rfl | (simp only [List.length_drop, List.length_take]; rfl)) ?_; (with_reducible refine (le_Get.calls k a0 a1 4 t101 t102 t103 _ A7.out).mono ?_); rintro e w' ⟨rfl, ⟨nd, rfl⟩⟩; refine ⟨_, rfl, ?_⟩))
          go_ret2
          exact ⟨by first | rfl | (simp; done) | (simp [*]; done), by repeat (first | exact Drawn0.refl _ | apply Drawn0.step)⟩
        · rw [if_neg c6] at H
          have c6b0 : ((Int.tmod a1 4) == 0) = false := beq_eq_false_iff_ne.mpr c6
          have c6b1 : ((Int.tmod a1 4) != 0) = true := bne_iff_ne.mpr c6
          simp only [Option.some.injEq, Prod.mk.injEq] at H
          obtain ⟨rfl, rfl⟩ := H
          go_enter Try.func82, Try.ntmps82
          go_wp2
          go_ret2
          exact ⟨by first | rfl | (simp; done) | (simp [*]; done), by repeat (first | exact Drawn0.refl _ | apply Drawn0.step)⟩
  · rw [if_neg c3] at H
    have c3b0 : ((a0.size : Int) == 64) = false := beq_eq_false_iff_ne.mpr c3
    have c3b1 : ((a0.size : Int) != 64) = true := bne_iff_ne.mpr c3
    simp only [Option.some.injEq, Prod.mk.injEq] at H
    obtain ⟨rfl, rfl⟩ := H
    go_enter Try.func82, Try.ntmps82
    go_wp2
    go_ret2
    exact ⟨by first | rfl | (simp; done) | (simp [*]; done), by repeat (first | exact Drawn0.refl _ | apply Drawn0.step)⟩
end Go.Proofs.Ytefkhcijgiagdaa.V0
end
section
namespace Go.Proofs.Ytefkhcijgiagdaa.V0
open Go.RowKit Go.Proofs.YtefkhcijgiagdaaW.PrintWords Go.Proofs.YtefkhcijgiagdaaW.PrintLast Go.Proofs.YtefkhcijgiagdaaW.PrintMore
attribute [local go_sem] max2_int min2_int max_two min_two max_three min_three max_four min_four IntKind.wrap_u32 IntKind.wrap_u8   -- for this text's walks alone
set_option linter.unusedVariables false
open Go.Proofs.Ytefkhcijgiagdaa.Le Go.Proofs.Ytefkhcijgiagdaa.HKnown Go.Proofs.Ytefkhcijgiagdaa.HPut Go.Proofs.Ytefkhcijgiagdaa.I1 Go.Proofs.Ytefkhcijgiagdaa.E1 Go.Proofs.Ytefkhcijgiagdaa.HAsm Go.Proofs.Ytefkhcijgiagdaa.E2 Go.Proofs.Ytefkhcijgiagdaa.HAll
set_option linter.unusedSimpArgs false
def doorwardlaw11_few.f (l0 : List (S28)) : Option ((List (S28))) := if 0 ≤ (mn (l0.length : Int) 200) then (if (mn (l0.length : Int) 200) ≤ (l0.length : Int) then (some (l0.take ((mn (l0.length : Int) 200) : Int).toNat)) else (none)) else (none)
end Go.Proofs.Ytefkhcijgiagdaa.V0
end
section
namespace Go.Proofs.Ytefkhcijgiagdaa.QVm
open Go.RowKit Go.Proofs.YtefkhcijgiagdaaW.PrintWords Go.Proofs.YtefkhcijgiagdaaW.PrintLast Go.Proofs.YtefkhcijgiagdaaW.PrintMore Go.Proofs.Ytefkhcijgiagdaa.HKnown Go.Proofs.Ytefkhcijgiagdaa.I1
set_option linter.unusedVariables false
set_option linter.unusedSimpArgs false
structure V where
  a : Int
  x : Int
  cs : List Int
inductive R1 where
  | bad
  | done (n : Int)
  | next (v : V) (skip : Nat)
/-- What an operation makes of A; none: a division by zero, which ends the run. -/
def sumV (c n a : Int) : Option Int :=
  if c = 4 then some ((a + n) % 4294967296)
  else if c = 20 then some ((a - n) % 4294967296)
  else if c = 36 then some ((a * n) % 4294967296)
  else if c = 52 then (if n = 0 then none else some ((a / n) % 4294967296))
  else if c = 84 then some (bits BinOp.and IntKind.u32 a n)
  else if c = 68 then some (bits BinOp.or IntKind.u32 a n)
  else if c = 164 then some (bits BinOp.xor IntKind.u32 a n)
  else if c = 100 then some (a * 2 ^ (n % 32).toNat % 4294967296)
  else if c = 116 then some (a / 2 ^ (n % 32).toNat)
  else if c = 132 then some ((-a) % 4294967296)
  else some a
def testV (c n a : Int) : Bool :=
  if c = 21 then decide (a = n) else if c = 37 then decide (a > n) else if c = 53 then decide (a ≥ n) else if c = 69 then decide (bits BinOp.and IntKind.u32 a n ≠ 0) else false
def passV (c n a : Int) (i : S28) : Int := if c = 5 then i.f3 else if testV c n a = true then (if i.f1 < 0 then 0 else i.f1) else (if i.f2 < 0 then 0 else i.f2)
def byX (c : Int) : Bool := decide (c / 8 % 2 = 1 ∧ (c % 8 = 4 ∨ c % 8 = 5))
def memV (wd : Int → Option Int) (i : S28) (v : V) : Option V :=
  if i.f0 = 32 then (wd i.f3).map fun w => ⟨w, v.x, v.cs⟩
  else if i.f0 = 128 then some ⟨64, v.x, v.cs⟩
  else if i.f0 = 129 then some ⟨v.a, 64, v.cs⟩
  else if i.f0 = 0 then some ⟨i.f3, v.x, v.cs⟩
  else if i.f0 = 1 then some ⟨v.a, i.f3, v.cs⟩
  else if i.f0 = 7 then some ⟨v.a, v.a, v.cs⟩
  else if i.f0 = 135 then some ⟨v.x, v.x, v.cs⟩
  else if 16 ≤ i.f3 then none
  else if i.f0 = 2 then some ⟨v.a, v.x, v.cs.set i.f3.toNat v.a⟩
  else if i.f0 = 3 then some ⟨v.a, v.x, v.cs.set i.f3.toNat v.x⟩
  else if i.f0 = 97 then some ⟨v.a, v.cs.getD i.f3.toNat 0, v.cs⟩
  else some ⟨v.cs.getD i.f3.toNat 0, v.x, v.cs⟩
def vm1 (wd : Int → Option Int) (i : S28) (v : V) : R1 :=
  if knownB i.f0 = false then .bad
  else if i.f0 = 6 then .done i.f3
  else if i.f0 = 22 then .done v.a
  else
    let n := if byX i.f0 = true then v.x else i.f3
    let c := if byX i.f0 = true then i.f0 - 8 else i.f0
    if i.f0 % 8 = 4 then (match sumV c n v.a with | none => .done 0 | some a => .next ⟨a, v.x, v.cs⟩ 0)
    else if i.f0 % 8 = 5 then .next v (passV c n v.a i).toNat
    else (match memV wd i v with | none => .bad | some v' => .next v' 0)
def vr (wd : Int → Option Int) : List S28 → Nat → V → Nat → Option (Int × Nat)
  | [], _, _, _ => none
  | _ :: l, s + 1, v, n => vr wd l s v n
  | i :: l, 0, v, n => match vm1 wd i v with
    | .bad => none
    | .done o => some (o, n + 1)
    | .next v' s => vr wd l s v' (n + 1)
theorem vr_more (wd : Int → Option Int) (m : List S28) : ∀ (l : List S28) (s : Nat) (v : V) (n : Nat) (r : Int × Nat), vr wd l s v n = some r → vr wd (l ++ m) s v n = some r ∧ n + 1 ≤ r.2 ∧ r.2 ≤ n + l.length := by
  intro l
  induction l with
  | nil => intro s v n r h; simp [vr] at h
  | cons i l ih =>
    intro s v n r h
    rw [List.cons_append, List.length_cons]
    cases s with
    | succ s =>
      simp only [vr] at h ⊢
      obtain ⟨h1, h2, h3⟩ := ih s v n r h
      exact ⟨h1, h2, by omega⟩
    | zero =>
      simp only [vr] at h ⊢
      cases e : vm1 wd i v with
      | bad => rw [e] at h; simp at h
      | done o =>
        rw [e] at h
        simp only at h ⊢
        obtain rfl := Option.some.inj h
        exact ⟨rfl, Nat.le_refl _, by show n + 1 ≤ n + (l.length + 1); omega⟩
      | next v' s =>
        rw [e] at h
        simp only at h ⊢
        obtain ⟨h1, h2, h3⟩ := ih s v' (n + 1) r h
        exact ⟨h1, by omega, by omega⟩
theorem vr_skip (wd : Int → Option Int) (v : V) (n : Nat) : ∀ (a b : List S28) (s : Nat), vr wd (a ++ b) (a.length + s) v n = vr wd b s v n := by
  intro a
  induction a with
  | nil => intro b s; simp
  | cons i a ih =>
    intro b s
    rw [List.cons_append, List.length_cons, show a.length + 1 + s = (a.length + s) + 1 by omega]
    exact ih b s
end Go.Proofs.Ytefkhcijgiagdaa.QVm
end
section
namespace Go.Proofs.Ytefkhcijgiagdaa.HVm
open Go.RowKit Go.Proofs.YtefkhcijgiagdaaW.PrintWords Go.Proofs.YtefkhcijgiagdaaW.PrintLast Go.Proofs.YtefkhcijgiagdaaW.PrintMore Go.Proofs.Ytefkhcijgiagdaa.I1 Go.Proofs.Ytefkhcijgiagdaa.QVm Go.Proofs.Ytefkhcijgiagdaa.QLe
set_option linter.unusedVariables false
set_option linter.unusedSimpArgs false
set_option maxRecDepth 100000
def vmL (rec : ByteArray) (v : V) (at_ out : Int) (done : Bool) : List Value := .string rec :: .int .u32 v.a :: .int .u32 v.x :: (v.cs.map (Value.int .u32) ++ [.int .i64 at_, .int .u32 out, .bool done])
structure Vm (w : World) (Wb : Nat) (rec : ByteArray) (v : V) (at_ out : Int) (done : Bool) : Prop where
  hW : w.heap[Wb]? = some (.cells (vmL rec v at_ out done).toArray 156 (0, 0))
  hl : v.cs.length = 16
section
variable {w : World} {Wb : Nat} {rec : ByteArray} {v : V} {at_ out : Int} {done : Bool}
theorem Vm.lt (h : Vm w Wb rec v at_ out done) : Wb < w.heap.size := blk_lt h.hW
theorem Vm.cell (h : Vm w Wb rec v at_ out done) (i : Nat) : w.cell? ⟨Wb, i, none⟩ = (vmL rec v at_ out done)[i]? := by rw [blk_cell h.hW i]; simp
theorem Vm.c0 (h : Vm w Wb rec v at_ out done) : w.cell? ⟨Wb, 0, none⟩ = some (.string rec) := h.cell 0
theorem Vm.c1 (h : Vm w Wb rec v at_ out done) : w.cell? ⟨Wb, 1, none⟩ = some (.int .u32 v.a) := h.cell 1
theorem Vm.c2 (h : Vm w Wb rec v at_ out done) : w.cell? ⟨Wb, 2, none⟩ = some (.int .u32 v.x) := h.cell 2
theorem vmL_mem (hl : v.cs.length = 16) (k : Nat) (hk : k < 16) : (vmL rec v at_ out done)[3 + k]? = some (.int .u32 (v.cs.getD k 0)) := by
  rw [show 3 + k = k + 1 + 1 + 1 by omega]
  simp only [vmL, List.getElem?_cons_succ]
  rw [List.getElem?_append_left (by simpa using by omega), List.getElem?_map]
  simp [List.getD, hl, hk]
theorem vmL_at (hl : v.cs.length = 16) : (vmL rec v at_ out done)[19]? = some (.int .i64 at_) := by
  simp only [vmL, List.getElem?_cons_succ]
  rw [List.getElem?_append_right (by simp [hl])]; simp [hl]
theorem vmL_out (hl : v.cs.length = 16) : (vmL rec v at_ out done)[20]? = some (.int .u32 out) := by
  simp only [vmL, List.getElem?_cons_succ]
  rw [List.getElem?_append_right (by simp [hl])]; simp [hl]
theorem vmL_done (hl : v.cs.length = 16) : (vmL rec v at_ out done)[21]? = some (.bool done) := by
  simp only [vmL, List.getElem?_cons_succ]
  rw [List.getElem?_append_right (by simp [hl])]; simp [hl]
theorem Vm.cAt (h : Vm w Wb rec v at_ out done) : w.cell? ⟨Wb, 19, none⟩ = some (.int .i64 at_) := (h.cell 19).trans (vmL_at h.hl)
theorem Vm.cOut (h : Vm w Wb rec v at_ out done) : w.cell? ⟨Wb, 20, none⟩ = some (.int .u32 out) := (h.cell 20).trans (vmL_out h.hl)
theorem Vm.cDone (h : Vm w Wb rec v at_ out done) : w.cell? ⟨Wb, 21, none⟩ = some (.bool done) := (h.cell 21).trans (vmL_done h.hl)
theorem Vm.cMem (h : Vm w Wb rec v at_ out done) (k : Nat) (hk : k < 16) : w.cell? ⟨Wb, 3 + k, none⟩ = some (.int .u32 (v.cs.getD k 0)) := (h.cell (3 + k)).trans (vmL_mem h.hl k hk)
theorem Vm.free (h : Vm w Wb rec v at_ out done) (i : Nat) : w.frozen? ⟨Wb, i, none⟩ = false := blk_frozen h.hW i
theorem Vm.put (h : Vm w Wb rec v at_ out done) (i : Nat) (u : Value) {v' : V} {at' out' : Int} {done' : Bool} (e : (vmL rec v at_ out done).set i u = vmL rec v' at' out' done') (hl : v'.cs.length = 16) : Vm (w.setCell ⟨Wb, i, none⟩ u) Wb rec v' at' out' done' :=
  ⟨blk_put h.hW i u (by rw [← e]; simp), hl⟩
theorem Vm.setA (h : Vm w Wb rec v at_ out done) (n : Int) : Vm (w.setCell ⟨Wb, 1, none⟩ (.int .u32 n)) Wb rec ⟨n, v.x, v.cs⟩ at_ out done := h.put 1 _ rfl h.hl
theorem Vm.setX (h : Vm w Wb rec v at_ out done) (n : Int) : Vm (w.setCell ⟨Wb, 2, none⟩ (.int .u32 n)) Wb rec ⟨v.a, n, v.cs⟩ at_ out done := h.put 2 _ rfl h.hl
theorem Vm.setMem (h : Vm w Wb rec v at_ out done) (k : Nat) (hk : k < 16) (n : Int) : Vm (w.setCell ⟨Wb, 3 + k, none⟩ (.int .u32 n)) Wb rec ⟨v.a, v.x, v.cs.set k n⟩ at_ out done := by
  refine h.put (3 + k) _ ?_ (by rw [List.length_set]; exact h.hl)
  rw [show 3 + k = k + 1 + 1 + 1 by omega]
  simp only [vmL, List.set_cons_succ]
  rw [List.set_append_left _ _ (by rw [List.length_map, h.hl]; exact hk), List.map_set]
theorem Vm.setAt (h : Vm w Wb rec v at_ out done) (n : Int) : Vm (w.setCell ⟨Wb, 19, none⟩ (.int .i64 n)) Wb rec v n out done := by
  refine h.put 19 _ ?_ h.hl
  simp only [vmL, List.set_cons_succ]
  rw [List.set_append_right _ _ (by simp [h.hl])]; simp [h.hl]
theorem Vm.setOut (h : Vm w Wb rec v at_ out done) (n : Int) : Vm (w.setCell ⟨Wb, 20, none⟩ (.int .u32 n)) Wb rec v at_ n done := by
  refine h.put 20 _ ?_ h.hl
  simp only [vmL, List.set_cons_succ]
  rw [List.set_append_right _ _ (by simp [h.hl])]; simp [h.hl]
theorem Vm.setDone (h : Vm w Wb rec v at_ out done) (b : Bool) : Vm (w.setCell ⟨Wb, 21, none⟩ (.bool b)) Wb rec v at_ out b := by
  refine h.put 21 _ ?_ h.hl
  simp only [vmL, List.set_cons_succ]
  rw [List.set_append_right _ _ (by simp [h.hl])]; simp [h.hl]
theorem Vm.below (h : Vm w Wb rec v at_ out done) {w' : World} (hb : Below w.heap.size w w') : Vm w' Wb rec v at_ out done := ⟨(hb.block _ h.lt).trans h.hW, h.hl⟩
theorem Vm.alloc (h : Vm w Wb rec v at_ out done) (o : Obj) : Vm (w.alloc o) Wb rec v at_ out done := h.below (below_alloc (Below.refl _ _) o)
theorem Vm.drew (h : Vm w Wb rec v at_ out done) : Vm w.drew Wb rec v at_ out done := ⟨h.hW, h.hl⟩
theorem Vm.made (w : World) (rec : ByteArray) : Vm (w.alloc (.cells (vmL rec ⟨0, 0, List.replicate 16 0⟩ 0 0 false).toArray 156)) w.heap.size rec ⟨0, 0, List.replicate 16 0⟩ 0 0 false := ⟨heap_alloc_new w _, rfl⟩
end
def SumPost (w : World) (B Wb : Nat) (rec : ByteArray) (v : V) (at_ out : Int) (done : Bool) (r : Option Int) (e : Ending) (w' : World) : Prop :=
  e = .returned (.tuple #[]) ∧ Below B w w' ∧ (match r with | none => Vm w' Wb rec v at_ 0 true | some a => Vm w' Wb rec ⟨a, v.x, v.cs⟩ at_ out done)
set_option maxHeartbeats 4000000 in
theorem sum_c {w : World} {B Wb : Nat} {rec : ByteArray} {v : V} {at_ out : Int} {done : Bool} (h : Vm w Wb rec v at_ out done) (hB : B ≤ Wb) (c n : Int) (hn : 0 ≤ n ∧ n < 4294967296) (ha : 0 ≤ v.a ∧ v.a < 4294967296) :
    Calls Try.prog 141 #[.pointer (some ⟨Wb, 0, none⟩), .int .i64 c, .int .u32 n] w (SumPost w B Wb rec v at_ out done (sumV c n v.a)) := by
  have hu156 := Try.underlying156
  have hlt := h.lt
  have k1 := h.c1
  have f1 := h.free 1
  have k20 := h.cOut
  have k21 := h.cDone
  have f20 := h.free 20
  have f21 := h.free 21
  have HF := Aside0.mk (show ∀ m : Int, SumPost w B Wb rec v at_ out done (some m) (.returned (.tuple #[])) (w.setCell ⟨Wb, 1, none⟩ (.int .u32 m)) from fun m => ⟨rfl, (Below.refl B w).setCell hB _, h.setA m⟩)
  have HD := Aside0.mk (show SumPost w B Wb rec v at_ out done none (.returned (.tuple #[])) ((w.setCell ⟨Wb, 20, none⟩ (.int .u32 0)).setCell ⟨Wb, 21, none⟩ (.bool true)) from ⟨rfl, ((Below.refl B w).setCell hB _).setCell hB _, (h.setOut 0).setDone true⟩)
  have HS := Aside0.mk (show SumPost w B Wb rec v at_ out done (some v.a) (.returned (.tuple #[])) w from ⟨rfl, Below.refl B w, h⟩)
  obtain ⟨va, vx, vcs⟩ := v
  simp only at k1 ha
  clear h
  unfold sumV
  by_cases e1 : c = 4
  · subst e1
    go_enter Try.func141, Try.ntmps141
    go_wp2
    go_end0
    exact HF.out _
  · rw [if_neg e1]
    by_cases e2 : c = 20
    · subst e2
      go_enter Try.func141, Try.ntmps141
      go_wp2
      go_end0
      exact HF.out _
    · rw [if_neg e2]
      by_cases e3 : c = 36
      · subst e3
        go_enter Try.func141, Try.ntmps141
        go_wp2
        go_end0
        exact HF.out _
      · rw [if_neg e3]
        by_cases e4 : c = 52
        · subst e4
          rw [if_pos rfl]
          by_cases hz : n = 0
          · subst hz
            rw [if_pos rfl]
            go_enter Try.func141, Try.ntmps141
            go_wp2
            refine bodyPost_ret (results_none rfl _ _ _) rfl ?_
            exact HD.out
          · rw [if_neg hz]
            have hdz : decide (n = 0) = false := decide_eq_false hz
            have hq : va.tdiv n = va / n := Int.tdiv_eq_ediv_of_nonneg ha.1
            go_enter Try.func141, Try.ntmps141
            go_wp2
            go_end0
            exact HF.out _
        · rw [if_neg e4]
          by_cases e5 : c = 84
          · subst e5
            go_enter Try.func141, Try.ntmps141
            go_wp2
            go_end0
            exact HF.out _
          · rw [if_neg e5]
            by_cases e6 : c = 68
            · subst e6
              go_enter Try.func141, Try.ntmps141
              go_wp2
              go_end0
              exact HF.out _
            · rw [if_neg e6]
              by_cases e7 : c = 164
              · subst e7
                go_enter Try.func141, Try.ntmps141
                go_wp2
                go_end0
                exact HF.out _
              · rw [if_neg e7]
                by_cases e8 : c = 100
                · subst e8
                  go_enter Try.func141, Try.ntmps141
                  go_wp2
                  go_end0
                  exact HF.out _
                · rw [if_neg e8]
                  by_cases e9 : c = 116
                  · subst e9
                    go_enter Try.func141, Try.ntmps141
                    go_wp2
                    go_end0
                    exact HF.out _
                  · rw [if_neg e9]
                    by_cases e10 : c = 132
                    · subst e10
                      go_enter Try.func141, Try.ntmps141
                      go_wp2
                      go_end0
                      exact HF.out _
                    · rw [if_neg e10]
                      go_enter Try.func141, Try.ntmps141
                      go_wp2
                      go_end0
                      exact HS.out
end Go.Proofs.Ytefkhcijgiagdaa.HVm
end
section
namespace Go.Proofs.Ytefkhcijgiagdaa.HVm
open Go.RowKit Go.Proofs.YtefkhcijgiagdaaW.PrintWords Go.Proofs.YtefkhcijgiagdaaW.PrintLast Go.Proofs.YtefkhcijgiagdaaW.PrintMore Go.Proofs.Ytefkhcijgiagdaa.I1 Go.Proofs.Ytefkhcijgiagdaa.QVm Go.Proofs.Ytefkhcijgiagdaa.QLe
set_option linter.unusedVariables false
set_option linter.unusedSimpArgs false
set_option maxRecDepth 100000
attribute [local go_sem] max2_int min2_int max_two min_two
def JumpPost (w : World) (B Wb : Nat) (rec : ByteArray) (v : V) (at_ out : Int) (done : Bool) (p : Int) (e : Ending) (w' : World) : Prop :=
  e = .returned (.tuple #[]) ∧ Below B w w' ∧ Vm w' Wb rec v (wrap64 (at_ + p)) out done
theorem passV_ja (n a : Int) (i : S28) : passV 5 n a i = i.f3 := by unfold passV; rw [if_pos rfl]
theorem passV_test (c n a : Int) (i : S28) (h : c ≠ 5) (b : Bool) (hb : testV c n a = b) : passV c n a i = if b = true then (if i.f1 < 0 then 0 else i.f1) else (if i.f2 < 0 then 0 else i.f2) := by unfold passV; rw [if_neg h, hb]
set_option maxHeartbeats 4000000 in
theorem jump_c {w : World} {B Wb : Nat} {rec : ByteArray} {v : V} {at_ out : Int} {done : Bool} (h : Vm w Wb rec v at_ out done) (hB : B ≤ Wb) (i : S28) (c n : Int) (hk : 0 ≤ i.f3 ∧ i.f3 < 4294967296) :
    Calls Try.prog 142 #[.pointer (some ⟨Wb, 0, none⟩), .agg #[.int .i64 i.f0, .int .i64 i.f1, .int .i64 i.f2, .int .u32 i.f3], .int .i64 c, .int .u32 n] w (JumpPost w B Wb rec v at_ out done (passV c n v.a i)) := by
  obtain ⟨a0, a1, a2, a3⟩ := i
  simp only at hk ⊢
  have hu156 := Try.underlying156
  have hu28 := Try.underlying28
  have hlt := h.lt
  have k1 := h.c1
  have k19 := h.cAt
  have f19 := h.free 19
  have hBw : B ≤ w.heap.size := by omega
  have HF := Aside0.mk (show ∀ (p : Int) (o : Obj), JumpPost w B Wb rec v at_ out done p (.returned (.tuple #[])) ((w.setCell ⟨Wb, 19, none⟩ (.int .i64 (wrap64 (at_ + p)))).alloc o).drew from fun p o => ⟨rfl, (((Below.refl B w).setCell hB _).alloc (by simp [World.setCell]; omega) o).drew, ((h.setAt (wrap64 (at_ + p))).alloc o).drew⟩)
  have H0 := Aside0.mk (show ∀ (o : Obj), JumpPost w B Wb rec v at_ out done 0 (.returned (.tuple #[])) ((w.setCell ⟨Wb, 19, none⟩ (.int .i64 (wrap64 at_))).alloc o).drew from fun o => by have h0 := HF.out 0 o; rw [Int.add_zero] at h0; exact h0)
  obtain ⟨va, vx, vcs⟩ := v
  simp only at k1
  clear h
  have wa3 : wrap64 a3 = a3 := w64 _ (by omega) (by omega)
  by_cases e5 : c = 5
  · subst e5
    rw [passV_ja]
    simp only
    go_enter Try.func142, Try.ntmps142
    go_wp2
    go_region
    all_goals go_wp2
    all_goals first | exact bodyPost_ret (results_none rfl _ _ _) rfl (HF.out _ _) | (go_end0; exact HF.out _ _)
  · have hp := Aside0.mk (passV_test c n va ⟨a0, a1, a2, a3⟩ e5)
    have yes1 := Aside0.mk (show testV c n va = true → a1 < 0 → passV c n va ⟨a0, a1, a2, a3⟩ = 0 from fun h h2 => by rw [hp.out true h, if_pos rfl, if_pos h2])
    have yes2 := Aside0.mk (show testV c n va = true → ¬ a1 < 0 → passV c n va ⟨a0, a1, a2, a3⟩ = a1 from fun h h2 => by rw [hp.out true h, if_pos rfl, if_neg h2])
    have no1 := Aside0.mk (show testV c n va = false → a2 < 0 → passV c n va ⟨a0, a1, a2, a3⟩ = 0 from fun h h2 => by rw [hp.out false h, if_neg (by decide), if_pos h2])
    have no2 := Aside0.mk (show testV c n va = false → ¬ a2 < 0 → passV c n va ⟨a0, a1, a2, a3⟩ = a2 from fun h h2 => by rw [hp.out false h, if_neg (by decide), if_neg h2])
    clear hp
    by_cases e21 : c = 21
    · subst e21
      by_cases hn : va = n
      · subst hn
        by_cases hs : a1 < 0
        · rw [yes1.out (by unfold testV; first | (simp; done) | (simp [hn]; done) | simpa using hn) hs]
          go_enter Try.func142, Try.ntmps142
          go_wp2
          go_region
          all_goals go_wp2
          all_goals (go_end0; first | exact H0.out _ | exact HF.out _ _)
        · rw [yes2.out (by unfold testV; first | (simp; done) | (simp [hn]; done) | simpa using hn) hs]
          go_enter Try.func142, Try.ntmps142
          go_wp2
          go_region
          all_goals go_wp2
          all_goals (go_end0; first | exact H0.out _ | exact HF.out _ _)
      · by_cases hs : a2 < 0
        · rw [no1.out (by unfold testV; first | (simp; done) | (simp [hn]; done) | simpa using hn) hs]
          go_enter Try.func142, Try.ntmps142
          go_wp2
          go_region
          all_goals go_wp2
          all_goals (go_end0; first | exact H0.out _ | exact HF.out _ _)
        · rw [no2.out (by unfold testV; first | (simp; done) | (simp [hn]; done) | simpa using hn) hs]
          go_enter Try.func142, Try.ntmps142
          go_wp2
          go_region
          all_goals go_wp2
          all_goals (go_end0; first | exact H0.out _ | exact HF.out _ _)
    · skip
      by_cases e37 : c = 37
      · subst e37
        by_cases hn : n < va
        · by_cases hs : a1 < 0
          · rw [yes1.out (by unfold testV; first | (simp; done) | (simp [hn]; done) | simpa using hn) hs]
            go_enter Try.func142, Try.ntmps142
            go_wp2
            go_region
            all_goals go_wp2
            all_goals (go_end0; first | exact H0.out _ | exact HF.out _ _)
          · rw [yes2.out (by unfold testV; first | (simp; done) | (simp [hn]; done) | simpa using hn) hs]
            go_enter Try.func142, Try.ntmps142
            go_wp2
            go_region
            all_goals go_wp2
            all_goals (go_end0; first | exact H0.out _ | exact HF.out _ _)
        · by_cases hs : a2 < 0
          · rw [no1.out (by unfold testV; first | (simp; done) | (simp [hn]; done) | simpa using hn) hs]
            go_enter Try.func142, Try.ntmps142
            go_wp2
            go_region
            all_goals go_wp2
            all_goals (go_end0; first | exact H0.out _ | exact HF.out _ _)
          · rw [no2.out (by unfold testV; first | (simp; done) | (simp [hn]; done) | simpa using hn) hs]
            go_enter Try.func142, Try.ntmps142
            go_wp2
            go_region
            all_goals go_wp2
            all_goals (go_end0; first | exact H0.out _ | exact HF.out _ _)
      · skip
        by_cases e53 : c = 53
        · subst e53
          by_cases hn : n ≤ va
          · by_cases hs : a1 < 0
            · rw [yes1.out (by unfold testV; first | (simp; done) | (simp [hn]; done) | simpa using hn) hs]
              go_enter Try.func142, Try.ntmps142
              go_wp2
              go_region
              all_goals go_wp2
              all_goals (go_end0; first | exact H0.out _ | exact HF.out _ _)
            · rw [yes2.out (by unfold testV; first | (simp; done) | (simp [hn]; done) | simpa using hn) hs]
              go_enter Try.func142, Try.ntmps142
              go_wp2
              go_region
              all_goals go_wp2
              all_goals (go_end0; first | exact H0.out _ | exact HF.out _ _)
          · by_cases hs : a2 < 0
            · rw [no1.out (by unfold testV; first | (simp; done) | (simp [hn]; done) | simpa using hn) hs]
              go_enter Try.func142, Try.ntmps142
              go_wp2
              go_region
              all_goals go_wp2
              all_goals (go_end0; first | exact H0.out _ | exact HF.out _ _)
            · rw [no2.out (by unfold testV; first | (simp; done) | (simp [hn]; done) | simpa using hn) hs]
              go_enter Try.func142, Try.ntmps142
              go_wp2
              go_region
              all_goals go_wp2
              all_goals (go_end0; first | exact H0.out _ | exact HF.out _ _)
        · skip
          by_cases e69 : c = 69
          · subst e69
            by_cases hn : bits BinOp.and IntKind.u32 va n = 0
            · by_cases hs : a2 < 0
              · rw [no1.out (by unfold testV; first | (simp; done) | (simp [hn]; done) | simpa using hn) hs]
                go_enter Try.func142, Try.ntmps142
                go_wp2
                go_region
                all_goals go_wp2
                all_goals (go_end0; first | exact H0.out _ | exact HF.out _ _)
              · rw [no2.out (by unfold testV; first | (simp; done) | (simp [hn]; done) | simpa using hn) hs]
                go_enter Try.func142, Try.ntmps142
                go_wp2
                go_region
                all_goals go_wp2
                all_goals (go_end0; first | exact H0.out _ | exact HF.out _ _)
            · by_cases hs : a1 < 0
              · rw [yes1.out (by unfold testV; first | (simp; done) | (simp [hn]; done) | simpa using hn) hs]
                go_enter Try.func142, Try.ntmps142
                go_wp2
                go_region
                all_goals go_wp2
                all_goals (go_end0; first | exact H0.out _ | exact HF.out _ _)
              · rw [yes2.out (by unfold testV; first | (simp; done) | (simp [hn]; done) | simpa using hn) hs]
                go_enter Try.func142, Try.ntmps142
                go_wp2
                go_region
                all_goals go_wp2
                all_goals (go_end0; first | exact H0.out _ | exact HF.out _ _)
          · skip
            by_cases hs : a2 < 0
            · rw [no1.out (by unfold testV; rw [if_neg e21, if_neg e37, if_neg e53, if_neg e69]) hs]
              go_enter Try.func142, Try.ntmps142
              go_wp2
              go_region
              all_goals go_wp2
              all_goals (go_end0; first | exact H0.out _ | exact HF.out _ _)
            · rw [no2.out (by unfold testV; rw [if_neg e21, if_neg e37, if_neg e53, if_neg e69]) hs]
              go_enter Try.func142, Try.ntmps142
              go_wp2
              go_region
              all_goals go_wp2
              all_goals (go_end0; first | exact H0.out _ | exact HF.out _ _)
end Go.Proofs.Ytefkhcijgiagdaa.HVm
end
section
namespace Go.Proofs.Ytefkhcijgiagdaa.HVm
open Go.RowKit Go.Proofs.YtefkhcijgiagdaaW.PrintWords Go.Proofs.YtefkhcijgiagdaaW.PrintLast Go.Proofs.YtefkhcijgiagdaaW.PrintMore Go.Proofs.Ytefkhcijgiagdaa.I1 Go.Proofs.Ytefkhcijgiagdaa.QVm Go.Proofs.Ytefkhcijgiagdaa.QLe
set_option linter.unusedVariables false
set_option linter.unusedSimpArgs false
set_option maxRecDepth 100000
theorem cell_c {w : World} {Wb ib mb B : Nat} {k : Int} {cs : Array Value} (hi : w.heap[ib]? = some (.cells cs 28 (0, 0))) (hi3 : cs[3]? = some (.int .u32 k)) (hm : w.heap[mb]? = some (.cells #[.pointer (some ⟨Wb, 0, none⟩)] 154 (0, 0))) (hW : Wb < w.heap.size) (hk : 0 ≤ k ∧ k < 4294967296) :
    Calls Try.prog 163 #[.pointer (some ⟨ib, 0, none⟩), .pointer (some ⟨mb, 0, none⟩)] w fun e w' => e = .returned (.pointer (if k < 16 then some ⟨Wb, 3 + k.toNat, none⟩ else none)) ∧ (w' = w ∨ w' = w.drew) := by
  have hu156 := Try.underlying156
  have hu28 := Try.underlying28
  have hu97 := Try.underlying97
  have k3 : w.cell? ⟨ib, 3, none⟩ = some (.int .u32 k) := (blk_cell hi 3).trans hi3
  have m0 : w.cell? ⟨mb, 0, none⟩ = some (.pointer (some ⟨Wb, 0, none⟩)) := blk_cell hm 0
  have l1 := blk_lt hi
  have l2 := blk_lt hm
  clear hi hi3 hm
  by_cases hlt : k < 16
  · rw [if_pos hlt]
    have hd : decide ((16 : Int) ≤ k) = false := decide_eq_false (by omega)
    obtain ⟨n, rfl⟩ : ∃ n : Nat, k = n := ⟨k.toNat, by omega⟩
    rw [Int.toNat_natCast]
    go_enter Try.func163, Try.ntmps163
    go_wp2
    go_region
    all_goals go_wp2
    all_goals (go_ret; exact ⟨rfl, .inr rfl⟩)
  · rw [if_neg hlt]
    have hd : decide ((16 : Int) ≤ k) = true := decide_eq_true (by omega)
    go_enter Try.func163, Try.ntmps163
    go_wp2
    go_ret
    exact ⟨rfl, .inl rfl⟩
theorem Vm.drewN {w : World} {Wb : Nat} {rec : ByteArray} {v : V} {at_ out : Int} {done : Bool} (h : Vm w Wb rec v at_ out done) (n : Nat) : Vm (w.drewN n) Wb rec v at_ out done := ⟨h.hW, h.hl⟩
def MemPost (w : World) (B Wb : Nat) (rec : ByteArray) (at_ out : Int) (done : Bool) (r : Option V) (e : Ending) (w' : World) : Prop :=
  e = .returned (.bool r.isSome) ∧ Below B w w' ∧ ∀ v', r = some v' → Vm w' Wb rec v' at_ out done
section
variable {w w' : World} {B Wb : Nat} {rec : ByteArray} {v' : V} {at_ out : Int} {done : Bool}
theorem mp_some (hv : Vm w' Wb rec v' at_ out done) (hb : Below B w w') : MemPost w B Wb rec at_ out done (some v') (.returned (.bool true)) w' :=
  ⟨rfl, hb, fun _ h => Option.some.inj h ▸ hv⟩
theorem mp_none (hb : Below B w w') : MemPost w B Wb rec at_ out done none (.returned (.bool false)) w' := ⟨rfl, hb, fun _ h => by cases h⟩
end
set_option maxHeartbeats 4000000 in
theorem mem_c {w : World} {B Wb : Nat} {rec : ByteArray} {v : V} {at_ out : Int} {done : Bool} (h : Vm w Wb rec v at_ out done) (hB : B ≤ Wb) (i : S28) (hk : 0 ≤ i.f3 ∧ i.f3 < 4294967296) (wd : Int → Option Int) (x b : Int)
    (hcall : ∀ W, Calls Try.prog 82 #[.string rec, .int .i64 i.f3] W fun e w' => e = .returned (.tuple #[.int .u32 x, .int .i64 b]) ∧ Drawn0 W w') (hxb : (wd i.f3 = some x ∧ b = 0) ∨ (wd i.f3 = none ∧ b = 51)) :
    Calls Try.prog 143 #[.pointer (some ⟨Wb, 0, none⟩), .agg #[.int .i64 i.f0, .int .i64 i.f1, .int .i64 i.f2, .int .u32 i.f3]] w (MemPost w B Wb rec at_ out done (memV wd i v)) := by
  obtain ⟨a0, a1, a2, a3⟩ := i
  simp only at hk hcall hxb ⊢
  have hu156 := Try.underlying156
  have hu28 := Try.underlying28
  have hmf : ∀ (fn : Fn) (first cap : Array Value) (w : World), (Instr.makeFunc fn first cap).run Try.prog w = .ok (.func fn first cap) w := fun _ _ _ _ => rfl
  have hlt := h.lt
  have sz1 : (w.alloc (.cells #[.pointer (some ⟨Wb, 0, none⟩)] 154)).heap.size = w.heap.size + 1 := by simp
  have hm0 := blk_alloc (heap_alloc_new w (.cells #[.pointer (some ⟨Wb, 0, none⟩)] 154)) (.cells #[.int .i64 a0, .int .i64 a1, .int .i64 a2, .int .u32 a3] 28)
  have hi0 := heap_alloc_new (w.alloc (.cells #[.pointer (some ⟨Wb, 0, none⟩)] 154)) (.cells #[.int .i64 a0, .int .i64 a1, .int .i64 a2, .int .u32 a3] 28)
  rw [sz1] at hi0
  have hv0 : Vm ((w.alloc (.cells #[.pointer (some ⟨Wb, 0, none⟩)] 154)).alloc (.cells #[.int .i64 a0, .int .i64 a1, .int .i64 a2, .int .u32 a3] 28)) Wb rec v at_ out done := (h.alloc _).alloc _
  have hb0 : Below B w ((w.alloc (.cells #[.pointer (some ⟨Wb, 0, none⟩)] 154)).alloc (.cells #[.int .i64 a0, .int .i64 a1, .int .i64 a2, .int .u32 a3] 28)) := ((Below.refl B w).alloc (by omega) _).alloc (by simp; omega) _
  have k0 := h.c0
  have k1 := h.c1
  have k2 := h.c2
  have f1 := h.free 1
  have f2 := h.free 2
  have HM := Aside0.mk hm0
  have HI := Aside0.mk hi0
  have HV := Aside0.mk hv0
  have HB := Aside0.mk hb0
  have HC := Aside0.mk hcall
  have H := Aside0.mk h
  clear hm0 hi0 hv0 hb0 hcall sz1 h
  have MB := Aside0.mk (show ∀ (k : Nat) (u : Value) (o1 o2 : Obj), Below B w (((w.setCell ⟨Wb, k, none⟩ u).alloc o1).alloc o2) from fun k u o1 o2 => (((Below.refl B w).setCell (p := ⟨Wb, k, none⟩) hB u).alloc (by simp [World.setCell]; omega) o1).alloc (by simp [World.setCell]; omega) o2)
  by_cases e128 : a0 = 128
  · subst e128
    rw [show memV wd ⟨128, a1, a2, a3⟩ v = some ⟨64, v.x, v.cs⟩ from rfl]
    obtain ⟨va, vx, vcs⟩ := v
    simp only at k1 k2
    go_enter Try.func143, Try.ntmps143
    go_wp2
    go_ret; exact mp_some (((H.out.setA _).alloc _).alloc _) (MB.out _ _ _ _)
  by_cases e129 : a0 = 129
  · subst e129
    rw [show memV wd ⟨129, a1, a2, a3⟩ v = some ⟨v.a, 64, v.cs⟩ from rfl]
    obtain ⟨va, vx, vcs⟩ := v
    simp only at k1 k2
    go_enter Try.func143, Try.ntmps143
    go_wp2
    go_ret; exact mp_some (((H.out.setX _).alloc _).alloc _) (MB.out _ _ _ _)
  by_cases e0 : a0 = 0
  · subst e0
    rw [show memV wd ⟨0, a1, a2, a3⟩ v = some ⟨a3, v.x, v.cs⟩ from rfl]
    obtain ⟨va, vx, vcs⟩ := v
    simp only at k1 k2
    go_enter Try.func143, Try.ntmps143
    go_wp2
    go_ret; exact mp_some (((H.out.setA _).alloc _).alloc _) (MB.out _ _ _ _)
  by_cases e1 : a0 = 1
  · subst e1
    rw [show memV wd ⟨1, a1, a2, a3⟩ v = some ⟨v.a, a3, v.cs⟩ from rfl]
    obtain ⟨va, vx, vcs⟩ := v
    simp only at k1 k2
    go_enter Try.func143, Try.ntmps143
    go_wp2
    go_ret; exact mp_some (((H.out.setX _).alloc _).alloc _) (MB.out _ _ _ _)
  by_cases e7 : a0 = 7
  · subst e7
    rw [show memV wd ⟨7, a1, a2, a3⟩ v = some ⟨v.a, v.a, v.cs⟩ from rfl]
    obtain ⟨va, vx, vcs⟩ := v
    simp only at k1 k2
    go_enter Try.func143, Try.ntmps143
    go_wp2
    go_region
    all_goals go_wp2
    all_goals (go_ret; exact mp_some (((H.out.setX _).alloc _).alloc _).drew (MB.out _ _ _ _).drew)
  by_cases e135 : a0 = 135
  · subst e135
    rw [show memV wd ⟨135, a1, a2, a3⟩ v = some ⟨v.x, v.x, v.cs⟩ from rfl]
    obtain ⟨va, vx, vcs⟩ := v
    simp only at k1 k2
    go_enter Try.func143, Try.ntmps143
    go_wp2
    go_region
    all_goals go_wp2
    all_goals (go_ret; exact mp_some (((H.out.setA _).alloc _).alloc _).drew (MB.out _ _ _ _).drew)
  by_cases e32 : a0 = 32
  · subst e32
    rw [show memV wd ⟨32, a1, a2, a3⟩ v = (wd a3).map fun w => ⟨w, v.x, v.cs⟩ from rfl]
    obtain ⟨va, vx, vcs⟩ := v
    simp only at k1 k2
    rcases hxb with ⟨hw, rfl⟩ | ⟨hw, rfl⟩
    all_goals (
      rw [hw]
      simp only [Option.map_some, Option.map_none]
      have Hw := Aside0.mk hw
      clear hw
      go_enter Try.func143, Try.ntmps143
      go_wp2
      go_quiet (first | (go_at_call 82; exact Calls.quiet_of ((HC.out _).mono (fun e w' h => ⟨h.1, h.2.out⟩))))
      go_wp2
      go_ret)
    · exact mp_some ((HV.out.drewN _).setA _) ((pw_below_drewN HB.out _).setCell (p := ⟨Wb, 1, none⟩) hB _)
    · exact mp_none ((pw_below_drewN HB.out _).setCell (p := ⟨Wb, 1, none⟩) hB _)
  have hcell := fun W hi hm hw => cell_c (w := W) (Wb := Wb) (ib := w.heap.size + 1) (mb := w.heap.size) (B := B) (k := a3) (cs := #[.int .i64 a0, .int .i64 a1, .int .i64 a2, .int .u32 a3]) hi rfl hm hw hk
  have HCE := Aside0.mk (hcell _ HI.out HM.out HV.out.lt)
  clear hcell
  by_cases hge : 16 ≤ a3
  · rw [show memV wd ⟨a0, a1, a2, a3⟩ v = none by unfold memV; rw [if_neg e32, if_neg e128, if_neg e129, if_neg e0, if_neg e1, if_neg e7, if_neg e135, if_pos hge]]
    rw [if_neg (by omega)] at HCE
    by_cases e97 : a0 = 97
    · subst e97
      go_enter Try.func143, Try.ntmps143
      go_wp2_with (go_at_call 163; refine HCE.out.mono ?_; rintro e w1 ⟨rfl, rfl | rfl⟩)
      · go_ret; exact mp_none HB.out
      · go_ret; exact mp_none HB.out.drew
    · go_enter Try.func143, Try.ntmps143
      go_wp2_with (go_at_call 163; refine HCE.out.mono ?_; rintro e w1 ⟨rfl, rfl | rfl⟩)
      · go_ret; exact mp_none HB.out
      · go_ret; exact mp_none HB.out.drew
  · rw [if_pos (by omega)] at HCE
    have hmv : memV wd ⟨a0, a1, a2, a3⟩ v = if a0 = 2 then some ⟨v.a, v.x, v.cs.set a3.toNat v.a⟩ else if a0 = 3 then some ⟨v.a, v.x, v.cs.set a3.toNat v.x⟩ else if a0 = 97 then some ⟨v.a, v.cs.getD a3.toNat 0, v.cs⟩ else some ⟨v.cs.getD a3.toNat 0, v.x, v.cs⟩ := by
      unfold memV; rw [if_neg e32, if_neg e128, if_neg e129, if_neg e0, if_neg e1, if_neg e7, if_neg e135, if_neg hge]
    have hn16 : a3.toNat < 16 := by omega
    have kc := H.out.cMem a3.toNat hn16
    have fc := H.out.free (3 + a3.toNat)
    have HN := Aside0.mk hn16
    rw [hmv]
    clear hmv hn16 hge hk hxb
    generalize a3.toNat = n at *
    by_cases e2 : a0 = 2
    · subst e2
      rw [if_pos rfl]
      go_enter Try.func143, Try.ntmps143
      go_wp2_with (go_at_call 163; refine HCE.out.mono ?_; rintro e w1 ⟨rfl, rfl | rfl⟩)
      · go_ret; exact mp_some (((H.out.setMem n HN.out _).alloc _).alloc _) (MB.out _ _ _ _)
      · go_ret; exact mp_some (((H.out.setMem n HN.out _).alloc _).alloc _).drew (MB.out _ _ _ _).drew
    rw [if_neg e2]
    by_cases e3 : a0 = 3
    · subst e3
      rw [if_pos rfl]
      go_enter Try.func143, Try.ntmps143
      go_wp2_with (go_at_call 163; refine HCE.out.mono ?_; rintro e w1 ⟨rfl, rfl | rfl⟩)
      · go_ret; exact mp_some (((H.out.setMem n HN.out _).alloc _).alloc _) (MB.out _ _ _ _)
      · go_ret; exact mp_some (((H.out.setMem n HN.out _).alloc _).alloc _).drew (MB.out _ _ _ _).drew
    rw [if_neg e3]
    by_cases e97 : a0 = 97
    · subst e97
      rw [if_pos rfl]
      go_enter Try.func143, Try.ntmps143
      go_wp2_with (go_at_call 163; refine HCE.out.mono ?_; rintro e w1 ⟨rfl, rfl | rfl⟩)
      · go_ret; exact mp_some (((H.out.setX _).alloc _).alloc _) (MB.out _ _ _ _)
      · go_ret; exact mp_some (((H.out.setX _).alloc _).alloc _).drew (MB.out _ _ _ _).drew
    · rw [if_neg e97]
      go_enter Try.func143, Try.ntmps143
      go_wp2_with (go_at_call 163; refine HCE.out.mono ?_; rintro e w1 ⟨rfl, rfl | rfl⟩)
      · go_ret; exact mp_some (((H.out.setA _).alloc _).alloc _) (MB.out _ _ _ _)
      · go_ret; exact mp_some (((H.out.setA _).alloc _).alloc _).drew (MB.out _ _ _ _).drew
end Go.Proofs.Ytefkhcijgiagdaa.HVm
end
section
namespace Go.Proofs.Ytefkhcijgiagdaa.HVm
open Go.Proofs.Ytefkhcijgiagdaa.HKnown Go.RowKit Go.Proofs.YtefkhcijgiagdaaW.PrintWords Go.Proofs.YtefkhcijgiagdaaW.PrintLast Go.Proofs.YtefkhcijgiagdaaW.PrintMore Go.Proofs.Ytefkhcijgiagdaa.I1 Go.Proofs.Ytefkhcijgiagdaa.QVm Go.Proofs.Ytefkhcijgiagdaa.QLe
set_option linter.unusedVariables false
set_option linter.unusedSimpArgs false
set_option maxRecDepth 100000
def StepPost (w : World) (B Wb : Nat) (rec : ByteArray) (at_ out : Int) (r : R1) (e : Ending) (w' : World) : Prop :=
  Below B w w' ∧ match r with
  | .bad => e = .returned (.bool false)
  | .done n => e = .returned (.bool true) ∧ ∃ v' at', Vm w' Wb rec v' at' n true
  | .next v' s => e = .returned (.bool true) ∧ Vm w' Wb rec v' (wrap64 (at_ + 1 + (s : Int))) out false
theorem below_on {B : Nat} {w w1 w2 : World} (h : Below B w w1) (hB : B ≤ w.heap.size) (k : Below w1.heap.size w1 w2) : Below B w w2 := below_then h (Nat.le_trans hB h.size) k
theorem bits_all : ∀ c : Fin 256, bits .and .i64 (c.val : Int) 7 = (c.val : Int) % 8 ∧ bits .and .i64 (c.val : Int) 8 = (c.val : Int) / 8 % 2 * 8 ∧ ((c.val : Int) / 8 % 2 = 1 → bits .andNot .i64 (c.val : Int) 8 = (c.val : Int) - 8) := by decide +kernel
theorem bits_known (c : Int) (h : knownB c = true) : bits .and .i64 c 7 = c % 8 ∧ bits .and .i64 c 8 = c / 8 % 2 * 8 ∧ (c / 8 % 2 = 1 → bits .andNot .i64 c 8 = c - 8) := by
  unfold knownB at h
  rw [Bool.and_eq_true, decide_eq_true_eq] at h
  obtain ⟨n, rfl⟩ : ∃ n : Nat, c = n := ⟨c.toNat, by omega⟩
  exact bits_all ⟨n, by omega⟩
/-- The world in which a step looks whether its code is known. -/
structure At0 (w w1 : World) (B Wb ib : Nat) (rec : ByteArray) (v : V) (at_ out : Int) (i : S28) : Prop where
  hv : Vm w1 Wb rec v at_ out false
  hb : Below B w w1
  hi : w1.heap[ib]? = some (.cells #[.int .i64 i.f0, .int .i64 i.f1, .int .i64 i.f2, .int .u32 i.f3] 28 (0, 0))
theorem At0.drew {w w1 : World} {B Wb ib : Nat} {rec : ByteArray} {v : V} {at_ out : Int} {i : S28} (h : At0 w w1 B Wb ib rec v at_ out i) : At0 w w1.drew B Wb ib rec v at_ out i := ⟨h.hv.drew, h.hb.drew, h.hi⟩
theorem At0.step {w w1 w2 : World} {B Wb ib : Nat} {rec : ByteArray} {v : V} {at_ out : Int} {i : S28} (h : At0 w w1 B Wb ib rec v at_ out i) (hB : B ≤ w.heap.size) (hb : Below w1.heap.size w1 w2) : At0 w w2 B Wb ib rec v at_ out i := ⟨h.hv.below hb, below_on h.hb hB hb, blk_below h.hi hb⟩
theorem at0_new {w : World} {B Wb : Nat} {rec : ByteArray} {v : V} {at_ out : Int} (h : Vm w Wb rec v at_ out false) (hB : B ≤ Wb) (i : S28) (n : Int) : At0 w ((w.setCell ⟨Wb, 19, none⟩ (.int .i64 n)).alloc (.cells #[.int .i64 i.f0, .int .i64 i.f1, .int .i64 i.f2, .int .u32 i.f3] 28)) B Wb w.heap.size rec v n out i := by
  have hlt := h.lt
  refine ⟨(h.setAt n).alloc _, ((Below.refl B w).setCell (p := ⟨Wb, 19, none⟩) hB _).alloc (by simp [World.setCell]; omega) _, ?_⟩
  have e : (w.setCell ⟨Wb, 19, none⟩ (.int .i64 n)).heap.size = w.heap.size := by simp [World.setCell]
  have k := heap_alloc_new (w.setCell ⟨Wb, 19, none⟩ (.int .i64 n)) (.cells #[.int .i64 i.f0, .int .i64 i.f1, .int .i64 i.f2, .int .u32 i.f3] 28)
  rw [e] at k
  exact k
set_option maxHeartbeats 4000000 in
theorem step_bad {w : World} {B Wb : Nat} {rec : ByteArray} {v : V} {at_ out : Int} (h : Vm w Wb rec v at_ out false) (hB : B ≤ Wb) (i : S28) (hkn : knownB i.f0 = false) (ha : 0 ≤ at_ ∧ at_ < 1000000) :
    Calls Try.prog 120 #[.pointer (some ⟨Wb, 0, none⟩), .agg #[.int .i64 i.f0, .int .i64 i.f1, .int .i64 i.f2, .int .u32 i.f3]] w fun e w' => e = .returned (.bool false) ∧ Below B w w' := by
  have H0 := Aside0.mk (at0_new h hB i (at_ + 1))
  obtain ⟨a0, a1, a2, a3⟩ := i
  simp only at hkn ⊢
  have hu156 := Try.underlying156
  have hu28 := Try.underlying28
  have hlt := h.lt
  have hBw := Aside0.mk (show B ≤ w.heap.size by omega)
  have k2 := h.c2
  have k19 := h.cAt
  have f19 := h.free 19
  have hkc := fun W => Known_any a0 W
  rw [hkn] at hkc
  have HK := Aside0.mk hkc
  clear hkc hkn h
  generalize h7 : bits .and .i64 a0 7 = c7
  generalize h8 : bits .and .i64 a0 8 = c8
  go_enter Try.func120, Try.ntmps120
  go_wp2
  go_region
  all_goals go_wp2_with (go_at_call 44; refine (HK.out _).mono ?_; rintro e w1 ⟨rfl, hb1⟩; have HB1 := Aside0.mk (H0.out.drew.step hBw.out hb1).hb; clear hb1)
  all_goals first
    | (go_ret; exact ⟨rfl, HB1.out⟩)
    | (go_region
       all_goals go_wp2_with (go_at_call 44; refine (HK.out _).mono ?_; rintro e w1 ⟨rfl, hb1⟩; have HB1 := Aside0.mk (H0.out.drew.drew.step hBw.out hb1).hb; clear hb1)
       all_goals (go_ret; exact ⟨rfl, HB1.out⟩))
end Go.Proofs.Ytefkhcijgiagdaa.HVm
end
section
namespace Go.Proofs.Ytefkhcijgiagdaa.HVm
open Go.Proofs.Ytefkhcijgiagdaa.HKnown Go.RowKit Go.Proofs.YtefkhcijgiagdaaW.PrintWords Go.Proofs.YtefkhcijgiagdaaW.PrintLast Go.Proofs.YtefkhcijgiagdaaW.PrintMore Go.Proofs.Ytefkhcijgiagdaa.I1 Go.Proofs.Ytefkhcijgiagdaa.QVm Go.Proofs.Ytefkhcijgiagdaa.QLe
set_option linter.unusedVariables false
set_option linter.unusedSimpArgs false
set_option maxRecDepth 100000
set_option maxHeartbeats 4000000 in
theorem step_retk {w : World} {B Wb : Nat} {rec : ByteArray} {v : V} {at_ out : Int} (h : Vm w Wb rec v at_ out false) (hB : B ≤ Wb) (i : S28) (hkn : knownB i.f0 = true) (ha : 0 ≤ at_ ∧ at_ < 1000000) (hc : i.f0 = 6) :
    Calls Try.prog 120 #[.pointer (some ⟨Wb, 0, none⟩), .agg #[.int .i64 i.f0, .int .i64 i.f1, .int .i64 i.f2, .int .u32 i.f3]] w (StepPost w B Wb rec at_ out (.done i.f3)) := by
  have H0 := Aside0.mk (at0_new h hB i (at_ + 1))
  obtain ⟨a0, a1, a2, a3⟩ := i
  obtain ⟨va, vx, vcs⟩ := v
  simp only at hkn hc ⊢
  have hu156 := Try.underlying156
  have hu28 := Try.underlying28
  have hlt := h.lt
  have hBw := Aside0.mk (show B ≤ w.heap.size by omega)
  have k2 := h.c2
  simp only at k2
  have k19 := h.cAt
  have f19 := h.free 19
  have hkc := fun W => Known_any a0 W
  rw [hkn] at hkc
  have HK := Aside0.mk hkc
  have HKN := Aside0.mk hkn
  clear hkc
  subst hc
  have h7 : bits .and .i64 6 7 = 6 := by decide +kernel
  have h8 : bits .and .i64 6 8 = 0 := by decide +kernel
  clear h hkn
  go_enter Try.func120, Try.ntmps120
  go_wp2
  go_region
  all_goals go_wp2_with (go_at_call 44; refine (HK.out _).mono ?_; rintro e w1 ⟨rfl, hb1⟩; have A1 := Aside0.mk (H0.out.drew.step hBw.out hb1); have ki0 := blk_cell A1.out.hi 0; have ki1 := blk_cell A1.out.hi 1; have ki2 := blk_cell A1.out.hi 2; have ki3 := blk_cell A1.out.hi 3; have kv1 := A1.out.hv.c1; have kv20 := A1.out.hv.cOut; have kv21 := A1.out.hv.cDone; have fv20 := A1.out.hv.free 20; have fv21 := A1.out.hv.free 21; clear hb1)
  all_goals (go_ret; exact ⟨(A1.out.hb.setCell (p := ⟨Wb, 20, none⟩) hB _).setCell (p := ⟨Wb, 21, none⟩) hB _, rfl, _, _, (A1.out.hv.setOut _).setDone true⟩)
set_option maxHeartbeats 4000000 in
theorem step_reta {w : World} {B Wb : Nat} {rec : ByteArray} {v : V} {at_ out : Int} (h : Vm w Wb rec v at_ out false) (hB : B ≤ Wb) (i : S28) (hkn : knownB i.f0 = true) (ha : 0 ≤ at_ ∧ at_ < 1000000) (hc : i.f0 = 22) :
    Calls Try.prog 120 #[.pointer (some ⟨Wb, 0, none⟩), .agg #[.int .i64 i.f0, .int .i64 i.f1, .int .i64 i.f2, .int .u32 i.f3]] w (StepPost w B Wb rec at_ out (.done v.a)) := by
  have H0 := Aside0.mk (at0_new h hB i (at_ + 1))
  obtain ⟨a0, a1, a2, a3⟩ := i
  obtain ⟨va, vx, vcs⟩ := v
  simp only at hkn hc ⊢
  have hu156 := Try.underlying156
  have hu28 := Try.underlying28
  have hlt := h.lt
  have hBw := Aside0.mk (show B ≤ w.heap.size by omega)
  have k2 := h.c2
  simp only at k2
  have k19 := h.cAt
  have f19 := h.free 19
  have hkc := fun W => Known_any a0 W
  rw [hkn] at hkc
  have HK := Aside0.mk hkc
  have HKN := Aside0.mk hkn
  clear hkc
  subst hc
  have h7 : bits .and .i64 22 7 = 6 := by decide +kernel
  have h8 : bits .and .i64 22 8 = 0 := by decide +kernel
  clear h hkn
  go_enter Try.func120, Try.ntmps120
  go_wp2
  go_region
  all_goals go_wp2_with (go_at_call 44; refine (HK.out _).mono ?_; rintro e w1 ⟨rfl, hb1⟩; have A1 := Aside0.mk (H0.out.drew.step hBw.out hb1); have ki0 := blk_cell A1.out.hi 0; have ki1 := blk_cell A1.out.hi 1; have ki2 := blk_cell A1.out.hi 2; have ki3 := blk_cell A1.out.hi 3; have kv1 := A1.out.hv.c1; have kv20 := A1.out.hv.cOut; have kv21 := A1.out.hv.cDone; have fv20 := A1.out.hv.free 20; have fv21 := A1.out.hv.free 21; clear hb1)
  all_goals (go_ret; exact ⟨(A1.out.hb.setCell (p := ⟨Wb, 20, none⟩) hB _).setCell (p := ⟨Wb, 21, none⟩) hB _, rfl, _, _, (A1.out.hv.setOut _).setDone true⟩)
end Go.Proofs.Ytefkhcijgiagdaa.HVm
end
section
namespace Go.Proofs.Ytefkhcijgiagdaa.HVm
open Go.Proofs.Ytefkhcijgiagdaa.HKnown Go.RowKit Go.Proofs.YtefkhcijgiagdaaW.PrintWords Go.Proofs.YtefkhcijgiagdaaW.PrintLast Go.Proofs.YtefkhcijgiagdaaW.PrintMore Go.Proofs.Ytefkhcijgiagdaa.I1 Go.Proofs.Ytefkhcijgiagdaa.QVm Go.Proofs.Ytefkhcijgiagdaa.QLe
set_option linter.unusedVariables false
set_option linter.unusedSimpArgs false
set_option maxRecDepth 100000
def sumR (r : Option Int) (v : V) : R1 := match r with | none => .done 0 | some a => .next ⟨a, v.x, v.cs⟩ 0
def memR (r : Option V) : R1 := match r with | none => .bad | some v' => .next v' 0
theorem passV_nonneg (c n a : Int) (i : S28) (h : 0 ≤ i.f3) : 0 ≤ passV c n a i := by
  unfold passV
  split
  · exact h
  · split
    · split <;> omega
    · split <;> omega
theorem sum_post {w w1 : World} {B Wb ib : Nat} {rec : ByteArray} {va vx : Int} {vcs : List Int} {at_ out : Int} {i : S28} {r : Option Int} {e : Ending} {w' : World} (A : At0 w w1 B Wb ib rec ⟨va, vx, vcs⟩ (at_ + 1) out i) (ha : 0 ≤ at_ ∧ at_ < 1000000) (h : SumPost w1 B Wb rec ⟨va, vx, vcs⟩ (at_ + 1) out false r e w') :
    StepPost w B Wb rec at_ out (sumR r ⟨va, vx, vcs⟩) (.returned (.bool true)) w' := by
  obtain ⟨_, hb, hr⟩ := h
  refine ⟨A.hb.trans hb, ?_⟩
  cases r with
  | none => exact ⟨rfl, _, _, hr⟩
  | some a =>
    refine ⟨rfl, ?_⟩
    rw [show wrap64 (at_ + 1 + ((0 : Nat) : Int)) = at_ + 1 by rw [w64 _ (by omega) (by omega)]; omega]
    exact hr
theorem jump_post {w w1 : World} {B Wb ib : Nat} {rec : ByteArray} {v : V} {at_ out : Int} {i : S28} {p : Int} {e : Ending} {w' : World} (A : At0 w w1 B Wb ib rec v (at_ + 1) out i) (hp : 0 ≤ p) (h : JumpPost w1 B Wb rec v (at_ + 1) out false p e w') :
    StepPost w B Wb rec at_ out (.next v p.toNat) (.returned (.bool true)) w' := by
  obtain ⟨_, hb, hr⟩ := h
  refine ⟨A.hb.trans hb, rfl, ?_⟩
  rw [show ((p.toNat : Nat) : Int) = p by omega]
  exact hr
theorem mem_post {w w1 : World} {B Wb ib : Nat} {rec : ByteArray} {v : V} {at_ out : Int} {i : S28} {r : Option V} {e : Ending} {w' : World} (A : At0 w w1 B Wb ib rec v (at_ + 1) out i) (ha : 0 ≤ at_ ∧ at_ < 1000000) (h : MemPost w1 B Wb rec (at_ + 1) out false r e w') :
    StepPost w B Wb rec at_ out (memR r) e w' := by
  obtain ⟨he, hb, hr⟩ := h
  refine ⟨A.hb.trans hb, ?_⟩
  cases r with
  | none => exact he
  | some v' =>
    refine ⟨he, ?_⟩
    rw [show wrap64 (at_ + 1 + ((0 : Nat) : Int)) = at_ + 1 by rw [w64 _ (by omega) (by omega)]; omega]
    exact hr v' rfl
set_option maxHeartbeats 4000000 in
theorem step_sum0 {w : World} {B Wb : Nat} {rec : ByteArray} {v : V} {at_ out : Int} (h : Vm w Wb rec v at_ out false) (hB : B ≤ Wb) (i : S28) (hkn : knownB i.f0 = true) (ha : 0 ≤ at_ ∧ at_ < 1000000) (hc : i.f0 % 8 = 4) (hx : i.f0 / 8 % 2 = 0) (h6 : i.f0 ≠ 6) (h22 : i.f0 ≠ 22) (hk : 0 ≤ i.f3 ∧ i.f3 < 4294967296) (hva : 0 ≤ v.a ∧ v.a < 4294967296) (hvx : 0 ≤ v.x ∧ v.x < 4294967296) :
    Calls Try.prog 120 #[.pointer (some ⟨Wb, 0, none⟩), .agg #[.int .i64 i.f0, .int .i64 i.f1, .int .i64 i.f2, .int .u32 i.f3]] w (StepPost w B Wb rec at_ out (sumR (sumV (i.f0) (i.f3) v.a) v)) := by
  have H0 := Aside0.mk (at0_new h hB i (at_ + 1))
  obtain ⟨a0, a1, a2, a3⟩ := i
  obtain ⟨va, vx, vcs⟩ := v
  simp only at hkn hc hx h6 h22 hk hva hvx ⊢
  have hu156 := Try.underlying156
  have hu28 := Try.underlying28
  have hlt := h.lt
  have hBw := Aside0.mk (show B ≤ w.heap.size by omega)
  have k2 := h.c2
  simp only at k2
  have k19 := h.cAt
  have f19 := h.free 19
  have hkc := fun W => Known_any a0 W
  rw [hkn] at hkc
  have HK := Aside0.mk hkc
  have HKN := Aside0.mk hkn
  clear hkc
  obtain ⟨h7, h8, hN⟩ := bits_known a0 hkn
  rw [hc] at h7
  rw [hx] at h8
  simp only [Int.reduceMul] at h8
  clear hN
  clear h hkn hc hx
  go_enter Try.func120, Try.ntmps120
  go_wp2
  go_region
  all_goals go_wp2_with (first | (go_at_call 44; refine (HK.out _).mono ?_; rintro e w1 ⟨rfl, hb1⟩; have A1 := Aside0.mk (H0.out.drew.step hBw.out hb1); have ki0 := blk_cell A1.out.hi 0; have ki1 := blk_cell A1.out.hi 1; have ki2 := blk_cell A1.out.hi 2; have ki3 := blk_cell A1.out.hi 3; clear hb1) | (go_at_call 141; refine (sum_c A1.out.hv hB (a0) (a3) hk hva).mono ?_; rintro e w2 hs; obtain rfl := hs.1; have HS := Aside0.mk (sum_post A1.out ha hs); clear hs))
  all_goals (go_ret; exact HS.out)
set_option maxHeartbeats 4000000 in
theorem step_sum1 {w : World} {B Wb : Nat} {rec : ByteArray} {v : V} {at_ out : Int} (h : Vm w Wb rec v at_ out false) (hB : B ≤ Wb) (i : S28) (hkn : knownB i.f0 = true) (ha : 0 ≤ at_ ∧ at_ < 1000000) (hc : i.f0 % 8 = 4) (hx : i.f0 / 8 % 2 = 1) (h6 : i.f0 ≠ 6) (h22 : i.f0 ≠ 22) (hk : 0 ≤ i.f3 ∧ i.f3 < 4294967296) (hva : 0 ≤ v.a ∧ v.a < 4294967296) (hvx : 0 ≤ v.x ∧ v.x < 4294967296) :
    Calls Try.prog 120 #[.pointer (some ⟨Wb, 0, none⟩), .agg #[.int .i64 i.f0, .int .i64 i.f1, .int .i64 i.f2, .int .u32 i.f3]] w (StepPost w B Wb rec at_ out (sumR (sumV (i.f0 - 8) (v.x) v.a) v)) := by
  have H0 := Aside0.mk (at0_new h hB i (at_ + 1))
  obtain ⟨a0, a1, a2, a3⟩ := i
  obtain ⟨va, vx, vcs⟩ := v
  simp only at hkn hc hx h6 h22 hk hva hvx ⊢
  have hu156 := Try.underlying156
  have hu28 := Try.underlying28
  have hlt := h.lt
  have hBw := Aside0.mk (show B ≤ w.heap.size by omega)
  have k2 := h.c2
  simp only at k2
  have k19 := h.cAt
  have f19 := h.free 19
  have hkc := fun W => Known_any a0 W
  rw [hkn] at hkc
  have HK := Aside0.mk hkc
  have HKN := Aside0.mk hkn
  clear hkc
  obtain ⟨h7, h8, hN⟩ := bits_known a0 hkn
  rw [hc] at h7
  rw [hx] at h8
  simp only [Int.reduceMul] at h8
  replace hN := hN hx
  clear h hkn hc hx
  go_enter Try.func120, Try.ntmps120
  go_wp2
  go_region
  all_goals go_wp2
  all_goals go_region
  all_goals go_wp2_with (first | (go_at_call 44; refine (HK.out _).mono ?_; rintro e w1 ⟨rfl, hb1⟩; have A1 := Aside0.mk (H0.out.drew.drew.step hBw.out hb1); have ki0 := blk_cell A1.out.hi 0; have ki1 := blk_cell A1.out.hi 1; have ki2 := blk_cell A1.out.hi 2; have ki3 := blk_cell A1.out.hi 3; clear hb1) | (go_at_call 141; refine (sum_c A1.out.hv hB (a0 - 8) (vx) hvx hva).mono ?_; rintro e w2 hs; obtain rfl := hs.1; have HS := Aside0.mk (sum_post A1.out ha hs); clear hs))
  all_goals (go_ret; exact HS.out)
set_option maxHeartbeats 4000000 in
theorem step_jump0 {w : World} {B Wb : Nat} {rec : ByteArray} {v : V} {at_ out : Int} (h : Vm w Wb rec v at_ out false) (hB : B ≤ Wb) (i : S28) (hkn : knownB i.f0 = true) (ha : 0 ≤ at_ ∧ at_ < 1000000) (hc : i.f0 % 8 = 5) (hx : i.f0 / 8 % 2 = 0) (h6 : i.f0 ≠ 6) (h22 : i.f0 ≠ 22) (hk : 0 ≤ i.f3 ∧ i.f3 < 4294967296) (hva : 0 ≤ v.a ∧ v.a < 4294967296) (hvx : 0 ≤ v.x ∧ v.x < 4294967296) :
    Calls Try.prog 120 #[.pointer (some ⟨Wb, 0, none⟩), .agg #[.int .i64 i.f0, .int .i64 i.f1, .int .i64 i.f2, .int .u32 i.f3]] w (StepPost w B Wb rec at_ out (R1.next v (passV (i.f0) (i.f3) v.a i).toNat)) := by
  have H0 := Aside0.mk (at0_new h hB i (at_ + 1))
  obtain ⟨a0, a1, a2, a3⟩ := i
  obtain ⟨va, vx, vcs⟩ := v
  simp only at hkn hc hx h6 h22 hk hva hvx ⊢
  have hu156 := Try.underlying156
  have hu28 := Try.underlying28
  have hlt := h.lt
  have hBw := Aside0.mk (show B ≤ w.heap.size by omega)
  have k2 := h.c2
  simp only at k2
  have k19 := h.cAt
  have f19 := h.free 19
  have hkc := fun W => Known_any a0 W
  rw [hkn] at hkc
  have HK := Aside0.mk hkc
  have HKN := Aside0.mk hkn
  clear hkc
  obtain ⟨h7, h8, hN⟩ := bits_known a0 hkn
  rw [hc] at h7
  rw [hx] at h8
  simp only [Int.reduceMul] at h8
  clear hN
  have HP := Aside0.mk (passV_nonneg (a0) (a3) va ⟨a0, a1, a2, a3⟩ hk.1)
  clear h hkn hc hx
  go_enter Try.func120, Try.ntmps120
  go_wp2
  go_region
  all_goals go_wp2_with (first | (go_at_call 44; refine (HK.out _).mono ?_; rintro e w1 ⟨rfl, hb1⟩; have A1 := Aside0.mk (H0.out.drew.step hBw.out hb1); have ki0 := blk_cell A1.out.hi 0; have ki1 := blk_cell A1.out.hi 1; have ki2 := blk_cell A1.out.hi 2; have ki3 := blk_cell A1.out.hi 3; clear hb1) | (go_at_call 142; refine (jump_c A1.out.hv hB ⟨a0, a1, a2, a3⟩ (a0) (a3) hk).mono ?_; rintro e w2 hs; obtain rfl := hs.1; have HS := Aside0.mk (jump_post A1.out HP.out hs); clear hs))
  all_goals (go_ret; exact HS.out)
set_option maxHeartbeats 4000000 in
theorem step_jump1 {w : World} {B Wb : Nat} {rec : ByteArray} {v : V} {at_ out : Int} (h : Vm w Wb rec v at_ out false) (hB : B ≤ Wb) (i : S28) (hkn : knownB i.f0 = true) (ha : 0 ≤ at_ ∧ at_ < 1000000) (hc : i.f0 % 8 = 5) (hx : i.f0 / 8 % 2 = 1) (h6 : i.f0 ≠ 6) (h22 : i.f0 ≠ 22) (hk : 0 ≤ i.f3 ∧ i.f3 < 4294967296) (hva : 0 ≤ v.a ∧ v.a < 4294967296) (hvx : 0 ≤ v.x ∧ v.x < 4294967296) :
    Calls Try.prog 120 #[.pointer (some ⟨Wb, 0, none⟩), .agg #[.int .i64 i.f0, .int .i64 i.f1, .int .i64 i.f2, .int .u32 i.f3]] w (StepPost w B Wb rec at_ out (R1.next v (passV (i.f0 - 8) (v.x) v.a i).toNat)) := by
  have H0 := Aside0.mk (at0_new h hB i (at_ + 1))
  obtain ⟨a0, a1, a2, a3⟩ := i
  obtain ⟨va, vx, vcs⟩ := v
  simp only at hkn hc hx h6 h22 hk hva hvx ⊢
  have hu156 := Try.underlying156
  have hu28 := Try.underlying28
  have hlt := h.lt
  have hBw := Aside0.mk (show B ≤ w.heap.size by omega)
  have k2 := h.c2
  simp only at k2
  have k19 := h.cAt
  have f19 := h.free 19
  have hkc := fun W => Known_any a0 W
  rw [hkn] at hkc
  have HK := Aside0.mk hkc
  have HKN := Aside0.mk hkn
  clear hkc
  obtain ⟨h7, h8, hN⟩ := bits_known a0 hkn
  rw [hc] at h7
  rw [hx] at h8
  simp only [Int.reduceMul] at h8
  replace hN := hN hx
  have HP := Aside0.mk (passV_nonneg (a0 - 8) (vx) va ⟨a0, a1, a2, a3⟩ hk.1)
  clear h hkn hc hx
  go_enter Try.func120, Try.ntmps120
  go_wp2
  go_region
  all_goals go_wp2
  all_goals go_region
  all_goals go_wp2_with (first | (go_at_call 44; refine (HK.out _).mono ?_; rintro e w1 ⟨rfl, hb1⟩; have A1 := Aside0.mk (H0.out.drew.drew.step hBw.out hb1); have ki0 := blk_cell A1.out.hi 0; have ki1 := blk_cell A1.out.hi 1; have ki2 := blk_cell A1.out.hi 2; have ki3 := blk_cell A1.out.hi 3; clear hb1) | (go_at_call 142; refine (jump_c A1.out.hv hB ⟨a0, a1, a2, a3⟩ (a0 - 8) (vx) hk).mono ?_; rintro e w2 hs; obtain rfl := hs.1; have HS := Aside0.mk (jump_post A1.out HP.out hs); clear hs))
  all_goals (go_ret; exact HS.out)
set_option maxHeartbeats 4000000 in
theorem step_mem {w : World} {B Wb : Nat} {rec : ByteArray} {v : V} {at_ out : Int} (h : Vm w Wb rec v at_ out false) (hB : B ≤ Wb) (i : S28) (hkn : knownB i.f0 = true) (ha : 0 ≤ at_ ∧ at_ < 1000000) (hc4 : i.f0 % 8 ≠ 4) (hc5 : i.f0 % 8 ≠ 5) (h6 : i.f0 ≠ 6) (h22 : i.f0 ≠ 22) (hk : 0 ≤ i.f3 ∧ i.f3 < 4294967296) (hva : 0 ≤ v.a ∧ v.a < 4294967296) (hvx : 0 ≤ v.x ∧ v.x < 4294967296) (wd : Int → Option Int) (x b : Int) (hcall : ∀ W, Calls Try.prog 82 #[.string rec, .int .i64 i.f3] W fun e w' => e = .returned (.tuple #[.int .u32 x, .int .i64 b]) ∧ Drawn0 W w') (hxb : (wd i.f3 = some x ∧ b = 0) ∨ (wd i.f3 = none ∧ b = 51)) :
    Calls Try.prog 120 #[.pointer (some ⟨Wb, 0, none⟩), .agg #[.int .i64 i.f0, .int .i64 i.f1, .int .i64 i.f2, .int .u32 i.f3]] w (StepPost w B Wb rec at_ out (memR (memV wd i v))) := by
  have H0 := Aside0.mk (at0_new h hB i (at_ + 1))
  obtain ⟨a0, a1, a2, a3⟩ := i
  obtain ⟨va, vx, vcs⟩ := v
  simp only at hkn hc4 hc5 h6 h22 hk hva hvx hcall hxb ⊢
  have hu156 := Try.underlying156
  have hu28 := Try.underlying28
  have hlt := h.lt
  have hBw := Aside0.mk (show B ≤ w.heap.size by omega)
  have k2 := h.c2
  simp only at k2
  have k19 := h.cAt
  have f19 := h.free 19
  have hkc := fun W => Known_any a0 W
  rw [hkn] at hkc
  have HK := Aside0.mk hkc
  have HKN := Aside0.mk hkn
  clear hkc
  obtain ⟨h7, h8, hN⟩ := bits_known a0 hkn
  have HC := Aside0.mk hcall
  have HX := Aside0.mk hxb
  clear h hkn hN h8 hcall hxb
  generalize a0 % 8 = c7 at h7 hc4 hc5
  generalize h8 : bits .and .i64 a0 8 = c8
  have hd4 : (c7 == 4) = false := by simpa using hc4
  have hd5 : (c7 == 5) = false := by simpa using hc5
  go_enter Try.func120, Try.ntmps120
  go_wp2
  go_region
  all_goals go_wp2_with (first | (go_at_call 44; refine (HK.out _).mono ?_; rintro e w1 ⟨rfl, hb1⟩; have A1 := Aside0.mk (H0.out.drew.step hBw.out hb1); have ki0 := blk_cell A1.out.hi 0; have ki1 := blk_cell A1.out.hi 1; have ki2 := blk_cell A1.out.hi 2; have ki3 := blk_cell A1.out.hi 3; clear hb1) | (go_at_call 143; refine (mem_c A1.out.hv hB ⟨a0, a1, a2, a3⟩ hk wd x b HC.out HX.out).mono ?_; rintro e w2 hs; obtain rfl := hs.1; have HS := Aside0.mk (mem_post A1.out ha hs); clear hs))
  all_goals (go_ret; exact HS.out)
end Go.Proofs.Ytefkhcijgiagdaa.HVm
end
section
namespace Go.Proofs.Ytefkhcijgiagdaa.HVm
open Go.Proofs.Ytefkhcijgiagdaa.HKnown Go.RowKit Go.Proofs.YtefkhcijgiagdaaW.PrintWords Go.Proofs.YtefkhcijgiagdaaW.PrintLast Go.Proofs.YtefkhcijgiagdaaW.PrintMore Go.Proofs.Ytefkhcijgiagdaa.I1 Go.Proofs.Ytefkhcijgiagdaa.QVm Go.Proofs.Ytefkhcijgiagdaa.QLe
set_option linter.unusedVariables false
set_option linter.unusedSimpArgs false
set_option maxRecDepth 100000
/-- Numbers of 32 bits. -/
abbrev U (x : Int) : Prop := 0 ≤ x ∧ x < 4294967296
structure VR (v : V) : Prop where
  a : U v.a
  x : U v.x
  cs : ∀ c ∈ v.cs, U c
theorem bits_u (op : BinOp) (x y : Int) : U (bits op .u32 x y) := by
  unfold bits
  rw [IntKind.wrap_u32]
  exact ⟨Int.emod_nonneg _ (by decide), Int.emod_lt_of_pos _ (by decide)⟩
theorem mod_u (x : Int) : U (x % 4294967296) := ⟨Int.emod_nonneg _ (by decide), Int.emod_lt_of_pos _ (by decide)⟩
theorem sumV_u (c n a : Int) (ha : U a) (r : Int) (h : sumV c n a = some r) : U r := by
  unfold sumV at h
  split at h
  · exact Option.some.inj h ▸ mod_u _
  split at h
  · exact Option.some.inj h ▸ mod_u _
  split at h
  · exact Option.some.inj h ▸ mod_u _
  split at h
  · split at h
    · cases h
    · exact Option.some.inj h ▸ mod_u _
  split at h
  · exact Option.some.inj h ▸ bits_u _ _ _
  split at h
  · exact Option.some.inj h ▸ bits_u _ _ _
  split at h
  · exact Option.some.inj h ▸ bits_u _ _ _
  split at h
  · exact Option.some.inj h ▸ mod_u _
  split at h
  · obtain rfl := Option.some.inj h
    have hp : (0 : Int) < 2 ^ (n % 32).toNat := Int.pow_pos (by decide)
    exact ⟨Int.ediv_nonneg ha.1 (Int.le_of_lt hp), Int.lt_of_le_of_lt (Int.ediv_le_self _ ha.1) ha.2⟩
  split at h
  · exact Option.some.inj h ▸ mod_u _
  · exact Option.some.inj h ▸ ha
theorem getD_u {cs : List Int} (h : ∀ c ∈ cs, U c) (k : Nat) : U (cs.getD k 0) := by
  by_cases hk : k < cs.length
  · rw [List.getD_eq_getElem?_getD, List.getElem?_eq_getElem hk]
    exact h _ (List.getElem_mem hk)
  · rw [List.getD_eq_getElem?_getD, List.getElem?_eq_none (by omega)]
    exact ⟨by decide, by decide⟩
theorem set_u {cs : List Int} (h : ∀ c ∈ cs, U c) (k : Nat) {x : Int} (hx : U x) : ∀ c ∈ cs.set k x, U c := by
  intro c hc
  rcases List.mem_or_eq_of_mem_set hc with h1 | h1
  · exact h c h1
  · exact h1 ▸ hx
theorem memV_u (wd : Int → Option Int) (i : S28) (v : V) (hwd : ∀ k x, wd k = some x → U x) (hk : U i.f3) (hv : VR v) (v' : V) (h : memV wd i v = some v') : VR v' := by
  have u64 : U 64 := ⟨by decide, by decide⟩
  unfold memV at h
  split at h
  · rw [Option.map_eq_some_iff] at h
    obtain ⟨x, h1, rfl⟩ := h
    exact ⟨hwd _ _ h1, hv.x, hv.cs⟩
  split at h
  · exact Option.some.inj h ▸ ⟨u64, hv.x, hv.cs⟩
  split at h
  · exact Option.some.inj h ▸ ⟨hv.a, u64, hv.cs⟩
  split at h
  · exact Option.some.inj h ▸ ⟨hk, hv.x, hv.cs⟩
  split at h
  · exact Option.some.inj h ▸ ⟨hv.a, hk, hv.cs⟩
  split at h
  · exact Option.some.inj h ▸ ⟨hv.a, hv.a, hv.cs⟩
  split at h
  · exact Option.some.inj h ▸ ⟨hv.x, hv.x, hv.cs⟩
  split at h
  · cases h
  split at h
  · exact Option.some.inj h ▸ ⟨hv.a, hv.x, set_u hv.cs _ hv.a⟩
  split at h
  · exact Option.some.inj h ▸ ⟨hv.a, hv.x, set_u hv.cs _ hv.x⟩
  split at h
  · exact Option.some.inj h ▸ ⟨hv.a, getD_u hv.cs _, hv.cs⟩
  · exact Option.some.inj h ▸ ⟨getD_u hv.cs _, hv.x, hv.cs⟩
/-- What an instruction is: fields that the types allow. -/
def I28 (i : S28) : Prop := i.f1 ≤ 9223372036854775807 ∧ i.f2 ≤ 9223372036854775807 ∧ U i.f3
theorem passV_le (c n a : Int) (i : S28) (h : I28 i) : passV c n a i ≤ 9223372036854775807 := by
  obtain ⟨h1, h2, h3⟩ := h
  unfold passV
  split
  · omega
  · split
    · split <;> omega
    · split <;> omega
/-- What vm1 is, by the code's kind. -/
theorem vm1_sum (wd : Int → Option Int) (i : S28) (v : V) (hkn : knownB i.f0 = true) (h6 : i.f0 ≠ 6) (h22 : i.f0 ≠ 22) (hc : i.f0 % 8 = 4) : vm1 wd i v = sumR (sumV (if byX i.f0 = true then i.f0 - 8 else i.f0) (if byX i.f0 = true then v.x else i.f3) v.a) v := by
  unfold vm1 sumR
  rw [if_neg (by rw [hkn]; decide), if_neg h6, if_neg h22]
  simp only
  rw [if_pos hc]
  all_goals (generalize sumV _ _ v.a = r
             cases r <;> rfl)
theorem vm1_jump (wd : Int → Option Int) (i : S28) (v : V) (hkn : knownB i.f0 = true) (h6 : i.f0 ≠ 6) (h22 : i.f0 ≠ 22) (hc : i.f0 % 8 = 5) : vm1 wd i v = .next v (passV (if byX i.f0 = true then i.f0 - 8 else i.f0) (if byX i.f0 = true then v.x else i.f3) v.a i).toNat := by
  unfold vm1
  rw [if_neg (by rw [hkn]; decide), if_neg h6, if_neg h22]
  simp only
  rw [if_neg (by omega), if_pos hc]
theorem vm1_mem (wd : Int → Option Int) (i : S28) (v : V) (hkn : knownB i.f0 = true) (h6 : i.f0 ≠ 6) (h22 : i.f0 ≠ 22) (hc4 : i.f0 % 8 ≠ 4) (hc5 : i.f0 % 8 ≠ 5) : vm1 wd i v = memR (memV wd i v) := by
  unfold vm1 memR
  rw [if_neg (by rw [hkn]; decide), if_neg h6, if_neg h22]
  simp only
  rw [if_neg hc4, if_neg hc5]
  all_goals (generalize memV wd i v = r
             cases r <;> rfl)
theorem vm1_bad (wd : Int → Option Int) (i : S28) (v : V) (hkn : knownB i.f0 = false) : vm1 wd i v = .bad := by unfold vm1; rw [if_pos hkn]
theorem byX_t (c : Int) (hc : c % 8 = 4 ∨ c % 8 = 5) (hx : c / 8 % 2 = 1) : byX c = true := by unfold byX; exact decide_eq_true ⟨hx, hc⟩
theorem byX_f (c : Int) (hx : c / 8 % 2 = 0) : byX c = false := by unfold byX; exact decide_eq_false (fun h => by omega)
/-- What a record's word is. -/
structure Wd (rec : ByteArray) (wd : Int → Option Int) : Prop where
  call : ∀ k, U k → ∃ x b, (∀ W, Calls Try.prog 82 #[.string rec, .int .i64 k] W fun e w' => e = .returned (.tuple #[.int .u32 x, .int .i64 b]) ∧ Drawn0 W w') ∧ ((wd k = some x ∧ b = 0) ∨ (wd k = none ∧ b = 51))
  u : ∀ k x, wd k = some x → U x
theorem vm1_next (wd : Int → Option Int) (i : S28) (v v' : V) (s : Nat) (hwd : ∀ k x, wd k = some x → U x) (hi : I28 i) (hv : VR v) (h : vm1 wd i v = .next v' s) : VR v' ∧ (s : Int) ≤ 9223372036854775807 := by
  have hkn : knownB i.f0 = true := by
    cases e : knownB i.f0 with
    | true => rfl
    | false => rw [vm1_bad wd i v e] at h; cases h
  by_cases h6 : i.f0 = 6
  · unfold vm1 at h; rw [if_neg (by rw [hkn]; decide), if_pos h6] at h; cases h
  by_cases h22 : i.f0 = 22
  · unfold vm1 at h; rw [if_neg (by rw [hkn]; decide), if_neg h6, if_pos h22] at h; cases h
  by_cases hc4 : i.f0 % 8 = 4
  · rw [vm1_sum wd i v hkn h6 h22 hc4] at h
    generalize hs : sumV _ _ v.a = r at h
    cases r with
    | none => cases h
    | some a =>
      injection h with h1 h2
      subst h1; subst h2
      exact ⟨⟨sumV_u _ _ _ hv.a _ hs, hv.x, hv.cs⟩, by decide⟩
  by_cases hc5 : i.f0 % 8 = 5
  · rw [vm1_jump wd i v hkn h6 h22 hc5] at h
    injection h with h1 h2
    subst h1; subst h2
    refine ⟨hv, ?_⟩
    have := passV_le (if byX i.f0 = true then i.f0 - 8 else i.f0) (if byX i.f0 = true then v.x else i.f3) v.a i hi
    omega
  · rw [vm1_mem wd i v hkn h6 h22 hc4 hc5] at h
    generalize hs : memV wd i v = r at h
    cases r with
    | none => cases h
    | some v1 =>
      injection h with h1 h2
      subst h1; subst h2
      exact ⟨memV_u wd i v hwd hi.2.2 hv _ hs, by decide⟩
theorem step_c {w : World} {B Wb : Nat} {rec : ByteArray} {v : V} {at_ out : Int} (h : Vm w Wb rec v at_ out false) (hB : B ≤ Wb) (i : S28) (ha : 0 ≤ at_ ∧ at_ < 1000000) (hi : I28 i) (hv : VR v) (wd : Int → Option Int) (hwd : Wd rec wd) :
    Calls Try.prog 120 #[.pointer (some ⟨Wb, 0, none⟩), .agg #[.int .i64 i.f0, .int .i64 i.f1, .int .i64 i.f2, .int .u32 i.f3]] w (StepPost w B Wb rec at_ out (vm1 wd i v)) := by
  cases hkn : knownB i.f0 with
  | false =>
    rw [vm1_bad wd i v hkn]
    exact (step_bad h hB i hkn ha).mono (fun e w' k => ⟨k.2, k.1⟩)
  | true =>
    by_cases h6 : i.f0 = 6
    · rw [show vm1 wd i v = .done i.f3 by unfold vm1; rw [if_neg (by rw [hkn]; decide), if_pos h6]]
      exact step_retk h hB i hkn ha h6
    by_cases h22 : i.f0 = 22
    · rw [show vm1 wd i v = .done v.a by unfold vm1; rw [if_neg (by rw [hkn]; decide), if_neg h6, if_pos h22]]
      exact step_reta h hB i hkn ha h22
    by_cases hc4 : i.f0 % 8 = 4
    · rw [vm1_sum wd i v hkn h6 h22 hc4]
      rcases (by omega : i.f0 / 8 % 2 = 0 ∨ i.f0 / 8 % 2 = 1) with hx | hx
      · rw [byX_f _ hx]
        exact step_sum0 h hB i hkn ha hc4 hx h6 h22 hi.2.2 hv.a hv.x
      · rw [byX_t _ (.inl hc4) hx]
        exact step_sum1 h hB i hkn ha hc4 hx h6 h22 hi.2.2 hv.a hv.x
    by_cases hc5 : i.f0 % 8 = 5
    · rw [vm1_jump wd i v hkn h6 h22 hc5]
      rcases (by omega : i.f0 / 8 % 2 = 0 ∨ i.f0 / 8 % 2 = 1) with hx | hx
      · rw [byX_f _ hx]
        exact step_jump0 h hB i hkn ha hc5 hx h6 h22 hi.2.2 hv.a hv.x
      · rw [byX_t _ (.inr hc5) hx]
        exact step_jump1 h hB i hkn ha hc5 hx h6 h22 hi.2.2 hv.a hv.x
    · rw [vm1_mem wd i v hkn h6 h22 hc4 hc5]
      obtain ⟨x, b, hcall, hxb⟩ := hwd.call i.f3 hi.2.2
      exact step_mem h hB i hkn ha hc4 hc5 h6 h22 hi.2.2 hv.a hv.x wd x b hcall hxb
theorem vr_out (wd : Int → Option Int) (v : V) (n : Nat) : ∀ (l : List S28) (s : Nat), l.length ≤ s → vr wd l s v n = none := by
  intro l
  induction l with
  | nil => intro s _; cases s <;> rfl
  | cons i l ih =>
    intro s hs
    rw [List.length_cons] at hs
    obtain ⟨s, rfl⟩ : ∃ t, s = t + 1 := ⟨s - 1, by omega⟩
    exact ih s (by omega)
theorem vr_at (wd : Int → Option Int) (l : List S28) (z : Nat) (hz : z < l.length) (v : V) (n : Nat) : vr wd l z v n = (match vm1 wd (rd_T28 l (z : Int)) v with | .bad => none | .done o => some (o, n + 1) | .next v' s => vr wd l (z + 1 + s) v' (n + 1)) := by
  have e : l = (l.take z ++ [l[z]]) ++ l.drop (z + 1) := by rw [List.append_assoc, List.singleton_append, ← List.drop_eq_getElem_cons hz, List.take_append_drop]
  have el : (l.take z).length = z := by rw [List.length_take]; omega
  have er : rd_T28 l (z : Int) = l[z] := by unfold rd_T28; rw [Int.toNat_natCast, List.getD_eq_getElem?_getD, List.getElem?_eq_getElem hz]; rfl
  rw [er]
  have h1 : vr wd l z v n = vr wd (l[z] :: l.drop (z + 1)) 0 v n := by
    have k := vr_skip wd v n (l.take z) (l[z] :: l.drop (z + 1)) 0
    rw [el, Nat.add_zero, ← List.drop_eq_getElem_cons hz, List.take_append_drop] at k
    exact k.trans (by rw [List.drop_eq_getElem_cons hz])
  rw [h1]
  simp only [vr]
  cases vm1 wd l[z] v with
  | bad => rfl
  | done o => rfl
  | next v' s =>
    simp only
    have k := vr_skip wd v' (n + 1) (l.take (z + 1)) (l.drop (z + 1)) s
    rw [List.length_take, show min (z + 1) l.length = z + 1 by omega, List.take_append_drop] at k
    exact k.symm
end Go.Proofs.Ytefkhcijgiagdaa.HVm
end
section
namespace Go.Proofs.Ytefkhcijgiagdaa.HVm
open Go.Proofs.Ytefkhcijgiagdaa.HKnown Go.RowKit Go.Proofs.YtefkhcijgiagdaaW.PrintWords Go.Proofs.YtefkhcijgiagdaaW.PrintLast Go.Proofs.YtefkhcijgiagdaaW.PrintMore Go.Proofs.Ytefkhcijgiagdaa.I1 Go.Proofs.Ytefkhcijgiagdaa.QVm Go.Proofs.Ytefkhcijgiagdaa.QLe
set_option linter.unusedVariables false
set_option linter.unusedSimpArgs false
set_option maxRecDepth 100000
def v0 : V := ⟨0, 0, List.replicate 16 0⟩
theorem v0_r : VR v0 := ⟨⟨by decide, by decide⟩, ⟨by decide, by decide⟩, fun c hc => by rw [List.eq_of_mem_replicate hc]; exact ⟨by decide, by decide⟩⟩
def RunPost (w : World) (R : Option (Int × Nat)) (e : Ending) (w' : World) : Prop :=
  Below w.heap.size w w' ∧ match R with
  | none => e = .returned (.tuple #[.int .u32 0, .int .i64 0, .int .i64 51])
  | some (o, k) => e = .returned (.tuple #[.int .u32 o, .int .i64 (k : Int), .int .i64 0])
/-- Between two steps: where the run stands, of how many steps behind it. -/
structure Mid (w wr : World) (rec : ByteArray) (wd : Int → Option Int) (l : List S28) (R : Option (Int × Nat)) (n : Nat) (z : Int) (v : V) : Prop where
  hv : Vm wr w.heap.size rec v z 0 false
  hb : Below w.heap.size w wr
  hr : VR v
  h0 : 0 ≤ z → n ≤ z.toNat ∧ vr wd l z.toNat v n = R
  h1 : z < 0 → R = none
theorem mid_next {w wr w' : World} {rec : ByteArray} {wd : Int → Option Int} {l : List S28} {R : Option (Int × Nat)} {n : Nat} {z : Int} {v v' : V} {s : Nat} (h : Mid w wr rec wd l R n z v) (hz : 0 ≤ z) (hl : z < l.length) (hlen : l.length ≤ 100000) (hi : I28 (rd_T28 l z)) (hwd : Wd rec wd) (hs : vm1 wd (rd_T28 l z) v = .next v' s)
    (hb : Below w.heap.size wr w') (hv : Vm w' w.heap.size rec v' (wrap64 (z + 1 + (s : Int))) 0 false) : Mid w w' rec wd l R (n + 1) (wrap64 (z + 1 + (s : Int))) v' := by
  obtain ⟨k1, k2⟩ := vm1_next wd _ v v' s hwd.u hi h.hr hs
  obtain ⟨k3, k4⟩ := h.h0 hz
  have ez : ((z.toNat : Nat) : Int) = z := by omega
  rw [vr_at wd l z.toNat (by omega), ez, hs] at k4
  simp only at k4
  refine ⟨hv, h.hb.trans hb, k1, fun g => ?_, fun g => ?_⟩
  · by_cases hw : z + 1 + (s : Int) ≤ 9223372036854775807
    · rw [w64 _ (by omega) hw]
      rw [show (z + 1 + (s : Int)).toNat = z.toNat + 1 + s by omega]
      exact ⟨by omega, k4⟩
    · exfalso
      unfold wrap64 at g
      omega
  · by_cases hw : z + 1 + (s : Int) ≤ 9223372036854775807
    · rw [w64 _ (by omega) hw] at g; omega
    · rw [← k4]
      exact vr_out wd v' (n + 1) l _ (by omega)
set_option maxHeartbeats 4000000 in
theorem run_c {w : World} {A0 : Option Addr} {c0 : Nat} {l : List S28} {rec : ByteArray} (hr0 : Kd.C k28 w A0 l.length l) (hc0 : l.length ≤ c0) (hlen : l.length ≤ 100000) (hi : ∀ i ∈ l, I28 i) (hz : rec.size = 64) (wd : Int → Option Int) (hwd : Wd rec wd) :
    Calls Try.prog 80 #[.slice A0 l.length c0, .string rec] w (RunPost w (vr wd l 0 v0 0)) := by
  have hu156 := Try.underlying156
  have hu28 := Try.underlying28
  have hd64 : ((rec.size : Int) != 64) = false := by rw [hz]; rfl
  have HR0 := Aside0.mk hr0
  have HI := Aside0.mk hi
  have HW := Aside0.mk hwd
  clear hr0 hi hwd hz
  generalize hR : vr wd l 0 v0 0 = R
  have HRR := Aside0.mk hR
  clear hR
  have hv := heap_alloc_new w (.cells (vmL rec v0 0 0 false).toArray 156)
  have HV := Aside0.mk hv
  clear hv
  go_enter Try.func80, Try.ntmps80
  go_wp2
  have hM0 := Aside0.mk (show Mid w (w.alloc (.cells (vmL rec v0 0 0 false).toArray 156)) rec wd l R 0 0 v0 from ⟨⟨HV.out, by decide⟩, below_alloc (Below.refl _ _) _, v0_r, fun _ => ⟨Nat.le_refl _, HRR.out⟩, fun h => by omega⟩)
  clear HV HRR
  go_loopw [8] (fun st wr => ∃ (n : Nat) (z : Int) (v : V), st = .int .i64 ((n : Int) + 1) ∧ Aside0 (Mid w wr rec wd l R n z v)) (fun st _ => l.length + 2 - (intOf st).toNat)
  case atStart => exact ⟨0, 0, v0, rfl, ⟨hM0.out⟩⟩
  case round =>
    clear hM0
    obtain ⟨n, z, v, rfl, hm⟩ := hrel
    have kz := hm.out.hv.cAt
    by_cases hz : z < 0
    · have hR := hm.out.h1 hz
      subst hR
      have hd : decide (z < 0) = true := decide_eq_true hz
      go_wp2
      go_ret3
      exact ⟨hm.out.hb, rfl⟩
    · have hd : decide (z < 0) = false := decide_eq_false hz
      have hz0 : 0 ≤ z := by omega
      by_cases hge : (l.length : Int) ≤ z
      · have hd2 : decide ((l.length : Int) ≤ z) = true := decide_eq_true hge
        have hR : R = none := by rw [← (hm.out.h0 hz0).2]; exact vr_out wd v n l _ (by omega)
        subst hR
        go_wp2
        go_ret3
        exact ⟨hm.out.hb, rfl⟩
      · have hd2 : decide ((l.length : Int) ≤ z) = false := decide_eq_false hge
        have hlt : z < (l.length : Int) := by omega
        obtain ⟨ad, eA, hx0, hx1, hx2, hx3⟩ := at_T28 (Kd.C_below HR0.out hm.out.hb) z hz0 hlt
        subst eA
        have hI := HI.out (rd_T28 l z) (by unfold rd_T28; rw [List.getD_eq_getElem?_getD, List.getElem?_eq_getElem (by omega)]; exact List.getElem_mem _)
        have hstep := step_c hm.out.hv (Nat.le_refl _) (rd_T28 l z) ⟨hz0, by omega⟩ hI hm.out.hr wd HW.out
        have hnz := Aside0.mk (hm.out.h0 hz0)
        have HII := Aside0.mk hI
        have hat := vr_at wd l z.toNat (by omega) v n
        rw [show ((z.toNat : Nat) : Int) = z by omega, (hm.out.h0 hz0).2] at hat
        clear hI
        cases hvm : vm1 wd (rd_T28 l z) v with
        | bad =>
          rw [hvm] at hstep hat
          simp only at hat
          subst hat
          clear hvm
          go_wp2_with (go_at_call 120; refine hstep.mono ?_; rintro e w2 ⟨hb2, rfl⟩; have HB2 := Aside0.mk (hm.out.hb.trans hb2); clear hb2)
          go_ret3
          exact ⟨HB2.out, rfl⟩
        | done o =>
          rw [hvm] at hstep hat
          simp only at hat
          subst hat
          clear hvm
          go_wp2_with (go_at_call 120; refine hstep.mono ?_; rintro e w2 ⟨hb2, rfl, v2, at2, hv2⟩; have kd := hv2.cDone; have ko := hv2.cOut; have HB2 := Aside0.mk (hm.out.hb.trans hb2); clear hb2 hv2)
          go_ret3
          exact ⟨HB2.out, by first | rfl | (simp; done)⟩
        | next v' s =>
          rw [hvm] at hstep
          have HVM := Aside0.mk hvm
          clear hvm hat
          have hnb : n ≤ 100000 := by have := hnz.out.1; omega
          go_wp2_with (go_at_call 120; refine hstep.mono ?_; rintro e w2 ⟨hb2, rfl, hv2⟩; have kd := hv2.cDone; have HM2 := Aside0.mk (mid_next hm.out hz0 hlt hlen HII.out HW.out HVM.out hb2 hv2); clear hb2 hv2)
          go_roundw
          case rel => exact ⟨n + 1, _, v', by go_num, ⟨HM2.out⟩⟩
          case measure => have := hnz.out.1; simp [intOf]; omega
end Go.Proofs.Ytefkhcijgiagdaa.HVm
end
section
namespace Go.Proofs.Ytefkhcijgiagdaa.QWalk
open Go.RowKit Go.Proofs.YtefkhcijgiagdaaW.PrintWords Go.Proofs.YtefkhcijgiagdaaW.PrintLast Go.Proofs.YtefkhcijgiagdaaW.PrintMore Go.Proofs.Ytefkhcijgiagdaa.Le Go.Proofs.Ytefkhcijgiagdaa.QLe Go.Proofs.Ytefkhcijgiagdaa.QNum Go.Proofs.Ytefkhcijgiagdaa.E1 Go.Proofs.Ytefkhcijgiagdaa.V0 Go.Proofs.Ytefkhcijgiagdaa.V0
set_option linter.unusedVariables false
set_option linter.unusedSimpArgs false
/-- A word of a record, where there is one. -/
def wdS (s : ByteArray) (k : Int) : Option Int := if 0 ≤ k ∧ k ≤ 60 ∧ k % 4 = 0 then some (num ((s.data.toList.drop k.toNat).take 4)) else none
theorem wdS_range (s : ByteArray) (k w : Int) (h : wdS s k = some w) (hs : s.size = 64) : 0 ≤ w ∧ w < 4294967296 := by
  unfold wdS at h
  split at h
  · rename_i c
    injection h with h
    have h1 := num_nonneg ((s.data.toList.drop k.toNat).take 4)
    have h2 := num_lt ((s.data.toList.drop k.toNat).take 4)
    have h3 : ((s.data.toList.drop k.toNat).take 4).length ≤ 4 := List.length_take_le ..
    have p4 : (256 : Int) ^ 4 = 4294967296 := by decide
    have h5 : (256 : Int) ^ ((s.data.toList.drop k.toNat).take 4).length ≤ 256 ^ 4 := by
      have : ∀ n : Nat, n ≤ 4 → (256 : Int) ^ n ≤ 256 ^ 4 := by decide
      exact this _ h3
    omega
  · cases h
theorem word_f (s : ByteArray) (hs : s.size = 64) (a : Int) : ∀ k, 20 ≤ k → vm_Word.f k s a = some (match wdS s a with | some w => (w, 0) | none => (0, 51)) := by
  intro k hk
  unfold vm_Word.f wdS
  rw [if_pos (by omega)]
  by_cases h0 : a < 0
  · rw [if_pos h0, if_neg (by omega)]
  · rw [if_neg h0]
    by_cases h1 : a > 60
    · rw [if_pos h1, if_neg (by omega)]
    · rw [if_neg h1, Int.tmod_eq_emod_of_nonneg (by omega)]
      by_cases h2 : a % 4 = 0
      · rw [if_pos h2, if_pos ⟨by omega, by omega, h2⟩]
        obtain ⟨n, rfl⟩ : ∃ n : Nat, a = n := ⟨a.toNat, by omega⟩
        have g := get_ok s (n : Int) 4 (by omega) (by omega) (by omega) (by omega) (by omega) k (by omega)
        have g' : le_Get.f k s (n : Int) 4 = some (leval s n 4, (n : Int) + 4, 0) := g
        rw [g']
        simp only [Option.bind_some, Int.toNat_natCast]
        have hl := leval_num s n 4 (by omega)
        have hr := leval_range s (n : Int) 4
        have p4 : (256 : Int) ^ 4 = 4294967296 := by decide
        rw [Int.emod_eq_of_lt hr.1 (by omega), hl]
      · rw [if_neg h2, if_neg (fun g => h2 g.2.2)]
end Go.Proofs.Ytefkhcijgiagdaa.QWalk
end
section
namespace Go.Proofs.Ytefkhcijgiagdaa.HVm
open Go.Proofs.Ytefkhcijgiagdaa.QWalk Go.Proofs.Ytefkhcijgiagdaa.V0 Go.Proofs.Ytefkhcijgiagdaa.HKnown Go.RowKit Go.Proofs.YtefkhcijgiagdaaW.PrintWords Go.Proofs.YtefkhcijgiagdaaW.PrintLast Go.Proofs.YtefkhcijgiagdaaW.PrintMore Go.Proofs.Ytefkhcijgiagdaa.I1 Go.Proofs.Ytefkhcijgiagdaa.QVm Go.Proofs.Ytefkhcijgiagdaa.QLe
set_option linter.unusedVariables false
set_option linter.unusedSimpArgs false
set_option maxRecDepth 100000
theorem wd_ok (rec : ByteArray) (hz : rec.size = 64) : Wd rec (wdS rec) := by
  refine ⟨fun k hk => ?_, fun k x h => wdS_range rec k x h hz⟩
  have h := word_f rec hz k 20 (by omega)
  cases hw : wdS rec k with
  | none =>
    rw [hw] at h
    exact ⟨0, 51, fun W => vm_Word.calls 20 rec k 0 51 W h, .inr ⟨rfl, rfl⟩⟩
  | some x =>
    rw [hw] at h
    exact ⟨x, 0, fun W => vm_Word.calls 20 rec k x 0 W h, .inl ⟨rfl, rfl⟩⟩
theorem run_short {w : World} {A0 : Option Addr} {c0 : Nat} {l : List S28} {rec : ByteArray} (hz : rec.size ≠ 64) :
    Calls Try.prog 80 #[.slice A0 l.length c0, .string rec] w fun e w' => e = .returned (.tuple #[.int .u32 0, .int .i64 0, .int .i64 52]) ∧ Below w.heap.size w w' := by
  have hn : ¬ (rec.size : Int) = 64 := by omega
  go_enter Try.func80, Try.ntmps80
  go_wp2
  go_ret3
  exact ⟨rfl, Below.refl _ _⟩
instance (i : S28) : Decidable (I28 i) := inferInstanceAs (Decidable (_ ∧ _ ∧ _))
def runB (l : List S28) (rec : ByteArray) : Int × Int × Int :=
  if rec.size = 64 then (match vr (wdS rec) l 0 v0 0 with | none => (0, 0, 51) | some (o, k) => (o, (k : Int), 0)) else (0, 0, 52)
def vm_Run.f (l0 : List S28) (a1 : ByteArray) : Option (Int × Int × Int) :=
  if l0.length ≤ 100000 ∧ (∀ i ∈ l0, I28 i) then some (runB l0 a1) else none
theorem vm_Run.calls (A0 : Option Addr) (c0 : Nat) (l0 : List (S28)) (a1 : ByteArray) (r1 : Int) (r2 : Int) (r3 : Int) (w : World) (hr0 : Kd.C k28 w A0 l0.length l0) (hc0 : l0.length ≤ c0) (h : vm_Run.f l0 a1 = some (r1, r2, r3)) :
    Calls Try.prog 80 #[.slice A0 l0.length c0, .string a1] w fun e w' => e = .returned (.tuple #[.int .u32 r1, .int .i64 r2, .int .i64 r3]) ∧ Below w.heap.size w w' := by
  unfold vm_Run.f at h
  split at h
  · rename_i hc
    obtain ⟨hl, hi⟩ := hc
    have h := Option.some.inj h
    unfold runB at h
    by_cases hz : a1.size = 64
    · rw [if_pos hz] at h
      refine (run_c hr0 hc0 hl hi hz (wdS a1) (wd_ok a1 hz)).mono ?_
      rintro e w' ⟨hb, he⟩
      refine ⟨?_, hb⟩
      cases hv : vr (wdS a1) l0 0 v0 0 with
      | none =>
        rw [hv] at h he
        simp only [Prod.mk.injEq] at h
        obtain ⟨rfl, rfl, rfl⟩ := h
        exact he
      | some x =>
        obtain ⟨o, k⟩ := x
        rw [hv] at h he
        simp only [Prod.mk.injEq] at h
        obtain ⟨rfl, rfl, rfl⟩ := h
        exact he
    · rw [if_neg hz] at h
      simp only [Prod.mk.injEq] at h
      obtain ⟨rfl, rfl, rfl⟩ := h
      exact run_short hz
  · cases h
end Go.Proofs.Ytefkhcijgiagdaa.HVm
end
section
namespace Go.Proofs.Ytefkhcijgiagdaa.K0
open Go.RowKit Go.Proofs.YtefkhcijgiagdaaW.PrintWords Go.Proofs.YtefkhcijgiagdaaW.PrintLast Go.Proofs.YtefkhcijgiagdaaW.PrintMore
attribute [local go_sem] max2_int min2_int max_two min_two max_three min_three max_four min_four IntKind.wrap_u32 IntKind.wrap_u8   -- for this text's walks alone
set_option linter.unusedVariables false
open Go.Proofs.Ytefkhcijgiagdaa.Le Go.Proofs.Ytefkhcijgiagdaa.HKnown Go.Proofs.Ytefkhcijgiagdaa.HPut Go.Proofs.Ytefkhcijgiagdaa.I1 Go.Proofs.Ytefkhcijgiagdaa.E1 Go.Proofs.Ytefkhcijgiagdaa.HAsm Go.Proofs.Ytefkhcijgiagdaa.E2 Go.Proofs.Ytefkhcijgiagdaa.HAll Go.Proofs.Ytefkhcijgiagdaa.V0 Go.Proofs.Ytefkhcijgiagdaa.HVm
set_option linter.unusedSimpArgs false
def errW : Option Int → Value
  | none => .nilIface
  | some c => .iface 0 (.int .i64 c)
theorem errW_none : errW none = .nilIface := rfl
theorem errW_some (c : Int) : errW (some c) = .iface 0 (.int .i64 c) := rfl
end Go.Proofs.Ytefkhcijgiagdaa.K0
end
section
namespace Go.Proofs.Ytefkhcijgiagdaa.K0
open Go.RowKit Go.Proofs.YtefkhcijgiagdaaW.PrintWords Go.Proofs.YtefkhcijgiagdaaW.PrintLast Go.Proofs.YtefkhcijgiagdaaW.PrintMore
attribute [local go_sem] max2_int min2_int max_two min_two max_three min_three max_four min_four IntKind.wrap_u32 IntKind.wrap_u8   -- for this text's walks alone
set_option linter.unusedVariables false
open Go.Proofs.Ytefkhcijgiagdaa.Le Go.Proofs.Ytefkhcijgiagdaa.HKnown Go.Proofs.Ytefkhcijgiagdaa.HPut Go.Proofs.Ytefkhcijgiagdaa.I1 Go.Proofs.Ytefkhcijgiagdaa.E1 Go.Proofs.Ytefkhcijgiagdaa.HAsm Go.Proofs.Ytefkhcijgiagdaa.E2 Go.Proofs.Ytefkhcijgiagdaa.HAll Go.Proofs.Ytefkhcijgiagdaa.V0 Go.Proofs.Ytefkhcijgiagdaa.HVm
set_option linter.unusedSimpArgs false
def check_returns.f (a0_0 : Int) (a0_1 : Int) (a0_2 : Int) (a0_3 : Int) : Option (Bool) := if a0_0 = 6 then (some true) else (some (a0_0 == 22))
set_option maxHeartbeats 8000000 in
set_option maxRecDepth 100000 in
theorem check_returns.calls (a0_0 : Int) (a0_1 : Int) (a0_2 : Int) (a0_3 : Int) (r : Bool) (w : World) (h : check_returns.f a0_0 a0_1 a0_2 a0_3 = some r) :
    Calls Try.prog 131 #[.agg #[.int .i64 a0_0, .int .i64 a0_1, .int .i64 a0_2, .int .u32 a0_3]] w fun e w' => e = .returned (.bool r) ∧ Below w.heap.size w w' := by
  have hu28 := Try.underlying28
  have HB := Aside0.mk (Below.refl w.heap.size w)
  have H : (if a0_0 = 6 then (some true) else (some (a0_0 == 22))) = some r := h
  clear h
  by_cases c2 : a0_0 = 6
  · rw [if_pos c2] at H
    have c2b0 : (a0_0 == 6) = true := beq_iff_eq.mpr c2
    have c2b1 : (a0_0 != 6) = false := bne_eq_false_iff_eq.mpr c2
    clear c2
    obtain rfl := Option.some.inj H
    go_enter Try.func131, Try.ntmps131
    go_wp2_with (first | ((with_reducible refine gate_dst (N := 1) rfl ?_); refine box_event ?hg (N := 1) ?hd (cs := #[.int .i64 a0_0, .int .i64 a0_1, .int .i64 a0_2, .int .u32 a0_3]) (t := 28) ?hr ?_; (case hd => rfl); (case hg => rfl); (case hr => first | (go_simp; done) | (go_simp; rfl)); intro gb113 hg w3 hbox hb; have n0_ := Aside0.mk (below_step (by repeat (first | (with_reducible first | exact HB.out | apply below_alloc | apply pw_below_drewN | apply below_drew1) | exact HB.out)) hb); have n1_ := Aside0.mk (hbox); have n2_ := Aside0.mk ((by rw [hg]; exact (below_size (by repeat (first | (with_reducible first | exact HB.out | apply below_alloc | apply pw_below_drewN | apply below_drew1) | exact HB.out))) : w.heap.size ≤ gb113)); have n3_ := Aside0.mk ((by rw [hg]; exact (below_size (by repeat (first | (with_reducible first | exact HB.out | apply below_alloc | apply pw_below_drewN | apply below_drew1) | exact HB.out))) : w.heap.size ≤ gb113)); clear HB; have HB := n0_; have BK113 := n1_; have GW113 := n2_; have GE113 := n3_; clear n0_ n1_ n2_ n3_; clear hb hbox hg; have hcz4_0 : w3.cell? ⟨gb113, 0, none⟩ = some (.int .i64 a0_0) := (blk_cell BK113.out 0).trans rfl; have hcz4_1 : w3.cell? ⟨gb113, 1, none⟩ = some (.int .i64 a0_1) := (blk_cell BK113.out 1).trans rfl; have hcz4_2 : w3.cell? ⟨gb113, 2, none⟩ = some (.int .i64 a0_2) := (blk_cell BK113.out 2).trans rfl; have hcz4_3 : w3.cell? ⟨gb113, 3, none⟩ = some (.int .u32 a0_3) := (blk_cell BK113.out 3).trans rfl; have hfz4_0 := blk_frozen BK113.out 0; have hfz4_1 := blk_frozen BK113.out 1; have hfz4_2 := blk_frozen BK113.out 2; have hfz4_3 := blk_frozen BK113.out 3))
    go_ret
    exact ⟨by first | rfl | (simp [errW_none, errW_some] <;> rfl) | (simp [*, errW_none, errW_some] <;> rfl), by repeat (first | (with_reducible first | exact HB.out | apply below_alloc | apply pw_below_drewN | apply below_drew1 | refine below_set ?_ GE113.out) | exact HB.out)⟩
  · rw [if_neg c2] at H
    have c2b0 : (a0_0 == 6) = false := beq_eq_false_iff_ne.mpr c2
    have c2b1 : (a0_0 != 6) = true := bne_iff_ne.mpr c2
    obtain rfl := Option.some.inj H
    go_enter Try.func131, Try.ntmps131
    go_wp2_with (first | ((with_reducible refine gate_dst (N := 1) rfl ?_); refine box_event ?hg (N := 1) ?hd (cs := #[.int .i64 a0_0, .int .i64 a0_1, .int .i64 a0_2, .int .u32 a0_3]) (t := 28) ?hr ?_; (case hd => rfl); (case hg => rfl); (case hr => first | (go_simp; done) | (go_simp; rfl)); intro gb113 hg w5 hbox hb; have n0_ := Aside0.mk (below_step (by repeat (first | (with_reducible first | exact HB.out | apply below_alloc | apply pw_below_drewN | apply below_drew1) | exact HB.out)) hb); have n1_ := Aside0.mk (hbox); have n2_ := Aside0.mk ((by rw [hg]; exact (below_size (by repeat (first | (with_reducible first | exact HB.out | apply below_alloc | apply pw_below_drewN | apply below_drew1) | exact HB.out))) : w.heap.size ≤ gb113)); have n3_ := Aside0.mk ((by rw [hg]; exact (below_size (by repeat (first | (with_reducible first | exact HB.out | apply below_alloc | apply pw_below_drewN | apply below_drew1) | exact HB.out))) : w.heap.size ≤ gb113)); clear HB; have HB := n0_; have BK113 := n1_; have GW113 := n2_; have GE113 := n3_; clear n0_ n1_ n2_ n3_; clear hb hbox hg; have hcz6_0 : w5.cell? ⟨gb113, 0, none⟩ = some (.int .i64 a0_0) := (blk_cell BK113.out 0).trans rfl; have hcz6_1 : w5.cell? ⟨gb113, 1, none⟩ = some (.int .i64 a0_1) := (blk_cell BK113.out 1).trans rfl; have hcz6_2 : w5.cell? ⟨gb113, 2, none⟩ = some (.int .i64 a0_2) := (blk_cell BK113.out 2).trans rfl; have hcz6_3 : w5.cell? ⟨gb113, 3, none⟩ = some (.int .u32 a0_3) := (blk_cell BK113.out 3).trans rfl; have hfz6_0 := blk_frozen BK113.out 0; have hfz6_1 := blk_frozen BK113.out 1; have hfz6_2 := blk_frozen BK113.out 2; have hfz6_3 := blk_frozen BK113.out 3))
    go_ret
    exact ⟨by first | rfl | (simp [errW_none, errW_some] <;> rfl) | (simp [*, errW_none, errW_some] <;> rfl), by repeat (first | (with_reducible first | exact HB.out | apply below_alloc | apply pw_below_drewN | apply below_drew1 | refine below_set ?_ GE113.out) | exact HB.out)⟩
def check_behind.f (a0_0 : Int) (a0_1 : Int) (a0_2 : Int) (a0_3 : Int) : Option (List Int) := (check_returns.f a0_0 a0_1 a0_2 a0_3).bind fun t115 => (if t115 = true then (some ([] : List Int)) else (if a0_0 = 5 then (some (([wrap64 ((wrap64 (a0_3)) + 1)] : List Int))) else (if (Go.bits .and .i64 a0_0 7) = 5 then (some (([wrap64 (a0_1 + 1), wrap64 (a0_2 + 1)] : List Int))) else (some (([1] : List Int))))))
set_option maxHeartbeats 8000000 in
set_option maxRecDepth 100000 in
theorem check_behind.calls (a0_0 : Int) (a0_1 : Int) (a0_2 : Int) (a0_3 : Int) (r : List Int) (w : World) (h : check_behind.f a0_0 a0_1 a0_2 a0_3 = some r) :
    Calls Try.prog 101 #[.agg #[.int .i64 a0_0, .int .i64 a0_1, .int .i64 a0_2, .int .u32 a0_3]] w fun e w' => ∃ v0_ : Value, e = .returned (v0_) ∧ Kd.R (Kd.int .i64) 3 w' w.heap.size (fun _ => True) v0_ r ∧ Below w.heap.size w w' := by
  have hu28 := Try.underlying28
  have HB := Aside0.mk (Below.refl w.heap.size w)
  have H : ((check_returns.f a0_0 a0_1 a0_2 a0_3).bind fun t115 => (if t115 = true then (some ([] : List Int)) else (if a0_0 = 5 then (some (([wrap64 ((wrap64 (a0_3)) + 1)] : List Int))) else (if (Go.bits .and .i64 a0_0 7) = 5 then (some (([wrap64 (a0_1 + 1), wrap64 (a0_2 + 1)] : List Int))) else (some (([1] : List Int))))))) = some r := h
  clear h
  replace H := Option.bind_eq_some_iff.mp H
  obtain ⟨t115, A20, H⟩ := H
  replace H : (if t115 = true then (some ([] : List Int)) else (if a0_0 = 5 then (some (([wrap64 ((wrap64 (a0_3)) + 1)] : List Int))) else (if (Go.bits .and .i64 a0_0 7) = 5 then (some (([wrap64 (a0_1 + 1), wrap64 (a0_2 + 1)] : List Int))) else (some (([1] : List Int)))))) = some r := H
  have A2 := Aside0.mk A20
  clear A20
  by_cases c3 : t115 = true
  · subst c3
    have H1 : (some ([] : List Int)) = some r := by rw [if_pos rfl] at H; exact H
    clear H
    have H := H1
    clear H1
    obtain rfl := Option.some.inj H
    go_enter Try.func101, Try.ntmps101
    go_wp2_with (first | ((with_reducible refine gate_dst (N := 1) rfl ?_); refine box_event ?hg (N := 1) ?hd (cs := #[.int .i64 a0_0, .int .i64 a0_1, .int .i64 a0_2, .int .u32 a0_3]) (t := 28) ?hr ?_; (case hd => rfl); (case hg => rfl); (case hr => first | (go_simp; done) | (go_simp; rfl)); intro gb114 hg w4 hbox hb; have n0_ := Aside0.mk (below_step (by repeat (first | (with_reducible first | exact HB.out | apply below_alloc | apply pw_below_drewN | apply below_drew1) | exact HB.out)) hb); have n1_ := Aside0.mk (hbox); have n2_ := Aside0.mk ((by rw [hg]; exact (below_size (by repeat (first | (with_reducible first | exact HB.out | apply below_alloc | apply pw_below_drewN | apply below_drew1) | exact HB.out))) : w.heap.size ≤ gb114)); have n3_ := Aside0.mk ((by rw [hg]; exact (below_size (by repeat (first | (with_reducible first | exact HB.out | apply below_alloc | apply pw_below_drewN | apply below_drew1) | exact HB.out))) : w.heap.size ≤ gb114)); clear HB; have HB := n0_; have BK114 := n1_; have GW114 := n2_; have GE114 := n3_; clear n0_ n1_ n2_ n3_; clear hb hbox hg; have hcz5_0 : w4.cell? ⟨gb114, 0, none⟩ = some (.int .i64 a0_0) := (blk_cell BK114.out 0).trans rfl; have hcz5_1 : w4.cell? ⟨gb114, 1, none⟩ = some (.int .i64 a0_1) := (blk_cell BK114.out 1).trans rfl; have hcz5_2 : w4.cell? ⟨gb114, 2, none⟩ = some (.int .i64 a0_2) := (blk_cell BK114.out 2).trans rfl; have hcz5_3 : w4.cell? ⟨gb114, 3, none⟩ = some (.int .u32 a0_3) := (blk_cell BK114.out 3).trans rfl; have hfz5_0 := blk_frozen BK114.out 0; have hfz5_1 := blk_frozen BK114.out 1; have hfz5_2 := blk_frozen BK114.out 2; have hfz5_3 := blk_frozen BK114.out 3) | ((with_reducible refine gate_callee (f := 131) rfl ?_); refine goesL_ (some 5) rfl rfl Try.func131 (by kernel_rfl) rfl #[.agg #[.int .i64 a0_0, .int .i64 a0_1, .int .i64 a0_2, .int .u32 a0_3]] rfl (by (try simp only [List.map_toArray, List.map_cons, List.map_nil]); first | done | rfl | (simp only [List.length_drop, List.length_take]; rfl)) ?_; (with_reducible refine (check_returns.calls a0_0 a0_1 a0_2 a0_3 true _ A2.out).mono ?_); rintro e w6 ⟨rfl, hb⟩; refine ⟨_, rfl, ?_⟩; have n0_ := Aside0.mk (blk_below (g := gb114) (o := .cells #[.int .i64 a0_0, .int .i64 a0_1, .int .i64 a0_2, .int .u32 a0_3] 28 (0, 0)) (by (with_reducible repeat (first | refine blk_drewN ?_ _ | refine blk_drew ?_ | refine blk_alloc ?_ _)); exact BK114.out) hb); have n1_ := Aside0.mk (below_step (by repeat (first | (with_reducible first | exact HB.out | apply below_alloc | apply pw_below_drewN | apply below_drew1 | refine below_set ?_ GE114.out) | exact HB.out)) hb); clear BK114; clear HB; have BK114 := n0_; have HB := n1_; clear n0_ n1_; (try clear hb); (try clear hb2); (try clear hk); (try clear hi)))
    go_ret
    exact ⟨_, by first | rfl | (simp [errW_none, errW_some] <;> rfl) | (simp [*, errW_none, errW_some] <;> rfl), by first | exact Kd.R_nil _ _ _ _ _ | exact Kd.N_nil _ _ _ _ _ | exact Kd.V_nil _ _ _ _ _ | exact Kd.Q_nil _ _ _ _ _ | exact Kd.S_nil _ _ _ _ _, by repeat (first | (with_reducible first | exact HB.out | apply below_alloc | apply pw_below_drewN | apply below_drew1 | refine below_set ?_ GE114.out) | exact HB.out)⟩
  · replace c3 := Bool.eq_false_iff.mpr c3
    subst c3
    have H1 : (if a0_0 = 5 then (some (([wrap64 ((wrap64 (a0_3)) + 1)] : List Int))) else (if (Go.bits .and .i64 a0_0 7) = 5 then (some (([wrap64 (a0_1 + 1), wrap64 (a0_2 + 1)] : List Int))) else (some (([1] : List Int))))) = some r := by rw [if_neg (show ¬ (false = true) by decide)] at H; exact H
    clear H
    have H := H1
    clear H1
    by_cases c7 : a0_0 = 5
    · rw [if_pos c7] at H
      have c7b0 : (a0_0 == 5) = true := beq_iff_eq.mpr c7
      have c7b1 : (a0_0 != 5) = false := bne_eq_false_iff_eq.mpr c7
      clear c7
      obtain ⟨y116, hy116⟩ : ∃ y_ : List Int, y_ = (([wrap64 ((wrap64 (a0_3)) + 1)] : List Int)) := ⟨_, rfl⟩
      replace H : (some y116) = some r := by first | (rw [hy116]; with_reducible exact H) | (have H2_ := (Option.bind_some _ _).symm.trans H; rw [hy116]; with_reducible exact H2_) | (have H2_ := (Option.bind_some _ _).symm.trans H; with_reducible exact H2_) | with_reducible exact H | (rw [hy116]; exact H) | exact H
      have Ny116 := Aside0.mk hy116
      clear hy116
      obtain rfl := Option.some.inj H
      go_enter Try.func101, Try.ntmps101
      go_wp2_with (first | ((with_reducible refine gate_dst (N := 1) rfl ?_); refine box_event ?hg (N := 1) ?hd (cs := #[.int .i64 a0_0, .int .i64 a0_1, .int .i64 a0_2, .int .u32 a0_3]) (t := 28) ?hr ?_; (case hd => rfl); (case hg => rfl); (case hr => first | (go_simp; done) | (go_simp; rfl)); intro gb114 hg w8 hbox hb; have n0_ := Aside0.mk (below_step (by repeat (first | (with_reducible first | exact HB.out | apply below_alloc | apply pw_below_drewN | apply below_drew1) | exact HB.out)) hb); have n1_ := Aside0.mk (hbox); have n2_ := Aside0.mk ((by rw [hg]; exact (below_size (by repeat (first | (with_reducible first | exact HB.out | apply below_alloc | apply pw_below_drewN | apply below_drew1) | exact HB.out))) : w.heap.size ≤ gb114)); have n3_ := Aside0.mk ((by rw [hg]; exact (below_size (by repeat (first | (with_reducible first | exact HB.out | apply below_alloc | apply pw_below_drewN | apply below_drew1) | exact HB.out))) : w.heap.size ≤ gb114)); clear HB; have HB := n0_; have BK114 := n1_; have GW114 := n2_; have GE114 := n3_; clear n0_ n1_ n2_ n3_; clear hb hbox hg; have hcz9_0 : w8.cell? ⟨gb114, 0, none⟩ = some (.int .i64 a0_0) := (blk_cell BK114.out 0).trans rfl; have hcz9_1 : w8.cell? ⟨gb114, 1, none⟩ = some (.int .i64 a0_1) := (blk_cell BK114.out 1).trans rfl; have hcz9_2 : w8.cell? ⟨gb114, 2, none⟩ = some (.int .i64 a0_2) := (blk_cell BK114.out 2).trans rfl; have hcz9_3 : w8.cell? ⟨gb114, 3, none⟩ = some (.int .u32 a0_3) := (blk_cell BK114.out 3).trans rfl; have hfz9_0 := blk_frozen BK114.out 0; have hfz9_1 := blk_frozen BK114.out 1; have hfz9_2 := blk_frozen BK114.out 2; have hfz9_3 := blk_frozen BK114.out 3) | ((with_reducible refine gate_callee (f := 131) rfl ?_); refine goesL_ (some 5) rfl rfl Try.func131 (by kernel_rfl) rfl #[.agg #[.int .i64 a0_0, .int .i64 a0_1, .int .i64 a0_2, .int .u32 a0_3]] rfl (by (try simp only [List.map_toArray, List.map_cons, List.map_nil]); first | done | rfl | (simp only [List.length_drop, List.length_take]; rfl)) ?_; (with_reducible refine (check_returns.calls a0_0 a0_1 a0_2 a0_3 false _ A2.out).mono ?_); rintro e w10 ⟨rfl, hb⟩; refine ⟨_, rfl, ?_⟩; have n0_ := Aside0.mk (blk_below (g := gb114) (o := .cells #[.int .i64 a0_0, .int .i64 a0_1, .int .i64 a0_2, .int .u32 a0_3] 28 (0, 0)) (by (with_reducible repeat (first | refine blk_drewN ?_ _ | refine blk_drew ?_ | refine blk_alloc ?_ _)); exact BK114.out) hb); have n1_ := Aside0.mk (below_step (by repeat (first | (with_reducible first | exact HB.out | apply below_alloc | apply pw_below_drewN | apply below_drew1 | refine below_set ?_ GE114.out) | exact HB.out)) hb); clear BK114; clear HB; have BK114 := n0_; have HB := n1_; clear n0_ n1_; (try clear hb); (try clear hb2); (try clear hk); (try clear hi); have hcz11_0 : w10.cell? ⟨gb114, 0, none⟩ = some (.int .i64 a0_0) := (blk_cell BK114.out 0).trans rfl; have hcz11_1 : w10.cell? ⟨gb114, 1, none⟩ = some (.int .i64 a0_1) := (blk_cell BK114.out 1).trans rfl; have hcz11_2 : w10.cell? ⟨gb114, 2, none⟩ = some (.int .i64 a0_2) := (blk_cell BK114.out 2).trans rfl; have hcz11_3 : w10.cell? ⟨gb114, 3, none⟩ = some (.int .u32 a0_3) := (blk_cell BK114.out 3).trans rfl; have hfz11_0 := blk_frozen BK114.out 0; have hfz11_1 := blk_frozen BK114.out 1; have hfz11_2 := blk_frozen BK114.out 2; have hfz11_3 := blk_frozen BK114.out 3) | ((with_reducible refine gate_dst (N := 14) rfl ?_); refine Kd.R_lit (Kd.int .i64) _ 3 ?hg (N := 14) ?hd (xs := ([wrap64 ((wrap64 (a0_3)) + 1)] : List Int)) (inner := [.int .i64 (wrap64 ((wrap64 (a0_3)) + 1))]) (ok := fun _ => True) (okp := fun _ => True) ?hr ?hp (fun _ hk => hk) trivial (Below.refl _ _) (Nat.le_refl _) (by simp) ?_; (case hd => rfl); (case hg => rfl); (case hr => first | (go_simp; done) | (go_simp; rfl)); (case hp => exact (Reps.one (show Kd.M (Kd.int .i64) _ _ _ (wrap64 ((wrap64 (a0_3)) + 1)) [.int .i64 (wrap64 ((wrap64 (a0_3)) + 1))] from rfl) (Reps.none _ _))); intro v117 w12 ho13 hb hg_ hnew_; clear hg_ hnew_; (first | rw [← Ny116.out] at ho13 | (simp only [Int.reduceToNat] at ho13; rw [← Ny116.out] at ho13)); have n0_ := Aside0.mk (Kd.R_lower ho13 (below_size (by repeat (first | (with_reducible first | exact HB.out | apply below_alloc | apply pw_below_drewN | apply below_drew1 | refine below_set ?_ GE114.out) | exact HB.out)))); have n1_ := Aside0.mk (blk_below (g := gb114) (o := .cells #[.int .i64 a0_0, .int .i64 a0_1, .int .i64 a0_2, .int .u32 a0_3] 28 (0, 0)) (by (with_reducible repeat (first | refine blk_drewN ?_ _ | refine blk_drew ?_ | refine blk_alloc ?_ _)); exact BK114.out) hb); have n2_ := Aside0.mk (below_step (by repeat (first | (with_reducible first | exact HB.out | apply below_alloc | apply pw_below_drewN | apply below_drew1 | refine below_set ?_ GE114.out) | exact HB.out)) hb); clear BK114; clear HB; have HO118 := n0_; have BK114 := n1_; have HB := n2_; clear n0_ n1_ n2_; clear hb ho13))
      go_ret
      exact ⟨_, by first | rfl | (simp [errW_none, errW_some] <;> rfl) | (simp [*, errW_none, errW_some] <;> rfl), by (with_reducible repeat (first | apply Kd.R_alloc | apply Kd.R_drewN | apply Kd.R_drew)); exact HO118.out, by repeat (first | (with_reducible first | exact HB.out | apply below_alloc | apply pw_below_drewN | apply below_drew1 | refine below_set ?_ GE114.out) | exact HB.out)⟩
    · rw [if_neg c7] at H
      have c7b0 : (a0_0 == 5) = false := beq_eq_false_iff_ne.mpr c7
      have c7b1 : (a0_0 != 5) = true := bne_iff_ne.mpr c7
      by_cases c14 : (Go.bits .and .i64 a0_0 7) = 5
      · rw [if_pos c14] at H
        have c14b0 : ((Go.bits .and .i64 a0_0 7) == 5) = true := beq_iff_eq.mpr c14
        have c14b1 : ((Go.bits .and .i64 a0_0 7) != 5) = false := bne_eq_false_iff_eq.mpr c14
        clear c14
        obtain ⟨y119, hy119⟩ : ∃ y_ : List Int, y_ = (([wrap64 (a0_1 + 1), wrap64 (a0_2 + 1)] : List Int)) := ⟨_, rfl⟩
        replace H : (some y119) = some r := by first | (rw [hy119]; with_reducible exact H) | (have H2_ := (Option.bind_some _ _).symm.trans H; rw [hy119]; with_reducible exact H2_) | (have H2_ := (Option.bind_some _ _).symm.trans H; with_reducible exact H2_) | with_reducible exact H | (rw [hy119]; exact H) | exact H
        have Ny119 := Aside0.mk hy119
        clear hy119
        obtain rfl := Option.some.inj H
        go_enter Try.func101, Try.ntmps101
        go_wp2_with (first | ((with_reducible refine gate_dst (N := 1) rfl ?_); refine box_event ?hg (N := 1) ?hd (cs := #[.int .i64 a0_0, .int .i64 a0_1, .int .i64 a0_2, .int .u32 a0_3]) (t := 28) ?hr ?_; (case hd => rfl); (case hg => rfl); (case hr => first | (go_simp; done) | (go_simp; rfl)); intro gb114 hg w15 hbox hb; have n0_ := Aside0.mk (below_step (by repeat (first | (with_reducible first | exact HB.out | apply below_alloc | apply pw_below_drewN | apply below_drew1) | exact HB.out)) hb); have n1_ := Aside0.mk (hbox); have n2_ := Aside0.mk ((by rw [hg]; exact (below_size (by repeat (first | (with_reducible first | exact HB.out | apply below_alloc | apply pw_below_drewN | apply below_drew1) | exact HB.out))) : w.heap.size ≤ gb114)); have n3_ := Aside0.mk ((by rw [hg]; exact (below_size (by repeat (first | (with_reducible first | exact HB.out | apply below_alloc | apply pw_below_drewN | apply below_drew1) | exact HB.out))) : w.heap.size ≤ gb114)); clear HB; have HB := n0_; have BK114 := n1_; have GW114 := n2_; have GE114 := n3_; clear n0_ n1_ n2_ n3_; clear hb hbox hg; have hcz16_0 : w15.cell? ⟨gb114, 0, none⟩ = some (.int .i64 a0_0) := (blk_cell BK114.out 0).trans rfl; have hcz16_1 : w15.cell? ⟨gb114, 1, none⟩ = some (.int .i64 a0_1) := (blk_cell BK114.out 1).trans rfl; have hcz16_2 : w15.cell? ⟨gb114, 2, none⟩ = some (.int .i64 a0_2) := (blk_cell BK114.out 2).trans rfl; have hcz16_3 : w15.cell? ⟨gb114, 3, none⟩ = some (.int .u32 a0_3) := (blk_cell BK114.out 3).trans rfl; have hfz16_0 := blk_frozen BK114.out 0; have hfz16_1 := blk_frozen BK114.out 1; have hfz16_2 := blk_frozen BK114.out 2; have hfz16_3 := blk_frozen BK114.out 3) | ((with_reducible refine gate_callee (f := 131) rfl ?_); refine goesL_ (some 5) rfl rfl Try.func131 (by kernel_rfl) rfl #[.agg #[.int .i64 a0_0, .int .i64 a0_1, .int .i64 a0_2, .int .u32 a0_3]] rfl (by (try simp only [List.map_toArray, List.map_cons, List.map_nil]); first | done | rfl | (simp only [List.length_drop, List.length_take]; rfl)) ?_; (with_reducible refine (check_returns.calls a0_0 a0_1 a0_2 a0_3 false _ A2.out).mono ?_); rintro e w17 ⟨rfl, hb⟩; refine ⟨_, rfl, ?_⟩; have n0_ := Aside0.mk (blk_below (g := gb114) (o := .cells #[.int .i64 a0_0, .int .i64 a0_1, .int .i64 a0_2, .int .u32 a0_3] 28 (0, 0)) (by (with_reducible repeat (first | refine blk_drewN ?_ _ | refine blk_drew ?_ | refine blk_alloc ?_ _)); exact BK114.out) hb); have n1_ := Aside0.mk (below_step (by repeat (first | (with_reducible first | exact HB.out | apply below_alloc | apply pw_below_drewN | apply below_drew1 | refine below_set ?_ GE114.out) | exact HB.out)) hb); clear BK114; clear HB; have BK114 := n0_; have HB := n1_; clear n0_ n1_; (try clear hb); (try clear hb2); (try clear hk); (try clear hi); have hcz18_0 : w17.cell? ⟨gb114, 0, none⟩ = some (.int .i64 a0_0) := (blk_cell BK114.out 0).trans rfl; have hcz18_1 : w17.cell? ⟨gb114, 1, none⟩ = some (.int .i64 a0_1) := (blk_cell BK114.out 1).trans rfl; have hcz18_2 : w17.cell? ⟨gb114, 2, none⟩ = some (.int .i64 a0_2) := (blk_cell BK114.out 2).trans rfl; have hcz18_3 : w17.cell? ⟨gb114, 3, none⟩ = some (.int .u32 a0_3) := (blk_cell BK114.out 3).trans rfl; have hfz18_0 := blk_frozen BK114.out 0; have hfz18_1 := blk_frozen BK114.out 1; have hfz18_2 := blk_frozen BK114.out 2; have hfz18_3 := blk_frozen BK114.out 3) | ((with_reducible refine gate_dst (N := 26) rfl ?_); refine Kd.R_lit (Kd.int .i64) _ 3 ?hg (N := 26) ?hd (xs := ([wrap64 (a0_1 + 1), wrap64 (a0_2 + 1)] : List Int)) (inner := [.int .i64 (wrap64 (a0_1 + 1)), .int .i64 (wrap64 (a0_2 + 1))]) (ok := fun _ => True) (okp := fun _ => True) ?hr ?hp (fun _ hk => hk) trivial (Below.refl _ _) (Nat.le_refl _) (by simp) ?_; (case hd => rfl); (case hg => rfl); (case hr => first | (go_simp; done) | (go_simp; rfl)); (case hp => exact (Reps.one (show Kd.M (Kd.int .i64) _ _ _ (wrap64 (a0_1 + 1)) [.int .i64 (wrap64 (a0_1 + 1))] from rfl) (Reps.one (show Kd.M (Kd.int .i64) _ _ _ (wrap64 (a0_2 + 1)) [.int .i64 (wrap64 (a0_2 + 1))] from rfl) (Reps.none _ _)))); intro v120 w19 ho20 hb hg_ hnew_; clear hg_ hnew_; (first | rw [← Ny119.out] at ho20 | (simp only [Int.reduceToNat] at ho20; rw [← Ny119.out] at ho20)); have n0_ := Aside0.mk (Kd.R_lower ho20 (below_size (by repeat (first | (with_reducible first | exact HB.out | apply below_alloc | apply pw_below_drewN | apply below_drew1 | refine below_set ?_ GE114.out) | exact HB.out)))); have n1_ := Aside0.mk (blk_below (g := gb114) (o := .cells #[.int .i64 a0_0, .int .i64 a0_1, .int .i64 a0_2, .int .u32 a0_3] 28 (0, 0)) (by (with_reducible repeat (first | refine blk_drewN ?_ _ | refine blk_drew ?_ | refine blk_alloc ?_ _)); exact BK114.out) hb); have n2_ := Aside0.mk (below_step (by repeat (first | (with_reducible first | exact HB.out | apply below_alloc | apply pw_below_drewN | apply below_drew1 | refine below_set ?_ GE114.out) | exact HB.out)) hb); clear BK114; clear HB; have HO121 := n0_; have BK114 := n1_; have HB := n2_; clear n0_ n1_ n2_; clear hb ho20))
        go_ret
        exact ⟨_, by first | rfl | (simp [errW_none, errW_some] <;> rfl) | (simp [*, errW_none, errW_some] <;> rfl), by (with_reducible repeat (first | apply Kd.R_alloc | apply Kd.R_drewN | apply Kd.R_drew)); exact HO121.out, by repeat (first | (with_reducible first | exact HB.out | apply below_alloc | apply pw_below_drewN | apply below_drew1 | refine below_set ?_ GE114.out) | exact HB.out)⟩
      · rw [if_neg c14] at H
        have c14b0 : ((Go.bits .and .i64 a0_0 7) == 5) = false := beq_eq_false_iff_ne.mpr c14
        have c14b1 : ((Go.bits .and .i64 a0_0 7) != 5) = true := bne_iff_ne.mpr c14
        obtain ⟨y122, hy122⟩ : ∃ y_ : List Int, y_ = (([1] : List Int)) := ⟨_, rfl⟩
        replace H : (some y122) = some r := by first | (rw [hy122]; with_reducible exact H) | (have H2_ := (Option.bind_some _ _).symm.trans H; rw [hy122]; with_reducible exact H2_) | (have H2_ := (Option.bind_some _ _).symm.trans H; with_reducible exact H2_) | with_reducible exact H | (rw [hy122]; exact H) | exact H
        have Ny122 := Aside0.mk hy122
        clear hy122
        obtain rfl := Option.some.inj H
        go_enter Try.func101, Try.ntmps101
        go_wp2_with (first | ((with_reducible refine gate_dst (N := 1) rfl ?_); refine box_event ?hg (N := 1) ?hd (cs := #[.int .i64 a0_0, .int .i64 a0_1, .int .i64 a0_2, .int .u32 a0_3]) (t := 28) ?hr ?_; (case hd => rfl); (case hg => rfl); (case hr => first | (go_simp; done) | (go_simp; rfl)); intro gb114 hg w21 hbox hb; have n0_ := Aside0.mk (below_step (by repeat (first | (with_reducible first | exact HB.out | apply below_alloc | apply pw_below_drewN | apply below_drew1) | exact HB.out)) hb); have n1_ := Aside0.mk (hbox); have n2_ := Aside0.mk ((by rw [hg]; exact (below_size (by repeat (first | (with_reducible first | exact HB.out | apply below_alloc | apply pw_below_drewN | apply below_drew1) | exact HB.out))) : w.heap.size ≤ gb114)); have n3_ := Aside0.mk ((by rw [hg]; exact (below_size (by repeat (first | (with_reducible first | exact HB.out | apply below_alloc | apply pw_below_drewN | apply below_drew1) | exact HB.out))) : w.heap.size ≤ gb114)); clear HB; have HB := n0_; have BK114 := n1_; have GW114 := n2_; have GE114 := n3_; clear n0_ n1_ n2_ n3_; clear hb hbox hg; have hcz22_0 : w21.cell? ⟨gb114, 0, none⟩ = some (.int .i64 a0_0) := (blk_cell BK114.out 0).trans rfl; have hcz22_1 : w21.cell? ⟨gb114, 1, none⟩ = some (.int .i64 a0_1) := (blk_cell BK114.out 1).trans rfl; have hcz22_2 : w21.cell? ⟨gb114, 2, none⟩ = some (.int .i64 a0_2) := (blk_cell BK114.out 2).trans rfl; have hcz22_3 : w21.cell? ⟨gb114, 3, none⟩ = some (.int .u32 a0_3) := (blk_cell BK114.out 3).trans rfl; have hfz22_0 := blk_frozen BK114.out 0; have hfz22_1 := blk_frozen BK114.out 1; have hfz22_2 := blk_frozen BK114.out 2; have hfz22_3 := blk_frozen BK114.out 3) | ((with_reducible refine gate_callee (f := 131) rfl ?_); refine goesL_ (some 5) rfl rfl Try.func131 (by kernel_rfl) rfl #[.agg #[.int .i64 a0_0, .int .i64 a0_1, .int .i64 a0_2, .int .u32 a0_3]] rfl (by (try simp only [List.map_toArray, List.map_cons, List.map_nil]); first | done | rfl | (simp only [List.length_drop, List.length_take]; rfl)) ?_; (with_reducible refine (check_returns.calls a0_0 a0_1 a0_2 a0_3 false _ A2.out).mono ?_); rintro e w23 ⟨rfl, hb⟩; refine ⟨_, rfl, ?_⟩; have n0_ := Aside0.mk (blk_below (g := gb114) (o := .cells #[.int .i64 a0_0, .int .i64 a0_1, .int .i64 a0_2, .int .u32 a0_3] 28 (0, 0)) (by (with_reducible repeat (first | refine blk_drewN ?_ _ | refine blk_drew ?_ | refine blk_alloc ?_ _)); exact BK114.out) hb); have n1_ := Aside0.mk (below_step (by repeat (first | (with_reducible first | exact HB.out | apply below_alloc | apply pw_below_drewN | apply below_drew1 | refine below_set ?_ GE114.out) | exact HB.out)) hb); clear BK114; clear HB; have BK114 := n0_; have HB := n1_; clear n0_ n1_; (try clear hb); (try clear hb2); (try clear hk); (try clear hi); have hcz24_0 : w23.cell? ⟨gb114, 0, none⟩ = some (.int .i64 a0_0) := (blk_cell BK114.out 0).trans rfl; have hcz24_1 : w23.cell? ⟨gb114, 1, none⟩ = some (.int .i64 a0_1) := (blk_cell BK114.out 1).trans rfl; have hcz24_2 : w23.cell? ⟨gb114, 2, none⟩ = some (.int .i64 a0_2) := (blk_cell BK114.out 2).trans rfl; have hcz24_3 : w23.cell? ⟨gb114, 3, none⟩ = some (.int .u32 a0_3) := (blk_cell BK114.out 3).trans rfl; have hfz24_0 := blk_frozen BK114.out 0; have hfz24_1 := blk_frozen BK114.out 1; have hfz24_2 := blk_frozen BK114.out 2; have hfz24_3 := blk_frozen BK114.out 3) | ((with_reducible refine gate_dst (N := 27) rfl ?_); refine Kd.R_lit (Kd.int .i64) _ 3 ?hg (N := 27) ?hd (xs := ([1] : List Int)) (inner := [.int .i64 1]) (ok := fun _ => True) (okp := fun _ => True) ?hr ?hp (fun _ hk => hk) trivial (Below.refl _ _) (Nat.le_refl _) (by simp) ?_; (case hd => rfl); (case hg => rfl); (case hr => first | (go_simp; done) | (go_simp; rfl)); (case hp => exact (Reps.one (show Kd.M (Kd.int .i64) _ _ _ 1 [.int .i64 1] from rfl) (Reps.none _ _))); intro v123 w25 ho26 hb hg_ hnew_; clear hg_ hnew_; (first | rw [← Ny122.out] at ho26 | (simp only [Int.reduceToNat] at ho26; rw [← Ny122.out] at ho26)); have n0_ := Aside0.mk (Kd.R_lower ho26 (below_size (by repeat (first | (with_reducible first | exact HB.out | apply below_alloc | apply pw_below_drewN | apply below_drew1 | refine below_set ?_ GE114.out) | exact HB.out)))); have n1_ := Aside0.mk (blk_below (g := gb114) (o := .cells #[.int .i64 a0_0, .int .i64 a0_1, .int .i64 a0_2, .int .u32 a0_3] 28 (0, 0)) (by (with_reducible repeat (first | refine blk_drewN ?_ _ | refine blk_drew ?_ | refine blk_alloc ?_ _)); exact BK114.out) hb); have n2_ := Aside0.mk (below_step (by repeat (first | (with_reducible first | exact HB.out | apply below_alloc | apply pw_below_drewN | apply below_drew1 | refine below_set ?_ GE114.out) | exact HB.out)) hb); clear BK114; clear HB; have HO124 := n0_; have BK114 := n1_; have HB := n2_; clear n0_ n1_ n2_; clear hb ho26))
        go_ret
        exact ⟨_, by first | rfl | (simp [errW_none, errW_some] <;> rfl) | (simp [*, errW_none, errW_some] <;> rfl), by (with_reducible repeat (first | apply Kd.R_alloc | apply Kd.R_drewN | apply Kd.R_drew)); exact HO124.out, by repeat (first | (with_reducible first | exact HB.out | apply below_alloc | apply pw_below_drewN | apply below_drew1 | refine below_set ?_ GE114.out) | exact HB.out)⟩
def doorwardlaw12_few.f (l0 : List (S28)) : Option ((List (S28))) := if (l0.length : Int) > 60 then (if (l0.length : Int) ≤ 4096 then (if 60 ≤ (l0.length : Int) then (some (l0.take 60)) else (none)) else (if 0 ≤ (mn (l0.length : Int) 4100) then (if (mn (l0.length : Int) 4100) ≤ (l0.length : Int) then (some (l0.take ((mn (l0.length : Int) 4100) : Int).toNat)) else (none)) else (none))) else (if 0 ≤ (mn (l0.length : Int) 4100) then (if (mn (l0.length : Int) 4100) ≤ (l0.length : Int) then (some (l0.take ((mn (l0.length : Int) 4100) : Int).toNat)) else (none)) else (none))
set_option maxHeartbeats 8000000 in
set_option maxRecDepth 100000 in
theorem doorwardlaw12_few.calls (P0_ : Nat → Prop) (A0 : Option Addr) (c0 : Nat) (l0 : List (S28)) (r : List (S28)) (w : World) (hs0 : Kd.V k28 28 w w.heap.size (fun k_ => P0_ k_) (.slice A0 l0.length c0) l0) (h : doorwardlaw12_few.f l0 = some r) :
    Calls Try.prog 53 #[.slice A0 l0.length c0] w fun e w' => ∃ v0_ : Value, e = .returned (v0_) ∧ Kd.V k28 28 w' w.heap.size (fun k_ => (P0_ k_ ∨ w.heap.size ≤ k_)) v0_ r ∧ Below w.heap.size w w' := by
  have HO0 := Aside0.mk (show Kd.V k28 28 w w.heap.size (fun k_ => (P0_ k_ ∨ w.heap.size ≤ k_)) (.slice A0 l0.length c0) l0 from Kd.V_mono hs0 (fun k_ hk => .inl hk))
  have HB := Aside0.mk (Below.refl w.heap.size w)
  have H : (if (l0.length : Int) > 60 then (if (l0.length : Int) ≤ 4096 then (if 60 ≤ (l0.length : Int) then (some (l0.take 60)) else (none)) else (if 0 ≤ (mn (l0.length : Int) 4100) then (if (mn (l0.length : Int) 4100) ≤ (l0.length : Int) then (some (l0.take ((mn (l0.length : Int) 4100) : Int).toNat)) else (none)) else (none))) else (if 0 ≤ (mn (l0.length : Int) 4100) then (if (mn (l0.length : Int) 4100) ≤ (l0.length : Int) then (some (l0.take ((mn (l0.length : Int) 4100) : Int).toNat)) else (none)) else (none))) = some r := h
  clear h
  by_cases c2 : (l0.length : Int) > 60
  · rw [if_pos c2] at H
    have c2b0 : decide (60 < (l0.length : Int)) = true := decide_eq_true c2
    have c2b1 : decide (60 < l0.length) = true := decide_eq_true (by omega)
    clear c2
    by_cases c3 : (l0.length : Int) ≤ 4096
    · rw [if_pos c3] at H
      have c3b0 : decide ((l0.length : Int) ≤ 4096) = true := decide_eq_true c3
      have c3b1 : decide (l0.length ≤ 4096) = true := decide_eq_true (by omega)
      clear c3
      by_cases c4 : 60 ≤ (l0.length : Int)
      · rw [if_pos c4] at H
        have c4b0 := eq_true c4
        have c4b1 : decide (60 ≤ (l0.length : Int)) = true := decide_eq_true c4
        clear c4
        obtain ⟨y125, hy125⟩ : ∃ y_ : List (S28), y_ = (l0.take 60) := ⟨_, rfl⟩
        replace H : (some y125) = some r := by first | (rw [hy125]; with_reducible exact H) | (have H2_ := (Option.bind_some _ _).symm.trans H; rw [hy125]; with_reducible exact H2_) | (have H2_ := (Option.bind_some _ _).symm.trans H; with_reducible exact H2_) | with_reducible exact H | (rw [hy125]; exact H) | exact H
        have Ny125 := Aside0.mk hy125
        clear hy125
        obtain rfl := Option.some.inj H
        have q5 : (60 : Int) ≤ ((l0.length : Int) : Int) := of_decide_eq_true (by first | (with_reducible assumption) | assumption)
        obtain ⟨i05, hi05, _, hsz5, _⟩ := info_parts info28
        have hroom5 : l0.length ≤ c0 := (Kd.V_reads' HO0.out).2.1
        have hC5 : Kd.F k28 _ _ A0 l0.length l0 := (Kd.V_at (base := w.heap.size) HO0.out).2.2
        have hcut5 := cut_to (P := Try.prog) 34 28 .i64 Try.underlying34 hi05 A0 l0.length c0 60 (by omega) q5 hroom5
        have hr5 := Kd.F_take (m := 60) hC5 (by omega)
        have hy5 : y125.length = (60 : Int).toNat := (by rw [Ny125.out, List.length_take]; omega)
        rw [← Ny125.out] at hr5
        rw [← hy5] at hcut5
        have HO129 := Aside0.mk (show Kd.V k28 28 _ w.heap.size _ (.slice A0 y125.length c0) y125 from Kd.V_mk (by omega) hr5)
        have HC129 := Aside0.mk (show y125.length ≤ c0 from by omega)
        clear hr5 hC5 hroom5 hi05 hsz5
        have KY5 := Aside0.mk hy5
        clear hy5
        replace q5 := eq_true q5
        go_enter Try.func53, Try.ntmps53
        go_wp2
        go_ret
        exact ⟨_, by first | rfl | (simp [errW_none, errW_some] <;> rfl) | (simp [*, errW_none, errW_some] <;> rfl), by (with_reducible repeat (first | apply Kd.V_alloc | apply Kd.V_drewN | apply Kd.V_drew)); exact HO129.out, by repeat (first | (with_reducible first | exact HB.out | apply below_alloc | apply pw_below_drewN | apply below_drew1) | exact HB.out)⟩
      · rw [if_neg c4] at H
        exact absurd H (by simp)
    · rw [if_neg c3] at H
      have c3b0 : decide ((l0.length : Int) ≤ 4096) = false := decide_eq_false c3
      have c3b1 : decide (l0.length ≤ 4096) = false := decide_eq_false (by omega)
      clear c3
      obtain ⟨ji6, hji6⟩ : ∃ j_ : Int, (mn (l0.length : Int) 4100) = j_ := ⟨_, rfl⟩
      replace H : (if 0 ≤ (ji6) then (if (ji6) ≤ (l0.length : Int) then (some (l0.take ((ji6) : Int).toNat)) else (none)) else (none)) = some r := by first | (rw [hji6] at H; exact H) | (simp only [hji6] at H ⊢; exact H)
      (try (have hji6h : ji6 ≤ 4100 := by (rw [← hji6]; unfold mn; (repeat' split) <;> omega)))
      (try (have hji6g : ji6 ≤ 64 := by omega))
      (try (have hji6l : 0 ≤ ji6 := by (rw [← hji6]; unfold mn; (repeat' split) <;> omega)))
      (try (have hji6m : 0 ≤ ji6 := by omega))
      have hji6_ : (if 4100 < (l0.length : Int) then 4100 else (l0.length : Int)) = ji6 := hji6
      by_cases c7 : 0 ≤ (ji6)
      · rw [if_pos c7] at H
        have c7b0 := eq_true c7
        have c7b1 : decide (0 ≤ (ji6)) = true := decide_eq_true c7
        clear c7
        by_cases c8 : (ji6) ≤ (l0.length : Int)
        · rw [if_pos c8] at H
          have c8b0 := eq_true c8
          have c8b1 : decide ((ji6) ≤ (l0.length : Int)) = true := decide_eq_true c8
          clear c8
          obtain ⟨y130, hy130⟩ : ∃ y_ : List (S28), y_ = (l0.take ((ji6) : Int).toNat) := ⟨_, rfl⟩
          replace H : (some y130) = some r := by first | (rw [hy130]; with_reducible exact H) | (have H2_ := (Option.bind_some _ _).symm.trans H; rw [hy130]; with_reducible exact H2_) | (have H2_ := (Option.bind_some _ _).symm.trans H; with_reducible exact H2_) | with_reducible exact H | (rw [hy130]; exact H) | exact H
          have Ny130 := Aside0.mk hy130
          clear hy130
          obtain rfl := Option.some.inj H
          have q9 : ((ji6) : Int) ≤ ((l0.length : Int) : Int) := of_decide_eq_true (by first | (with_reducible assumption) | assumption)
          obtain ⟨i09, hi09, _, hsz9, _⟩ := info_parts info28
          have hroom9 : l0.length ≤ c0 := (Kd.V_reads' HO0.out).2.1
          have hC9 : Kd.F k28 _ _ A0 l0.length l0 := (Kd.V_at (base := w.heap.size) HO0.out).2.2
          have hcut9 := cut_to (P := Try.prog) 34 28 .i64 Try.underlying34 hi09 A0 l0.length c0 (ji6) (of_decide_eq_true (by first | (with_reducible assumption) | assumption)) q9 hroom9
          have hr9 := Kd.F_take (m := ((ji6) : Int).toNat) hC9 (by omega)
          have hy9 : y130.length = ((ji6) : Int).toNat := (by rw [Ny130.out, List.length_take]; omega)
          rw [← Ny130.out] at hr9
          rw [← hy9] at hcut9
          have HO134 := Aside0.mk (show Kd.V k28 28 _ w.heap.size _ (.slice A0 y130.length c0) y130 from Kd.V_mk (by omega) hr9)
          have HC134 := Aside0.mk (show y130.length ≤ c0 from by omega)
          clear hr9 hC9 hroom9 hi09 hsz9
          have KY9 := Aside0.mk hy9
          clear hy9
          replace q9 := eq_true q9
          go_enter Try.func53, Try.ntmps53
          go_wp2
          go_ret
          exact ⟨_, by first | rfl | (simp [errW_none, errW_some] <;> rfl) | (simp only [← hji6]; first | rfl | (simp [errW_none, errW_some] <;> rfl)) | (simp [*, errW_none, errW_some] <;> rfl), by (with_reducible repeat (first | apply Kd.V_alloc | apply Kd.V_drewN | apply Kd.V_drew)); exact HO134.out, by repeat (first | (with_reducible first | exact HB.out | apply below_alloc | apply pw_below_drewN | apply below_drew1) | exact HB.out)⟩
        · rw [if_neg c8] at H
          exact absurd H (by simp)
      · rw [if_neg c7] at H
        exact absurd H (by simp)
  · rw [if_neg c2] at H
    have c2b0 : decide (60 < (l0.length : Int)) = false := decide_eq_false c2
    have c2b1 : decide (60 < l0.length) = false := decide_eq_false (by omega)
    clear c2
    obtain ⟨ji10, hji10⟩ : ∃ j_ : Int, (mn (l0.length : Int) 4100) = j_ := ⟨_, rfl⟩
    replace H : (if 0 ≤ (ji10) then (if (ji10) ≤ (l0.length : Int) then (some (l0.take ((ji10) : Int).toNat)) else (none)) else (none)) = some r := by first | (rw [hji10] at H; exact H) | (simp only [hji10] at H ⊢; exact H)
    (try (have hji10h : ji10 ≤ 4100 := by (rw [← hji10]; unfold mn; (repeat' split) <;> omega)))
    (try (have hji10g : ji10 ≤ 64 := by omega))
    (try (have hji10l : 0 ≤ ji10 := by (rw [← hji10]; unfold mn; (repeat' split) <;> omega)))
    (try (have hji10m : 0 ≤ ji10 := by omega))
    have hji10_ : (if 4100 < (l0.length : Int) then 4100 else (l0.length : Int)) = ji10 := hji10
    by_cases c11 : 0 ≤ (ji10)
    · rw [if_pos c11] at H
      have c11b0 := eq_true c11
      have c11b1 : decide (0 ≤ (ji10)) = true := decide_eq_true c11
      clear c11
      by_cases c12 : (ji10) ≤ (l0.length : Int)
      · rw [if_pos c12] at H
        have c12b0 := eq_true c12
        have c12b1 : decide ((ji10) ≤ (l0.length : Int)) = true := decide_eq_true c12
        clear c12
        obtain ⟨y135, hy135⟩ : ∃ y_ : List (S28), y_ = (l0.take ((ji10) : Int).toNat) := ⟨_, rfl⟩
        replace H : (some y135) = some r := by first | (rw [hy135]; with_reducible exact H) | (have H2_ := (Option.bind_some _ _).symm.trans H; rw [hy135]; with_reducible exact H2_) | (have H2_ := (Option.bind_some _ _).symm.trans H; with_reducible exact H2_) | with_reducible exact H | (rw [hy135]; exact H) | exact H
        have Ny135 := Aside0.mk hy135
        clear hy135
        obtain rfl := Option.some.inj H
        have q13 : ((ji10) : Int) ≤ ((l0.length : Int) : Int) := of_decide_eq_true (by first | (with_reducible assumption) | assumption)
        obtain ⟨i013, hi013, _, hsz13, _⟩ := info_parts info28
        have hroom13 : l0.length ≤ c0 := (Kd.V_reads' HO0.out).2.1
        have hC13 : Kd.F k28 _ _ A0 l0.length l0 := (Kd.V_at (base := w.heap.size) HO0.out).2.2
        have hcut13 := cut_to (P := Try.prog) 34 28 .i64 Try.underlying34 hi013 A0 l0.length c0 (ji10) (of_decide_eq_true (by first | (with_reducible assumption) | assumption)) q13 hroom13
        have hr13 := Kd.F_take (m := ((ji10) : Int).toNat) hC13 (by omega)
        have hy13 : y135.length = ((ji10) : Int).toNat := (by rw [Ny135.out, List.length_take]; omega)
        rw [← Ny135.out] at hr13
        rw [← hy13] at hcut13
        have HO139 := Aside0.mk (show Kd.V k28 28 _ w.heap.size _ (.slice A0 y135.length c0) y135 from Kd.V_mk (by omega) hr13)
        have HC139 := Aside0.mk (show y135.length ≤ c0 from by omega)
        clear hr13 hC13 hroom13 hi013 hsz13
        have KY13 := Aside0.mk hy13
        clear hy13
        replace q13 := eq_true q13
        go_enter Try.func53, Try.ntmps53
        go_wp2
        go_ret
        exact ⟨_, by first | rfl | (simp [errW_none, errW_some] <;> rfl) | (simp only [← hji10]; first | rfl | (simp [errW_none, errW_some] <;> rfl)) | (simp [*, errW_none, errW_some] <;> rfl), by (with_reducible repeat (first | apply Kd.V_alloc | apply Kd.V_drewN | apply Kd.V_drew)); exact HO139.out, by repeat (first | (with_reducible first | exact HB.out | apply below_alloc | apply pw_below_drewN | apply below_drew1) | exact HB.out)⟩
      · rw [if_neg c12] at H
        exact absurd H (by simp)
    · rw [if_neg c11] at H
      exact absurd H (by simp)
end Go.Proofs.Ytefkhcijgiagdaa.K0
end
section
namespace Go.Proofs.Ytefkhcijgiagdaa.QCheck
open Go.RowKit Go.Proofs.YtefkhcijgiagdaaW.PrintWords Go.Proofs.YtefkhcijgiagdaaW.PrintLast Go.Proofs.YtefkhcijgiagdaaW.PrintMore Go.Proofs.Ytefkhcijgiagdaa.HKnown Go.Proofs.Ytefkhcijgiagdaa.I1 Go.Proofs.Ytefkhcijgiagdaa.QVm
set_option linter.unusedVariables false
set_option linter.unusedSimpArgs false
def retB (c : Int) : Bool := decide (c = 6 ∨ c = 22)
/-- Does an instruction fit, with so many behind it? by its code. -/
def fitB (i : S28) (left : Int) : Bool :=
  if i.f0 = 32 then decide (i.f3 % 4 = 0 ∧ i.f3 ≤ 60)
  else if i.f0 = 96 ∨ i.f0 = 97 ∨ i.f0 = 2 ∨ i.f0 = 3 then decide (i.f3 < 16)
  else if i.f0 = 52 then decide (i.f3 ≠ 0)
  else if i.f0 = 100 ∨ i.f0 = 116 then decide (i.f3 < 32)
  else if i.f0 = 5 then decide (i.f3 < left)
  else if i.f0 = 21 ∨ i.f0 = 37 ∨ i.f0 = 53 ∨ i.f0 = 69 ∨ i.f0 = 29 ∨ i.f0 = 45 ∨ i.f0 = 61 ∨ i.f0 = 77 then decide (i.f1 < left ∧ i.f2 < left)
  else true
def wellB (i : S28) (left : Int) : Bool :=
  knownB i.f0 && decide (0 ≤ i.f1 ∧ i.f1 ≤ 255 ∧ 0 ≤ i.f2 ∧ i.f2 ≤ 255) && (decide (left ≠ 0) || retB i.f0) && fitB i left
/-- The first instruction that is not well. -/
def firstB : List S28 → Option Nat
  | [] => none
  | i :: l => if wellB i (l.length : Int) = true then (firstB l).map (· + 1) else some 0
def allV (l : List S28) : Int × Int :=
  if l.length = 0 then (0, 51) else if 4096 < l.length then (0, 2) else match firstB l with | some k => ((k : Int), 51) | none => (0, 0)
/-- How far on the instructions stand that may come behind one. -/
def folL (i : S28) : List Nat :=
  if retB i.f0 = true then [] else if i.f0 = 5 then [i.f3.toNat + 1] else if i.f0 % 8 = 5 then [i.f1.toNat + 1, i.f2.toNat + 1] else [1]
def stB (i : S28) : Bool := decide (i.f0 = 2 ∨ i.f0 = 3)
def wrB (i : S28) (c : Nat) : Bool := stB i && decide (i.f3.toNat = c)
def folTo (i : S28) (f j : Nat) : Bool := (folL i).any fun d => decide (f + d = j)
def joinL (a b : List Bool) : List Bool := if a = [] then b else List.zipWith (· && ·) a b
def nowL (i : S28) (row : List Bool) : List Bool := if stB i = true then row.set i.f3.toNat true else row
def putL (rows : List (List Bool)) (j : Nat) (now : List Bool) : List (List Bool) := rows.set j (joinL (rows.getD j []) now)
def stepL (rows : List (List Bool)) (k : Nat) (i : S28) : List (List Bool) :=
  if rows.getD k [] = [] then rows else (folL i).foldl (fun o d => putL o (k + d) (nowL i (rows.getD k []))) rows
def z28 : S28 := ⟨0, 0, 0, 0⟩
def at_ (l : List S28) (k : Nat) : S28 := l.getD k z28
def cellsL (l : List S28) : Nat → List (List Bool)
  | 0 => (List.replicate l.length []).set 0 (List.replicate 16 false)
  | k + 1 => stepL (cellsL l k) k (at_ l k)
/-- The first load of a cell that is not written on each way. -/
def loadB (i : S28) (row : List Bool) : Bool := decide (i.f0 = 96 ∨ i.f0 = 97) && (!row.isEmpty && !row.getD i.f3.toNat false)
def findB : List S28 → List (List Bool) → Nat → Option Nat
  | [], _, _ => none
  | i :: l, rows, k => if loadB i (rows.getD k []) = true then some k else findB l rows (k + 1)
def checkV (l : List S28) : Int × Int :=
  if (allV l).2 = 0 then (match findB l (cellsL l l.length) 0 with | some k => ((k : Int), 51) | none => (0, 0)) else allV l
def rchL (l : List S28) (c : Nat) : Nat → List Bool
  | 0 => []
  | n + 1 => rchL l c n ++ [decide (n = 0) || (List.range n).any fun f => (rchL l c n).getD f false && !wrB (at_ l f) c && folTo (at_ l f) f n]
def rch (l : List S28) (c j : Nat) : Bool := (rchL l c (j + 1)).getD j false
theorem rchL_len (l : List S28) (c n : Nat) : (rchL l c n).length = n := by
  induction n with
  | zero => rfl
  | succ n ih => simp [rchL, ih]
theorem getD_append_l {α : Type} (a b : List α) (d : α) (j : Nat) (h : j < a.length) : (a ++ b).getD j d = a.getD j d := by
  rw [List.getD_eq_getElem?_getD, List.getD_eq_getElem?_getD, List.getElem?_append_left h]
theorem rchL_get (l : List S28) (c : Nat) : ∀ n f, f < n → (rchL l c n).getD f false = rch l c f := by
  intro n
  induction n with
  | zero => intro f h; omega
  | succ n ih =>
    intro f h
    by_cases hf : f < n
    · rw [← ih f hf]
      show (rchL l c n ++ _).getD f false = _
      rw [getD_append_l _ _ _ _ (by rw [rchL_len]; exact hf)]
    · obtain rfl : f = n := by omega
      rfl
theorem any_congr {α : Type} {p q : α → Bool} {l : List α} (h : ∀ x ∈ l, p x = q x) : l.any p = l.any q := by
  induction l with
  | nil => rfl
  | cons a l ih => rw [List.any_cons, List.any_cons, h a List.mem_cons_self, ih (fun x hx => h x (List.mem_cons_of_mem _ hx))]
/-- Is a place reached over one of the first k instructions, on a way on which the cell is not written? -/
def qch (l : List S28) (c k j : Nat) : Bool := decide (j = 0) || (List.range k).any fun f => rch l c f && !wrB (at_ l f) c && folTo (at_ l f) f j
theorem rch_eq (l : List S28) (c j : Nat) : rch l c j = qch l c j j := by
  show (rchL l c j ++ [_]).getD j false = _
  rw [List.getD_eq_getElem?_getD, List.getElem?_append_right (by rw [rchL_len]; exact Nat.le_refl _), rchL_len, Nat.sub_self]
  show (decide (j = 0) || _) = (decide (j = 0) || _)
  congr 1
  refine any_congr fun f hf => ?_
  rw [rchL_get l c j f (List.mem_range.1 hf)]
theorem fol_gt {i : S28} {f j : Nat} (h : folTo i f j = true) : f < j := by
  unfold folTo folL at h
  split at h
  · simp at h
  split at h
  · simp at h; omega
  split at h
  · simp at h; omega
  · simp at h; omega
theorem qch_succ (l : List S28) (c k j : Nat) : qch l c (k + 1) j = (qch l c k j || (rch l c k && !wrB (at_ l k) c && folTo (at_ l k) k j)) := by
  unfold qch
  rw [List.range_succ, List.any_append, Bool.or_assoc]
  simp
theorem qch_late (l : List S28) (c k j : Nat) (h : j ≤ k) : qch l c k j = rch l c j := by
  obtain ⟨d, rfl⟩ : ∃ d, k = j + d := ⟨k - j, by omega⟩
  clear h
  induction d with
  | zero => exact (rch_eq l c j).symm
  | succ d ih =>
    rw [show j + (d + 1) = (j + d) + 1 by omega, qch_succ, ih]
    have e : folTo (at_ l (j + d)) (j + d) j = false := by
      cases h : folTo (at_ l (j + d)) (j + d) j with
      | false => rfl
      | true => have := fol_gt h; omega
    rw [e, Bool.and_false, Bool.or_false]
/-- No cell of that number is ever written. -/
theorem rch_mono (l : List S28) (h16 : ∀ f, wrB (at_ l f) 16 = false) (c : Nat) : ∀ n j, j < n → rch l c j = true → rch l 16 j = true := by
  intro n
  induction n with
  | zero => intro j h; omega
  | succ n ih =>
    intro j hj h
    rw [rch_eq] at h ⊢
    unfold qch at h ⊢
    rw [Bool.or_eq_true] at h ⊢
    rcases h with h | h
    · exact .inl h
    · right
      rw [List.any_eq_true] at h ⊢
      obtain ⟨f, hf, hp⟩ := h
      have hlt := List.mem_range.1 hf
      refine ⟨f, hf, ?_⟩
      rw [Bool.and_eq_true, Bool.and_eq_true] at hp
      rw [ih f (by omega) hp.1.1, h16 f, hp.2]
      rfl
theorem qch_mono (l : List S28) (h16 : ∀ f, wrB (at_ l f) 16 = false) (c k j : Nat) (h : qch l c k j = true) : qch l 16 k j = true := by
  unfold qch at h ⊢
  rw [Bool.or_eq_true] at h ⊢
  rcases h with h | h
  · exact .inl h
  · right
    rw [List.any_eq_true] at h ⊢
    obtain ⟨f, hf, hp⟩ := h
    refine ⟨f, hf, ?_⟩
    rw [Bool.and_eq_true, Bool.and_eq_true] at hp
    rw [rch_mono l h16 c (f + 1) f (by omega) hp.1.1, h16 f, hp.2]
    rfl
/-- What stands in the rows when the first k have been gone through. -/
structure Inv (l : List S28) (k : Nat) (rows : List (List Bool)) : Prop where
  len : rows.length = l.length
  nil : ∀ j, j < l.length → (rows.getD j [] = [] ↔ qch l 16 k j = false)
  n16 : ∀ j, j < l.length → rows.getD j [] ≠ [] → (rows.getD j []).length = 16
  val : ∀ j, j < l.length → rows.getD j [] ≠ [] → ∀ c, c < 16 → (rows.getD j []).getD c false = !qch l c k j
theorem getD_set_same {α : Type} (l : List α) (j : Nat) (x d : α) (h : j < l.length) : (l.set j x).getD j d = x := by
  rw [List.getD_eq_getElem?_getD, List.getElem?_set_self h]; rfl
theorem getD_set_other {α : Type} (l : List α) (i j : Nat) (x d : α) (h : i ≠ j) : (l.set i x).getD j d = l.getD j d := by
  rw [List.getD_eq_getElem?_getD, List.getD_eq_getElem?_getD, List.getElem?_set_ne h]
theorem joinL_again (a b : List Bool) (hab : a = [] ∨ a.length = b.length) : joinL (joinL a b) b = joinL a b := by
  have key : ∀ (a b : List Bool), a.length = b.length → List.zipWith (· && ·) (List.zipWith (· && ·) a b) b = List.zipWith (· && ·) a b := by
    intro a
    induction a with
    | nil => intro b _; rfl
    | cons x a ih =>
      intro b h
      cases b with
      | nil => simp at h
      | cons y b =>
        simp only [List.zipWith_cons_cons, List.length_cons] at h ⊢
        rw [ih b (by omega), Bool.and_assoc, Bool.and_self]
  have self : ∀ b : List Bool, List.zipWith (· && ·) b b = b := by
    intro b
    induction b with
    | nil => rfl
    | cons x b ih => rw [List.zipWith_cons_cons, ih, Bool.and_self]
  unfold joinL
  by_cases ha : a = []
  · rw [if_pos ha]
    by_cases hb : b = []
    · rw [if_pos hb]
    · rw [if_neg hb, self]
  · rw [if_neg ha]
    rcases hab with h | h
    · exact absurd h ha
    · by_cases hz : List.zipWith (· && ·) a b = []
      · exfalso
        have : (List.zipWith (· && ·) a b).length = 0 := by rw [hz]; rfl
        rw [List.length_zipWith, h, Nat.min_self] at this
        exact ha (List.eq_nil_of_length_eq_zero (by omega))
      · rw [if_neg hz, key a b h]
theorem put_len (rows : List (List Bool)) (j : Nat) (now : List Bool) : (putL rows j now).length = rows.length := by simp [putL]
theorem fold_put (k : Nat) (now : List Bool) (hn : now.length = 16) : ∀ (ds : List Nat) (rows : List (List Bool)), (∀ d ∈ ds, k + d < rows.length) → (∀ j, j < rows.length → rows.getD j [] = [] ∨ (rows.getD j []).length = 16) →
    (ds.foldl (fun o d => putL o (k + d) now) rows).length = rows.length ∧ ∀ j, j < rows.length → (ds.foldl (fun o d => putL o (k + d) now) rows).getD j [] = if (ds.any fun d => decide (k + d = j)) = true then joinL (rows.getD j []) now else rows.getD j [] := by
  intro ds
  induction ds with
  | nil => intro rows _ _; exact ⟨rfl, fun j hj => by simp⟩
  | cons d ds ih =>
    intro rows hds h16
    have hd := hds d List.mem_cons_self
    have hj16 : (joinL (rows.getD (k + d) []) now).length = 16 := by
      unfold joinL
      rcases h16 (k + d) hd with h | h
      · rw [if_pos h, hn]
      · rw [if_neg (fun e => by rw [e] at h; simp at h), List.length_zipWith, h, hn]; rfl
    have hg : ∀ j, (putL rows (k + d) now).getD j [] = if k + d = j then joinL (rows.getD j []) now else rows.getD j [] := by
      intro j
      unfold putL
      by_cases e : k + d = j
      · subst e; rw [if_pos rfl, getD_set_same _ _ _ _ hd]
      · rw [if_neg e, getD_set_other _ _ _ _ _ e]
    obtain ⟨g1, g2⟩ := ih (putL rows (k + d) now) (fun x hx => by rw [put_len]; exact hds x (List.mem_cons_of_mem _ hx)) (fun j hj => by
      rw [put_len] at hj
      rw [hg]
      by_cases e : k + d = j
      · rw [if_pos e, ← e]; exact .inr hj16
      · rw [if_neg e]; exact h16 j hj)
    rw [List.foldl_cons]
    refine ⟨by rw [g1, put_len], fun j hj => ?_⟩
    rw [g2 j (by rw [put_len]; exact hj), hg j, List.any_cons]
    by_cases e : k + d = j
    · rw [if_pos e, decide_eq_true e, Bool.true_or, if_pos rfl]
      by_cases e2 : (ds.any fun d => decide (k + d = j)) = true
      · rw [if_pos e2, joinL_again]
        rcases h16 j hj with h | h
        · exact .inl h
        · exact .inr (by rw [h, hn])
      · rw [if_neg e2]
    · rw [if_neg e, decide_eq_false e, Bool.false_or]
theorem zip_getD (a b : List Bool) (c : Nat) (h : a.length = b.length) (hc : c < a.length) : (List.zipWith (· && ·) a b).getD c false = (a.getD c false && b.getD c false) := by
  rw [List.getD_eq_getElem?_getD, List.getD_eq_getElem?_getD, List.getD_eq_getElem?_getD, List.getElem?_zipWith, List.getElem?_eq_getElem hc, List.getElem?_eq_getElem (by omega : c < b.length)]
  rfl
/-- All instructions are well: their followers stand within, their cells are few. -/
structure WellL (l : List S28) : Prop where
  fol : ∀ k, k < l.length → ∀ d ∈ folL (at_ l k), k + d < l.length
  st : ∀ k, k < l.length → stB (at_ l k) = true → 0 ≤ (at_ l k).f3 ∧ (at_ l k).f3 < 16
theorem at_out (l : List S28) (k : Nat) (h : l.length ≤ k) : at_ l k = z28 := by unfold at_; rw [List.getD_eq_getElem?_getD, List.getElem?_eq_none h]; rfl
theorem WellL.w16 {l : List S28} (h : WellL l) (f : Nat) : wrB (at_ l f) 16 = false := by
  by_cases hf : f < l.length
  · cases hs : stB (at_ l f) with
    | false => unfold wrB; rw [hs]; rfl
    | true => have := h.st f hf hs; unfold wrB; rw [hs, Bool.true_and]; exact decide_eq_false (by omega)
  · rw [at_out l f (by omega)]; rfl
theorem inv_zero (l : List S28) (h0 : 0 < l.length) : Inv l 0 (cellsL l 0) := by
  have hq : ∀ c j, qch l c 0 j = decide (j = 0) := fun c j => by unfold qch; simp
  have hr : ∀ j, j < l.length → (cellsL l 0).getD j [] = if j = 0 then List.replicate 16 false else [] := by
    intro j hj
    show ((List.replicate l.length []).set 0 (List.replicate 16 false)).getD j [] = _
    by_cases e : j = 0
    · subst e; rw [if_pos rfl, getD_set_same _ _ _ _ (by simpa using h0)]
    · rw [if_neg e, getD_set_other _ _ _ _ _ (fun x => e x.symm), List.getD_eq_getElem?_getD, List.getElem?_replicate, if_pos hj]; rfl
  refine ⟨by simp [cellsL], fun j hj => ?_, fun j hj => ?_, fun j hj => ?_⟩
  · rw [hr j hj, hq]
    by_cases e : j = 0
    · rw [if_pos e, decide_eq_true e]; simp
    · rw [if_neg e, decide_eq_false e]; simp
  · rw [hr j hj]
    by_cases e : j = 0
    · rw [if_pos e]; intro _; simp
    · rw [if_neg e]; intro h; exact absurd rfl h
  · rw [hr j hj]
    by_cases e : j = 0
    · rw [if_pos e]
      intro _ c hc
      rw [hq, decide_eq_true e, List.getD_eq_getElem?_getD, List.getElem?_replicate, if_pos hc]; rfl
    · rw [if_neg e]; intro h; exact absurd rfl h
theorem inv_step {l : List S28} (hw : WellL l) (k : Nat) (hk : k < l.length) (rows : List (List Bool)) (h : Inv l k rows) : Inv l (k + 1) (stepL rows k (at_ l k)) := by
  have e16 := qch_late l 16 k k (Nat.le_refl _)
  have w16 := hw.w16 k
  have hor : ∀ j, j < rows.length → rows.getD j [] = [] ∨ (rows.getD j []).length = 16 := by
    intro j hj
    rw [h.len] at hj
    by_cases e : rows.getD j [] = []
    · exact .inl e
    · exact .inr (h.n16 j hj e)
  unfold stepL
  by_cases hn : rows.getD k [] = []
  · rw [if_pos hn]
    have r16 : rch l 16 k = false := by rw [← e16]; exact (h.nil k hk).1 hn
    have hc : ∀ c j, qch l c (k + 1) j = qch l c k j := by
      intro c j
      rw [qch_succ]
      have : rch l c k = false := by
        cases e : rch l c k with
        | false => rfl
        | true => have := rch_mono l hw.w16 c (k + 1) k (by omega) e; rw [r16] at this; cases this
      rw [this, Bool.false_and, Bool.false_and, Bool.or_false]
    exact ⟨h.len, fun j hj => by rw [hc]; exact h.nil j hj, h.n16, fun j hj g c hcc => by rw [hc]; exact h.val j hj g c hcc⟩
  · rw [if_neg hn]
    have r16 : rch l 16 k = true := by
      rw [← e16]
      cases e : qch l 16 k k with
      | true => rfl
      | false => exact absurd ((h.nil k hk).2 e) hn
    have hrow := h.n16 k hk hn
    have hnl : (nowL (at_ l k) (rows.getD k [])).length = 16 := by
      unfold nowL
      split
      · rw [List.length_set]; exact hrow
      · exact hrow
    have hnow : ∀ c, c < 16 → (nowL (at_ l k) (rows.getD k [])).getD c false = !(rch l c k && !wrB (at_ l k) c) := by
      intro c hc
      have hv := h.val k hk hn c hc
      rw [qch_late l c k k (Nat.le_refl _)] at hv
      unfold nowL wrB
      cases hs : stB (at_ l k) with
      | false => rw [if_neg (by decide), hv, Bool.false_and, Bool.not_false, Bool.and_true]
      | true =>
        rw [if_pos rfl, Bool.true_and]
        by_cases e : (at_ l k).f3.toNat = c
        · rw [e, getD_set_same _ _ _ _ (by omega), decide_eq_true rfl]; simp
        · rw [getD_set_other _ _ _ _ _ e, hv, decide_eq_false e]; simp
    obtain ⟨g1, g2⟩ := fold_put k (nowL (at_ l k) (rows.getD k [])) hnl (folL (at_ l k)) rows (fun d hd => by rw [h.len]; exact hw.fol k hk d hd) hor
    generalize (folL (at_ l k)).foldl (fun o d => putL o (k + d) (nowL (at_ l k) (rows.getD k []))) rows = R at g1 g2
    have hqs : ∀ c j, qch l c (k + 1) j = (qch l c k j || (rch l c k && !wrB (at_ l k) c && folTo (at_ l k) k j)) := fun c j => qch_succ l c k j
    have hft : ∀ j, ((folL (at_ l k)).any fun d => decide (k + d = j)) = folTo (at_ l k) k j := fun _ => rfl
    generalize nowL (at_ l k) (rows.getD k []) = now at *
    have hnn : now ≠ [] := fun e => by rw [e] at hnl; simp at hnl
    refine ⟨by rw [g1, h.len], fun j hj => ?_, fun j hj => ?_, fun j hj => ?_⟩
    · have hj' : j < rows.length := by rw [h.len]; exact hj
      rw [g2 j hj', hft, hqs, r16, w16]
      cases e : folTo (at_ l k) k j with
      | false => rw [if_neg (by decide), h.nil j hj]; simp
      | true =>
        rw [if_pos rfl]
        simp only [Bool.true_and, Bool.not_false, Bool.or_true]
        constructor
        · intro g
          exfalso
          unfold joinL at g
          rcases hor j hj' with a | a
          · rw [if_pos a] at g; exact hnn g
          · rw [if_neg (fun x => by rw [x] at a; simp at a)] at g
            have : (List.zipWith (· && ·) (rows.getD j []) now).length = 16 := by rw [List.length_zipWith, a, hnl]; rfl
            rw [g] at this; simp at this
        · intro g; cases g
    · have hj' : j < rows.length := by rw [h.len]; exact hj
      rw [g2 j hj', hft]
      cases e : folTo (at_ l k) k j with
      | false => rw [if_neg (by decide)]; exact h.n16 j hj
      | true =>
        rw [if_pos rfl]
        intro _
        unfold joinL
        rcases hor j hj' with a | a
        · rw [if_pos a, hnl]
        · rw [if_neg (fun x => by rw [x] at a; simp at a), List.length_zipWith, a, hnl]; rfl
    · have hj' : j < rows.length := by rw [h.len]; exact hj
      rw [g2 j hj', hft]
      intro g c hc
      rw [hqs]
      cases e : folTo (at_ l k) k j with
      | false =>
        rw [e, if_neg (by decide)] at g
        rw [if_neg (by decide), h.val j hj g c hc, Bool.and_false, Bool.or_false]
      | true =>
        rw [if_pos rfl, Bool.and_true]
        unfold joinL
        rcases hor j hj' with a | a
        · rw [if_pos a, hnow c hc]
          have q16 := (h.nil j hj).1 a
          have qc : qch l c k j = false := by
            cases e2 : qch l c k j with
            | false => rfl
            | true => have := qch_mono l hw.w16 c k j e2; rw [q16] at this; cases this
          rw [qc, Bool.false_or]
        · have an : rows.getD j [] ≠ [] := fun x => by rw [x] at a; simp at a
          rw [if_neg an, zip_getD _ _ _ (by rw [a, hnl]) (by omega), h.val j hj an c hc, hnow c hc]
          cases qch l c k j <;> cases rch l c k <;> cases wrB (at_ l k) c <;> rfl
theorem inv_all {l : List S28} (hw : WellL l) (h0 : 0 < l.length) : ∀ k, k ≤ l.length → Inv l k (cellsL l k) := by
  intro k
  induction k with
  | zero => intro _; exact inv_zero l h0
  | succ k ih => intro hk; exact inv_step hw k (by omega) _ (ih (by omega))
def rowR (l : List S28) (j : Nat) : List Bool := if rch l 16 j = true then (List.range 16).map fun c => !rch l c j else []
theorem cells_row {l : List S28} (hw : WellL l) (h0 : 0 < l.length) (j : Nat) (hj : j < l.length) : (cellsL l l.length).getD j [] = rowR l j := by
  have h := inv_all hw h0 l.length (Nat.le_refl _)
  have e := fun c => qch_late l c l.length j (Nat.le_of_lt hj)
  generalize cellsL l l.length = rows at h
  unfold rowR
  cases r : rch l 16 j with
  | false => rw [if_neg (by decide)]; exact (h.nil j hj).2 (by rw [e, r])
  | true =>
    rw [if_pos rfl]
    have hn : rows.getD j [] ≠ [] := fun x => by have := (h.nil j hj).1 x; rw [e, r] at this; cases this
    have hl := h.n16 j hj hn
    apply List.ext_getElem
    · rw [hl]; simp
    · intro c h1 h2
      have hc : c < 16 := by omega
      have hv := h.val j hj hn c hc
      rw [List.getD_eq_getElem?_getD, List.getElem?_eq_getElem h1, Option.getD_some, e] at hv
      rw [hv]; simp
theorem known_codes : ∀ c : Fin 256, knownB (c.val : Int) = true → (c.val : Int) % 8 = 5 → (c.val : Int) = 5 ∨ (c.val : Int) = 21 ∨ (c.val : Int) = 37 ∨ (c.val : Int) = 53 ∨ (c.val : Int) = 69 ∨ (c.val : Int) = 29 ∨ (c.val : Int) = 45 ∨ (c.val : Int) = 61 ∨ (c.val : Int) = 77 := by decide +kernel
theorem known_range {c : Int} (h : knownB c = true) : 0 ≤ c ∧ c < 256 := by
  unfold knownB at h; rw [Bool.and_eq_true, decide_eq_true_eq] at h; exact h.1
theorem known_jump {c : Int} (h : knownB c = true) (h5 : c % 8 = 5) : c = 5 ∨ c = 21 ∨ c = 37 ∨ c = 53 ∨ c = 69 ∨ c = 29 ∨ c = 45 ∨ c = 61 ∨ c = 77 := by
  obtain ⟨a, b⟩ := known_range h
  obtain ⟨n, rfl⟩ : ∃ n : Nat, c = n := ⟨c.toNat, by omega⟩
  exact known_codes ⟨n, by omega⟩ h h5
structure Well (i : S28) (left : Int) : Prop where
  kn : knownB i.f0 = true
  t0 : 0 ≤ i.f1
  t1 : i.f1 ≤ 255
  f0 : 0 ≤ i.f2
  f1 : i.f2 ≤ 255
  lr : left ≠ 0 ∨ retB i.f0 = true
  fit : fitB i left = true
theorem well_iff (i : S28) (left : Int) : wellB i left = true ↔ Well i left := by
  unfold wellB
  simp only [Bool.and_eq_true, Bool.or_eq_true, decide_eq_true_eq]
  constructor
  · rintro ⟨⟨⟨h1, h2, h3, h4, h5⟩, h6⟩, h7⟩; exact ⟨h1, h2, h3, h4, h5, h6, h7⟩
  · rintro ⟨h1, h2, h3, h4, h5, h6, h7⟩; exact ⟨⟨⟨h1, h2, h3, h4, h5⟩, h6⟩, h7⟩
theorem Well.jump {i : S28} {left : Int} (h : Well i left) (h5 : i.f0 % 8 = 5) (hn : i.f0 ≠ 5) : i.f1 < left ∧ i.f2 < left := by
  have hf := h.fit
  have hk := known_jump h.kn h5
  unfold fitB at hf
  rw [if_neg (by omega), if_neg (by omega), if_neg (by omega), if_neg (by omega), if_neg hn, if_pos (by omega)] at hf
  exact of_decide_eq_true hf
theorem Well.ja {i : S28} {left : Int} (h : Well i left) (h5 : i.f0 = 5) : i.f3 < left := by
  have hf := h.fit
  unfold fitB at hf
  rw [if_neg (by omega), if_neg (by omega), if_neg (by omega), if_neg (by omega), if_pos h5] at hf
  exact of_decide_eq_true hf
theorem Well.cell {i : S28} {left : Int} (h : Well i left) (h5 : i.f0 = 96 ∨ i.f0 = 97 ∨ i.f0 = 2 ∨ i.f0 = 3) : i.f3 < 16 := by
  have hf := h.fit
  unfold fitB at hf
  rw [if_neg (by omega), if_pos h5] at hf
  exact of_decide_eq_true hf
theorem Well.ld {i : S28} {left : Int} (h : Well i left) (h5 : i.f0 = 32) : i.f3 % 4 = 0 ∧ i.f3 ≤ 60 := by
  have hf := h.fit
  unfold fitB at hf
  rw [if_pos h5] at hf
  exact of_decide_eq_true hf
theorem first_none : ∀ l : List S28, firstB l = none ↔ ∀ k, k < l.length → wellB (at_ l k) ((l.length - 1 - k : Nat) : Int) = true := by
  intro l
  induction l with
  | nil => exact ⟨fun _ k h => absurd h (by simp), fun _ => rfl⟩
  | cons i l ih =>
    unfold firstB
    by_cases hw : wellB i (l.length : Int) = true
    · rw [if_pos hw, Option.map_eq_none_iff, ih]
      constructor
      · intro h k hk
        cases k with
        | zero => simpa [at_] using hw
        | succ k =>
          have := h k (by simpa using hk)
          rw [List.length_cons, show l.length + 1 - 1 - (k + 1) = l.length - 1 - k by omega]
          exact this
      · intro h k hk
        have := h (k + 1) (by simpa using hk)
        rw [List.length_cons, show l.length + 1 - 1 - (k + 1) = l.length - 1 - k by omega] at this
        exact this
    · rw [if_neg hw]
      constructor
      · intro h; cases h
      · intro h
        have := h 0 (by simp)
        rw [List.length_cons, show l.length + 1 - 1 - 0 = l.length by omega] at this
        exact absurd this hw
def U3 (l : List S28) : Prop := ∀ i ∈ l, 0 ≤ i.f3
theorem at_mem (l : List S28) (k : Nat) (h : k < l.length) : at_ l k ∈ l := by
  unfold at_; rw [List.getD_eq_getElem?_getD, List.getElem?_eq_getElem h]; exact List.getElem_mem _
theorem wellL_of (l : List S28) (h3 : U3 l) (h : firstB l = none) : WellL l := by
  rw [first_none] at h
  refine ⟨fun k hk d hd => ?_, fun k hk hs => ?_⟩
  · have w := (well_iff _ _).1 (h k hk)
    have u3 := h3 _ (at_mem l k hk)
    generalize at_ l k = i at *
    unfold folL at hd
    split at hd
    · simp at hd
    rename_i hr
    have hleft := w.lr.resolve_right (by simpa using hr)
    split at hd
    · rename_i h5
      have := w.ja h5
      simp only [List.mem_singleton] at hd; omega
    split at hd
    · rename_i hn h5
      have := w.jump h5 hn
      have := w.t0
      have := w.f0
      simp only [List.mem_cons, List.not_mem_nil, or_false] at hd
      rcases hd with rfl | rfl <;> omega
    · simp only [List.mem_singleton] at hd; omega
  · have w := (well_iff _ _).1 (h k hk)
    have u3 := h3 _ (at_mem l k hk)
    unfold stB at hs
    have := of_decide_eq_true hs
    exact ⟨u3, w.cell (by omega)⟩
theorem allV_ok (l : List S28) : (allV l).2 = 0 ↔ 0 < l.length ∧ l.length ≤ 4096 ∧ firstB l = none := by
  unfold allV
  by_cases h0 : l.length = 0
  · rw [if_pos h0]; constructor
    · intro h; cases h
    · intro h; omega
  · rw [if_neg h0]
    by_cases h1 : 4096 < l.length
    · rw [if_pos h1]; constructor
      · intro h; cases h
      · intro h; omega
    · rw [if_neg h1]
      cases hf : firstB l with
      | none => exact ⟨fun _ => ⟨by omega, by omega, rfl⟩, fun _ => rfl⟩
      | some k => constructor
                  · intro h; cases h
                  · intro h; cases h.2.2
theorem find_none : ∀ (l : List S28) (rows : List (List Bool)) (k : Nat), findB l rows k = none ↔ ∀ j, j < l.length → loadB (at_ l j) (rows.getD (k + j) []) = false := by
  intro l
  induction l with
  | nil => intro rows k; exact ⟨fun _ j h => absurd h (by simp), fun _ => rfl⟩
  | cons i l ih =>
    intro rows k
    unfold findB
    by_cases h : loadB i (rows.getD k []) = true
    · rw [if_pos h]
      constructor
      · intro g; cases g
      · intro g
        have := g 0 (by simp)
        rw [Nat.add_zero] at this
        exact absurd h (by rw [show at_ (i :: l) 0 = i from rfl] at this; rw [this]; decide)
    · rw [if_neg h, ih]
      constructor
      · intro g j hj
        cases j with
        | zero => rw [Nat.add_zero]; simpa [at_] using h
        | succ j =>
          have := g j (by simpa using hj)
          rw [show k + (j + 1) = k + 1 + j by omega]
          exact this
      · intro g j hj
        have := g (j + 1) (by simpa using hj)
        rw [show k + (j + 1) = k + 1 + j by omega] at this
        exact this
theorem checkV_ok (l : List S28) (h3 : U3 l) : (checkV l).2 = 0 ↔ 0 < l.length ∧ l.length ≤ 4096 ∧ firstB l = none ∧ ∀ j, j < l.length → loadB (at_ l j) (rowR l j) = false := by
  unfold checkV
  by_cases h : (allV l).2 = 0
  · rw [if_pos h]
    obtain ⟨h0, h1, h2⟩ := (allV_ok l).1 h
    have hw := wellL_of l h3 h2
    have hf := find_none l (cellsL l l.length) 0
    cases e : findB l (cellsL l l.length) 0 with
    | none =>
      refine ⟨fun _ => ⟨h0, h1, h2, fun j hj => ?_⟩, fun _ => rfl⟩
      have := hf.1 e j hj
      rw [Nat.zero_add, cells_row hw h0 j hj] at this
      exact this
    | some k =>
      constructor
      · intro g; cases g
      · intro g
        exfalso
        have := hf.2 (fun j hj => by rw [Nat.zero_add, cells_row hw h0 j hj]; exact g.2.2.2 j hj)
        rw [this] at e; cases e
  · rw [if_neg h]
    constructor
    · intro g; exact absurd g h
    · intro g; exact absurd ((allV_ok l).2 ⟨g.1, g.2.1, g.2.2.1⟩) h
end Go.Proofs.Ytefkhcijgiagdaa.QCheck
end
section
namespace Go.Proofs.Ytefkhcijgiagdaa.HCk
open Go.RowKit Go.Proofs.YtefkhcijgiagdaaW.PrintWords Go.Proofs.YtefkhcijgiagdaaW.PrintLast Go.Proofs.YtefkhcijgiagdaaW.PrintMore Go.Proofs.Ytefkhcijgiagdaa.HKnown Go.Proofs.Ytefkhcijgiagdaa.I1 Go.Proofs.Ytefkhcijgiagdaa.QVm Go.Proofs.Ytefkhcijgiagdaa.QLe Go.Proofs.Ytefkhcijgiagdaa.QCheck Go.Proofs.Ytefkhcijgiagdaa.K0
set_option linter.unusedVariables false
set_option linter.unusedSimpArgs false
set_option maxRecDepth 100000
attribute [local go_sem] max2_int min2_int max_two min_two IntKind.wrap_u32
abbrev U (x : Int) : Prop := 0 ≤ x ∧ x < 4294967296
def fnR : Value → Option (DataW Unit × List MemPlace)
  | .func (.func n) a b => if a = #[] ∧ b = #[] then some (.lit (.int .i64 (n : Int)), []) else none
  | .nilFunc => some (.lit (.int .i64 (-1)), [])
  | _ => none
def fnV : Option Nat → Value
  | some n => .func (.func n) #[] #[]
  | none => .nilFunc
theorem fnR_some (n : Nat) : fnR (.func (.func n) #[] #[]) = some (.lit (.int .i64 (n : Int)), []) := by simp [fnR]
theorem fnR_func {m : Nat} {a b : Array Value} {z : DataW Unit × List MemPlace} (h : fnR (.func (.func m) a b) = some z) : a = #[] ∧ b = #[] ∧ z = (.lit (.int .i64 (m : Int)), []) := by
  unfold fnR at h
  by_cases hab : a = #[] ∧ b = #[]
  · simp only [if_pos hab] at h
    exact ⟨hab.1, hab.2, (Option.some.inj h).symm⟩
  · simp only [if_neg hab] at h
    cases h
theorem fnR_inv {v : Value} {n : Nat} {ps : List MemPlace} (h : fnR v = some (.lit (.int .i64 (n : Int)), ps)) : v = .func (.func n) #[] #[] := by
  cases v with
  | func fn a b =>
    cases fn with
    | func m =>
      obtain ⟨rfl, rfl, hz⟩ := fnR_func h
      simp only [Prod.mk.injEq, DataW.lit.injEq, Lit.int.injEq, true_and, Int.natCast_inj] at hz
      rw [hz.1]
    | _ => simp [fnR] at h
  | nilFunc =>
    simp only [fnR, Option.some.injEq, Prod.mk.injEq, DataW.lit.injEq, Lit.int.injEq, true_and] at h
    omega
  | _ => simp [fnR] at h
theorem fnR_inv_nil {v : Value} {ps : List MemPlace} (h : fnR v = some (.lit (.int .i64 (-1)), ps)) : v = .nilFunc := by
  cases v with
  | func fn a b =>
    cases fn with
    | func m =>
      obtain ⟨rfl, rfl, hz⟩ := fnR_func h
      simp only [Prod.mk.injEq, DataW.lit.injEq, Lit.int.injEq, true_and] at hz
      omega
    | _ => simp [fnR] at h
  | nilFunc => rfl
  | _ => simp [fnR] at h
theorem law3 : Maps.Keyed Try.prog 3 := Maps.int_keyed Try.underlying3
theorem zero171 (w : World) : (zeroValue 171).run Try.prog w = .ok .nilFunc w := by kernel_rfl
def MapF (w : World) (b n : Nat) (L : Int → Option Nat) : Prop :=
  ∃ D : DataW Unit, w.ownsMap Try.prog 3 fnR b n D ∧ Maps.IsMap D ∧ ∀ (k : Int) (z : DataW Unit), D.atKey (.int .i64 k) z = match L k with | some v => .lit (.int .i64 (v : Int)) | none => z
theorem MapF.lt {w : World} {b n : Nat} {L : Int → Option Nat} (h : MapF w b n L) : b < w.heap.size := by obtain ⟨D, h, _⟩ := h; exact h.lt
theorem MapF.kept {w w' : World} {b n : Nat} {L : Int → Option Nat} (h : MapF w b n L) (he : w'.heap[b]? = w.heap[b]?) : MapF w' b n L := by
  obtain ⟨D, ⟨es, clock, hb, F, hs, hD⟩, h2⟩ := h
  exact ⟨D, ⟨es, clock, he.trans hb, F, hs, hD⟩, h2⟩
theorem MapF.below {w w' : World} {b n : Nat} {L : Int → Option Nat} (h : MapF w b n L) (hb : Below w.heap.size w w') : MapF w' b n L := h.kept (hb.block _ h.lt)
theorem MapF.made (w : World) : MapF (w.alloc (.map #[] 0)) w.heap.size 0 (fun _ => none) := ⟨.map [], World.ownsMap_made _ _ _ _, Maps.isMap_empty, fun _ _ => rfl⟩
theorem MapF.look {w : World} {b n : Nat} {L : Int → Option Nat} (h : MapF w b n L) (k : Int) (hk : (Lit.int .i64 k).wf = true) :
    (Instr.lookup 168 (.map (some b)) (.int .i64 k) true).run Try.prog w = .ok (.tuple #[fnV (L k), .bool (L k).isSome]) w := by
  obtain ⟨D, ho, hm, hat⟩ := h
  obtain ⟨v, ps, hrun, hv⟩ := ho.look_ok (t := 168) (e := 171) law3 Try.underlying168 (zero171 w) (zd := .lit (.int .i64 (-1))) (zp := []) rfl (Maps.keyOf_int_mk Try.underlying3 hk)
  rw [hrun]
  have e1 : Maps.has D (.int .i64 k) = (L k).isSome := by
    cases hL : L k with
    | none => exact Maps.has_false_of_atKey (fun z => by rw [hat, hL])
    | some x => exact Maps.has_true_of_atKey (y := .lit (.int .i64 (x : Int))) (fun z => by rw [hat, hL])
  have e2 : v = fnV (L k) := by
    rw [hat] at hv
    cases hL : L k with
    | none => rw [hL] at hv; exact fnR_inv_nil hv
    | some x => rw [hL] at hv; exact fnR_inv hv
  rw [e1, e2]
theorem MapF.store {w : World} {b n : Nat} {L : Int → Option Nat} (h : MapF w b n L) (hn : n < 1000000) (k : Int) (v : Nat) (hk : (Lit.int .i64 k).wf = true) :
    ∃ w', (Instr.mapUpdate 168 (.map (some b)) (.int .i64 k) (.func (.func v) #[] #[])).run Try.prog w = .ok () w' ∧ MapF w' b (n + 1) (fun x => if x = k then some v else L x) ∧ w.grownBy w' (some b) := by
  obtain ⟨D, ho, hm, hat⟩ := h
  obtain ⟨w', hrun, ho', hg⟩ := ho.update (t := 168) (e := 171) law3 Try.underlying168 (by unfold maxLen; omega) (Maps.keyOf_int_mk Try.underlying3 hk) (fnR_some v)
  refine ⟨w', hrun, ⟨_, ho', hm.put _ _, fun x z => ?_⟩, hg⟩
  by_cases hx : x = k
  · subst hx
    show _ = match (if x = x then some v else L x) with | some v => _ | none => _
    rw [if_pos rfl, Maps.atKey_put_same hm (show WideAt.IsKeyLit (.int .i64 x) from trivial)]
  · show _ = match (if x = k then some v else L x) with | some v => _ | none => _
    rw [if_neg hx, Maps.atKey_put_other (fun e => hx (by cases e; rfl)), hat]
def Lc (c : Int) : Option Nat :=
  if c = 32 then some 153
  else if c = 96 ∨ c = 97 ∨ c = 2 ∨ c = 3 then some 150
  else if c = 52 then some 154
  else if c = 100 ∨ c = 116 then some 151
  else if c = 5 then some 155
  else if c = 21 ∨ c = 37 ∨ c = 53 ∨ c = 69 ∨ c = 29 ∨ c = 45 ∨ c = 61 ∨ c = 77 then some 152
  else none
def cloB (t : Nat) (i : S28) (left : Int) : Bool :=
  if t = 153 then decide (i.f3 % 4 = 0 ∧ i.f3 ≤ 60) else if t = 150 then decide (i.f3 < 16) else if t = 154 then decide (i.f3 ≠ 0) else if t = 151 then decide (i.f3 < 32) else if t = 155 then decide (i.f3 < left) else decide (i.f1 < left ∧ i.f2 < left)
theorem fit_eq (i : S28) (left : Int) : fitB i left = match Lc i.f0 with | some t => cloB t i left | none => true := by
  unfold fitB Lc
  split
  · rfl
  split
  · rfl
  split
  · rfl
  split
  · rfl
  split
  · rfl
  split
  · rfl
  · rfl
theorem Lc_cases (c : Int) : Lc c = none ∨ Lc c = some 153 ∨ Lc c = some 150 ∨ Lc c = some 154 ∨ Lc c = some 151 ∨ Lc c = some 155 ∨ Lc c = some 152 := by
  unfold Lc
  repeat' split
  all_goals simp
abbrev CloAny (t : Nat) (i : S28) (left : Int) : Prop := ∀ w : World, Calls Try.prog t #[.agg #[.int .i64 i.f0, .int .i64 i.f1, .int .i64 i.f2, .int .u32 i.f3], .int .i64 left] w fun e w' => e = .returned (.bool (cloB t i left)) ∧ Below w.heap.size w w'
theorem clo150 (i : S28) (left : Int) : CloAny 150 i left := by
  intro w
  obtain ⟨a0, a1, a2, a3⟩ := i
  show Calls _ _ _ _ fun e w' => e = .returned (.bool (decide (a3 < 16))) ∧ _
  go_enter Try.func150, Try.ntmps150
  go_wp2
  go_ret
  exact ⟨rfl, below_alloc (Below.refl _ _) _⟩
theorem clo151 (i : S28) (left : Int) : CloAny 151 i left := by
  intro w
  obtain ⟨a0, a1, a2, a3⟩ := i
  show Calls _ _ _ _ fun e w' => e = .returned (.bool (decide (a3 < 32))) ∧ _
  go_enter Try.func151, Try.ntmps151
  go_wp2
  go_ret
  exact ⟨rfl, below_alloc (Below.refl _ _) _⟩
theorem clo154 (i : S28) (left : Int) : CloAny 154 i left := by
  intro w
  obtain ⟨a0, a1, a2, a3⟩ := i
  show Calls _ _ _ _ fun e w' => e = .returned (.bool (decide (a3 ≠ 0))) ∧ _
  have HR := Aside0.mk (show decide (a3 ≠ 0) = (a3 != 0) by by_cases h : a3 = 0 <;> simp [h])
  go_enter Try.func154, Try.ntmps154
  go_wp2
  go_ret
  exact ⟨by rw [HR.out]; rfl, below_alloc (Below.refl _ _) _⟩
theorem clo155 (i : S28) (left : Int) (hk : U i.f3) : CloAny 155 i left := by
  intro w
  obtain ⟨a0, a1, a2, a3⟩ := i
  show Calls _ _ _ _ fun e w' => e = .returned (.bool (decide (a3 < left))) ∧ _
  simp only at hk
  have e3 : wrap64 a3 = a3 := w64 _ (by omega) (by omega)
  go_enter Try.func155, Try.ntmps155
  go_wp2
  go_ret
  exact ⟨rfl, below_alloc (Below.refl _ _) _⟩
theorem clo153 (i : S28) (left : Int) (hk : U i.f3) : CloAny 153 i left := by
  intro w
  obtain ⟨a0, a1, a2, a3⟩ := i
  show Calls _ _ _ _ fun e w' => e = .returned (.bool (decide (a3 % 4 = 0 ∧ a3 ≤ 60))) ∧ _
  simp only at hk
  obtain ⟨hk0, hk1⟩ := hk
  by_cases h : a3 % 4 = 0
  · have h0 : (a3 % 4 == 0) = true := beq_iff_eq.2 h
    have HR := Aside0.mk (show decide (a3 % 4 = 0 ∧ a3 ≤ 60) = decide (a3 ≤ 60) by simp [h])
    clear h
    go_enter Try.func153, Try.ntmps153
    go_wp2
    go_ret
    exact ⟨by rw [HR.out]; rfl, below_alloc (Below.refl _ _) _⟩
  · have h0 : (a3 % 4 == 0) = false := beq_eq_false_iff_ne.2 h
    have HR := Aside0.mk (show decide (a3 % 4 = 0 ∧ a3 ≤ 60) = false by simp [h])
    clear h
    go_enter Try.func153, Try.ntmps153
    go_wp2
    go_ret
    exact ⟨by rw [HR.out]; rfl, below_alloc (Below.refl _ _) _⟩
theorem clo152 (i : S28) (left : Int) : CloAny 152 i left := by
  intro w
  obtain ⟨a0, a1, a2, a3⟩ := i
  show Calls _ _ _ _ fun e w' => e = .returned (.bool (decide (a1 < left ∧ a2 < left))) ∧ _
  by_cases h : a1 < left
  · have h0 : decide (a1 < left) = true := decide_eq_true h
    have HR := Aside0.mk (show decide (a1 < left ∧ a2 < left) = decide (a2 < left) by simp [h])
    clear h
    go_enter Try.func152, Try.ntmps152
    go_wp2
    go_ret
    exact ⟨by rw [HR.out]; rfl, below_alloc (Below.refl _ _) _⟩
  · have h0 : decide (a1 < left) = false := decide_eq_false h
    have HR := Aside0.mk (show decide (a1 < left ∧ a2 < left) = false by simp [h])
    clear h
    go_enter Try.func152, Try.ntmps152
    go_wp2
    go_ret
    exact ⟨by rw [HR.out]; rfl, below_alloc (Below.refl _ _) _⟩
end Go.Proofs.Ytefkhcijgiagdaa.HCk
end
section
namespace Go.Proofs.Ytefkhcijgiagdaa.HCk
open Go.RowKit Go.Proofs.YtefkhcijgiagdaaW.PrintWords Go.Proofs.YtefkhcijgiagdaaW.PrintLast Go.Proofs.YtefkhcijgiagdaaW.PrintMore Go.Proofs.Ytefkhcijgiagdaa.HKnown Go.Proofs.Ytefkhcijgiagdaa.I1 Go.Proofs.Ytefkhcijgiagdaa.QVm Go.Proofs.Ytefkhcijgiagdaa.QLe Go.Proofs.Ytefkhcijgiagdaa.QCheck Go.Proofs.Ytefkhcijgiagdaa.K0
set_option linter.unusedVariables false
set_option linter.unusedSimpArgs false
set_option maxRecDepth 100000
attribute [local go_sem] max2_int min2_int max_two min_two IntKind.wrap_u32
theorem ret_any (i : S28) (w : World) : Calls Try.prog 131 #[.agg #[.int .i64 i.f0, .int .i64 i.f1, .int .i64 i.f2, .int .u32 i.f3]] w fun e w' => e = .returned (.bool (retB i.f0)) ∧ Below w.heap.size w w' := by
  refine check_returns.calls i.f0 i.f1 i.f2 i.f3 _ w ?_
  unfold check_returns.f retB
  by_cases h : i.f0 = 6
  · rw [if_pos h, h]; rfl
  · rw [if_neg h]
    by_cases h2 : i.f0 = 22
    · rw [h2]; rfl
    · rw [decide_eq_false (by omega)]
      simp [h2]
theorem well_false {i : S28} {left : Int} (h : ¬ Well i left) : wellB i left = false := by
  cases e : wellB i left with
  | false => rfl
  | true => exact absurd ((well_iff i left).1 e) h
theorem well_tail {i : S28} {left : Int} (kn : knownB i.f0 = true) (h1 : ¬ i.f1 < 0) (h2 : ¬ i.f1 > 255) (h3 : ¬ i.f2 < 0) (h4 : ¬ i.f2 > 255) (h5 : left ≠ 0 ∨ retB i.f0 = true) : wellB i left = match Lc i.f0 with | some t => cloB t i left | none => true := by
  have e := fit_eq i left
  rw [show (match Lc i.f0 with | some t => cloB t i left | none => true) = fitB i left from e.symm]
  unfold wellB
  rw [kn, decide_eq_true (show 0 ≤ i.f1 ∧ i.f1 ≤ 255 ∧ 0 ≤ i.f2 ∧ i.f2 ≤ 255 by omega)]
  have : (decide (left ≠ 0) || retB i.f0) = true := by
    rcases h5 with h | h
    · rw [decide_eq_true h]; rfl
    · rw [h, Bool.or_true]
  rw [this]
  rfl
set_option maxHeartbeats 4000000 in
theorem well_bad {w : World} {Mb : Nat} (i : S28) (left : Int) (h : knownB i.f0 = false ∨ i.f1 < 0 ∨ i.f1 > 255 ∨ i.f2 < 0 ∨ i.f2 > 255 ∨ (left = 0 ∧ retB i.f0 = false)) :
    Calls Try.prog 129 #[.agg #[.int .i64 i.f0, .int .i64 i.f1, .int .i64 i.f2, .int .u32 i.f3], .int .i64 left, .map (some Mb)] w fun e w' => e = .returned (.bool false) ∧ Below w.heap.size w w' := by
  have hkn := fun W => Known_any i.f0 W
  have HRT := Aside0.mk (fun W => ret_any i W)
  obtain ⟨a0, a1, a2, a3⟩ := i
  simp only at h hkn HRT ⊢
  have hu28 := Try.underlying28
  have HK := Aside0.mk hkn
  clear hkn
  have HB0 := Aside0.mk (heap_alloc_new w (.cells #[.int .i64 a0, .int .i64 a1, .int .i64 a2, .int .u32 a3] 28))
  by_cases hk : knownB a0 = true
  · rw [hk] at HK h
    by_cases h1 : a1 < 0
    · have d1 : decide (a1 < 0) = true := decide_eq_true h1
      clear h
      go_enter Try.func129, Try.ntmps129
      go_wp2_with (go_at_call 44; refine (HK.out _).mono ?_; rintro e w1 ⟨rfl, hb1⟩; have HB1 := Aside0.mk (below_step (below_alloc (Below.refl _ _) _) hb1); have kx := blk_cell (blk_below HB0.out hb1); have k1 := kx 1; have k2 := kx 2; clear kx hb1)
      go_ret
      exact ⟨rfl, HB1.out⟩
    · have d1 : decide (a1 < 0) = false := decide_eq_false h1
      by_cases h2 : a1 > 255
      · have d2 : decide (255 < a1) = true := decide_eq_true h2
        clear h
        go_enter Try.func129, Try.ntmps129
        go_wp2_with (go_at_call 44; refine (HK.out _).mono ?_; rintro e w1 ⟨rfl, hb1⟩; have HB1 := Aside0.mk (below_step (below_alloc (Below.refl _ _) _) hb1); have kx := blk_cell (blk_below HB0.out hb1); have k1 := kx 1; have k2 := kx 2; clear kx hb1)
        go_ret
        exact ⟨rfl, HB1.out⟩
      · have d2 : decide (255 < a1) = false := decide_eq_false h2
        by_cases h3 : a2 < 0
        · have d3 : decide (a2 < 0) = true := decide_eq_true h3
          clear h
          go_enter Try.func129, Try.ntmps129
          go_wp2_with (go_at_call 44; refine (HK.out _).mono ?_; rintro e w1 ⟨rfl, hb1⟩; have HB1 := Aside0.mk (below_step (below_alloc (Below.refl _ _) _) hb1); have kx := blk_cell (blk_below HB0.out hb1); have k1 := kx 1; have k2 := kx 2; clear kx hb1)
          go_ret
          exact ⟨rfl, HB1.out⟩
        · have d3 : decide (a2 < 0) = false := decide_eq_false h3
          by_cases h4 : a2 > 255
          · have d4 : decide (255 < a2) = true := decide_eq_true h4
            clear h
            go_enter Try.func129, Try.ntmps129
            go_wp2_with (go_at_call 44; refine (HK.out _).mono ?_; rintro e w1 ⟨rfl, hb1⟩; have HB1 := Aside0.mk (below_step (below_alloc (Below.refl _ _) _) hb1); have kx := blk_cell (blk_below HB0.out hb1); have k1 := kx 1; have k2 := kx 2; clear kx hb1)
            go_ret
            exact ⟨rfl, HB1.out⟩
          · have d4 : decide (255 < a2) = false := decide_eq_false h4
            have h5 : left = 0 ∧ retB a0 = false := by
              rcases h with h | h | h | h | h | h
              · cases h
              · exact absurd h h1
              · exact absurd h h2
              · exact absurd h h3
              · exact absurd h h4
              · exact h
            clear h
            obtain ⟨rfl, hr⟩ := h5
            rw [hr] at HRT
            clear hr
            go_enter Try.func129, Try.ntmps129
            go_wp2_with (first | (go_at_call 44; refine (HK.out _).mono ?_; rintro e w1 ⟨rfl, hb1⟩; have HB1 := Aside0.mk (below_step (below_alloc (Below.refl _ _) _) hb1); have kx := blk_cell (blk_below HB0.out hb1); have k0 := kx 0; have k1 := kx 1; have k2 := kx 2; have k3 := kx 3; clear kx hb1) | (go_at_call 131; refine (HRT.out _).mono ?_; rintro e w2 ⟨rfl, hb2⟩; have HB2 := Aside0.mk (below_step HB1.out hb2); clear hb2))
            go_ret
            exact ⟨rfl, HB2.out⟩
  · have hk : knownB a0 = false := by simpa using hk
    rw [hk] at HK
    clear h
    go_enter Try.func129, Try.ntmps129
    go_wp2_with (go_at_call 44; refine (HK.out _).mono ?_; rintro e w1 ⟨rfl, hb1⟩; have HB1 := Aside0.mk (below_step (below_alloc (Below.refl _ _) _) hb1); clear hb1)
    go_ret
    exact ⟨rfl, HB1.out⟩
set_option maxHeartbeats 4000000 in
theorem well_good {w : World} {Mb n : Nat} (hM : MapF w Mb n Lc) (i : S28) (left : Int) (hk3 : U i.f3) (hc : (Lit.int .i64 i.f0).wf = true) (hk : knownB i.f0 = true) (h1 : ¬ i.f1 < 0) (h2 : ¬ i.f1 > 255) (h3 : ¬ i.f2 < 0) (h4 : ¬ i.f2 > 255) (h5 : left ≠ 0 ∨ retB i.f0 = true) :
    Calls Try.prog 129 #[.agg #[.int .i64 i.f0, .int .i64 i.f1, .int .i64 i.f2, .int .u32 i.f3], .int .i64 left, .map (some Mb)] w fun e w' => e = .returned (.bool (match Lc i.f0 with | some t => cloB t i left | none => true)) ∧ Below w.heap.size w w' := by
  have hkn := fun W => Known_any i.f0 W
  rw [hk] at hkn
  have HRT := Aside0.mk (fun W => ret_any i W)
  have C150 := Aside0.mk (clo150 i left)
  have C151 := Aside0.mk (clo151 i left)
  have C152 := Aside0.mk (clo152 i left)
  have C153 := Aside0.mk (clo153 i left hk3)
  have C154 := Aside0.mk (clo154 i left)
  have C155 := Aside0.mk (clo155 i left hk3)
  have hcl := Lc_cases i.f0
  have HM := Aside0.mk hM
  have HL := Aside0.mk (fun (W : World) (hb : Below w.heap.size w W) => (hM.below hb).look i.f0 hc)
  generalize hL : Lc i.f0 = L at *
  generalize hB0 : cloB 150 i left = b150 at *
  generalize hB1 : cloB 151 i left = b151 at *
  generalize hB2 : cloB 152 i left = b152 at *
  generalize hB3 : cloB 153 i left = b153 at *
  generalize hB4 : cloB 154 i left = b154 at *
  generalize hB5 : cloB 155 i left = b155 at *
  have E0 := Aside0.mk hB0
  have E1 := Aside0.mk hB1
  have E2 := Aside0.mk hB2
  have E3 := Aside0.mk hB3
  have E4 := Aside0.mk hB4
  have E5 := Aside0.mk hB5
  clear hB0 hB1 hB2 hB3 hB4 hB5 hL hM
  have HRT' : Aside0 (left = 0 → ∀ W, Calls Try.prog 131 #[.agg #[.int .i64 i.f0, .int .i64 i.f1, .int .i64 i.f2, .int .u32 i.f3]] W fun e w' => e = .returned (.bool true) ∧ Below W.heap.size W w') := ⟨fun h0 => by
    have e : retB i.f0 = true := h5.resolve_left (fun x => x h0)
    have k := HRT.out
    rw [e] at k
    exact k⟩
  clear HRT
  obtain ⟨a0, a1, a2, a3⟩ := i
  simp only at *
  have hu28 := Try.underlying28
  have HK := Aside0.mk hkn
  clear hkn hk hc hk3
  have HB0 := Aside0.mk (heap_alloc_new w (.cells #[.int .i64 a0, .int .i64 a1, .int .i64 a2, .int .u32 a3] 28))
  have d1 : decide (a1 < 0) = false := decide_eq_false h1
  have d2 : decide (255 < a1) = false := decide_eq_false h2
  have d3 : decide (a2 < 0) = false := decide_eq_false h3
  have d4 : decide (255 < a2) = false := decide_eq_false h4
  clear h1 h2 h3 h4
  by_cases h0 : left = 0
  · subst h0
    have HRT := Aside0.mk (HRT'.out rfl)
    clear HRT' h5
    rcases hcl with rfl | rfl | rfl | rfl | rfl | rfl | rfl
    all_goals
      have hl := HL.out
      simp only [fnV, Option.isSome_some, Option.isSome_none] at hl
      clear HL
      have HL := Aside0.mk hl
      clear hl
      go_enter Try.func129, Try.ntmps129
      go_wp2_with (first | (go_at_call 44; refine (HK.out _).mono ?_; rintro e w1 ⟨rfl, hb1⟩; have HB1 := Aside0.mk (below_step (below_alloc (Below.refl _ _) _) hb1); have HX1 := Aside0.mk (blk_below HB0.out hb1); have kx := blk_cell HX1.out; have k0 := kx 0; have k1 := kx 1; have k2 := kx 2; have k3 := kx 3; clear kx hb1) | (go_at_call 131; refine (HRT.out _).mono ?_; rintro e w2 ⟨rfl, hb2⟩; have HB2 := Aside0.mk (below_step HB1.out hb2); have hl2 := HL.out _ HB2.out; have kx := blk_cell (blk_below HX1.out hb2); have j0 := kx 0; have j1 := kx 1; have j2 := kx 2; have j3 := kx 3; clear kx hb2) | (go_at_call 150; refine (C150.out _).mono ?_; rintro e w3 ⟨rfl, hb3⟩; have HB3 := Aside0.mk (below_step HB2.out hb3); clear hb3) | (go_at_call 151; refine (C151.out _).mono ?_; rintro e w3 ⟨rfl, hb3⟩; have HB3 := Aside0.mk (below_step HB2.out hb3); clear hb3) | (go_at_call 152; refine (C152.out _).mono ?_; rintro e w3 ⟨rfl, hb3⟩; have HB3 := Aside0.mk (below_step HB2.out hb3); clear hb3) | (go_at_call 153; refine (C153.out _).mono ?_; rintro e w3 ⟨rfl, hb3⟩; have HB3 := Aside0.mk (below_step HB2.out hb3); clear hb3) | (go_at_call 154; refine (C154.out _).mono ?_; rintro e w3 ⟨rfl, hb3⟩; have HB3 := Aside0.mk (below_step HB2.out hb3); clear hb3) | (go_at_call 155; refine (C155.out _).mono ?_; rintro e w3 ⟨rfl, hb3⟩; have HB3 := Aside0.mk (below_step HB2.out hb3); clear hb3))
      go_ret
      first
        | exact ⟨rfl, HB2.out⟩
        | exact ⟨by first | (rw [E0.out]; rfl) | (rw [E1.out]; rfl) | (rw [E2.out]; rfl) | (rw [E3.out]; rfl) | (rw [E4.out]; rfl) | (rw [E5.out]; rfl), HB3.out⟩
  · have d0 : (left == 0) = false := beq_eq_false_iff_ne.2 h0
    clear HRT' h5 h0
    rcases hcl with rfl | rfl | rfl | rfl | rfl | rfl | rfl
    all_goals
      have hl := HL.out
      simp only [fnV, Option.isSome_some, Option.isSome_none] at hl
      clear HL
      have HL := Aside0.mk hl
      clear hl
      go_enter Try.func129, Try.ntmps129
      go_wp2_with (first | (go_at_call 44; refine (HK.out _).mono ?_; rintro e w1 ⟨rfl, hb1⟩; have HB1 := Aside0.mk (below_step (below_alloc (Below.refl _ _) _) hb1); have hl1 := HL.out _ HB1.out; have kx := blk_cell (blk_below HB0.out hb1); have k0 := kx 0; have k1 := kx 1; have k2 := kx 2; have k3 := kx 3; clear kx hb1) | (go_at_call 150; refine (C150.out _).mono ?_; rintro e w3 ⟨rfl, hb3⟩; have HB3 := Aside0.mk (below_step HB1.out hb3); clear hb3) | (go_at_call 151; refine (C151.out _).mono ?_; rintro e w3 ⟨rfl, hb3⟩; have HB3 := Aside0.mk (below_step HB1.out hb3); clear hb3) | (go_at_call 152; refine (C152.out _).mono ?_; rintro e w3 ⟨rfl, hb3⟩; have HB3 := Aside0.mk (below_step HB1.out hb3); clear hb3) | (go_at_call 153; refine (C153.out _).mono ?_; rintro e w3 ⟨rfl, hb3⟩; have HB3 := Aside0.mk (below_step HB1.out hb3); clear hb3) | (go_at_call 154; refine (C154.out _).mono ?_; rintro e w3 ⟨rfl, hb3⟩; have HB3 := Aside0.mk (below_step HB1.out hb3); clear hb3) | (go_at_call 155; refine (C155.out _).mono ?_; rintro e w3 ⟨rfl, hb3⟩; have HB3 := Aside0.mk (below_step HB1.out hb3); clear hb3))
      go_ret
      first
        | exact ⟨rfl, HB1.out⟩
        | exact ⟨by first | (rw [E0.out]; rfl) | (rw [E1.out]; rfl) | (rw [E2.out]; rfl) | (rw [E3.out]; rfl) | (rw [E4.out]; rfl) | (rw [E5.out]; rfl), HB3.out⟩
theorem well_c {w : World} {Mb n : Nat} (hM : MapF w Mb n Lc) (i : S28) (left : Int) (hk3 : U i.f3) (hc : (Lit.int .i64 i.f0).wf = true) :
    Calls Try.prog 129 #[.agg #[.int .i64 i.f0, .int .i64 i.f1, .int .i64 i.f2, .int .u32 i.f3], .int .i64 left, .map (some Mb)] w fun e w' => e = .returned (.bool (wellB i left)) ∧ Below w.heap.size w w' := by
  by_cases hbad : knownB i.f0 = false ∨ i.f1 < 0 ∨ i.f1 > 255 ∨ i.f2 < 0 ∨ i.f2 > 255 ∨ (left = 0 ∧ retB i.f0 = false)
  · have e : wellB i left = false := well_false (fun h => by
      have := h.t0; have := h.t1; have := h.f0; have := h.f1
      rcases hbad with g | g | g | g | g | ⟨g, g2⟩
      · rw [h.kn] at g; cases g
      · omega
      · omega
      · omega
      · omega
      · rcases h.lr with k | k
        · exact k g
        · rw [k] at g2; cases g2)
    rw [e]
    exact well_bad i left hbad
  · have k1 : knownB i.f0 = true := by
      cases e : knownB i.f0 with
      | true => rfl
      | false => exact absurd (.inl e) hbad
    have k2 : ¬ i.f1 < 0 := fun h => hbad (.inr (.inl h))
    have k3 : ¬ i.f1 > 255 := fun h => hbad (.inr (.inr (.inl h)))
    have k4 : ¬ i.f2 < 0 := fun h => hbad (.inr (.inr (.inr (.inl h))))
    have k5 : ¬ i.f2 > 255 := fun h => hbad (.inr (.inr (.inr (.inr (.inl h)))))
    have k6 : left ≠ 0 ∨ retB i.f0 = true := by
      by_cases h0 : left = 0
      · right
        cases e : retB i.f0 with
        | true => rfl
        | false => exact absurd (.inr (.inr (.inr (.inr (.inr ⟨h0, e⟩))))) hbad
      · exact .inl h0
    rw [well_tail k1 k2 k3 k4 k5 k6]
    exact well_good hM i left hk3 hc k1 k2 k3 k4 k5 k6
def codesT : Nat → List Int
  | 0 => [32]
  | 1 => [96, 97, 2, 3]
  | 2 => [52]
  | 3 => [100, 116]
  | 4 => [5]
  | _ => [21, 37, 53, 69, 29, 45, 61, 77]
def fnT : Nat → Nat
  | 0 => 153
  | 1 => 150
  | 2 => 154
  | 3 => 151
  | 4 => 155
  | _ => 152
structure TestsAt (w : World) (ad : Addr) (ac : Nat → Addr) : Prop where
  sl : ∀ t, t < 6 → w.cell? (ad.add (t * 2)) = some (.slice (some (ac t)) (codesT t).length (codesT t).length)
  fn : ∀ t, t < 6 → w.cell? ⟨(ad.add (t * 2)).block, (ad.add (t * 2)).off + 1, none⟩ = some (.func (.func (fnT t)) #[] #[])
  cd : ∀ t j, t < 6 → j < (codesT t).length → w.cell? ((ac t).add j) = some (.int .i64 ((codesT t).getD j 0))
theorem TestsAt.below {w w' : World} {ad : Addr} {ac : Nat → Addr} (h : TestsAt w ad ac) (hb : Below w.heap.size w w') : TestsAt w' ad ac :=
  ⟨fun t ht => pw_cell_below hb (h.sl t ht), fun t ht => pw_cell_below hb (h.fn t ht), fun t j ht hj => pw_cell_below hb (h.cd t j ht hj)⟩
end Go.Proofs.Ytefkhcijgiagdaa.HCk
end
section
namespace Go.Proofs.Ytefkhcijgiagdaa.HCk
open Go.RowKit Go.Proofs.YtefkhcijgiagdaaW.PrintWords Go.Proofs.YtefkhcijgiagdaaW.PrintLast Go.Proofs.YtefkhcijgiagdaaW.PrintMore Go.Proofs.Ytefkhcijgiagdaa.HKnown Go.Proofs.Ytefkhcijgiagdaa.I1 Go.Proofs.Ytefkhcijgiagdaa.QVm Go.Proofs.Ytefkhcijgiagdaa.QLe Go.Proofs.Ytefkhcijgiagdaa.QCheck Go.Proofs.Ytefkhcijgiagdaa.K0
set_option linter.unusedVariables false
set_option linter.unusedSimpArgs false
set_option maxRecDepth 100000
attribute [local go_sem] max2_int min2_int max_two min_two IntKind.wrap_u32
/-- Blocks made one behind the other. -/
def allocL (w : World) : List Obj → World
  | [] => w
  | o :: os => allocL (w.alloc o) os
theorem allocL_below (w : World) : ∀ (os : List Obj) (w' : World), Below w.heap.size w w' → Below w.heap.size w (allocL w' os)
  | [], _, h => h
  | o :: os, w', h => allocL_below w os (w'.alloc o) (below_alloc h o)
theorem allocL_get : ∀ (os : List Obj) (w : World) (k : Nat) (o : Obj), os[k]? = some o → (allocL w os).heap[w.heap.size + k]? = some o := by
  intro os
  induction os with
  | nil => intro w k o h; simp at h
  | cons o' os ih =>
    intro w k o h
    cases k with
    | zero =>
      obtain rfl : o' = o := by simpa using h
      have hb := allocL_below (w.alloc o') os _ (Below.refl _ _)
      exact (hb.block w.heap.size (by simp)).trans (heap_alloc_new w o')
    | succ k =>
      have := ih (w.alloc o') k o (by simpa using h)
      rw [World.size_alloc] at this
      rw [show w.heap.size + (k + 1) = w.heap.size + 1 + k by omega]
      exact this
def tblObj (b : Nat) : Obj := .cells #[.slice (some ⟨b, 0, none⟩) 1 1, .func (.func 153) #[] #[], .slice (some ⟨b + 1, 0, none⟩) 4 4, .func (.func 150) #[] #[], .slice (some ⟨b + 2, 0, none⟩) 1 1, .func (.func 154) #[] #[], .slice (some ⟨b + 3, 0, none⟩) 2 2, .func (.func 151) #[] #[], .slice (some ⟨b + 4, 0, none⟩) 1 1, .func (.func 155) #[] #[], .slice (some ⟨b + 5, 0, none⟩) 8 8, .func (.func 152) #[] #[]] 173
def tblObjs (b : Nat) : List Obj := [.cells #[.int .i64 32] 3, .cells #[.int .i64 96, .int .i64 97, .int .i64 2, .int .i64 3] 3, .cells #[.int .i64 52] 3, .cells #[.int .i64 100, .int .i64 116] 3, .cells #[.int .i64 5] 3, .cells #[.int .i64 21, .int .i64 37, .int .i64 53, .int .i64 69, .int .i64 29, .int .i64 45, .int .i64 61, .int .i64 77] 3, tblObj b]
theorem add0 (g j : Nat) : (⟨g, 0, none⟩ : Addr).add j = ⟨g, j, none⟩ := add_plain g j
theorem tests_at (w : World) : TestsAt (allocL w (tblObjs w.heap.size)) ⟨w.heap.size + 6, 0, none⟩ (fun t => ⟨w.heap.size + t, 0, none⟩) := by
  have h6 := blk_cell (allocL_get (tblObjs w.heap.size) w 6 _ rfl)
  have h0 := blk_cell (allocL_get (tblObjs w.heap.size) w 0 _ rfl)
  have h1 := blk_cell (allocL_get (tblObjs w.heap.size) w 1 _ rfl)
  have h2 := blk_cell (allocL_get (tblObjs w.heap.size) w 2 _ rfl)
  have h3 := blk_cell (allocL_get (tblObjs w.heap.size) w 3 _ rfl)
  have h4 := blk_cell (allocL_get (tblObjs w.heap.size) w 4 _ rfl)
  have h5 := blk_cell (allocL_get (tblObjs w.heap.size) w 5 _ rfl)
  generalize allocL w (tblObjs w.heap.size) = W at *
  refine ⟨fun t ht => ?_, fun t ht => ?_, fun t j ht hj => ?_⟩
  · match t, ht with
    | 0, _ | 1, _ | 2, _ | 3, _ | 4, _ | 5, _ => rw [add0]; exact (h6 _).trans rfl
  · match t, ht with
    | 0, _ | 1, _ | 2, _ | 3, _ | 4, _ | 5, _ => rw [add0]; exact (h6 _).trans rfl
  · rw [add0]
    match t, ht, j, hj with
    | 0, _, 0, _ => exact (h0 0).trans rfl
    | 1, _, 0, _ | 1, _, 1, _ | 1, _, 2, _ | 1, _, 3, _ => exact (h1 _).trans rfl
    | 2, _, 0, _ => exact (h2 0).trans rfl
    | 3, _, 0, _ | 3, _, 1, _ => exact (h3 _).trans rfl
    | 4, _, 0, _ => exact (h4 0).trans rfl
    | 5, _, 0, _ | 5, _, 1, _ | 5, _, 2, _ | 5, _, 3, _ | 5, _, 4, _ | 5, _, 5, _ | 5, _, 6, _ | 5, _, 7, _ => exact (h5 _).trans rfl
theorem tests_any (w : World) : Calls Try.prog 128 #[] w fun e w' => ∃ ad ac, e = .returned (.slice (some ad) 6 6) ∧ (TestsAt w' ad ac ∧ w.heap.size ≤ ad.block ∧ ∀ t, w.heap.size ≤ (ac t).block) ∧ Below w.heap.size w w' := by
  have HT := Aside0.mk (tests_at w)
  have HB := Aside0.mk (allocL_below w (tblObjs w.heap.size) w (Below.refl _ _))
  go_enter Try.func128, Try.ntmps128
  go_wp2
  go_ret
  exact ⟨_, _, rfl, ⟨HT.out, Nat.le_add_right _ 6, fun t => Nat.le_add_right _ _⟩, HB.out⟩
/-- What the map holds when some of the table has been gone through. -/
def Lg (L : Int → Option Nat) (t : Nat) : Nat → Int → Option Nat
  | 0 => L
  | j + 1 => fun x => if x = (codesT t).getD j 0 then some (fnT t) else Lg L t j x
def Lt : Nat → Int → Option Nat
  | 0 => fun _ => none
  | t + 1 => Lg (Lt t) t (codesT t).length
theorem Lt6 : Lt 6 = Lc := by
  funext c
  by_cases hm : c = 77 ∨ c = 61 ∨ c = 45 ∨ c = 29 ∨ c = 69 ∨ c = 53 ∨ c = 37 ∨ c = 21 ∨ c = 5 ∨ c = 116 ∨ c = 100 ∨ c = 52 ∨ c = 3 ∨ c = 2 ∨ c = 97 ∨ c = 96 ∨ c = 32
  · rcases hm with rfl | rfl | rfl | rfl | rfl | rfl | rfl | rfl | rfl | rfl | rfl | rfl | rfl | rfl | rfl | rfl | rfl <;> rfl
  · have e : Lc c = none := by
      unfold Lc
      rw [if_neg (by omega), if_neg (by omega), if_neg (by omega), if_neg (by omega), if_neg (by omega), if_neg (by omega)]
    rw [e]
    show (if c = 77 then some 152 else if c = 61 then some 152 else if c = 45 then some 152 else if c = 29 then some 152 else if c = 69 then some 152 else if c = 53 then some 152 else if c = 37 then some 152 else if c = 21 then some 152 else if c = 5 then some 155 else if c = 116 then some 151 else if c = 100 then some 151 else if c = 52 then some 154 else if c = 3 then some 150 else if c = 2 then some 150 else if c = 97 then some 150 else if c = 96 then some 150 else if c = 32 then some 153 else none : Option Nat) = none
    rw [if_neg (by omega), if_neg (by omega), if_neg (by omega), if_neg (by omega), if_neg (by omega), if_neg (by omega), if_neg (by omega), if_neg (by omega), if_neg (by omega), if_neg (by omega), if_neg (by omega), if_neg (by omega), if_neg (by omega), if_neg (by omega), if_neg (by omega), if_neg (by omega), if_neg (by omega)]
theorem codes_wf (t j : Nat) (ht : t < 6) (hj : j < (codesT t).length) : (Lit.int .i64 ((codesT t).getD j 0)).wf = true := by
  match t, ht, j, hj with
  | 0, _, 0, _ => decide
  | 1, _, 0, _ | 1, _, 1, _ | 1, _, 2, _ | 1, _, 3, _ => decide
  | 2, _, 0, _ => decide
  | 3, _, 0, _ | 3, _, 1, _ => decide
  | 4, _, 0, _ => decide
  | 5, _, 0, _ | 5, _, 1, _ | 5, _, 2, _ | 5, _, 3, _ | 5, _, 4, _ | 5, _, 5, _ | 5, _, 6, _ | 5, _, 7, _ => decide
theorem codes_len (t : Nat) : (codesT t).length ≤ 8 := by
  match t with
  | 0 | 1 | 2 | 3 | 4 => decide
  | n + 5 => exact Nat.le_refl 8
/-- Fields that the types allow. -/
def IW (i : S28) : Prop := (Lit.int .i64 i.f0).wf = true ∧ (Lit.int .i64 i.f1).wf = true ∧ (Lit.int .i64 i.f2).wf = true ∧ U i.f3
theorem MapF.mono {w : World} {b n n' : Nat} {L : Int → Option Nat} (h : MapF w b n L) (hn : n ≤ n') : MapF w b n' L := by
  obtain ⟨D, h1, h2⟩ := h
  exact ⟨D, h1.mono hn, h2⟩
structure Mid1 (w wr : World) (ad : Addr) (ac : Nat → Addr) (n : Nat) (L : Int → Option Nat) : Prop where
  hM : MapF wr w.heap.size n L
  hT : TestsAt wr ad ac
  hb : Below w.heap.size w wr
  n1 : w.heap.size < ad.block
  n2 : ∀ t, w.heap.size < (ac t).block
theorem Mid1.below {w wr w' : World} {ad : Addr} {ac : Nat → Addr} {n : Nat} {L : Int → Option Nat} (h : Mid1 w wr ad ac n L) (hb : Below wr.heap.size wr w') : Mid1 w w' ad ac n L :=
  ⟨h.hM.below hb, h.hT.below hb, below_step h.hb hb, h.n1, h.n2⟩
theorem grown_cell {w w' : World} {b : Nat} (hg : w.grownBy w' (some b)) {a : Addr} {v : Value} (hc : w.cell? a = some v) (hn : b < a.block) : w'.cell? a = some v := by
  have hl := World.block_lt_of_cell? w a hc
  have := hg.block a.block hl (fun e => by injection e with e; omega)
  simp only [World.cell?, this] at hc ⊢
  exact hc
theorem add_blk (a : Addr) (j : Nat) : (a.add j).block = a.block := add_block a j
theorem Mid1.grown {w wr w' : World} {ad : Addr} {ac : Nat → Addr} {n n' : Nat} {L L' : Int → Option Nat} (h : Mid1 w wr ad ac n L) (hM : MapF w' w.heap.size n' L') (hg : wr.grownBy w' (some w.heap.size)) : Mid1 w w' ad ac n' L' :=
  ⟨hM, ⟨fun t ht => grown_cell hg (h.hT.sl t ht) (by rw [add_blk]; exact h.n1), fun t ht => grown_cell hg (h.hT.fn t ht) (by show _ < (ad.add (t * 2)).block; rw [add_blk]; exact h.n1), fun t j ht hj => grown_cell hg (h.hT.cd t j ht hj) (by rw [add_blk]; exact h.n2 t)⟩, h.hb.grown hg h.hb.size (fun k hk => by injection hk with hk; omega), h.n1, h.n2⟩
theorem first_at (l : List S28) : ∀ k, k < l.length → (∀ j, j < k → wellB (at_ l j) ((l.length : Int) - 1 - (j : Int)) = true) → wellB (at_ l k) ((l.length : Int) - 1 - (k : Int)) = false → firstB l = some k := by
  induction l with
  | nil => intro k h; simp at h
  | cons i l ih =>
    intro k hk hj hb
    unfold firstB
    rw [List.length_cons] at hj hb hk
    cases k with
    | zero =>
      have e : ((l.length + 1 : Nat) : Int) - 1 - ((0 : Nat) : Int) = (l.length : Int) := by omega
      rw [e] at hb
      have hb' : wellB i (l.length : Int) = false := hb
      rw [if_neg (by rw [hb']; decide)]
    | succ k =>
      have h0 := hj 0 (by omega)
      have e : ((l.length + 1 : Nat) : Int) - 1 - ((0 : Nat) : Int) = (l.length : Int) := by omega
      rw [e] at h0
      have h0' : wellB i (l.length : Int) = true := h0
      have g : firstB l = some k := by
        refine ih k (by omega) (fun j hjk => ?_) ?_
        · have := hj (j + 1) (by omega)
          rw [show ((l.length + 1 : Nat) : Int) - 1 - ((j + 1 : Nat) : Int) = (l.length : Int) - 1 - (j : Int) by omega] at this
          exact this
        · rw [show ((l.length + 1 : Nat) : Int) - 1 - ((k + 1 : Nat) : Int) = (l.length : Int) - 1 - (k : Int) by omega] at hb
          exact hb
      rw [if_pos h0', g]
      rfl
theorem first_all (l : List S28) (h : ∀ j, j < l.length → wellB (at_ l j) ((l.length : Int) - 1 - (j : Int)) = true) : firstB l = none := by
  rw [first_none]
  intro k hk
  have := h k hk
  rw [show (l.length : Int) - 1 - (k : Int) = ((l.length - 1 - k : Nat) : Int) by omega] at this
  exact this
def allR (o : Option Nat) : Int × Int := match o with | some k => ((k : Int), 51) | none => (0, 0)
theorem allV_eq (l : List S28) : allV l = if l.length = 0 then (0, 51) else if 4096 < l.length then (0, 2) else allR (firstB l) := rfl
theorem rd_at (l : List S28) (k : Nat) : rd_T28 l (k : Int) = at_ l k := by unfold rd_T28 at_; rw [Int.toNat_natCast]; rfl
set_option maxHeartbeats 4000000 in
theorem all_c {w : World} {A0 : Option Addr} {c0 : Nat} {l : List S28} (hC : Kd.C k28 w A0 l.length l) (hc0 : l.length ≤ c0) (hlen : l.length ≤ 100000) (hi : ∀ i ∈ l, IW i) :
    Calls Try.prog 99 #[.slice A0 l.length c0] w fun e w' => e = .returned (.tuple #[.int .i64 (allV l).1, .int .i64 (allV l).2]) ∧ Below w.heap.size w w' := by
  have hmm := @run_makeMap Try.prog
  have hu28 := Try.underlying28
  have hu173 := Try.underlying173
  have HC := Aside0.mk hC
  have HI := Aside0.mk hi
  clear hC hi
  rw [allV_eq]
  by_cases h0 : l.length = 0
  · rw [if_pos h0]
    have d0 : ((l.length : Int) == 0) = true := beq_iff_eq.2 (by omega)
    clear h0
    go_enter Try.func99, Try.ntmps99
    go_wp2
    go_ret2
    exact ⟨rfl, Below.refl _ _⟩
  rw [if_neg h0]
  have d0 : ((l.length : Int) == 0) = false := beq_eq_false_iff_ne.2 (by omega)
  by_cases h1 : 4096 < l.length
  · rw [if_pos h1]
    have d1 : decide ((4096 : Int) < (l.length : Int)) = true := decide_eq_true (by omega)
    clear h0 h1
    go_enter Try.func99, Try.ntmps99
    go_wp2
    go_ret2
    exact ⟨rfl, Below.refl _ _⟩
  rw [if_neg h1]
  have d1 : decide ((4096 : Int) < (l.length : Int)) = false := decide_eq_false (by omega)
  generalize hr : allR (firstB l) = r
  have HR := Aside0.mk hr
  clear hr h0 h1
  have HM0 := Aside0.mk (MapF.made w)
  go_enter Try.func99, Try.ntmps99
  go_wp2_with (go_at_call 128; refine (tests_any _).mono ?_; rintro e w1 ⟨ad, ac, rfl, ⟨ht, hn1, hn2⟩, hb1⟩; rw [World.size_alloc] at hn1 hn2; have HM1 := Aside0.mk (show Mid1 w w1 ad ac 0 (Lt 0) from ⟨HM0.out.below hb1, ht, below_step (below_alloc (Below.refl _ _) (.map #[] 0)) hb1, by omega, fun t => by have := hn2 t; omega⟩); clear ht hb1 hn1 hn2)
  go_loopw [23] (fun i wr => ∃ t : Nat, t ≤ 6 ∧ i = .int .i64 t ∧ Aside0 (Mid1 w wr ad ac (10 * t) (Lt t))) (fun i _ => 6 - (intOf i).toNat)
  case atStart => exact ⟨0, by omega, rfl, ⟨HM1.out⟩⟩
  case round =>
    clear HM1 HM0
    obtain ⟨t, ht, rfl, hm⟩ := hrel
    by_cases hlt : t < 6
    · have hdj : decide ((t : Int) < 6) = true := decide_eq_true (by omega)
      have k0 := hm.out.hT.sl t hlt
      have k1 := hm.out.hT.fn t hlt
      have hcl := codes_len t
      have HCD := Aside0.mk (fun j (hj : j < (codesT t).length) => codes_wf t j hlt hj)
      have HLS := Aside0.mk (show Lg (Lt t) t (codesT t).length = Lt (t + 1) from rfl)
      generalize hn : (codesT t).length = n at *
      have HN := Aside0.mk hn
      clear hn
      generalize hft : fnT t = ft at *
      have HF := Aside0.mk hft
      clear hft
      have HBX := Aside0.mk (heap_alloc_new wr (.cells #[.slice (some (ac t)) n n, .func (.func ft) #[] #[]] 173))
      have HM2 := Aside0.mk (hm.out.below (below_alloc (Below.refl _ _) (.cells #[.slice (some (ac t)) n n, .func (.func ft) #[] #[]] 173)))
      have HBL := Aside0.mk (Nat.lt_of_lt_of_le hm.out.hM.lt (Nat.le_refl wr.heap.size))
      clear hm
      go_wp2
      generalize hbx : wr.heap.size = bx at *
      clear hbx
      go_loopw [30] (fun i w2 => ∃ j : Nat, j ≤ n ∧ i = .int .i64 j ∧ Aside0 (Mid1 w w2 ad ac (10 * t + j) (Lg (Lt t) t j)) ∧ Aside0 (w2.heap[bx]? = some (.cells #[.slice (some (ac t)) n n, .func (.func ft) #[] #[]] 173 (0, 0)))) (fun i _ => n - (intOf i).toNat)
      case atStart => exact ⟨0, by omega, rfl, ⟨HM2.out⟩, ⟨HBX.out⟩⟩
      case round =>
        clear HM2 HBX
        obtain ⟨j, hj, rfl, hm, hx⟩ := hrel
        by_cases hltj : j < n
        · have hdk : decide ((j : Int) < (n : Int)) = true := decide_eq_true (by omega)
          have kc := hm.out.hT.cd t j hlt (by rw [HN.out]; exact hltj)
          have kx0 := blk_cell hx.out 0
          have kx1 := blk_cell hx.out 1
          have hwf := HCD.out j hltj
          have HST := Aside0.mk (show (fun x => if x = (codesT t).getD j 0 then some ft else Lg (Lt t) t j x) = Lg (Lt t) t (j + 1) from by rw [← HF.out]; rfl)
          generalize (codesT t).getD j 0 = c at *
          obtain ⟨w3, hrun, hM3, hg3⟩ := hm.out.hM.store (by omega) c ft hwf
          have HM3 := Aside0.mk (hm.out.grown (HST.out ▸ hM3) hg3)
          have HX3 := Aside0.mk (blk_grown hx.out hg3 (by intro e; injection e with e; have := HBL.out; omega))
          clear hM3 hg3 hm hx hwf
          go_wp2
          go_roundw
          case rel => exact ⟨j + 1, by omega, by go_num, ⟨HM3.out⟩, ⟨HX3.out⟩⟩
          case measure => simp [intOf]; omega
        · obtain rfl : j = n := by omega
          have hdk : decide ((j : Int) < (j : Int)) = false := decide_eq_false (by omega)
          have HM3 := Aside0.mk (show Mid1 w _ ad ac (10 * (t + 1)) (Lt (t + 1)) from ⟨by rw [← HLS.out]; exact hm.out.hM.mono (by omega), hm.out.hT, hm.out.hb, hm.out.n1, hm.out.n2⟩)
          clear hm hx
          go_wp2
          go_roundw
          case rel => exact ⟨t + 1, by omega, by go_num, ⟨HM3.out⟩⟩
          case measure => simp [intOf]; omega
    · obtain rfl : t = 6 := by omega
      have hdj : decide (((6 : Nat) : Int) < 6) = false := rfl
      have HM2 := Aside0.mk (show MapF wr w.heap.size 60 Lc from by have := hm.out.hM; rw [Lt6] at this; exact this)
      have HB2 := Aside0.mk hm.out.hb
      clear hm
      go_wp2
      generalize hwL : wr = wL at *
      clear hwL
      go_loopw [42] (fun i w2 => ∃ k : Nat, k ≤ l.length ∧ i = .int .i64 k ∧ Aside0 (MapF w2 w.heap.size 60 Lc) ∧ Aside0 (Below w.heap.size w w2) ∧ Aside0 (∀ j, j < k → wellB (at_ l j) ((l.length : Int) - 1 - (j : Int)) = true)) (fun i _ => l.length - (intOf i).toNat)
      case atStart => exact ⟨0, by omega, rfl, ⟨HM2.out⟩, ⟨HB2.out⟩, ⟨fun j hj => by omega⟩⟩
      case round =>
        clear HM2 HB2
        obtain ⟨k, hk, rfl, hm, hb, hw⟩ := hrel
        by_cases hlt : k < l.length
        · have hdk : decide ((k : Int) < (l.length : Int)) = true := decide_eq_true (by omega)
          obtain ⟨ad2, eA, hx0, hx1, hx2, hx3⟩ := at_T28 (Kd.C_below HC.out hb.out) (k : Int) (by omega) (by omega)
          subst eA
          rw [Int.toNat_natCast] at hx0 hx1 hx2 hx3
          have hiw := HI.out (at_ l k) (at_mem l k hlt)
          rw [rd_at] at hx0 hx1 hx2 hx3
          have e1 : wrap64 ((l.length : Int) - 1) = (l.length : Int) - 1 := w64 _ (by omega) (by omega)
          have e2 : wrap64 ((l.length : Int) - 1 - (k : Int)) = (l.length : Int) - 1 - (k : Int) := w64 _ (by omega) (by omega)
          have HW := Aside0.mk (fun (W : World) (hM : MapF W w.heap.size 60 Lc) => well_c hM (at_ l k) ((l.length : Int) - 1 - (k : Int)) hiw.2.2.2 hiw.1)
          have HF1 := Aside0.mk (first_at l k hlt hw.out)
          have HW1 := Aside0.mk (show wellB (at_ l k) ((l.length : Int) - 1 - (k : Int)) = true → ∀ j, j < k + 1 → wellB (at_ l j) ((l.length : Int) - 1 - (j : Int)) = true from fun h j hj => by
            by_cases e : j = k
            · rw [e]; exact h
            · exact hw.out j (by omega))
          have HMx := Aside0.mk (fun (o : Obj) => (⟨hm.out.below (below_alloc (Below.refl _ _) o), below_alloc hb.out o⟩ : MapF (World.alloc _ o) w.heap.size 60 Lc ∧ Below w.heap.size w (World.alloc _ o)))
          generalize hwe : wellB (at_ l k) ((l.length : Int) - 1 - (k : Int)) = b at *
          clear hwe
          generalize at_ l k = x at *
          clear hm hb hw hiw
          cases b
          · have HRR := Aside0.mk (show r = ((k : Int), 51) by rw [← HR.out, HF1.out rfl]; rfl)
            go_wp2_with (go_at_call 129; refine (HW.out _ (HMx.out _).1).mono ?_; rintro e w3 ⟨rfl, hb3⟩; have HB3 := Aside0.mk (below_step (HMx.out _).2 hb3); clear hb3)
            rw [HRR.out]
            go_ret2
            exact ⟨rfl, HB3.out⟩
          · have HW2 := Aside0.mk (HW1.out rfl)
            go_wp2_with (go_at_call 129; refine (HW.out _ (HMx.out _).1).mono ?_; rintro e w3 ⟨rfl, hb3⟩; have HB3 := Aside0.mk (below_step (HMx.out _).2 hb3); have HM3 := Aside0.mk ((HMx.out _).1.below hb3); clear hb3)
            refine ⟨⟨_, _, _, _, _, _, _, _, _, _, _, _, _, _, _, _, _, _, _, _, ?rel, rfl⟩, ?measure⟩
            case rel => exact ⟨k + 1, by omega, by go_num, ⟨HM3.out⟩, ⟨HB3.out⟩, ⟨HW2.out⟩⟩
            case measure => simp [intOf]; omega
        · obtain rfl : k = l.length := by omega
          have hdk : decide (((l.length : Nat) : Int) < (l.length : Int)) = false := decide_eq_false (by omega)
          have HRR := Aside0.mk (show r = (0, 0) by rw [← HR.out, first_all l hw.out]; rfl)
          clear hm hw
          go_wp2
          rw [HRR.out]
          go_ret2
          exact ⟨rfl, hb.out⟩
end Go.Proofs.Ytefkhcijgiagdaa.HCk
end
section
namespace Go.Proofs.Ytefkhcijgiagdaa.HCk
open Go.RowKit Go.Proofs.YtefkhcijgiagdaaW.PrintWords Go.Proofs.YtefkhcijgiagdaaW.PrintLast Go.Proofs.YtefkhcijgiagdaaW.PrintMore Go.Proofs.Ytefkhcijgiagdaa.HKnown Go.Proofs.Ytefkhcijgiagdaa.I1 Go.Proofs.Ytefkhcijgiagdaa.QVm Go.Proofs.Ytefkhcijgiagdaa.QLe Go.Proofs.Ytefkhcijgiagdaa.QCheck Go.Proofs.Ytefkhcijgiagdaa.K0
set_option linter.unusedVariables false
set_option linter.unusedSimpArgs false
set_option maxRecDepth 100000
attribute [local go_sem] max2_int min2_int max_two min_two IntKind.wrap_u32
def bRow (xs : List Bool) : Obj := .cells (xs.map Value.bool).toArray 4 (0, 0)
theorem bRow_cell {w : World} {g : Nat} {xs : List Bool} (h : w.heap[g]? = some (bRow xs)) (j : Nat) (hj : j < xs.length) : w.cell? ⟨g, j, none⟩ = some (.bool (xs.getD j false)) := by
  rw [blk_cell h j]
  simp [hj]
theorem bRow_free {w : World} {g : Nat} {xs : List Bool} (h : w.heap[g]? = some (bRow xs)) (j : Nat) : w.frozen? ⟨g, j, none⟩ = false := blk_frozen h j
theorem bRow_set {w : World} {g : Nat} {xs : List Bool} (h : w.heap[g]? = some (bRow xs)) (j : Nat) (b : Bool) : (w.setCell ⟨g, j, none⟩ (.bool b)).heap[g]? = some (bRow (xs.set j b)) := by
  rw [blk_set h j (.bool b)]
  unfold bRow
  congr 2
  simp [List.map_set]
def f16 : List Bool := List.replicate 16 false
theorem info4 : (Try.prog.info? 4).map (fun i => (i.zero, i.size, i.bytes)) = some (some (.bool false), 1, 1) := by kernel_rfl
theorem made_bools (n : Nat) : madeCells #[Value.bool false] n = ((List.replicate n false).map Value.bool).toArray := by
  apply Array.ext'
  simp only [madeCells, List.map_replicate]
  apply List.ext_getElem
  · simp
  · intro i h1 h2
    simp [Nat.mod_one]
theorem make16 (W : World) : (Instr.makeSlice 120 (.int .i64 16) (.int .i64 16)).run Try.prog W = .ok (.slice (some ⟨W.heap.size, 0, none⟩) 16 16) (W.alloc (bRow f16)) := by
  have h := run_make_row' (P := Try.prog) 120 4 (.bool false) 1 Try.underlying120 info4 rfl .i64 .i64 16 (by decide) (by decide) W
  rw [made_bools] at h
  exact h
def joinP (a b : List Bool) (j : Nat) : List Bool := (List.zipWith (· && ·) a b).take j ++ List.replicate (16 - j) false
theorem joinP_zero (a b : List Bool) : joinP a b 0 = f16 := by simp [joinP, f16]
theorem joinP_all (a b : List Bool) (ha : a.length = 16) (hb : b.length = 16) : joinP a b 16 = List.zipWith (· && ·) a b := by
  unfold joinP
  rw [List.take_of_length_le (by rw [List.length_zipWith, ha, hb]; decide)]
  simp
theorem joinP_set (a b : List Bool) (ha : a.length = 16) (hb : b.length = 16) (j : Nat) (hj : j < 16) : (joinP a b j).set j (a.getD j false && b.getD j false) = joinP a b (j + 1) := by
  have hz : (List.zipWith (· && ·) a b).length = 16 := by rw [List.length_zipWith, ha, hb]; rfl
  have hg := zip_getD a b j (by rw [ha, hb]) (by omega)
  unfold joinP
  generalize List.zipWith (· && ·) a b = z at hz hg ⊢
  rw [← hg, List.set_append_right _ _ (by rw [List.length_take, hz]; omega), List.length_take, hz, show min j 16 = j by omega, Nat.sub_self, show 16 - j = (16 - (j + 1)) + 1 by omega, List.replicate_succ, List.set_cons_zero, List.take_succ_eq_append_getElem (by omega), List.append_assoc, List.getD_eq_getElem?_getD, List.getElem?_eq_getElem (by omega)]
  rfl
theorem joinP_len (a b : List Bool) (ha : a.length = 16) (hb : b.length = 16) (j : Nat) (hj : j ≤ 16) : (joinP a b j).length = 16 := by
  unfold joinP
  rw [List.length_append, List.length_take, List.length_zipWith, ha, hb, List.length_replicate]; omega
theorem join_nil (w : World) (A : Option Addr) (n c : Nat) : Calls Try.prog 102 #[.slice none 0 0, .slice A n c] w fun e w' => e = .returned (.slice A n c) ∧ w' = w := by
  have hnil := fun W => Lib.run_eql_slice_nil (P := Try.prog) W 120 4 none 0 0 0 0 Try.underlying120
  go_enter Try.func102, Try.ntmps102
  go_wp2
  go_ret
  exact ⟨rfl, rfl⟩
set_option maxHeartbeats 2000000 in
theorem join_c {w : World} {ada adb : Addr} {a b : List Bool} {ca cb : Nat} (ha : a.length = 16) (hb : b.length = 16) (hca : ∀ j, j < 16 → w.cell? (ada.add j) = some (.bool (a.getD j false))) (hcb : ∀ j, j < 16 → w.cell? (adb.add j) = some (.bool (b.getD j false))) :
    Calls Try.prog 102 #[.slice (some ada) 16 ca, .slice (some adb) 16 cb] w fun e w' => e = .returned (.slice (some ⟨w.heap.size, 0, none⟩) 16 16) ∧ w'.heap[w.heap.size]? = some (bRow (List.zipWith (· && ·) a b)) ∧ Below w.heap.size w w' := by
  have hnil := fun W => Lib.run_eql_slice_nil (P := Try.prog) W 120 4 (some ada) 16 ca 0 0 Try.underlying120
  have hmk := make16
  have HA := Aside0.mk hca
  have HB := Aside0.mk hcb
  have HL := Aside0.mk (joinP_len a b ha hb)
  have HS := Aside0.mk (joinP_set a b ha hb)
  have HE := Aside0.mk (joinP_all a b ha hb)
  have H0 := Aside0.mk (joinP_zero a b)
  clear hca hcb ha hb
  have HN := Aside0.mk (heap_alloc_new w (bRow f16))
  go_enter Try.func102, Try.ntmps102
  go_wp2
  go_loopw [13] (fun i wr => ∃ j : Nat, j ≤ 16 ∧ i = .int .i64 j ∧ Aside0 (wr.heap[w.heap.size]? = some (bRow (joinP a b j))) ∧ Aside0 (Below w.heap.size w wr)) (fun i _ => 16 - (intOf i).toNat)
  case atStart => exact ⟨0, by omega, rfl, ⟨by rw [H0.out]; exact HN.out⟩, ⟨below_alloc (Below.refl _ _) _⟩⟩
  case round =>
    clear HN H0
    obtain ⟨j, hj, rfl, hx, hb⟩ := hrel
    by_cases hlt : j < 16
    · have hdj : decide ((j : Int) < 16) = true := decide_eq_true (by omega)
      have kc := bRow_cell hx.out j (by rw [HL.out j hj]; exact hlt)
      have kf := bRow_free hx.out j
      have ka := pw_cell_below hb.out (HA.out j hlt)
      have kb := pw_cell_below hb.out (HB.out j hlt)
      have HJ := Aside0.mk (HS.out j hlt)
      have HX1 := Aside0.mk (fun b => bRow_set hx.out j b)
      have HB1 := Aside0.mk (fun v => hb.out.setCell (p := ⟨w.heap.size, j, none⟩) (Nat.le_refl _) v)
      clear hx hb
      generalize a.getD j false = av at *
      generalize b.getD j false = bv at *
      generalize (joinP a b j).getD j false = cv at *
      have i0 : (0 : Int) ≤ (j : Int) := by omega
      have i1 : (j : Int) < 16 := by omega
      cases av
      · go_wp2
        go_roundw
        case rel => exact ⟨j + 1, by omega, by go_num, ⟨by rw [← HJ.out]; exact HX1.out _⟩, ⟨HB1.out _⟩⟩
        case measure => simp [intOf]; omega
      · go_wp2
        go_roundw
        case rel => exact ⟨j + 1, by omega, by go_num, ⟨by rw [← HJ.out]; exact HX1.out _⟩, ⟨HB1.out _⟩⟩
        case measure => simp [intOf]; omega
    · obtain rfl : j = 16 := by omega
      have hdj : decide (((16 : Nat) : Int) < 16) = false := rfl
      have HX := Aside0.mk (HE.out ▸ hx.out)
      clear hx
      go_wp2
      go_ret
      exact ⟨rfl, HX.out, hb.out⟩
end Go.Proofs.Ytefkhcijgiagdaa.HCk
end
