/- VmRuns: what any filter returns of any record, in how many steps, or that it goes wrong, is as the document says. -/
import Derived.Test.YtefkhcijgiagdaaProg
import Derived.Below
import Derived.Deep.Draws
import Derived.Deep.AppendLies
import Derived.Maps.AppendAt
import Derived.OwnWalk
import Derived.Laws.BytesArg
import Derived.Laws.MakeOwn
import Derived.Laws.OwnMore
import Derived.Deep.OwnRows
import Derived.Tactics
import Derived.Lib.ConvBytes
import Derived.Laws.Slices
import Derived.WalkKit
import Derived.KernelRfl
import Derived.RowKit3
import Derived.Deep.LoopGhost
import Derived.Deep.QuietTactic
import Derived.BigQuiet
import Derived.WideLaws
import Derived.Deep.DeepCutAuto
import Derived.Deep.CutBlock
import Derived.Deep.RegionHeld3
import Derived.Laws.Rows
import Derived.Lib.AppendStr
import Derived.ArgAppend
import Derived.Laws.IdiomCopy
import Derived.OrdersHeld
import Derived.Laws.BitsLemmas
import Derived.RowKit
import Derived.Test.YtefkhcijgiagdaaWWords
import Derived.Test.YtefkhcijgiagdaaWLast
import Derived.Test.YtefkhcijgiagdaaWTab
import Derived.Test.YtefkhcijgiagdaaWFour
import Derived.Test.YtefkhcijgiagdaaWQPut
import Derived.Test.YtefkhcijgiagdaaWApart
import Derived.Test.YtefkhcijgiagdaaWArr
import Derived.Test.YtefkhcijgiagdaaWZeros
import Derived.Test.YtefkhcijgiagdaaWFoot
import Derived.Test.YtefkhcijgiagdaaWKept
import Derived.Test.YtefkhcijgiagdaaWShare
import Derived.Test.YtefkhcijgiagdaaWN
import Derived.Test.YtefkhcijgiagdaaWFootNe
import Derived.Test.YtefkhcijgiagdaaWAt
import Derived.Test.YtefkhcijgiagdaaWEqStruct
import Derived.Test.YtefkhcijgiagdaaWRepsOne
import Derived.Test.YtefkhcijgiagdaaWInv
import Derived.Test.YtefkhcijgiagdaaWInvWords
import Derived.Test.YtefkhcijgiagdaaWGuard
import Derived.Test.YtefkhcijgiagdaaWNEv
import Derived.Test.YtefkhcijgiagdaaWMore
import Derived.Laws.Tables
import Derived.Laws.CopyOwn
import Derived.Deep.WholeRow
import Derived.ChangeKeysEq
import Derived.Shelf.Abstract
import Derived.Deep.RegionLaw
import Derived.Maps.OwnSet
import Derived.Shelf.Strings.BuilderK
import Derived.Laws.Externs
import Derived.Laws.EntriesVeiled
import Derived.WalkSpells
import Derived.Deep.RegionLawGrows
import Derived.StillTailTactics
import Derived.Great.Ranges
import Derived.DataReads
import Derived.DataElems
import Derived.SizedLaws
import Derived.ProofKit
import Derived.Test.YtefkhcijgiagdaaRows
import Derived.Test.YtefkhcijgiagdaaOrder
import Derived.OpenShut
import Derived.ShutString
import Derived.ChangeOld
section
namespace Go.Proofs.Ytefkhcijgiagdaa.Le
open Go.RowKit Go.Proofs.YtefkhcijgiagdaaW.PrintWords Go.Proofs.YtefkhcijgiagdaaW.PrintLast Go.Proofs.YtefkhcijgiagdaaW.PrintMore
attribute [local go_sem] max2_int min2_int max_two min_two max_three min_three max_four min_four IntKind.wrap_u32 IntKind.wrap_u8   -- for this text's walks alone
set_option linter.unusedVariables false
set_option linter.unusedSimpArgs false
def errW : Option Int → Value
  | none => .nilIface
  | some c => .iface 0 (.int .i64 c)
theorem errW_none : errW none = .nilIface := rfl
theorem errW_some (c : Int) : errW (some c) = .iface 0 (.int .i64 c) := rfl
theorem info5 : (Try.prog.info? 5).map (fun i => (i.zero, i.size, i.bytes)) = some (some (.int .u8 0), 1, 1) := by kernel_rfl
end Go.Proofs.Ytefkhcijgiagdaa.Le
end
section
namespace Go.Proofs.Ytefkhcijgiagdaa.Le
open Go.RowKit Go.Proofs.YtefkhcijgiagdaaW.PrintWords Go.Proofs.YtefkhcijgiagdaaW.PrintLast Go.Proofs.YtefkhcijgiagdaaW.PrintMore
attribute [local go_sem] max2_int min2_int max_two min_two max_three min_three max_four min_four IntKind.wrap_u32 IntKind.wrap_u8   -- for this text's walks alone
set_option linter.unusedVariables false
set_option linter.unusedSimpArgs false
mutual
def le_Get.j0 : Nat → ByteArray → Int → Int → Bool → Option (Int × Int × Int)
  | 0, _, _, _, _ => none
  | k + 1, x0, x1, x2, x11 => if x11 = true then (some (0, 0, 1)) else (if x1 > (x0.size : Int) then (some (0, 0, 3)) else (if (wrap64 ((x0.size : Int) - x1)) < x2 then (some (0, 0, 3)) else (le_Get.l0 k x0 x1 x2 0 x2 0)))
def le_Get.l0 : Nat → ByteArray → Int → Int → Int → Int → Int → Option (Int × Int × Int)
  | 0, _, _, _, _, _, _ => none
  | k + 1, x0, x1, x2, x9, x35, x36 => if x36 < x35 then (if 0 ≤ (wrap64 (x1 + x36)) then (if (wrap64 (x1 + x36)) < (x0.size : Int) then (if 0 ≤ (wrap64 (8 * x36)) then (le_Get.l0 k x0 x1 x2 (Go.bits .or .u64 x9 (shl .u64 (IntKind.u64.wrap (bt x0 (wrap64 (x1 + x36)))) (wrap64 (8 * x36)))) x35 (wrap64 (x36 + 1))) else (none)) else (none)) else (none)) else (some (x9, wrap64 (x1 + x2), 0))
end
def le_Get.f (k : Nat) (a0 : ByteArray) (a1 : Int) (a2 : Int) : Option (Int × Int × Int) := if a2 < 1 then (le_Get.j0 k a0 a1 a2 true) else (if a2 > 8 then (le_Get.j0 k a0 a1 a2 true) else (le_Get.j0 k a0 a1 a2 (decide (a1 < 0))))
set_option maxHeartbeats 8000000 in
set_option maxRecDepth 100000 in
theorem le_Get.calls (k : Nat) (a0 : ByteArray) (a1 : Int) (a2 : Int) (r1 : Int) (r2 : Int) (r3 : Int) (w : World) (h : le_Get.f k a0 a1 a2 = some (r1, r2, r3)) :
    Calls Try.prog 91 #[.string a0, .int .i64 a1, .int .i64 a2] w fun e w' => e = .returned (.tuple #[.int .u64 r1, .int .i64 r2, .int .i64 r3]) ∧ Drawn0 w w' := by
  have H : (if a2 < 1 then (le_Get.j0 k a0 a1 a2 true) else (if a2 > 8 then (le_Get.j0 k a0 a1 a2 true) else (le_Get.j0 k a0 a1 a2 (decide (a1 < 0))))) = some (r1, r2, r3) := h
  clear h
  have HC4 := Aside0.mk H
  clear H
  go_enter Try.func91, Try.ntmps91
  go_upto_region 1 with (fail)
  go_cut [11] (fun v11 wc => ∃ (kq : Nat) (x11_3 : Bool), v11 = .bool x11_3 ∧ Aside0 (le_Get.j0 kq a0 a1 a2 x11_3 = some (r1, r2, r3)) ∧ Aside0 (kq ≤ k) ∧ Drawn0 w wc)
  case first =>
    have H := HC4.out
    clear HC4
    by_cases c5 : a2 < 1
    · rw [if_pos c5] at H
      have c5b0 : decide (a2 < 1) = true := decide_eq_true c5
      clear c5
      (first | rw [c5b0] | (simp only [i64_w, i32_w]; rw [c5b0]) | skip)
      have H' := Aside0.mk H
      clear H
      go_wp2
      go_meet
      case rel => exact ⟨_, (true), (by first | rfl | (simp; done) | (simp [*]; done)), H', ⟨by first | omega | exact Nat.le_refl _⟩, by repeat (first | exact Drawn0.refl _ | apply Drawn0.step)⟩
    · rw [if_neg c5] at H
      have c5b0 : decide (a2 < 1) = false := decide_eq_false c5
      clear c5
      (first | rw [c5b0] | (simp only [i64_w, i32_w]; rw [c5b0]) | skip)
      by_cases c6 : a2 > 8
      · rw [if_pos c6] at H
        have c6b0 : decide (8 < a2) = true := decide_eq_true c6
        clear c6
        have H' := Aside0.mk H
        clear H
        go_wp2
        go_meet
        case rel => exact ⟨_, (true), (by first | rfl | (simp; done) | (simp [*]; done)), H', ⟨by first | omega | exact Nat.le_refl _⟩, by repeat (first | exact Drawn0.refl _ | apply Drawn0.step)⟩
      · rw [if_neg c6] at H
        have c6b0 : decide (8 < a2) = false := decide_eq_false c6
        clear c6
        have H' := Aside0.mk H
        clear H
        go_wp2
        go_meet
        case rel => exact ⟨_, (decide (a1 < 0)), (by first | rfl | (simp; done) | (simp [*]; done)), H', ⟨by first | omega | exact Nat.le_refl _⟩, by repeat (first | exact Drawn0.refl _ | apply Drawn0.step)⟩
  case rest =>
    clear HC4
    try clear p2
    try clear c5
    try clear c5b0
    try clear c6
    try clear c6b0
    obtain ⟨kq, x11_3, rfl, HA, HJ3, ⟨mc3, rfl⟩⟩ := hcut
    cases kq with
    | zero => exact absurd HA.out (by simp [le_Get.j0])
    | succ kj3 =>
      have H := HA.out
      clear HA
      simp only [le_Get.j0] at H
      by_cases c7 : x11_3 = true
      · subst c7
        have H1 : (some (0, 0, 1)) = some (r1, r2, r3) := by rw [if_pos rfl] at H; exact H
        clear H
        have H := H1
        clear H1
        simp only [Option.some.injEq, Prod.mk.injEq] at H
        obtain ⟨rfl, rfl, rfl⟩ := H
        go_wp2
        go_ret3
        exact ⟨by first | rfl | (simp; done) | (simp [*]; done), by repeat (first | exact Drawn0.refl _ | apply Drawn0.step)⟩
      · replace c7 := Bool.eq_false_iff.mpr c7
        subst c7
        have H1 : (if a1 > (a0.size : Int) then (some (0, 0, 3)) else (if (wrap64 ((a0.size : Int) - a1)) < a2 then (some (0, 0, 3)) else (le_Get.l0 kj3 a0 a1 a2 0 a2 0))) = some (r1, r2, r3) := by rw [if_neg (show ¬ (false = true) by decide)] at H; exact H
        clear H
        have H := H1
        clear H1
        by_cases c8 : a1 > (a0.size : Int)
        · rw [if_pos c8] at H
          have c8b0 : decide ((a0.size : Int) < a1) = true := decide_eq_true c8
          clear c8
          simp only [Option.some.injEq, Prod.mk.injEq] at H
          obtain ⟨rfl, rfl, rfl⟩ := H
          go_wp2
          go_ret3
          exact ⟨by first | rfl | (simp; done) | (simp [*]; done), by repeat (first | exact Drawn0.refl _ | apply Drawn0.step)⟩
        · rw [if_neg c8] at H
          have c8b0 : decide ((a0.size : Int) < a1) = false := decide_eq_false c8
          clear c8
          by_cases c9 : (wrap64 ((a0.size : Int) - a1)) < a2
          · rw [if_pos c9] at H
            have c9b0 : decide ((wrap64 ((a0.size : Int) - a1)) < a2) = true := decide_eq_true c9
            clear c9
            simp only [Option.some.injEq, Prod.mk.injEq] at H
            obtain ⟨rfl, rfl, rfl⟩ := H
            go_wp2
            go_ret3
            exact ⟨by first | rfl | (simp; done) | (simp [*]; done), by repeat (first | exact Drawn0.refl _ | apply Drawn0.step)⟩
          · rw [if_neg c9] at H
            have c9b0 : decide ((wrap64 ((a0.size : Int) - a1)) < a2) = false := decide_eq_false c9
            clear c9
            have H' := Aside0.mk H
            clear H
            go_wp2
            go_loopg [9, 36] kj3 (fun kq v9 v36 w' => ∃ (x9_2 : Int) (x36_2 : Int), v9 = .int .u64 x9_2 ∧ v36 = .int .i64 x36_2 ∧ Aside0 (le_Get.l0 kq a0 a1 a2 x9_2 a2 x36_2 = some (r1, r2, r3)) ∧ Aside0 (kq ≤ kj3) ∧ Drawn0 w w')
            case atStart => exact ⟨(0), (0), (by first | rfl | (simp; done) | (simp [*]; done)), (by first | rfl | (simp; done) | (simp [*]; done)), H', ⟨Nat.le_refl _⟩, by repeat (first | exact Drawn0.refl _ | apply Drawn0.step)⟩
            case round =>
              clear H'
              try clear p2
              try clear c3
              try clear c5
              try clear c5b0
              try clear c6
              try clear c6b0
              try clear p6
              try clear c7
              try clear c8
              try clear c8b0
              try clear c9
              try clear c9b0
              try clear p2
              obtain ⟨x9_2, x36_2, rfl, rfl, HA, HK2, ⟨m2, rfl⟩⟩ := hrel
              cases gk with
              | zero => exact absurd HA.out (by simp [le_Get.l0])
              | succ k2 =>
                have H := HA.out
                clear HA
                simp only [le_Get.l0] at H
                by_cases c10 : x36_2 < a2
                · rw [if_pos c10] at H
                  have c10b0 : decide (x36_2 < a2) = true := decide_eq_true c10
                  clear c10
                  obtain ⟨ji11, hji11⟩ : ∃ j_ : Int, (wrap64 (a1 + x36_2)) = j_ := ⟨_, rfl⟩
                  replace H : (if 0 ≤ (ji11) then (if (ji11) < (a0.size : Int) then (if 0 ≤ (wrap64 (8 * x36_2)) then (le_Get.l0 k2 a0 a1 a2 (Go.bits .or .u64 x9_2 (shl .u64 (IntKind.u64.wrap (bt a0 (ji11))) (wrap64 (8 * x36_2)))) a2 (wrap64 (x36_2 + 1))) else (none)) else (none)) else (none)) = some (r1, r2, r3) := by first | (rw [hji11] at H; exact H) | (simp only [hji11] at H ⊢; exact H)
                  have hji11w : (IntKind.i64.wrap (a1 + x36_2)) = ji11 := (i64_w _).trans hji11
                  by_cases c12 : 0 ≤ (ji11)
                  · rw [if_pos c12] at H
                    have c12b0 : decide (0 ≤ (ji11)) = true := decide_eq_true c12
                    clear c12
                    by_cases c13 : (ji11) < (a0.size : Int)
                    · rw [if_pos c13] at H
                      have c13b0 : decide ((ji11) < (a0.size : Int)) = true := decide_eq_true c13
                      clear c13
                      obtain ⟨ji15, hji15⟩ : ∃ j_ : Int, (wrap64 (8 * x36_2)) = j_ := ⟨_, rfl⟩
                      replace H : (if 0 ≤ (ji15) then (le_Get.l0 k2 a0 a1 a2 (Go.bits .or .u64 x9_2 (shl .u64 (IntKind.u64.wrap (bt a0 (ji11))) (ji15))) a2 (wrap64 (x36_2 + 1))) else (none)) = some (r1, r2, r3) := by first | (rw [hji15] at H; exact H) | (simp only [hji15] at H ⊢; exact H)
                      have hji15w : (IntKind.i64.wrap (8 * x36_2)) = ji15 := (i64_w _).trans hji15
                      by_cases c16 : 0 ≤ (ji15)
                      · rw [if_pos c16] at H
                        have c16b0 := eq_true c16
                        have c16b1 : decide (0 ≤ (ji15)) = true := decide_eq_true c16
                        clear c16
                        obtain ⟨ji17, hji17⟩ : ∃ j_ : Int, (shl .u64 (IntKind.u64.wrap (bt a0 (ji11))) (ji15)) = j_ := ⟨_, rfl⟩
                        replace H : (le_Get.l0 k2 a0 a1 a2 (Go.bits .or .u64 x9_2 (ji17)) a2 (wrap64 (x36_2 + 1))) = some (r1, r2, r3) := by first | (rw [hji17] at H; exact H) | (simp only [hji17] at H ⊢; exact H)
                        have hji17_ : (IntKind.u64.wrap ((IntKind.u64.wrap (bt a0 (ji11))) * 2 ^ min (ji15).toNat 64)) = ji17 := hji17
                        have hji17z : (ji15) ≤ 64 → (IntKind.u64.wrap ((IntKind.u64.wrap (bt a0 (ji11))) * 2 ^ (ji15).toNat)) = ji17 := shl_small hji17
                        have H' := Aside0.mk H
                        clear H
                        have p14 : 0 ≤ ((ji11) : Int) := of_decide_eq_true (by first | (with_reducible assumption) | assumption)
                        have q14 : (ji11) < (a0.size : Int) := of_decide_eq_true (by first | (with_reducible assumption) | assumption)
                        have hx14 := bt_at a0 (ji11)
                        replace p14 := eq_true p14
                        replace q14 := eq_true q14
                        go_wp2
                        go_roundg k2
                        case measure => have := HJ3.out; have := HK2.out; omega
                        case rel => exact ⟨(Go.bits .or .u64 x9_2 (ji17)), (wrap64 (x36_2 + 1)), (by first | rfl | (simp; done) | (simp only [← hji17] <;> (first | rfl | simp)) | (simp [*]; done)), (by first | rfl | (simp; done) | (simp [*]; done)), H', ⟨by have := HJ3.out; have := HK2.out; omega⟩, by repeat (first | exact Drawn0.refl _ | apply Drawn0.step)⟩
                      · rw [if_neg c16] at H
                        exact absurd H (by simp)
                    · rw [if_neg c13] at H
                      exact absurd H (by simp)
                  · rw [if_neg c12] at H
                    exact absurd H (by simp)
                · rw [if_neg c10] at H
                  have c10b0 : decide (x36_2 < a2) = false := decide_eq_false c10
                  clear c10
                  simp only [Option.some.injEq, Prod.mk.injEq] at H
                  obtain ⟨rfl, rfl, rfl⟩ := H
                  go_wp2
                  go_ret3
                  exact ⟨by first | rfl | (simp; done) | (simp [*]; done), by repeat (first | exact Drawn0.refl _ | apply Drawn0.step)⟩
end Go.Proofs.Ytefkhcijgiagdaa.Le
end
section
namespace Go.Proofs.Ytefkhcijgiagdaa.QLe
open Go.RowKit Go.Proofs.YtefkhcijgiagdaaW.PrintWords Go.Proofs.YtefkhcijgiagdaaW.PrintLast Go.Proofs.YtefkhcijgiagdaaW.PrintMore Go.Proofs.Ytefkhcijgiagdaa.Le
set_option linter.unusedVariables false
set_option linter.unusedSimpArgs false
def leval (s : ByteArray) (p : Int) : Nat → Int
  | 0 => 0
  | j + 1 => leval s p j + bt s (p + j) * 256 ^ j
theorem pow256 (j : Nat) : (0 : Int) < 256 ^ j := Int.pow_pos (by decide)
theorem p7 (i : Nat) (h : i < 8) : (256 : Int) ^ i ≤ 72057594037927936 := by
  match i, h with
  | 0, _ | 1, _ | 2, _ | 3, _ | 4, _ | 5, _ | 6, _ | 7, _ => decide
theorem leval_range (s : ByteArray) (p : Int) (j : Nat) : 0 ≤ leval s p j ∧ leval s p j < 256 ^ j := by
  induction j with
  | zero => simp [leval]
  | succ j ih =>
    have hb := bt_range s (p + j)
    have hp := pow256 j
    have h1 : bt s (p + j) * 256 ^ j ≤ 255 * 256 ^ j := Int.mul_le_mul_of_nonneg_right hb.2 (Int.le_of_lt hp)
    have h2 : 0 ≤ bt s (p + j) * 256 ^ j := Int.mul_nonneg hb.1 (Int.le_of_lt hp)
    have h3 : (256 : Int) ^ (j + 1) = 256 ^ j * 256 := Int.pow_succ ..
    simp only [leval]
    omega
theorem w64 (x : Int) (h : -9223372036854775808 ≤ x) (h2 : x ≤ 9223372036854775807) : wrap64 x = x := by unfold wrap64; omega
theorem u64_small (x : Int) (h0 : 0 ≤ x) (h1 : x < 18446744073709551616) : IntKind.u64.wrap x = x := by
  have e : IntKind.u64.wrap x = x % 18446744073709551616 := rfl
  rw [e]; exact Int.emod_eq_of_lt h0 h1
theorem or_low (i : Nat) (x y : Int) (hx0 : 0 ≤ x) (hx : x < 2 ^ i) (hy0 : 0 ≤ y) (hy : y % 2 ^ i = 0) (hx1 : x < 2 ^ 64) (hy1 : y < 2 ^ 64) : Go.bits .or .u64 x y = x + y := by
  have hw : ∀ n : Int, 0 ≤ n → n < 2 ^ 64 → IntKind.u64.wrap n = n := by
    intro n a b
    exact u64_small n a (by have e64 : (2 : Int) ^ 64 = 18446744073709551616 := by decide
                            omega)
  have h := Go.bits_join .u64 64 (by decide) hw i y x hy0 hy hy1 hx0 hx hx1
  have hc : Go.bits .or .u64 x y = Go.bits .or .u64 y x := by
    simp only [Go.bits]
    rw [BitVec.or_comm]
  rw [hc, h]; omega
theorem pow_shift (i : Nat) : (2 : Int) ^ (8 * i) = 256 ^ i := by rw [Int.pow_mul]; rfl
theorem shl_byte (c : Int) (i : Nat) (h0 : 0 ≤ c) (h1 : c ≤ 255) (hi : i < 8) : shl .u64 (IntKind.u64.wrap c) (wrap64 (8 * (i : Int))) = c * 256 ^ i := by
  have e : (wrap64 (8 * (i : Int))).toNat = 8 * i := by rw [w64 _ (by omega) (by omega)]; omega
  have hm : min (8 * i) 64 = 8 * i := by omega
  have hp := pow256 i
  have h8 := p7 i hi
  have h2 : c * 256 ^ i ≤ 255 * 256 ^ i := Int.mul_le_mul_of_nonneg_right h1 (Int.le_of_lt hp)
  have h3 : 0 ≤ c * 256 ^ i := Int.mul_nonneg h0 (Int.le_of_lt hp)
  unfold shl
  rw [u64_small c h0 (by omega), e, show IntKind.u64.bits = 64 from rfl, hm, pow_shift, u64_small _ h3 (by omega)]
theorem get_loop (s : ByteArray) (p : Int) (sz : Nat) (hp : 0 ≤ p) (hs : p + sz ≤ s.size) (hz : s.size ≤ 4611686018427387904) (h8 : sz ≤ 8) :
    ∀ d i : Nat, i + d = sz → ∀ k, d < k → le_Get.l0 k s p sz (leval s p i) sz i = some (leval s p sz, p + sz, 0) := by
  intro d
  induction d with
  | zero =>
    intro i hi k hk
    obtain ⟨k, rfl⟩ : ∃ m, k = m + 1 := ⟨k - 1, by omega⟩
    obtain rfl : i = sz := by omega
    simp only [le_Get.l0]
    rw [if_neg (by omega), w64 _ (by omega) (by omega)]
  | succ d ih =>
    intro i hi k hk
    obtain ⟨k, rfl⟩ : ∃ m, k = m + 1 := ⟨k - 1, by omega⟩
    have hb := bt_range s (p + i)
    have hl := leval_range s p i
    simp only [le_Get.l0]
    rw [if_pos (by omega), w64 (p + i) (by omega) (by omega), if_pos (by omega), if_pos (by omega), if_pos (by rw [w64 _ (by omega) (by omega)]; omega), shl_byte _ i hb.1 hb.2 (by omega), w64 ((i : Int) + 1) (by omega) (by omega)]
    have hpp := pow256 i
    have h7 := p7 i (by omega)
    have e64 : (2 : Int) ^ 64 = 18446744073709551616 := by decide
    have h1 : bt s (p + i) * 256 ^ i ≤ 255 * 256 ^ i := Int.mul_le_mul_of_nonneg_right hb.2 (Int.le_of_lt hpp)
    have h2 : 0 ≤ bt s (p + i) * 256 ^ i := Int.mul_nonneg hb.1 (Int.le_of_lt hpp)
    rw [or_low (8 * i) _ _ hl.1 (by rw [pow_shift]; exact hl.2) h2 (by rw [pow_shift]; exact Int.mul_emod_left ..) (by omega) (by omega)]
    have := ih (i + 1) (by omega) k (by omega)
    simpa [leval] using this
theorem get_ok (s : ByteArray) (p : Int) (sz : Nat) (h1 : 1 ≤ sz) (h8 : sz ≤ 8) (hp : 0 ≤ p) (hs : p + sz ≤ s.size) (hz : s.size ≤ 4611686018427387904) :
    ∀ k, 10 ≤ k → le_Get.f k s p sz = some (leval s p sz, p + sz, 0) := by
  intro k hk
  obtain ⟨k, rfl⟩ : ∃ m, k = m + 1 := ⟨k - 1, by omega⟩
  unfold le_Get.f
  rw [if_neg (by omega), if_neg (by omega), decide_eq_false (by omega)]
  simp only [le_Get.j0]
  rw [if_neg (by decide), if_neg (by omega), if_neg (by rw [w64 _ (by omega) (by omega)]; omega)]
  exact get_loop s p sz hp hs hz h8 sz 0 (by omega) k (by omega)
def leB (n : Int) (sz : Nat) : List Int := (List.range sz).map fun i => n / 256 ^ i % 256
def part (n : Int) (sz i : Nat) : List Int := (List.range sz).map fun j => if j < i then n / 256 ^ j % 256 else 0
theorem bt_data (s : ByteArray) (i : Nat) (h : i < s.size) : bt s i = ((s.data.toList[i]'(by rw [Array.length_toList]; exact h)).toNat : Int) := by
  have := bt_at s (i : Int) (by simpa using h)
  rw [← this]; simp [ByteArray.getElem_eq_getElem_data]
theorem sON_data (xs : List Int) : (strOfNums xs).data.toList = xs.map fun n => UInt8.ofNat n.toNat := rfl
theorem sON_size (xs : List Int) : (strOfNums xs).size = xs.length := by
  show (strOfNums xs).data.size = _
  rw [← Array.length_toList, sON_data, List.length_map]
theorem len_data (a : ByteArray) : a.data.toList.length = a.size := by rw [Array.length_toList]; rfl
end Go.Proofs.Ytefkhcijgiagdaa.QLe
end
section
namespace Go.Proofs.Ytefkhcijgiagdaa.HKnown
open Go.RowKit Go.Proofs.YtefkhcijgiagdaaW.PrintWords Go.Proofs.YtefkhcijgiagdaaW.PrintLast Go.Proofs.YtefkhcijgiagdaaW.PrintMore Go.Proofs.Ytefkhcijgiagdaa.Le Go.Proofs.Ytefkhcijgiagdaa.QLe
set_option linter.unusedVariables false
set_option linter.unusedSimpArgs false
def codes : List Nat := [32, 128, 0, 96, 1, 97, 129, 2, 3, 4, 20, 36, 52, 68, 84, 100, 116, 132, 164, 12, 28, 44, 60, 76, 92, 108, 124, 172, 5, 21, 37, 53, 69, 29, 45, 61, 77, 6, 22, 7, 135]
def arrK (k : Nat) : Array Value := ((List.range 256).map fun i => Value.bool ((codes.take k).contains i)).toArray
theorem arrK_size (k : Nat) : (arrK k).size = 256 := by simp [arrK]
theorem arrK_one (k : Nat) : (arrK k).all (·.oneCell') = true := by simp [arrK, Value.oneCell']
theorem arrK_get (k j : Nat) (h : j < 256) : (arrK k)[j]? = some (.bool ((codes.take k).contains j)) := by simp [arrK, h]
theorem codes_lt (k : Nat) (h : k < 41) : codes.getD k 0 < 256 := by
  have : ∀ k : Fin 41, codes.getD k.1 0 < 256 := by decide
  exact this ⟨k, h⟩
theorem arrK_succ (k : Nat) (h : k < 41) : (arrK k).setIfInBounds (codes.getD k 0) (.bool true) = arrK (k + 1) := by
  apply Array.ext'
  have hl : k < codes.length := h
  rw [Array.toList_setIfInBounds]
  apply List.ext_getElem
  · simp [arrK]
  · intro j h1 h2
    have hj : j < 256 := by simpa [arrK] using h2
    simp only [arrK, List.getElem_set, List.getElem_map, List.getElem_range]
    have e : (List.take (k + 1) codes).contains j = ((List.take k codes).contains j || codes[k] == j) := by
      rw [List.take_succ_eq_append_getElem hl, Bool.eq_iff_iff]
      simp only [List.contains_eq_mem, List.mem_append, List.mem_singleton, decide_eq_true_eq, Bool.or_eq_true, beq_iff_eq]
      exact or_congr_right eq_comm
    rw [e, List.getD_eq_getElem?_getD, List.getElem?_eq_getElem hl, Option.getD_some]
    by_cases hc : codes[k] = j
    · rw [if_pos hc, beq_iff_eq.mpr hc, Bool.or_true]
    · rw [if_neg hc, beq_eq_false_iff_ne.mpr hc, Bool.or_false]
theorem run_index_agg {P : Program} (t e : TypeId) (n : Nat) (d : TypeDesc) (ht : P.underlying t = some (.array n e)) (hu : P.underlying e = some d) (hd : (match d with | .struct _ | .array _ _ => true | _ => false) = false)
    (i : Nat) (inf : TypeInfo) (hi : P.info? e = some inf) (hs : inf.size = 1) (cs : Array Value) (v : Value) (hv : cs[i]? = some v) (hn : i < n) (w : World) :
    (Instr.index t (.agg cs) (.int .i64 (i : Int))).run P w = .ok v w := by
  have h1 : (sizeOf e).run P w = .ok 1 w := by rw [run_sizeOf w hi]; simp [Program.cellsOf, hi, hs]
  have h2 := run_isAgg_plain (P := P) hu hd w
  have h3 : (0 : Int) ≤ (i : Int) ∧ (i : Int) < (n : Int) := by omega
  simp [Instr.index, run_underlying ht, asIntOf, h1, h2, h3, hn, hv, part, go_sem]
set_option maxRecDepth 100000 in
set_option maxHeartbeats 1000000 in
theorem known_any (w : World) : Calls Try.prog 93 #[] w fun e w' => e = .returned (.agg (arrK 41)) ∧ Below w.heap.size w w' := by
  go_enter Try.func93, Try.ntmps93
  go_wp2
  have hix : ∀ k : Nat, k < 41 → ∀ W, (Instr.index 166 (.agg (#[Value.int .i64 32, Value.int .i64 128, Value.int .i64 0, Value.int .i64 96, Value.int .i64 1, Value.int .i64 97, Value.int .i64 129, Value.int .i64 2, Value.int .i64 3, Value.int .i64 4, Value.int .i64 20, Value.int .i64 36, Value.int .i64 52, Value.int .i64 68, Value.int .i64 84, Value.int .i64 100, Value.int .i64 116, Value.int .i64 132, Value.int .i64 164, Value.int .i64 12, Value.int .i64 28, Value.int .i64 44, Value.int .i64 60, Value.int .i64 76, Value.int .i64 92, Value.int .i64 108, Value.int .i64 124, Value.int .i64 172, Value.int .i64 5, Value.int .i64 21, Value.int .i64 37, Value.int .i64 53, Value.int .i64 69, Value.int .i64 29, Value.int .i64 45, Value.int .i64 61, Value.int .i64 77, Value.int .i64 6, Value.int .i64 22, Value.int .i64 7, Value.int .i64 135] : Array Value)) (.int .i64 (k : Int))).run Try.prog W = .ok (.int .i64 (codes.getD k 0)) W := by
    intro k hk W
    obtain ⟨inf, hi, hs⟩ : ∃ inf, Try.prog.info? 3 = some inf ∧ inf.size = 1 := ⟨_, rfl, rfl⟩
    refine run_index_agg 166 3 41 _ Try.underlying166 Try.underlying3 rfl k inf hi hs _ _ ?_ hk W
    have hE : (#[Value.int .i64 32, Value.int .i64 128, Value.int .i64 0, Value.int .i64 96, Value.int .i64 1, Value.int .i64 97, Value.int .i64 129, Value.int .i64 2, Value.int .i64 3, Value.int .i64 4, Value.int .i64 20, Value.int .i64 36, Value.int .i64 52, Value.int .i64 68, Value.int .i64 84, Value.int .i64 100, Value.int .i64 116, Value.int .i64 132, Value.int .i64 164, Value.int .i64 12, Value.int .i64 28, Value.int .i64 44, Value.int .i64 60, Value.int .i64 76, Value.int .i64 92, Value.int .i64 108, Value.int .i64 124, Value.int .i64 172, Value.int .i64 5, Value.int .i64 21, Value.int .i64 37, Value.int .i64 53, Value.int .i64 69, Value.int .i64 29, Value.int .i64 45, Value.int .i64 61, Value.int .i64 77, Value.int .i64 6, Value.int .i64 22, Value.int .i64 7, Value.int .i64 135] : Array Value) = (codes.map fun c : Nat => Value.int .i64 (c : Int)).toArray := rfl
    have hk2 : k < codes.length := hk
    rw [hE, List.getElem?_toArray, List.getElem?_map, List.getElem?_eq_getElem hk2, List.getD_eq_getElem?_getD, List.getElem?_eq_getElem hk2]; rfl
  generalize hA : (#[Value.int .i64 32, Value.int .i64 128, Value.int .i64 0, Value.int .i64 96, Value.int .i64 1, Value.int .i64 97, Value.int .i64 129, Value.int .i64 2, Value.int .i64 3, Value.int .i64 4, Value.int .i64 20, Value.int .i64 36, Value.int .i64 52, Value.int .i64 68, Value.int .i64 84, Value.int .i64 100, Value.int .i64 116, Value.int .i64 132, Value.int .i64 164, Value.int .i64 12, Value.int .i64 28, Value.int .i64 44, Value.int .i64 60, Value.int .i64 76, Value.int .i64 92, Value.int .i64 108, Value.int .i64 124, Value.int .i64 172, Value.int .i64 5, Value.int .i64 21, Value.int .i64 37, Value.int .i64 53, Value.int .i64 69, Value.int .i64 29, Value.int .i64 45, Value.int .i64 61, Value.int .i64 77, Value.int .i64 6, Value.int .i64 22, Value.int .i64 7, Value.int .i64 135] : Array Value) = ar at hix ⊢
  go_loopw [5] (fun i wr => ∃ k : Nat, k ≤ 41 ∧ i = .int .i64 k ∧ wr.heap[w.heap.size + 1]? = some (.cells (arrK k) 114 (0, 0)) ∧ wr.heap[w.heap.size]? = some (.cells (arrK 0) 114 (0, 0)) ∧ Below w.heap.size w wr) (fun i _ => 41 - (intOf i).toNat)
  case atStart => exact ⟨0, by omega, rfl, heap_alloc2_new _ _ _, heap_alloc2_old _ _ _, by repeat (first | exact Below.refl _ _ | apply below_alloc)⟩
  case round =>
    obtain ⟨k, hk, rfl, hb, hb0, HB⟩ := hrel
    by_cases hlt : k < 41
    · have hd : decide ((k : Int) < 41) = true := decide_eq_true (by omega)
      have hc : wr.cell? ⟨w.heap.size + 1, codes.getD k 0, none⟩ = some (.bool ((codes.take k).contains (codes.getD k 0))) := by rw [blk_cell hb, arrK_get k _ (codes_lt k hlt)]
      have hf : wr.frozen? ⟨w.heap.size + 1, codes.getD k 0, none⟩ = false := blk_frozen hb _
      have hx := hix k hlt
      clear hix
      have hcl := codes_lt k hlt
      have hset := arrK_succ k hlt
      generalize codes.getD k 0 = c at hc hf hx hcl hset
      replace hset := Aside0.mk hset
      go_wp2
      go_roundw
      case rel => exact ⟨k + 1, by omega, by go_num, by rw [← hset.out]; exact blk_set hb c _, blk_far hb0 (by simp) _, HB.setCell (by simp) _⟩
      case measure => simp [intOf]; omega
    · obtain rfl : k = 41 := by omega
      clear hix
      have hb2 := setRow_heap wr w.heap.size (arrK 0) (arrK 41) 114 (0, 0) hb0
      have hd : decide (((41 : Nat) : Int) < 41) = false := rfl
      go_wp2_with (first | (refine wpList_load_row rfl 114 (.tmp 1) rfl (w.heap.size + 1) rfl 114 (arrK 41) (0, 0) _ hb Try.underlying114 rfl (by kernel_rfl) ?_) | (refine wpList_store_row rfl 114 (.tmp 0) (.tmp 11) rfl w.heap.size (arrK 41) rfl rfl 114 (arrK 0) hb0 (by kernel_rfl) (by simp [arrK_size]) (arrK_one _) ?_))
      refine bodyPost_ret (v := .agg (arrK 41)) (results_cell_row (p := 0) (by kernel_rfl) _ _ w.heap.size 114 (arrK 41) (0, 0) _ rfl hb2 Try.underlying114 rfl (by kernel_rfl)) rfl ⟨rfl, ?_⟩
      exact below_setRow HB (Nat.le_refl _) _
/-- is there such a code? -/
def knownB (c : Int) : Bool := decide (0 ≤ c ∧ c < 256) && codes.contains c.toNat
set_option maxRecDepth 100000 in
set_option maxHeartbeats 1000000 in
theorem Known_any (c : Int) (w : World) : Calls Try.prog 44 #[.int .i64 c] w fun e w' => e = .returned (.bool (knownB c)) ∧ Below w.heap.size w w' := by
  by_cases h0 : 0 ≤ c
  · have d0 : decide (0 ≤ c) = true := decide_eq_true h0
    by_cases h1 : c < 256
    · have d1 : decide (c < 256) = true := decide_eq_true h1
      have hr : codes.contains c.toNat = knownB c := by simp [knownB, h0, h1]
      have hg : (arrK 41)[c.toNat]? = some (.bool (knownB c)) := by rw [arrK_get 41 _ (by omega), List.take_of_length_le (by decide), hr]
      clear hr
      go_enter Try.func44, Try.ntmps44
      go_wp2_with (first | (go_at_call 93; refine (known_any _).mono ?_; rintro e w1 ⟨rfl, hb1⟩) | (refine wpList_store_row rfl 114 (.tmp 3) (.tmp 4) rfl _ (arrK 41) rfl rfl 114 _ (heap_alloc_new _ _) (by kernel_rfl) (by simp [arrK_size]) (arrK_one _) ?_; rw [World.setRow_alloc_new]))
      go_ret
      exact ⟨rfl, below_alloc hb1 _⟩
    · have d1 : decide (c < 256) = false := decide_eq_false h1
      have hr : knownB c = false := by simp [knownB, h1]
      rw [hr]
      clear hr
      go_enter Try.func44, Try.ntmps44
      go_wp2_with (first | (go_at_call 93; refine (known_any _).mono ?_; rintro e w1 ⟨rfl, hb1⟩) | (refine wpList_store_row rfl 114 (.tmp 3) (.tmp 4) rfl _ (arrK 41) rfl rfl 114 _ (heap_alloc_new _ _) (by kernel_rfl) (by simp [arrK_size]) (arrK_one _) ?_; rw [World.setRow_alloc_new]))
      go_ret
      exact ⟨rfl, below_alloc hb1 _⟩
  · have d0 : decide (0 ≤ c) = false := decide_eq_false h0
    have hr : knownB c = false := by simp [knownB, h0]
    rw [hr]
    clear hr
    go_enter Try.func44, Try.ntmps44
    go_wp2_with (first | (go_at_call 93; refine (known_any _).mono ?_; rintro e w1 ⟨rfl, hb1⟩) | (refine wpList_store_row rfl 114 (.tmp 3) (.tmp 4) rfl _ (arrK 41) rfl rfl 114 _ (heap_alloc_new _ _) (by kernel_rfl) (by simp [arrK_size]) (arrK_one _) ?_; rw [World.setRow_alloc_new]))
    go_ret
    exact ⟨rfl, below_alloc hb1 _⟩
def insn_Known.f (a0 : Int) : Option Bool := some (knownB a0)
end Go.Proofs.Ytefkhcijgiagdaa.HKnown
end
section
namespace Go.Proofs.Ytefkhcijgiagdaa.I1
open Go.RowKit Go.Proofs.YtefkhcijgiagdaaW.PrintWords Go.Proofs.YtefkhcijgiagdaaW.PrintLast Go.Proofs.YtefkhcijgiagdaaW.PrintMore
attribute [local go_sem] max2_int min2_int max_two min_two max_three min_three max_four min_four IntKind.wrap_u32 IntKind.wrap_u8   -- for this text's walks alone
set_option linter.unusedVariables false
open Go.Proofs.Ytefkhcijgiagdaa.Le Go.Proofs.Ytefkhcijgiagdaa.HKnown
set_option linter.unusedSimpArgs false
def errW : Option Int → Value
  | none => .nilIface
  | some c => .iface 0 (.int .i64 c)
theorem errW_none : errW none = .nilIface := rfl
theorem errW_some (c : Int) : errW (some c) = .iface 0 (.int .i64 c) := rfl
theorem info28 : (Try.prog.info? 28).map (fun i => (i.zero, i.size, i.bytes)) = some (some (.agg #[(.int .i64 0), (.int .i64 0), (.int .i64 0), (.int .u32 0)]), 4, 32) := by kernel_rfl
structure S28 where
  f0 : Int
  f1 : Int
  f2 : Int
  f3 : Int
def z28 : S28 := ⟨(0 : Int), (0 : Int), (0 : Int), (0 : Int)⟩
def k28 : Kd S28 := Kd.iso (Kd.pair (Kd.int .i64) (Kd.pair (Kd.int .i64) (Kd.pair (Kd.int .i64) (Kd.int .u32)))) (fun x : S28 => (x.f0, x.f1, x.f2, x.f3))
theorem k28_heap : Kd.Heap k28 := Kd.heap_iso _ (Kd.heap_pair (Kd.heap_int .i64) (Kd.heap_pair (Kd.heap_int .i64) (Kd.heap_pair (Kd.heap_int .i64) (Kd.heap_int .u32))))
theorem k28_open {w : World} {x : S28} {cs : List Value} (h : k28.K w x cs) : cs = [.int .i64 x.f0, .int .i64 x.f1, .int .i64 x.f2, .int .u32 x.f3] := by
  obtain ⟨_, _, rfl, rfl, ⟨_, _, rfl, rfl, ⟨_, _, rfl, rfl, rfl⟩⟩⟩ := h
  exact rfl
theorem k28_mkM (w : World) (base : Nat) (ok : Nat → Prop) (x : S28)  : k28.M w base ok x [.int .i64 x.f0, .int .i64 x.f1, .int .i64 x.f2, .int .u32 x.f3] := ⟨[.int .i64 x.f0], [.int .i64 x.f1, .int .i64 x.f2, .int .u32 x.f3], rfl, rfl, ⟨[.int .i64 x.f1], [.int .i64 x.f2, .int .u32 x.f3], rfl, rfl, ⟨[.int .i64 x.f2], [.int .u32 x.f3], rfl, rfl, rfl⟩⟩⟩
def rd_T28 (xs : List S28) (i : Int) : S28 := xs.getD i.toNat z28
theorem at_T28 {w : World} {A : Option Addr} {n : Nat} {xs : List S28} (h : Kd.C k28 w A n xs) (i : Int) (h0 : 0 ≤ i) (h1 : i < n) : ∃ ad , A = some ad ∧ w.cell? (ad.add (i.toNat * 4)) = some (.int .i64 (rd_T28 xs i).f0) ∧ w.cell? ⟨(ad.add (i.toNat * 4)).block, (ad.add (i.toNat * 4)).off + 1, none⟩ = some (.int .i64 (rd_T28 xs i).f1) ∧ w.cell? ⟨(ad.add (i.toNat * 4)).block, (ad.add (i.toNat * 4)).off + 2, none⟩ = some (.int .i64 (rd_T28 xs i).f2) ∧ w.cell? ⟨(ad.add (i.toNat * 4)).block, (ad.add (i.toNat * 4)).off + 3, none⟩ = some (.int .u32 (rd_T28 xs i).f3) := by
  obtain ⟨ad, c, e, _, hK, hc0⟩ := Kd.C_get h z28 i h0 h1
  have hc : ∀ j u, c[j]? = some u → w.cell? (ad.add (i.toNat * 4 + j)) = some u := hc0
  obtain rfl := k28_open hK
  exact ⟨ad, e, hc 0 _ rfl, by rw [← add_field _ _ 1 (by omega)]; exact hc 1 _ rfl, by rw [← add_field _ _ 2 (by omega)]; exact hc 2 _ rfl, by rw [← add_field _ _ 3 (by omega)]; exact hc 3 _ rfl⟩
end Go.Proofs.Ytefkhcijgiagdaa.I1
end
section
namespace Go.Proofs.Ytefkhcijgiagdaa.I1
open Go.RowKit Go.Proofs.YtefkhcijgiagdaaW.PrintWords Go.Proofs.YtefkhcijgiagdaaW.PrintLast Go.Proofs.YtefkhcijgiagdaaW.PrintMore
attribute [local go_sem] max2_int min2_int max_two min_two max_three min_three max_four min_four IntKind.wrap_u32 IntKind.wrap_u8   -- for this text's walks alone
set_option linter.unusedVariables false
open Go.Proofs.Ytefkhcijgiagdaa.Le Go.Proofs.Ytefkhcijgiagdaa.HKnown
set_option linter.unusedSimpArgs false
def insn_Get.f (k : Nat) (a0 : ByteArray) : Option (Int × Int × Int × Int × Int) := if (a0.size : Int) = 8 then ((le_Get.f k a0 0 2).bind fun bt102 => ((le_Get.f k a0 4 4).bind fun bt105 => (if 2 < (a0.size : Int) then (if 3 < (a0.size : Int) then ((insn_Known.f (wrap64 (bt102.1))).bind fun t109 => (if t109 = true then (some (wrap64 (bt102.1), wrap64 (bt a0 2), wrap64 (bt a0 3), (bt105.1) % 4294967296, 0)) else (some (0, 0, 0, 0, 50)))) else (none)) else (none)))) else (some (0, 0, 0, 0, 50))
end Go.Proofs.Ytefkhcijgiagdaa.I1
end
section
namespace Go.Proofs.Ytefkhcijgiagdaa.I1
open Go.RowKit Go.Proofs.YtefkhcijgiagdaaW.PrintWords Go.Proofs.YtefkhcijgiagdaaW.PrintLast Go.Proofs.YtefkhcijgiagdaaW.PrintMore
attribute [local go_sem] max2_int min2_int max_two min_two max_three min_three max_four min_four IntKind.wrap_u32 IntKind.wrap_u8   -- for this text's walks alone
set_option linter.unusedVariables false
open Go.Proofs.Ytefkhcijgiagdaa.Le Go.Proofs.Ytefkhcijgiagdaa.HKnown
set_option linter.unusedSimpArgs false
def doorwardref10_Known.j0 : Nat → Int → Bool → Option (Bool)
  | 0, _, _ => none
  | k + 1, x0, x11 => if x11 = true then (some false) else (if (Int.tmod x0 8) = 0 then (if x0 = 32 then (some true) else (if x0 = 128 then (some true) else (if x0 = 0 then (some true) else (some (x0 == 96))))) else (if (Int.tmod x0 8) = 1 then (if x0 = 1 then (some true) else (if x0 = 97 then (some true) else (some (x0 == 129)))) else (if (Int.tmod x0 8) = 2 then (some (x0 == 2)) else (if (Int.tmod x0 8) = 3 then (some (x0 == 3)) else (if (Int.tmod x0 8) = 4 then (if (wrap64 (Int.tdiv (Int.tmod (wrap64 (Int.tdiv x0 8)) 32) 2)) = 8 then (some ((Int.tmod (Int.tmod (wrap64 (Int.tdiv x0 8)) 32) 2) == 0)) else (if (wrap64 (Int.tdiv (Int.tmod (wrap64 (Int.tdiv x0 8)) 32) 2)) ≤ 7 then (some true) else (some ((wrap64 (Int.tdiv (Int.tmod (wrap64 (Int.tdiv x0 8)) 32) 2)) == 10)))) else (if (Int.tmod x0 8) = 5 then (if (wrap64 (Int.tdiv (Int.tmod (wrap64 (Int.tdiv x0 8)) 32) 2)) ≥ 1 then (if (wrap64 (Int.tdiv (Int.tmod (wrap64 (Int.tdiv x0 8)) 32) 2)) ≤ 4 then (some true) else (if (wrap64 (Int.tdiv (Int.tmod (wrap64 (Int.tdiv x0 8)) 32) 2)) = 0 then (some ((Int.tmod (Int.tmod (wrap64 (Int.tdiv x0 8)) 32) 2) == 0)) else (some false))) else (if (wrap64 (Int.tdiv (Int.tmod (wrap64 (Int.tdiv x0 8)) 32) 2)) = 0 then (some ((Int.tmod (Int.tmod (wrap64 (Int.tdiv x0 8)) 32) 2) == 0)) else (some false))) else (if (Int.tmod x0 8) = 6 then (if x0 = 6 then (some true) else (some (x0 == 22))) else (if x0 = 7 then (some true) else (some (x0 == 135))))))))))
def doorwardref10_Known.f (k : Nat) (a0 : Int) : Option (Bool) := if a0 < 0 then (doorwardref10_Known.j0 k a0 true) else (doorwardref10_Known.j0 k a0 (decide (a0 > 255)))
theorem doorwardref10_Known.mono_l : ∀ k, (∀ y0 y1, LeO (doorwardref10_Known.j0 k y0 y1) (doorwardref10_Known.j0 (k + 1) y0 y1))
  | 0 => fun _ _ r h => by simp [doorwardref10_Known.j0] at h
  | k + 1 => by
    have ih0 := doorwardref10_Known.mono_l k
    · intro y0 y1
      unfold doorwardref10_Known.j0
      repeat' first
      | (with_reducible exact ih0 _ _)
      | (with_reducible exact LeO.refl _)
      | (with_reducible exact LeO.none _)
      | (with_reducible refine LeO.ite ?_ ?_)
      | (with_reducible refine LeO.bind ?_ (fun _ => ?_))
      | exact ih0 _ _
      | exact LeO.none _
      | refine LeO.ite ?_ ?_
      | refine LeO.bind ?_ (fun _ => ?_)
theorem doorwardref10_Known.mono : ∀ a0 k, LeO (doorwardref10_Known.f k a0) (doorwardref10_Known.f (k + 1) a0) := by
  intro a0 k
  have ih0 := doorwardref10_Known.mono_l k
  unfold doorwardref10_Known.f
  repeat' first
      | (with_reducible exact ih0 _ _)
      | (with_reducible exact LeO.refl _)
      | (with_reducible exact LeO.none _)
      | (with_reducible refine LeO.ite ?_ ?_)
      | (with_reducible refine LeO.bind ?_ (fun _ => ?_))
      | exact ih0 _ _
      | exact LeO.none _
      | refine LeO.ite ?_ ?_
      | refine LeO.bind ?_ (fun _ => ?_)
set_option maxHeartbeats 8000000 in
set_option maxRecDepth 100000 in
theorem doorwardref10_Known.calls (k : Nat) (a0 : Int) (r : Bool) (w : World) (h : doorwardref10_Known.f k a0 = some r) :
    Calls Try.prog 45 #[.int .i64 a0] w fun e w' => e = .returned (.bool r) ∧ Drawn0 w w' := by
  have H : (if a0 < 0 then (doorwardref10_Known.j0 k a0 true) else (doorwardref10_Known.j0 k a0 (decide (a0 > 255)))) = some r := h
  clear h
  have HC2 := Aside0.mk H
  clear H
  go_enter Try.func45, Try.ntmps45
  go_upto_region 1 with (fail)
  go_cut [11] (fun v11 wc => ∃ (kq : Nat) (x11_1 : Bool), v11 = .bool x11_1 ∧ Aside0 (doorwardref10_Known.j0 kq a0 x11_1 = some r) ∧ Aside0 (kq ≤ k) ∧ Drawn0 w wc)
  case first =>
    have H := HC2.out
    clear HC2
    by_cases c3 : a0 < 0
    · rw [if_pos c3] at H
      have c3b0 : decide (a0 < 0) = true := decide_eq_true c3
      clear c3
      (first | rw [c3b0] | (simp only [i64_w, i32_w]; rw [c3b0]) | skip)
      have H' := Aside0.mk H
      clear H
      go_wp2
      go_meet
      case rel => exact ⟨_, (true), (by first | rfl | (simp; done) | (simp [*]; done)), H', ⟨by first | omega | exact Nat.le_refl _⟩, by repeat (first | exact Drawn0.refl _ | apply Drawn0.step)⟩
    · rw [if_neg c3] at H
      have c3b0 : decide (a0 < 0) = false := decide_eq_false c3
      clear c3
      (first | rw [c3b0] | (simp only [i64_w, i32_w]; rw [c3b0]) | skip)
      have H' := Aside0.mk H
      clear H
      go_wp2
      go_meet
      case rel => exact ⟨_, (decide (a0 > 255)), (by first | rfl | (simp; done) | (simp [*]; done)), H', ⟨by first | omega | exact Nat.le_refl _⟩, by repeat (first | exact Drawn0.refl _ | apply Drawn0.step)⟩
  case rest =>
    clear HC2
    try clear p2
    try clear c3
    try clear c3b0
    obtain ⟨kq, x11_1, rfl, HA, HJ1, ⟨mc1, rfl⟩⟩ := hcut
    cases kq with
    | zero => exact absurd HA.out (by simp [doorwardref10_Known.j0])
    | succ kj1 =>
      have H := HA.out
      clear HA
      simp only [doorwardref10_Known.j0] at H
      by_cases c4 : x11_1 = true
      · subst c4
        have H1 : (some false) = some r := by rw [if_pos rfl] at H; exact H
        clear H
        have H := H1
        clear H1
        obtain rfl := Option.some.inj H
        go_wp2
        go_ret
        exact ⟨by first | rfl | (simp; done) | (simp [*]; done), by repeat (first | exact Drawn0.refl _ | apply Drawn0.step)⟩
      · replace c4 := Bool.eq_false_iff.mpr c4
        subst c4
        have H1 : (if (Int.tmod a0 8) = 0 then (if a0 = 32 then (some true) else (if a0 = 128 then (some true) else (if a0 = 0 then (some true) else (some (a0 == 96))))) else (if (Int.tmod a0 8) = 1 then (if a0 = 1 then (some true) else (if a0 = 97 then (some true) else (some (a0 == 129)))) else (if (Int.tmod a0 8) = 2 then (some (a0 == 2)) else (if (Int.tmod a0 8) = 3 then (some (a0 == 3)) else (if (Int.tmod a0 8) = 4 then (if (wrap64 (Int.tdiv (Int.tmod (wrap64 (Int.tdiv a0 8)) 32) 2)) = 8 then (some ((Int.tmod (Int.tmod (wrap64 (Int.tdiv a0 8)) 32) 2) == 0)) else (if (wrap64 (Int.tdiv (Int.tmod (wrap64 (Int.tdiv a0 8)) 32) 2)) ≤ 7 then (some true) else (some ((wrap64 (Int.tdiv (Int.tmod (wrap64 (Int.tdiv a0 8)) 32) 2)) == 10)))) else (if (Int.tmod a0 8) = 5 then (if (wrap64 (Int.tdiv (Int.tmod (wrap64 (Int.tdiv a0 8)) 32) 2)) ≥ 1 then (if (wrap64 (Int.tdiv (Int.tmod (wrap64 (Int.tdiv a0 8)) 32) 2)) ≤ 4 then (some true) else (if (wrap64 (Int.tdiv (Int.tmod (wrap64 (Int.tdiv a0 8)) 32) 2)) = 0 then (some ((Int.tmod (Int.tmod (wrap64 (Int.tdiv a0 8)) 32) 2) == 0)) else (some false))) else (if (wrap64 (Int.tdiv (Int.tmod (wrap64 (Int.tdiv a0 8)) 32) 2)) = 0 then (some ((Int.tmod (Int.tmod (wrap64 (Int.tdiv a0 8)) 32) 2) == 0)) else (some false))) else (if (Int.tmod a0 8) = 6 then (if a0 = 6 then (some true) else (some (a0 == 22))) else (if a0 = 7 then (some true) else (some (a0 == 135)))))))))) = some r := by rw [if_neg (show ¬ (false = true) by decide)] at H; exact H
        clear H
        have H := H1
        clear H1
        by_cases c5 : (Int.tmod a0 8) = 0
        · rw [if_pos c5] at H
          have c5b0 : ((Int.tmod a0 8) == 0) = true := beq_iff_eq.mpr c5
          have c5b1 : ((Int.tmod a0 8) != 0) = false := bne_eq_false_iff_eq.mpr c5
          clear c5
          by_cases c6 : a0 = 32
          · rw [if_pos c6] at H
            have c6b0 : (a0 == 32) = true := beq_iff_eq.mpr c6
            have c6b1 : (a0 != 32) = false := bne_eq_false_iff_eq.mpr c6
            clear c6
            obtain rfl := Option.some.inj H
            go_wp2
            go_ret
            exact ⟨by first | rfl | (simp; done) | (simp [*]; done), by repeat (first | exact Drawn0.refl _ | apply Drawn0.step)⟩
          · rw [if_neg c6] at H
            have c6b0 : (a0 == 32) = false := beq_eq_false_iff_ne.mpr c6
            have c6b1 : (a0 != 32) = true := bne_iff_ne.mpr c6
            by_cases c7 : a0 = 128
            · rw [if_pos c7] at H
              have c7b0 : (a0 == 128) = true := beq_iff_eq.mpr c7
              have c7b1 : (a0 != 128) = false := bne_eq_false_iff_eq.mpr c7
              clear c7
              obtain rfl := Option.some.inj H
              go_wp2
              go_ret
              exact ⟨by first | rfl | (simp; done) | (simp [*]; done), by repeat (first | exact Drawn0.refl _ | apply Drawn0.step)⟩
            · rw [if_neg c7] at H
              have c7b0 : (a0 == 128) = false := beq_eq_false_iff_ne.mpr c7
              have c7b1 : (a0 != 128) = true := bne_iff_ne.mpr c7
              by_cases c8 : a0 = 0
              · rw [if_pos c8] at H
                have c8b0 : (a0 == 0) = true := beq_iff_eq.mpr c8
                have c8b1 : (a0 != 0) = false := bne_eq_false_iff_eq.mpr c8
                clear c8
                obtain rfl := Option.some.inj H
                go_wp2
                go_ret
                exact ⟨by first | rfl | (simp; done) | (simp [*]; done), by repeat (first | exact Drawn0.refl _ | apply Drawn0.step)⟩
              · rw [if_neg c8] at H
                have c8b0 : (a0 == 0) = false := beq_eq_false_iff_ne.mpr c8
                have c8b1 : (a0 != 0) = true := bne_iff_ne.mpr c8
                obtain rfl := Option.some.inj H
                go_wp2
                go_ret
                exact ⟨by first | rfl | (simp; done) | (simp [*]; done), by repeat (first | exact Drawn0.refl _ | apply Drawn0.step)⟩
        · rw [if_neg c5] at H
          have c5b0 : ((Int.tmod a0 8) == 0) = false := beq_eq_false_iff_ne.mpr c5
          have c5b1 : ((Int.tmod a0 8) != 0) = true := bne_iff_ne.mpr c5
          by_cases c9 : (Int.tmod a0 8) = 1
          · rw [if_pos c9] at H
            have c9b0 : ((Int.tmod a0 8) == 1) = true := beq_iff_eq.mpr c9
            have c9b1 : ((Int.tmod a0 8) != 1) = false := bne_eq_false_iff_eq.mpr c9
            clear c9
            by_cases c10 : a0 = 1
            · rw [if_pos c10] at H
              have c10b0 : (a0 == 1) = true := beq_iff_eq.mpr c10
              have c10b1 : (a0 != 1) = false := bne_eq_false_iff_eq.mpr c10
              clear c10
              obtain rfl := Option.some.inj H
              go_wp2
              go_ret
              exact ⟨by first | rfl | (simp; done) | (simp [*]; done), by repeat (first | exact Drawn0.refl _ | apply Drawn0.step)⟩
            · rw [if_neg c10] at H
              have c10b0 : (a0 == 1) = false := beq_eq_false_iff_ne.mpr c10
              have c10b1 : (a0 != 1) = true := bne_iff_ne.mpr c10
              by_cases c11 : a0 = 97
              · rw [if_pos c11] at H
                have c11b0 : (a0 == 97) = true := beq_iff_eq.mpr c11
                have c11b1 : (a0 != 97) = false := bne_eq_false_iff_eq.mpr c11
                clear c11
                obtain rfl := Option.some.inj H
                go_wp2
                go_ret
                exact ⟨by first | rfl | (simp; done) | (simp [*]; done), by repeat (first | exact Drawn0.refl _ | apply Drawn0.step)⟩
              · rw [if_neg c11] at H
                have c11b0 : (a0 == 97) = false := beq_eq_false_iff_ne.mpr c11
                have c11b1 : (a0 != 97) = true := bne_iff_ne.mpr c11
                obtain rfl := Option.some.inj H
                go_wp2
                go_ret
                exact ⟨by first | rfl | (simp; done) | (simp [*]; done), by repeat (first | exact Drawn0.refl _ | apply Drawn0.step)⟩
          · rw [if_neg c9] at H
            have c9b0 : ((Int.tmod a0 8) == 1) = false := beq_eq_false_iff_ne.mpr c9
            have c9b1 : ((Int.tmod a0 8) != 1) = true := bne_iff_ne.mpr c9
            by_cases c12 : (Int.tmod a0 8) = 2
            · rw [if_pos c12] at H
              have c12b0 : ((Int.tmod a0 8) == 2) = true := beq_iff_eq.mpr c12
              have c12b1 : ((Int.tmod a0 8) != 2) = false := bne_eq_false_iff_eq.mpr c12
              clear c12
              obtain rfl := Option.some.inj H
              go_wp2
              go_ret
              exact ⟨by first | rfl | (simp; done) | (simp [*]; done), by repeat (first | exact Drawn0.refl _ | apply Drawn0.step)⟩
            · rw [if_neg c12] at H
              have c12b0 : ((Int.tmod a0 8) == 2) = false := beq_eq_false_iff_ne.mpr c12
              have c12b1 : ((Int.tmod a0 8) != 2) = true := bne_iff_ne.mpr c12
              by_cases c13 : (Int.tmod a0 8) = 3
              · rw [if_pos c13] at H
                have c13b0 : ((Int.tmod a0 8) == 3) = true := beq_iff_eq.mpr c13
                have c13b1 : ((Int.tmod a0 8) != 3) = false := bne_eq_false_iff_eq.mpr c13
                clear c13
                obtain rfl := Option.some.inj H
                go_wp2
                go_ret
                exact ⟨by first | rfl | (simp; done) | (simp [*]; done), by repeat (first | exact Drawn0.refl _ | apply Drawn0.step)⟩
              · rw [if_neg c13] at H
                have c13b0 : ((Int.tmod a0 8) == 3) = false := beq_eq_false_iff_ne.mpr c13
                have c13b1 : ((Int.tmod a0 8) != 3) = true := bne_iff_ne.mpr c13
                by_cases c14 : (Int.tmod a0 8) = 4
                · rw [if_pos c14] at H
                  have c14b0 : ((Int.tmod a0 8) == 4) = true := beq_iff_eq.mpr c14
                  have c14b1 : ((Int.tmod a0 8) != 4) = false := bne_eq_false_iff_eq.mpr c14
                  clear c14
                  by_cases c15 : (wrap64 (Int.tdiv (Int.tmod (wrap64 (Int.tdiv a0 8)) 32) 2)) = 8
                  · rw [if_pos c15] at H
                    have c15b0 : ((wrap64 (Int.tdiv (Int.tmod (wrap64 (Int.tdiv a0 8)) 32) 2)) == 8) = true := beq_iff_eq.mpr c15
                    have c15b1 : ((wrap64 (Int.tdiv (Int.tmod (wrap64 (Int.tdiv a0 8)) 32) 2)) != 8) = false := bne_eq_false_iff_eq.mpr c15
                    clear c15
                    obtain rfl := Option.some.inj H
                    go_wp2
                    go_ret
                    exact ⟨by first | rfl | (simp; done) | (simp [*]; done), by repeat (first | exact Drawn0.refl _ | apply Drawn0.step)⟩
                  · rw [if_neg c15] at H
                    have c15b0 : ((wrap64 (Int.tdiv (Int.tmod (wrap64 (Int.tdiv a0 8)) 32) 2)) == 8) = false := beq_eq_false_iff_ne.mpr c15
                    have c15b1 : ((wrap64 (Int.tdiv (Int.tmod (wrap64 (Int.tdiv a0 8)) 32) 2)) != 8) = true := bne_iff_ne.mpr c15
                    by_cases c16 : (wrap64 (Int.tdiv (Int.tmod (wrap64 (Int.tdiv a0 8)) 32) 2)) ≤ 7
                    · rw [if_pos c16] at H
                      have c16b0 : decide ((wrap64 (Int.tdiv (Int.tmod (wrap64 (Int.tdiv a0 8)) 32) 2)) ≤ 7) = true := decide_eq_true c16
                      clear c16
                      obtain rfl := Option.some.inj H
                      go_wp2
                      go_ret
                      exact ⟨by first | rfl | (simp; done) | (simp [*]; done), by repeat (first | exact Drawn0.refl _ | apply Drawn0.step)⟩
                    · rw [if_neg c16] at H
                      have c16b0 : decide ((wrap64 (Int.tdiv (Int.tmod (wrap64 (Int.tdiv a0 8)) 32) 2)) ≤ 7) = false := decide_eq_false c16
                      clear c16
                      obtain rfl := Option.some.inj H
                      go_wp2
                      go_ret
                      exact ⟨by first | rfl | (simp; done) | (simp [*]; done), by repeat (first | exact Drawn0.refl _ | apply Drawn0.step)⟩
                · rw [if_neg c14] at H
                  have c14b0 : ((Int.tmod a0 8) == 4) = false := beq_eq_false_iff_ne.mpr c14
                  have c14b1 : ((Int.tmod a0 8) != 4) = true := bne_iff_ne.mpr c14
                  by_cases c17 : (Int.tmod a0 8) = 5
                  · rw [if_pos c17] at H
                    have c17b0 : ((Int.tmod a0 8) == 5) = true := beq_iff_eq.mpr c17
                    have c17b1 : ((Int.tmod a0 8) != 5) = false := bne_eq_false_iff_eq.mpr c17
                    clear c17
                    by_cases c18 : (wrap64 (Int.tdiv (Int.tmod (wrap64 (Int.tdiv a0 8)) 32) 2)) ≥ 1
                    · rw [if_pos c18] at H
                      have c18b0 : decide (1 ≤ (wrap64 (Int.tdiv (Int.tmod (wrap64 (Int.tdiv a0 8)) 32) 2))) = true := decide_eq_true c18
                      clear c18
                      by_cases c19 : (wrap64 (Int.tdiv (Int.tmod (wrap64 (Int.tdiv a0 8)) 32) 2)) ≤ 4
                      · rw [if_pos c19] at H
                        have c19b0 : decide ((wrap64 (Int.tdiv (Int.tmod (wrap64 (Int.tdiv a0 8)) 32) 2)) ≤ 4) = true := decide_eq_true c19
                        clear c19
                        obtain rfl := Option.some.inj H
                        go_wp2
                        go_ret
                        exact ⟨by first | rfl | (simp; done) | (simp [*]; done), by repeat (first | exact Drawn0.refl _ | apply Drawn0.step)⟩
                      · rw [if_neg c19] at H
                        have c19b0 : decide ((wrap64 (Int.tdiv (Int.tmod (wrap64 (Int.tdiv a0 8)) 32) 2)) ≤ 4) = false := decide_eq_false c19
                        clear c19
                        by_cases c20 : (wrap64 (Int.tdiv (Int.tmod (wrap64 (Int.tdiv a0 8)) 32) 2)) = 0
                        · rw [if_pos c20] at H
                          have c20b0 : ((wrap64 (Int.tdiv (Int.tmod (wrap64 (Int.tdiv a0 8)) 32) 2)) == 0) = true := beq_iff_eq.mpr c20
                          have c20b1 : ((wrap64 (Int.tdiv (Int.tmod (wrap64 (Int.tdiv a0 8)) 32) 2)) != 0) = false := bne_eq_false_iff_eq.mpr c20
                          clear c20
                          obtain rfl := Option.some.inj H
                          go_wp2
                          go_ret
                          exact ⟨by first | rfl | (simp; done) | (simp [*]; done), by repeat (first | exact Drawn0.refl _ | apply Drawn0.step)⟩
                        · rw [if_neg c20] at H
                          have c20b0 : ((wrap64 (Int.tdiv (Int.tmod (wrap64 (Int.tdiv a0 8)) 32) 2)) == 0) = false := beq_eq_false_iff_ne.mpr c20
                          have c20b1 : ((wrap64 (Int.tdiv (Int.tmod (wrap64 (Int.tdiv a0 8)) 32) 2)) != 0) = true := bne_iff_ne.mpr c20
                          obtain rfl := Option.some.inj H
                          go_wp2
                          go_ret
                          exact ⟨by first | rfl | (simp; done) | (simp [*]; done), by repeat (first | exact Drawn0.refl _ | apply Drawn0.step)⟩
                    · rw [if_neg c18] at H
                      have c18b0 : decide (1 ≤ (wrap64 (Int.tdiv (Int.tmod (wrap64 (Int.tdiv a0 8)) 32) 2))) = false := decide_eq_false c18
                      clear c18
                      by_cases c21 : (wrap64 (Int.tdiv (Int.tmod (wrap64 (Int.tdiv a0 8)) 32) 2)) = 0
                      · rw [if_pos c21] at H
                        have c21b0 : ((wrap64 (Int.tdiv (Int.tmod (wrap64 (Int.tdiv a0 8)) 32) 2)) == 0) = true := beq_iff_eq.mpr c21
                        have c21b1 : ((wrap64 (Int.tdiv (Int.tmod (wrap64 (Int.tdiv a0 8)) 32) 2)) != 0) = false := bne_eq_false_iff_eq.mpr c21
                        clear c21
                        obtain rfl := Option.some.inj H
                        go_wp2
                        go_ret
                        exact ⟨by first | rfl | (simp; done) | (simp [*]; done), by repeat (first | exact Drawn0.refl _ | apply Drawn0.step)⟩
                      · rw [if_neg c21] at H
                        have c21b0 : ((wrap64 (Int.tdiv (Int.tmod (wrap64 (Int.tdiv a0 8)) 32) 2)) == 0) = false := beq_eq_false_iff_ne.mpr c21
                        have c21b1 : ((wrap64 (Int.tdiv (Int.tmod (wrap64 (Int.tdiv a0 8)) 32) 2)) != 0) = true := bne_iff_ne.mpr c21
                        obtain rfl := Option.some.inj H
                        go_wp2
                        go_ret
                        exact ⟨by first | rfl | (simp; done) | (simp [*]; done), by repeat (first | exact Drawn0.refl _ | apply Drawn0.step)⟩
                  · rw [if_neg c17] at H
                    have c17b0 : ((Int.tmod a0 8) == 5) = false := beq_eq_false_iff_ne.mpr c17
                    have c17b1 : ((Int.tmod a0 8) != 5) = true := bne_iff_ne.mpr c17
                    by_cases c22 : (Int.tmod a0 8) = 6
                    · rw [if_pos c22] at H
                      have c22b0 : ((Int.tmod a0 8) == 6) = true := beq_iff_eq.mpr c22
                      have c22b1 : ((Int.tmod a0 8) != 6) = false := bne_eq_false_iff_eq.mpr c22
                      clear c22
                      by_cases c23 : a0 = 6
                      · rw [if_pos c23] at H
                        have c23b0 : (a0 == 6) = true := beq_iff_eq.mpr c23
                        have c23b1 : (a0 != 6) = false := bne_eq_false_iff_eq.mpr c23
                        clear c23
                        obtain rfl := Option.some.inj H
                        go_wp2
                        go_ret
                        exact ⟨by first | rfl | (simp; done) | (simp [*]; done), by repeat (first | exact Drawn0.refl _ | apply Drawn0.step)⟩
                      · rw [if_neg c23] at H
                        have c23b0 : (a0 == 6) = false := beq_eq_false_iff_ne.mpr c23
                        have c23b1 : (a0 != 6) = true := bne_iff_ne.mpr c23
                        obtain rfl := Option.some.inj H
                        go_wp2
                        go_ret
                        exact ⟨by first | rfl | (simp; done) | (simp [*]; done), by repeat (first | exact Drawn0.refl _ | apply Drawn0.step)⟩
                    · rw [if_neg c22] at H
                      have c22b0 : ((Int.tmod a0 8) == 6) = false := beq_eq_false_iff_ne.mpr c22
                      have c22b1 : ((Int.tmod a0 8) != 6) = true := bne_iff_ne.mpr c22
                      by_cases c24 : a0 = 7
                      · rw [if_pos c24] at H
                        have c24b0 : (a0 == 7) = true := beq_iff_eq.mpr c24
                        have c24b1 : (a0 != 7) = false := bne_eq_false_iff_eq.mpr c24
                        clear c24
                        obtain rfl := Option.some.inj H
                        go_wp2
                        go_ret
                        exact ⟨by first | rfl | (simp; done) | (simp [*]; done), by repeat (first | exact Drawn0.refl _ | apply Drawn0.step)⟩
                      · rw [if_neg c24] at H
                        have c24b0 : (a0 == 7) = false := beq_eq_false_iff_ne.mpr c24
                        have c24b1 : (a0 != 7) = true := bne_iff_ne.mpr c24
                        obtain rfl := Option.some.inj H
                        go_wp2
                        go_ret
                        exact ⟨by first | rfl | (simp; done) | (simp [*]; done), by repeat (first | exact Drawn0.refl _ | apply Drawn0.step)⟩
def doorwardref01_Number.l0 : Nat → ByteArray → Int → Int → Option (Int)
  | 0, _, _, _ => none
  | k + 1, x0, x3, x4 => if x4 ≥ 0 then (if 0 ≤ x4 then (if x4 < (x0.size : Int) then (doorwardref01_Number.l0 k x0 (IntKind.u64.wrap ((IntKind.u64.wrap (256 * x3)) + (IntKind.u64.wrap (bt x0 x4)))) (wrap64 (x4 - 1))) else (none)) else (none)) else (some x3)
def doorwardref01_Number.f (k : Nat) (a0 : ByteArray) : Option (Int) := doorwardref01_Number.l0 k a0 0 (wrap64 ((a0.size : Int) - 1))
set_option maxHeartbeats 8000000 in
set_option maxRecDepth 100000 in
theorem doorwardref01_Number.calls (k : Nat) (a0 : ByteArray) (r : Int) (w : World) (h : doorwardref01_Number.f k a0 = some r) :
    Calls Try.prog 94 #[.string a0] w fun e w' => e = .returned (.int .u64 r) ∧ Drawn0 w w' := by
  have H : (doorwardref01_Number.l0 k a0 0 (wrap64 ((a0.size : Int) - 1))) = some r := h
  clear h
  have H' := Aside0.mk H
  clear H
  go_enter Try.func94, Try.ntmps94
  go_wp2
  go_loopg [3, 4] k (fun kq v3 v4 w' => ∃ (x3_1 : Int) (x4_1 : Int), v3 = .int .u64 x3_1 ∧ v4 = .int .i64 x4_1 ∧ Aside0 (doorwardref01_Number.l0 kq a0 x3_1 x4_1 = some r) ∧ Aside0 (kq ≤ k) ∧ Drawn0 w w')
  case atStart => exact ⟨(0), (wrap64 ((a0.size : Int) - 1)), (by first | rfl | (simp; done) | (simp [*]; done)), (by first | rfl | (simp; done) | (simp [*]; done)), H', ⟨Nat.le_refl _⟩, by repeat (first | exact Drawn0.refl _ | apply Drawn0.step)⟩
  case round =>
    clear H'
    obtain ⟨x3_1, x4_1, rfl, rfl, HA, HK1, ⟨m1, rfl⟩⟩ := hrel
    cases gk with
    | zero => exact absurd HA.out (by simp [doorwardref01_Number.l0])
    | succ k1 =>
      have H := HA.out
      clear HA
      simp only [doorwardref01_Number.l0] at H
      by_cases c2 : x4_1 ≥ 0
      · rw [if_pos c2] at H
        have c2b0 : decide (0 ≤ x4_1) = true := decide_eq_true c2
        clear c2
        by_cases c3 : 0 ≤ x4_1
        · rw [if_pos c3] at H
          have c3b0 : decide (0 ≤ x4_1) = true := decide_eq_true c3
          clear c3
          by_cases c4 : x4_1 < (a0.size : Int)
          · rw [if_pos c4] at H
            have c4b0 : decide (x4_1 < (a0.size : Int)) = true := decide_eq_true c4
            clear c4
            have H' := Aside0.mk H
            clear H
            have p5 : 0 ≤ (x4_1 : Int) := of_decide_eq_true (by first | (with_reducible assumption) | assumption)
            have q5 : x4_1 < (a0.size : Int) := of_decide_eq_true (by first | (with_reducible assumption) | assumption)
            have hx5 := bt_at a0 x4_1
            replace p5 := eq_true p5
            replace q5 := eq_true q5
            go_wp2
            go_roundg k1
            case measure => have := HK1.out; omega
            case rel => exact ⟨(IntKind.u64.wrap ((IntKind.u64.wrap (256 * x3_1)) + (IntKind.u64.wrap (bt a0 x4_1)))), (wrap64 (x4_1 - 1)), (by first | rfl | (simp; done) | (simp [*]; done)), (by first | rfl | (simp; done) | (simp [*]; done)), H', ⟨by have := HK1.out; omega⟩, by repeat (first | exact Drawn0.refl _ | apply Drawn0.step)⟩
          · rw [if_neg c4] at H
            exact absurd H (by simp)
        · rw [if_neg c3] at H
          exact absurd H (by simp)
      · rw [if_neg c2] at H
        have c2b0 : decide (0 ≤ x4_1) = false := decide_eq_false c2
        clear c2
        obtain rfl := Option.some.inj H
        go_wp2
        go_ret
        exact ⟨by first | rfl | (simp; done) | (simp [*]; done), by repeat (first | exact Drawn0.refl _ | apply Drawn0.step)⟩
end Go.Proofs.Ytefkhcijgiagdaa.I1
end
section
namespace Go.Proofs.Ytefkhcijgiagdaa.E1
open Go.RowKit Go.Proofs.YtefkhcijgiagdaaW.PrintWords Go.Proofs.YtefkhcijgiagdaaW.PrintLast Go.Proofs.YtefkhcijgiagdaaW.PrintMore
attribute [local go_sem] max2_int min2_int max_two min_two max_three min_three max_four min_four IntKind.wrap_u32 IntKind.wrap_u8   -- for this text's walks alone
set_option linter.unusedVariables false
open Go.Proofs.Ytefkhcijgiagdaa.Le Go.Proofs.Ytefkhcijgiagdaa.HKnown Go.Proofs.Ytefkhcijgiagdaa.I1
set_option linter.unusedSimpArgs false
def errW : Option Int → Value
  | none => .nilIface
  | some c => .iface 0 (.int .i64 c)
theorem errW_none : errW none = .nilIface := rfl
theorem errW_some (c : Int) : errW (some c) = .iface 0 (.int .i64 c) := rfl
structure S40 where
  f0 : Int
  f1 : Int
  f2 : Int
  f3 : Int
def k40 : Kd S40 := Kd.iso (Kd.pair (Kd.int .i64) (Kd.pair (Kd.int .u32) (Kd.pair (Kd.int .i64) (Kd.int .i64)))) (fun x : S40 => (x.f0, x.f1, x.f2, x.f3))
end Go.Proofs.Ytefkhcijgiagdaa.E1
end
section
namespace Go.Proofs.Ytefkhcijgiagdaa.HAsm
open Go.RowKit Go.Proofs.YtefkhcijgiagdaaW.PrintWords Go.Proofs.YtefkhcijgiagdaaW.PrintLast Go.Proofs.YtefkhcijgiagdaaW.PrintMore Go.Proofs.Ytefkhcijgiagdaa.I1 Go.Proofs.Ytefkhcijgiagdaa.E1
set_option linter.unusedVariables false
set_option linter.unusedSimpArgs false
set_option maxRecDepth 100000
theorem law3 : Maps.Keyed Try.prog 3 := Maps.int_keyed Try.underlying3
theorem zero3 (w : World) : (zeroValue 3).run Try.prog w = .ok (.int .i64 0) w := by kernel_rfl
def MapIs (w : World) (b n : Nat) (L : Int → Option Int) : Prop :=
  ∃ D : DataW Unit, w.ownsMap Try.prog 3 (plainElem Try.prog 3) b n D ∧ Maps.IsMap D ∧ ∀ (k : Int) (z : DataW Unit), D.atKey (.int .i64 k) z = match L k with | some v => .lit (.int .i64 v) | none => z
theorem MapIs.lt {w : World} {b n : Nat} {L : Int → Option Int} (h : MapIs w b n L) : b < w.heap.size := by obtain ⟨D, h, _⟩ := h; exact h.lt
theorem MapIs.kept {w w' : World} {b n : Nat} {L : Int → Option Int} (h : MapIs w b n L) (he : w'.heap[b]? = w.heap[b]?) : MapIs w' b n L := by
  obtain ⟨D, ⟨es, clock, hb, F, hs, hD⟩, h2⟩ := h
  exact ⟨D, ⟨es, clock, he.trans hb, F, hs, hD⟩, h2⟩
theorem MapIs.look {w : World} {b n : Nat} {L : Int → Option Int} (h : MapIs w b n L) (k : Int) (hk : (Lit.int .i64 k).wf = true) :
    (Instr.lookup 105 (.map (some b)) (.int .i64 k) true).run Try.prog w = .ok (.tuple #[.int .i64 ((L k).getD 0), .bool (L k).isSome]) w := by
  obtain ⟨D, ho, hm, hat⟩ := h
  obtain ⟨v, ps, hrun, hv⟩ := ho.look_ok (t := 105) (e := 3) law3 Try.underlying105 (zero3 w) (plainElem_int Try.underlying3 (by decide)) (Maps.keyOf_int_mk Try.underlying3 hk)
  rw [hrun]
  have e1 : Maps.has D (.int .i64 k) = (L k).isSome := by
    cases hL : L k with
    | none => exact Maps.has_false_of_atKey (fun z => by rw [hat, hL])
    | some x => exact Maps.has_true_of_atKey (y := .lit (.int .i64 x)) (fun z => by rw [hat, hL])
  have e2 : v = .int .i64 ((L k).getD 0) := by
    obtain ⟨c, rfl, hc, _⟩ := plainElem_int_inv Try.underlying3 hv
    rw [hat] at hc
    cases hL : L k with
    | none => rw [hL] at hc; cases hc; rfl
    | some x => rw [hL] at hc; cases hc; rfl
  rw [e1, e2]
theorem MapIs.store {w : World} {b n : Nat} {L : Int → Option Int} (h : MapIs w b n L) (hn : n < 1000000) (k v : Int) (hk : (Lit.int .i64 k).wf = true) (hv : (Lit.int .i64 v).wf = true) :
    ∃ w', (Instr.mapUpdate 105 (.map (some b)) (.int .i64 k) (.int .i64 v)).run Try.prog w = .ok () w' ∧ MapIs w' b (n + 1) (fun x => if x = k then some v else L x) ∧ w.grownBy w' (some b) := by
  obtain ⟨D, ho, hm, hat⟩ := h
  obtain ⟨w', hrun, ho', hg⟩ := ho.update (t := 105) (e := 3) law3 Try.underlying105 (by unfold maxLen; omega) (Maps.keyOf_int_mk Try.underlying3 hk) (plainElem_int Try.underlying3 hv)
  refine ⟨w', hrun, ⟨_, ho', hm.put _ _, fun x z => ?_⟩, hg⟩
  by_cases hx : x = k
  · subst hx
    show _ = match (if x = x then some v else L x) with | some v => _ | none => _
    rw [if_pos rfl, Maps.atKey_put_same hm (show WideAt.IsKeyLit (.int .i64 x) from trivial)]
  · show _ = match (if x = k then some v else L x) with | some v => _ | none => _
    rw [if_neg hx, Maps.atKey_put_other (fun e => hx (by cases e; rfl)), hat]
structure Fr (B : Nat) (w w' : World) : Prop where
  bel : Below B w w'
  keep : ∀ (g t : Nat) (cs : Array Value), t ≠ 28 → t ≠ 107 → w.heap[g]? = some (Obj.cells cs t (0, 0)) → w'.heap[g]? = some (Obj.cells cs t (0, 0))
theorem Fr.refl (B : Nat) (w : World) : Fr B w w := ⟨Below.refl B w, fun _ _ _ _ _ h => h⟩
theorem Fr.trans {B : Nat} {a b c : World} (h : Fr B a b) (k : Fr B b c) : Fr B a c := ⟨h.bel.trans k.bel, fun g t cs h1 h2 h3 => k.keep g t cs h1 h2 (h.keep g t cs h1 h2 h3)⟩
theorem Fr.alloc {B : Nat} {a w : World} (h : Fr B a w) (hB : B ≤ w.heap.size) (o : Obj) : Fr B a (w.alloc o) :=
  ⟨h.bel.alloc hB o, fun g t cs h1 h2 h3 => (Below.heap_alloc w o g (Array.getElem?_eq_some_iff.1 (h.keep g t cs h1 h2 h3)).1).trans (h.keep g t cs h1 h2 h3)⟩
theorem Fr.drew {B : Nat} {a w : World} (h : Fr B a w) : Fr B a w.drew := ⟨h.bel.drew, h.keep⟩
theorem Fr.of_below {B : Nat} {a w w' : World} (h : Fr B a w) (hB : B ≤ w.heap.size) (k : Below w.heap.size w w') : Fr B a w' :=
  ⟨below_then h.bel hB k, fun g t cs h1 h2 h3 => (k.block g (Array.getElem?_eq_some_iff.1 (h.keep g t cs h1 h2 h3)).1).trans (h.keep g t cs h1 h2 h3)⟩
theorem Fr.setCell {B : Nat} {a w : World} (h : Fr B a w) {g : Nat} (hB : B ≤ g) {cs : Array Value} (hg : w.heap[g]? = some (Obj.cells cs 107 (0, 0))) (j : Nat) (u : Value) : Fr B a (w.setCell ⟨g, j, none⟩ u) :=
  ⟨h.bel.setCell hB u, fun k t cs' h1 h2 h3 => by
    have h4 := h.keep k t cs' h1 h2 h3
    refine (Below.heap_setCell w ⟨g, j, none⟩ u k ?_).trans h4
    rintro rfl
    rw [hg] at h4; injection h4 with h4; injection h4 with _ h4; exact h2 h4.symm⟩
theorem Fr.grown {B : Nat} {a w w' : World} {row : Option Nat} (h : Fr B a w) (hg : w.grownBy w' row) (hB : B ≤ w.heap.size) (hr : ∀ k, row = some k → B ≤ k ∧ ∀ t cs, t ≠ 28 → w.heap[k]? ≠ some (Obj.cells cs t (0, 0))) : Fr B a w' :=
  ⟨h.bel.grown hg hB (fun k hk => (hr k hk).1), fun k t cs h1 h2 h3 => by
    have h4 := h.keep k t cs h1 h2 h3
    refine (hg.block k (Array.getElem?_eq_some_iff.1 h4).1 ?_).trans h4
    intro hk
    exact (hr k hk.symm).2 t cs h1 h4⟩
structure St (w : World) (B Wb Mb : Nat) (A : Option Addr) (cap : Nat) (xs : List S28) (L : Int → Option Int) (n : Nat) (bad : Bool) : Prop where
  hW : w.heap[Wb]? = some (.cells #[.slice A xs.length cap, .map (some Mb), .bool bad] 107 (0, 0))
  hR : Kd.R k28 28 w B (fun _ => True) (.slice A xs.length cap) xs
  hM : MapIs w Mb n L
  bW : B ≤ Wb
  bM : B ≤ Mb
theorem St.lt {w : World} {B Wb Mb : Nat} {A : Option Addr} {cap : Nat} {xs : List S28} {L : Int → Option Int} {n : Nat} {bad : Bool} (h : St w B Wb Mb A cap xs L n bad) : Wb < w.heap.size :=
  (Array.getElem?_eq_some_iff.1 h.hW).1
/-- A world in which all blocks stand as they did. -/
theorem St.below {w w' : World} {B Wb Mb : Nat} {A : Option Addr} {cap : Nat} {xs : List S28} {L : Int → Option Int} {n : Nat} {bad : Bool} (h : St w B Wb Mb A cap xs L n bad) (hb : Below w.heap.size w w') : St w' B Wb Mb A cap xs L n bad :=
  ⟨(hb.block _ h.lt).trans h.hW, Kd.R_below h.hR hb, h.hM.kept (hb.block _ h.hM.lt), h.bW, h.bM⟩
theorem St.ne {w : World} {B Wb Mb : Nat} {A : Option Addr} {cap : Nat} {xs : List S28} {L : Int → Option Int} {n : Nat} {bad : Bool} (h : St w B Wb Mb A cap xs L n bad) : Mb ≠ Wb := by
  rintro rfl
  obtain ⟨D, ⟨es, clock, hb, _⟩, _⟩ := h.hM
  rw [h.hW] at hb; cases hb
theorem hInfo28 : (Try.prog.info? 28).map (fun i => (i.zero, i.size, i.bytes)) = some (some (.agg #[(.int .i64 0), (.int .i64 0), (.int .i64 0), (.int .u32 0)]), 4, 32) := by kernel_rfl
/-- append, one cell's struct, as a step of a region that draws: behind the draw. -/
theorem append_step {P : Program} {ops : Array Oper} {o : Oper} {a : Act} {Q : Exit → Act → World → Prop} {Kc : Act → World → Prop} {α : Type} (d : Kd α) {W : World} (base : Nat) (hgd : o.guard = none) (s x : Operand) (t e : TypeId) (z : Value) (bytes : Nat)
    (ho : o.op = .call { callee := .builtin .append, args := #[s, x], argTypes := #[t, t] })
    (ht : P.underlying t = some (.slice e)) (hinfo : (P.info? e).map (fun i => (i.zero, i.size, i.bytes)) = some (some z, d.sz, bytes)) (hz : z.cells.size = d.sz) (hs0 : 0 < d.sz) (hb0 : 0 < bytes)
    (v : Value) (xs : List α) (p : α) (cs : List Value) (hs : a.eval s = v) (hx : a.eval x = .slice (some ⟨W.heap.size, 0, none⟩) 1 1) (hp : d.M W base (fun _ => False) p cs)
    (HO : d.R e W base (fun _ => True) v xs) (hbase : base ≤ W.heap.size) (hl : (xs.length + 1) * bytes ≤ 140737488355328)
    (h : ∀ v1 w1, d.R e w1 base (fun _ => True) v1 (xs ++ [p]) → Below base W w1 → W.grownBy w1 v.ownBlock → Kc (a.put o.dst v1) w1) :
    if Region.wanted o (yielded ops a.tmps) = true then Oper.wp P o a (W.alloc (.cells cs.toArray e)).drew Kc Q else Kc (a.put o.dst undef) (W.alloc (.cells cs.toArray e)).drew := by
  have hw : Region.wanted o (yielded ops a.tmps) = true := by simp [Region.wanted, hgd]
  exact Kd.R_append_step d (w0 := W) (W := W.drew) base hw s x t e z bytes ho ht hinfo hz hs0 hb0 v xs p cs (fun _ => True) (fun _ => False) hs hx (d.M_move (fun k hk => hk.elim) hp) (fun _ hk => hk.elim) (fun _ _ => trivial) (Kd.R_move HO (fun _ _ => rfl)) (Below.refl _ _).drew hbase hl (fun v1 w1 h1 h2 h3 _ => h v1 w1 h1 h2 ⟨h3.os, h3.tape, h3.output, h3.size, h3.block⟩)
theorem St.put {w0 w w1 : World} {B Wb Mb : Nat} {A A1 : Option Addr} {cap c1 : Nat} {xs : List S28} {L : Int → Option Int} {n : Nat} {bad : Bool} {x : S28} (hb0 : Fr B w0 w) (h : St w B Wb Mb A cap xs L n bad)
    (hR1 : Kd.R k28 28 w1 B (fun _ => True) (.slice A1 (xs ++ [x]).length c1) (xs ++ [x])) (hB1 : Below B w w1) (hg1 : w.grownBy w1 (Value.slice A xs.length cap).ownBlock) :
    Fr B w0 (w1.setCell ⟨Wb, 0, none⟩ (.slice A1 (xs.length + 1) c1)) ∧ St (w1.setCell ⟨Wb, 0, none⟩ (.slice A1 (xs.length + 1) c1)) B Wb Mb A1 c1 (xs ++ [x]) L n bad := by
  have e : (xs ++ [x]).length = xs.length + 1 := by simp
  have hWb := (hg1.block Wb h.lt (Kd.R_ne h.hR h.hW (by decide))).trans h.hW
  have hMb : w1.heap[Mb]? = w.heap[Mb]? := by
    refine hg1.block Mb h.hM.lt ?_
    intro hk
    obtain ⟨D, ⟨es, clock, hb, _⟩, _⟩ := h.hM
    obtain ⟨inner, ho⟩ := Kd.R_own h.hR
    obtain ⟨cells, hc⟩ := own_typed ho Mb hk.symm
    rw [hc] at hb; cases hb
  have hrow : ∀ k, (Value.slice A xs.length cap).ownBlock = some k → B ≤ k ∧ ∀ t cs, t ≠ 28 → w.heap[k]? ≠ some (.cells cs t (0, 0)) := by
    intro k hk
    obtain ⟨inner, ho⟩ := Kd.R_own h.hR
    obtain ⟨cells, hc⟩ := own_typed ho k hk
    refine ⟨own_base ho k hk, fun t cs ht hc2 => ?_⟩
    rw [hc] at hc2; injection hc2 with hc2; injection hc2 with _ hc2; exact ht hc2.symm
  have hBw : B ≤ w.heap.size := Nat.le_of_lt (Nat.lt_of_le_of_lt h.bW h.lt)
  refine ⟨(hb0.grown hg1 hBw hrow).setCell h.bW hWb 0 _, ?_, ?_, ?_, h.bW, h.bM⟩
  · have := blk_set hWb 0 (.slice A1 (xs.length + 1) c1)
    rw [e]; exact this
  · exact Kd.R_set hR1 hWb (by decide) 0 _
  · refine MapIs.kept (h.hM.kept hMb) ?_
    exact Below.heap_setCell _ _ _ _ h.ne
set_option maxHeartbeats 2000000 in
theorem put_c {w : World} {B Wb Mb : Nat} {A : Option Addr} {cap : Nat} {xs : List S28} {L : Int → Option Int} {n : Nat} {bad : Bool} (h : St w B Wb Mb A cap xs L n bad) (x : S28) (hl : xs.length ≤ 1000000) :
    Calls Try.prog 124 #[.pointer (some ⟨Wb, 0, none⟩), .agg #[.int .i64 x.f0, .int .i64 x.f1, .int .i64 x.f2, .int .u32 x.f3]] w fun e w' => e = .returned (.tuple #[]) ∧ Fr B w w' ∧ ∃ A' cap', St w' B Wb Mb A' cap' (xs ++ [x]) L n bad := by
  have hu107 := Try.underlying107
  have hu28 := Try.underlying28
  have hlt := h.lt
  have c0 : w.cell? ⟨Wb, 0, none⟩ = some (.slice A xs.length cap) := blk_cell h.hW 0
  have hh := Aside0.mk h
  have hx0 := Aside0.mk (h.below (below_alloc (Below.refl _ _) (.cells #[.int .i64 x.f0, .int .i64 x.f1, .int .i64 x.f2, .int .u32 x.f3] 28)))
  have hl' := Aside0.mk hl
  have hBw := Aside0.mk (show B ≤ w.heap.size from Nat.le_of_lt (Nat.lt_of_le_of_lt h.bW hlt))
  clear h hl
  go_enter Try.func124, Try.ntmps124
  go_wp2
  go_region_law (refine append_step k28 (W := (w.alloc (.cells #[.int .i64 x.f0, .int .i64 x.f1, .int .i64 x.f2, .int .u32 x.f3] 28))) B rfl (.tmp 8) (.tmp 10) 34 28 _ 32 rfl Try.underlying34 hInfo28 rfl (by decide) (by decide) (.slice A xs.length cap) xs x [.int .i64 x.f0, .int .i64 x.f1, .int .i64 x.f2, .int .u32 x.f3] (by simp [Act.eval, Act.put]) (by simp [Act.eval, Act.put]) (k28_mkM _ _ _ x) hx0.out.hR (Nat.le_of_lt (Nat.lt_of_le_of_lt hx0.out.bW hx0.out.lt)) (by have := hl'.out; omega) ?_; intro v1 w1 hR1 hB1 hg1; obtain ⟨A1, c1, rfl⟩ := Kd.R_slice hR1; have HF := Aside0.mk (St.put (Fr.alloc (Fr.refl B w) hBw.out _) hx0.out hR1 hB1 hg1); have hWb := (hg1.block Wb hx0.out.lt (Kd.R_ne hx0.out.hR hx0.out.hW (by decide))).trans hx0.out.hW; have f1 := blk_frozen hWb 0; have c1_ : w1.cell? ⟨Wb, 0, none⟩ = some (.slice A xs.length cap) := blk_cell hWb 0; clear hWb hR1 hB1 hg1)
  all_goals (go_wp2; go_end0; exact ⟨rfl, HF.out.1, _, _, HF.out.2⟩)
theorem St.setBad {w : World} {B Wb Mb : Nat} {A : Option Addr} {cap : Nat} {xs : List S28} {L : Int → Option Int} {n : Nat} {bad : Bool} (h : St w B Wb Mb A cap xs L n bad) (b : Bool) : Fr B w (w.setCell ⟨Wb, 2, none⟩ (.bool b)) ∧ St (w.setCell ⟨Wb, 2, none⟩ (.bool b)) B Wb Mb A cap xs L n b :=
  ⟨(Fr.refl B w).setCell h.bW h.hW 2 _, blk_set h.hW 2 (.bool b), Kd.R_set h.hR h.hW (by decide) 2 _, h.hM.kept (Below.heap_setCell _ _ _ _ h.ne), h.bW, h.bM⟩
theorem St.alloc {w : World} {B Wb Mb : Nat} {A : Option Addr} {cap : Nat} {xs : List S28} {L : Int → Option Int} {n : Nat} {bad : Bool} (h : St w B Wb Mb A cap xs L n bad) (o : Obj) : St (w.alloc o) B Wb Mb A cap xs L n bad := h.below (below_alloc (Below.refl _ _) _)
theorem St.base {w : World} {B Wb Mb : Nat} {A : Option Addr} {cap : Nat} {xs : List S28} {L : Int → Option Int} {n : Nat} {bad : Bool} (h : St w B Wb Mb A cap xs L n bad) : B ≤ w.heap.size := Nat.le_of_lt (Nat.lt_of_le_of_lt h.bW h.lt)
theorem new_blk (w : World) (a : Addr) (v : Value) (o : Obj) : ((w.setCell a v).alloc o).heap[w.heap.size]? = some o := by
  have e : (w.setCell a v).heap.size = w.heap.size := by simp [World.setCell]
  have := heap_alloc_new (w.setCell a v) o
  rw [e] at this; exact this
/-- A jump: its instruction, and whether its label is unknown. -/
def goI (xs : List S28) (L : Int → Option Int) (label : Int) : S28 := ⟨5, 0, 0, (wrap64 ((xs.length : Int) - (L label).getD 0)) % 4294967296⟩
set_option maxHeartbeats 2000000 in
theorem goes_c {w : World} {B Wb Mb : Nat} {A : Option Addr} {cap : Nat} {xs : List S28} {L : Int → Option Int} {n : Nat} {bad : Bool} (h : St w B Wb Mb A cap xs L n bad) (label : Int) (hk : (Lit.int .i64 label).wf = true) (hl : xs.length ≤ 1000000) :
    Calls Try.prog 125 #[.pointer (some ⟨Wb, 0, none⟩), .int .i64 label] w fun e w' => e = .returned (.agg #[.int .i64 5, .int .i64 0, .int .i64 0, .int .u32 ((wrap64 ((xs.length : Int) - (L label).getD 0)) % 4294967296)]) ∧ Fr B w w' ∧ St w' B Wb Mb A cap xs L n (bad || !(L label).isSome) := by
  have hu107 := Try.underlying107
  have hu28 := Try.underlying28
  have hlt := h.lt
  have c0 : w.cell? ⟨Wb, 0, none⟩ = some (.slice A xs.length cap) := blk_cell h.hW 0
  have c1 : w.cell? ⟨Wb, 1, none⟩ = some (.map (some Mb)) := blk_cell h.hW 1
  have c2 : w.cell? ⟨Wb, 2, none⟩ = some (.bool bad) := blk_cell h.hW 2
  have f2 := blk_frozen h.hW 2
  have hlook := fun o => (h.below (below_alloc (Below.refl w.heap.size w) o)).hM.look label hk
  have HF := Aside0.mk (fun (b : Bool) (o : Obj) => (⟨((h.setBad b).1.alloc (h.setBad b).2.base o), (h.setBad b).2.alloc o⟩ : Fr B w ((w.setCell ⟨Wb, 2, none⟩ (.bool b)).alloc o) ∧ St ((w.setCell ⟨Wb, 2, none⟩ (.bool b)).alloc o) B Wb Mb A cap xs L n b))
  clear h
  generalize hat : (L label).getD 0 = at_ at hlook ⊢
  generalize his : (L label).isSome = is at hlook ⊢
  clear hat his
  cases bad
  · go_enter Try.func125, Try.ntmps125
    go_wp2
    refine bodyPost_ret (v := .agg #[.int .i64 5, .int .i64 0, .int .i64 0, .int .u32 ((wrap64 ((xs.length : Int) - at_)) % 4294967296)]) (results_cell_row (p := 4) (by kernel_rfl) _ _ w.heap.size 28 #[.int .i64 5, .int .i64 0, .int .i64 0, .int .u32 ((wrap64 ((xs.length : Int) - at_)) % 4294967296)] (0, 0) _ rfl (new_blk _ _ _ _) Try.underlying28 rfl (by kernel_rfl)) rfl ⟨rfl, (HF.out (!is) _).1, (HF.out (!is) _).2⟩
  · go_enter Try.func125, Try.ntmps125
    go_wp2
    refine bodyPost_ret (v := .agg #[.int .i64 5, .int .i64 0, .int .i64 0, .int .u32 ((wrap64 ((xs.length : Int) - at_)) % 4294967296)]) (results_cell_row (p := 4) (by kernel_rfl) _ _ w.heap.size 28 #[.int .i64 5, .int .i64 0, .int .i64 0, .int .u32 ((wrap64 ((xs.length : Int) - at_)) % 4294967296)] (0, 0) _ rfl (new_blk _ _ _ _) Try.underlying28 rfl (by kernel_rfl)) rfl ⟨rfl, (HF.out true _).1, (HF.out true _).2⟩
end Go.Proofs.Ytefkhcijgiagdaa.HAsm
end
section
namespace Go.Proofs.Ytefkhcijgiagdaa.HAsm
open Go.RowKit Go.Proofs.YtefkhcijgiagdaaW.PrintWords Go.Proofs.YtefkhcijgiagdaaW.PrintLast Go.Proofs.YtefkhcijgiagdaaW.PrintMore Go.Proofs.Ytefkhcijgiagdaa.I1 Go.Proofs.Ytefkhcijgiagdaa.E1
set_option linter.unusedVariables false
set_option linter.unusedSimpArgs false
set_option maxRecDepth 100000
def codeB (k : Int) : Int := if k = 3 then 21 else if k = 4 then 37 else 53
theorem code_c (k : Int) (w : World) : Calls Try.prog 126 #[.int .i64 k] w fun e w' => e = .returned (.int .i64 (codeB k)) ∧ Below w.heap.size w w' := by
  unfold codeB
  split
  · subst_vars
    go_enter Try.func126, Try.ntmps126
    go_wp2
    go_ret
    exact ⟨rfl, Below.refl _ _⟩
  · split
    · subst_vars
      go_enter Try.func126, Try.ntmps126
      go_wp2
      go_ret
      exact ⟨rfl, Below.refl _ _⟩
    · go_enter Try.func126, Try.ntmps126
      go_wp2
      go_ret
      exact ⟨rfl, Below.refl _ _⟩
/-- The writer, as it is told of. -/
structure WS where
  xs : List S28
  L : Int → Option Int
  n : Nat
  bad : Bool
def WS.put (s : WS) (x : S28) : WS := ⟨s.xs ++ [x], s.L, s.n, s.bad⟩
def WS.go (s : WS) (label : Int) : WS := ⟨s.xs ++ [goI s.xs s.L label], s.L, s.n, s.bad || !(s.L label).isSome⟩
def stepS (s : WS) (o : S40) : WS :=
  if o.f0 = 1 then s.put ⟨32, 0, 0, o.f1⟩
  else if o.f0 = 2 then s.put ⟨84, 0, 0, o.f1⟩
  else if o.f0 = 3 ∨ o.f0 = 4 ∨ o.f0 = 5 then ((s.go o.f3).go o.f2).put ⟨codeB o.f0, 0, 1, o.f1⟩
  else if o.f0 = 6 then ⟨s.xs, fun x => if x = o.f2 then some (s.xs.length : Int) else s.L x, s.n + 1, s.bad⟩
  else if o.f0 = 7 then s.go o.f2
  else if o.f0 = 8 then s.put ⟨6, 0, 0, o.f1⟩
  else ⟨s.xs, s.L, s.n, true⟩
def StW (w : World) (B Wb Mb : Nat) (s : WS) : Prop := ∃ A cap, St w B Wb Mb A cap s.xs s.L s.n s.bad
def StepPost (w : World) (B Wb Mb : Nat) (s : WS) (e : Ending) (w' : World) : Prop := e = .returned (.tuple #[]) ∧ Fr B w w' ∧ StW w' B Wb Mb s
theorem put_w {w : World} {B Wb Mb : Nat} {s : WS} (h : StW w B Wb Mb s) (a b c d : Int) (hl : s.xs.length ≤ 1000000) :
    Calls Try.prog 124 #[.pointer (some ⟨Wb, 0, none⟩), .agg #[.int .i64 a, .int .i64 b, .int .i64 c, .int .u32 d]] w (StepPost w B Wb Mb (s.put ⟨a, b, c, d⟩)) := by
  obtain ⟨A, cap, h⟩ := h
  refine (put_c h ⟨a, b, c, d⟩ hl).mono ?_
  rintro e w' ⟨rfl, hb, A', c', h'⟩
  exact ⟨rfl, hb, A', c', h'⟩
theorem goes_w {w : World} {B Wb Mb : Nat} {s : WS} (h : StW w B Wb Mb s) (label : Int) (hk : (Lit.int .i64 label).wf = true) (hl : s.xs.length ≤ 1000000) :
    Calls Try.prog 125 #[.pointer (some ⟨Wb, 0, none⟩), .int .i64 label] w fun e w' => e = .returned (.agg #[.int .i64 5, .int .i64 0, .int .i64 0, .int .u32 (goI s.xs s.L label).f3]) ∧ Fr B w w' ∧ StW w' B Wb Mb ⟨s.xs, s.L, s.n, s.bad || !(s.L label).isSome⟩ := by
  obtain ⟨A, cap, h⟩ := h
  refine (goes_c h label hk hl).mono ?_
  rintro e w' ⟨rfl, hb, h'⟩
  exact ⟨rfl, hb, A, cap, h'⟩
theorem StW.box {w : World} {B Wb Mb : Nat} {s : WS} (h : StW w B Wb Mb s) (o : Obj) : Fr B w (w.alloc o) ∧ StW (w.alloc o) B Wb Mb s := by
  obtain ⟨A, cap, h⟩ := h
  exact ⟨(Fr.refl B w).alloc h.base o, A, cap, h.alloc o⟩
theorem StW.drew {w : World} {B Wb Mb : Nat} {s : WS} (h : StW w B Wb Mb s) : StW w.drew B Wb Mb s := by
  obtain ⟨A, cap, h⟩ := h
  exact ⟨A, cap, h.below ⟨rfl, rfl, rfl, Nat.le_refl _, fun _ _ => rfl⟩⟩
theorem StW.below {w w' : World} {B Wb Mb : Nat} {s : WS} (h : StW w B Wb Mb s) (hb : Below w.heap.size w w') : StW w' B Wb Mb s := by
  obtain ⟨A, cap, h⟩ := h
  exact ⟨A, cap, h.below hb⟩
theorem StW.base {w : World} {B Wb Mb : Nat} {s : WS} (h : StW w B Wb Mb s) : B ≤ w.heap.size := by
  obtain ⟨A, cap, h⟩ := h
  exact h.base
def StepC (o : S40) (s : WS) (B Wb Mb : Nat) (w : World) : Prop :=
  Calls Try.prog 90 #[.pointer (some ⟨Wb, 0, none⟩), .agg #[.int .i64 o.f0, .int .u32 o.f1, .int .i64 o.f2, .int .i64 o.f3]] w (StepPost w B Wb Mb (stepS s o))
set_option maxHeartbeats 2000000 in
theorem step1 {w : World} {B Wb Mb : Nat} {s : WS} (h : StW w B Wb Mb s) (o : S40) (hl : s.xs.length ≤ 999990) (ho : o.f0 = 1 ∨ o.f0 = 2 ∨ o.f0 = 8) : StepC o s B Wb Mb w := by
  obtain ⟨a, b, c, d⟩ := o
  have hu40 := Try.underlying40
  have hu28 := Try.underlying28
  have hbox := h.box (.cells #[.int .i64 a, .int .u32 b, .int .i64 c, .int .i64 d] 40)
  clear h
  rcases ho with rfl | rfl | rfl
  · go_enter Try.func90, Try.ntmps90
    go_wp2_with (go_at_call 124; refine (put_w hbox.2 _ _ _ _ (by omega)).mono ?_; rintro e w1 ⟨rfl, hb1, hs1⟩)
    go_end0
    exact ⟨rfl, hbox.1.trans hb1, hs1⟩
  · go_enter Try.func90, Try.ntmps90
    go_wp2_with (go_at_call 124; refine (put_w hbox.2 _ _ _ _ (by omega)).mono ?_; rintro e w1 ⟨rfl, hb1, hs1⟩)
    go_end0
    exact ⟨rfl, hbox.1.trans hb1, hs1⟩
  · go_enter Try.func90, Try.ntmps90
    go_wp2_with (go_at_call 124; refine (put_w hbox.2 _ _ _ _ (by omega)).mono ?_; rintro e w1 ⟨rfl, hb1, hs1⟩)
    go_end0
    exact ⟨rfl, hbox.1.trans hb1, hs1⟩
set_option maxHeartbeats 2000000 in
theorem step7 {w : World} {B Wb Mb : Nat} {s : WS} (h : StW w B Wb Mb s) (o : S40) (hl : s.xs.length ≤ 999990) (ho : o.f0 = 7) (hT : (Lit.int .i64 o.f2).wf = true) : StepC o s B Wb Mb w := by
  obtain ⟨a, b, c, d⟩ := o
  have hu40 := Try.underlying40
  have hu28 := Try.underlying28
  have hbox := h.box (.cells #[.int .i64 a, .int .u32 b, .int .i64 c, .int .i64 d] 40)
  clear h
  subst ho
  go_enter Try.func90, Try.ntmps90
  go_wp2_with (first | (go_at_call 125; refine (goes_w hbox.2 c hT (by omega)).mono ?_; rintro e w1 ⟨rfl, hb1, hs1⟩) | (go_at_call 124; refine (put_w hs1 _ _ _ _ (by simp only; omega)).mono ?_; rintro e w2 ⟨rfl, hb2, hs2⟩))
  go_end0
  exact ⟨rfl, (hbox.1.trans hb1).trans hb2, hs2⟩
set_option maxHeartbeats 2000000 in
theorem stepElse {w : World} {B Wb Mb : Nat} {s : WS} (h : StW w B Wb Mb s) (o : S40) (hl : s.xs.length ≤ 999990) (ho : o.f0 ≤ 0 ∨ 9 ≤ o.f0) : StepC o s B Wb Mb w := by
  obtain ⟨a, b, c, d⟩ := o
  have hu40 := Try.underlying40
  have hu28 := Try.underlying28
  have hu107 := Try.underlying107
  obtain ⟨A, cap, h⟩ := h
  have hlt := h.lt
  have c2 : w.cell? ⟨Wb, 2, none⟩ = some (.bool s.bad) := blk_cell h.hW 2
  have f2 := blk_frozen h.hW 2
  have HF := Aside0.mk (h.setBad true)
  have e : stepS s ⟨a, b, c, d⟩ = ⟨s.xs, s.L, s.n, true⟩ := by
    simp only at ho
    unfold stepS
    simp only
    rw [if_neg (by omega), if_neg (by omega), if_neg (by omega), if_neg (by omega), if_neg (by omega), if_neg (by omega)]
  unfold StepC
  rw [e]
  clear e h
  simp only at ho ⊢
  have n1 : ¬ a = 1 := by omega
  have n2 : ¬ a = 2 := by omega
  have n3 : ¬ a = 3 := by omega
  have n4 : ¬ a = 4 := by omega
  have n5 : ¬ a = 5 := by omega
  have n6 : ¬ a = 6 := by omega
  have n7 : ¬ a = 7 := by omega
  have n8 : ¬ a = 8 := by omega
  go_enter Try.func90, Try.ntmps90
  go_wp2
  go_end0
  exact ⟨rfl, HF.out.1.alloc HF.out.2.base _, _, _, HF.out.2.alloc _⟩
set_option maxHeartbeats 1000000 in
theorem step345 {w : World} {B Wb Mb : Nat} {s : WS} (h : StW w B Wb Mb s) (o : S40) (hl : s.xs.length ≤ 999990) (ho : o.f0 = 3 ∨ o.f0 = 4 ∨ o.f0 = 5) (hT : (Lit.int .i64 o.f2).wf = true) (hF : (Lit.int .i64 o.f3).wf = true) : StepC o s B Wb Mb w := by
  obtain ⟨a, b, c, d⟩ := o
  have hu40 := Try.underlying40
  have hu28 := Try.underlying28
  have hbox := h.box (.cells #[.int .i64 a, .int .u32 b, .int .i64 c, .int .i64 d] 40)
  have hblk := heap_alloc_new w (.cells #[.int .i64 a, .int .u32 b, .int .i64 c, .int .i64 d] 40)
  clear h
  have hcode := code_c a
  rcases ho with rfl | rfl | rfl <;>
  · have tok1 : True := trivial
    have tok2 : True := trivial
    have tok3 : True := trivial
    have tok4 : True := trivial
    go_enter Try.func90, Try.ntmps90
    go_wp2_with (first | (go_at_call 125; have _t := tok1; refine (goes_w hbox.2 d hF (by omega)).mono ?_; rintro e w1 ⟨rfl, hb1, hs1⟩; clear tok1 _t) | (go_at_call 124; have _t := tok2; refine (put_w hs1 _ _ _ _ (by simp only; omega)).mono ?_; rintro e w2 ⟨rfl, hb2, hs2⟩; have hblk2 := hb2.keep _ _ _ (by decide) (by decide) (hb1.keep _ _ _ (by decide) (by decide) hblk); have k22 := blk_cell hblk2 2; clear tok2 _t) | (go_at_call 125; have _t := tok3; refine (goes_w hs2 c hT (by simp only [WS.put, List.length_append, List.length_cons, List.length_nil]; omega)).mono ?_; rintro e w3 ⟨rfl, hb3, hs3⟩; clear tok3 _t) | (go_at_call 124; have _t := tok4; refine (put_w hs3 _ _ _ _ (by simp only [WS.put, List.length_append, List.length_cons, List.length_nil]; omega)).mono ?_; rintro e w4 ⟨rfl, hb4, hs4⟩; have hblk4 := hb4.keep _ _ _ (by decide) (by decide) (hb3.keep _ _ _ (by decide) (by decide) hblk2); have k40 := blk_cell hblk4 0; have k41 := blk_cell hblk4 1; clear tok4 _t))
    have tok5 : True := trivial
    have tok6 : True := trivial
    go_region_with (first | (go_at_call 126; have _t := tok5; refine (code_c _ _).mono ?_; rintro e w5 ⟨rfl, hb5⟩; have hblk5 := ((Fr.refl B w4).drew.of_below hs4.drew.base hb5).keep _ _ _ (by decide) (by decide) hblk4; have k51 := blk_cell hblk5 1; clear tok5 _t) | (go_at_call 124; have _t := tok6; refine (put_w (hs4.drew.below hb5) _ _ _ _ (by simp only [WS.put, List.length_append, List.length_cons, List.length_nil]; omega)).mono ?_; rintro e w6 ⟨rfl, hb6, hs6⟩; clear tok6 _t))
    all_goals
      go_end0
      exact ⟨rfl, ((((((hbox.1.trans hb1).trans hb2).trans hb3).trans hb4).drew).of_below hs4.drew.base hb5).trans hb6, hs6⟩
end Go.Proofs.Ytefkhcijgiagdaa.HAsm
end
section
namespace Go.Proofs.Ytefkhcijgiagdaa.HAsm
open Go.RowKit Go.Proofs.YtefkhcijgiagdaaW.PrintWords Go.Proofs.YtefkhcijgiagdaaW.PrintLast Go.Proofs.YtefkhcijgiagdaaW.PrintMore Go.Proofs.Ytefkhcijgiagdaa.I1 Go.Proofs.Ytefkhcijgiagdaa.E1
set_option linter.unusedVariables false
set_option linter.unusedSimpArgs false
set_option maxRecDepth 100000
theorem St.grownMap {w w1 : World} {B Wb Mb : Nat} {A : Option Addr} {cap : Nat} {xs : List S28} {L L1 : Int → Option Int} {n n1 : Nat} {bad : Bool} (h : St w B Wb Mb A cap xs L n bad)
    (hm : MapIs w1 Mb n1 L1) (hg : w.grownBy w1 (some Mb)) : Fr B w w1 ∧ St w1 B Wb Mb A cap xs L1 n1 bad := by
  have hmap : ∀ (t : Nat) (cs : Array Value), w.heap[Mb]? ≠ some (Obj.cells cs t (0, 0)) := by
    intro t cs hc
    obtain ⟨D, ⟨es, clock, hb, _⟩, _⟩ := h.hM
    rw [hc] at hb; cases hb
  refine ⟨(Fr.refl B w).grown hg h.base (fun k hk => ?_), ?_, ?_, hm, h.bW, h.bM⟩
  · cases hk; exact ⟨h.bM, fun t cs _ => hmap t cs⟩
  · exact (hg.block Wb h.lt (fun e => h.ne (by injection e with e; exact e.symm))).trans h.hW
  · refine Kd.R_mono (Kd.R_grown (Kd.R_bound h.hR) hg (fun k hk => ?_)) (fun k hk => trivial)
    obtain ⟨_, _, _, q, hq, cells, hc⟩ := hk
    intro e; injection e with e; subst e
    exact hmap q cells hc
set_option maxHeartbeats 1000000 in
theorem step6 {w : World} {B Wb Mb : Nat} {s : WS} (h : StW w B Wb Mb s) (o : S40) (hl : s.xs.length ≤ 999990) (hn : s.n < 1000000) (ho : o.f0 = 6) (hT : (Lit.int .i64 o.f2).wf = true) : StepC o s B Wb Mb w := by
  obtain ⟨a, b, c, d⟩ := o
  have hu40 := Try.underlying40
  have hu28 := Try.underlying28
  have hu107 := Try.underlying107
  obtain ⟨A, cap, h⟩ := h
  have hlt := h.lt
  have c0 : w.cell? ⟨Wb, 0, none⟩ = some (.slice A s.xs.length cap) := blk_cell h.hW 0
  have c1 : w.cell? ⟨Wb, 1, none⟩ = some (.map (some Mb)) := blk_cell h.hW 1
  subst ho
  have h1 := (h.alloc (.cells #[.int .i64 6, .int .u32 b, .int .i64 c, .int .i64 d] 40)).below (Below.refl _ _).drew
  obtain ⟨w1, hrun, hm1, hg1⟩ := h1.hM.store hn c (s.xs.length : Int) hT (WalkArith.wf_i64 (n := (s.xs.length : Int)) (by omega))
  have hF := St.grownMap h1 hm1 hg1
  have hbx := ((Fr.refl B w).alloc h.base (.cells #[.int .i64 6, .int .u32 b, .int .i64 c, .int .i64 d] 40)).drew.trans hF.1
  have hFF := Aside0.mk (show Fr B w w1 ∧ StW w1 B Wb Mb ⟨s.xs, fun x => if x = c then some (s.xs.length : Int) else s.L x, s.n + 1, s.bad⟩ from ⟨hbx, A, cap, hF.2⟩)
  clear hF hbx hm1 hg1 h1 h
  go_enter Try.func90, Try.ntmps90
  go_wp2
  go_region
  go_wp2
  go_end0
  exact ⟨rfl, hFF.out.1, hFF.out.2⟩
theorem step_c {w : World} {B Wb Mb : Nat} {s : WS} (h : StW w B Wb Mb s) (o : S40) (hl : s.xs.length ≤ 999990) (hn : s.n < 1000000) (hT : (Lit.int .i64 o.f2).wf = true) (hF : (Lit.int .i64 o.f3).wf = true) : StepC o s B Wb Mb w := by
  by_cases h1 : o.f0 = 1 ∨ o.f0 = 2 ∨ o.f0 = 8
  · exact step1 h o hl h1
  · by_cases h2 : o.f0 = 3 ∨ o.f0 = 4 ∨ o.f0 = 5
    · exact step345 h o hl h2 hT hF
    · by_cases h6 : o.f0 = 6
      · exact step6 h o hl hn h6 hT
      · by_cases h7 : o.f0 = 7
        · exact step7 h o hl h7 hT
        · exact stepElse h o hl (by omega)
end Go.Proofs.Ytefkhcijgiagdaa.HAsm
end
section
namespace Go.Proofs.Ytefkhcijgiagdaa.E2
open Go.RowKit Go.Proofs.YtefkhcijgiagdaaW.PrintWords Go.Proofs.YtefkhcijgiagdaaW.PrintLast Go.Proofs.YtefkhcijgiagdaaW.PrintMore
attribute [local go_sem] max2_int min2_int max_two min_two max_three min_three max_four min_four IntKind.wrap_u32 IntKind.wrap_u8   -- for this text's walks alone
set_option linter.unusedVariables false
open Go.Proofs.Ytefkhcijgiagdaa.Le Go.Proofs.Ytefkhcijgiagdaa.HKnown Go.Proofs.Ytefkhcijgiagdaa.I1 Go.Proofs.Ytefkhcijgiagdaa.E1 Go.Proofs.Ytefkhcijgiagdaa.HAsm
set_option linter.unusedSimpArgs false
def errW : Option Int → Value
  | none => .nilIface
  | some c => .iface 0 (.int .i64 c)
theorem errW_none : errW none = .nilIface := rfl
theorem errW_some (c : Int) : errW (some c) = .iface 0 (.int .i64 c) := rfl
end Go.Proofs.Ytefkhcijgiagdaa.E2
end
section
namespace Go.Proofs.Ytefkhcijgiagdaa.QNum
open Go.RowKit Go.Proofs.YtefkhcijgiagdaaW.PrintWords Go.Proofs.YtefkhcijgiagdaaW.PrintLast Go.Proofs.YtefkhcijgiagdaaW.PrintMore Go.Proofs.Ytefkhcijgiagdaa.QLe
set_option linter.unusedVariables false
set_option linter.unusedSimpArgs false
/-- a row of small numbers, as bytes. -/
def by8 (xs : List Int) : List UInt8 := xs.map fun n => UInt8.ofNat n.toNat
/-- the number of a row of bytes. -/
def num : List UInt8 → Int
  | [] => 0
  | c :: l => 256 * num l + (c.toNat : Int)
theorem num_nonneg : ∀ l, 0 ≤ num l
  | [] => by simp [num]
  | c :: l => by have := num_nonneg l; simp only [num]; omega
theorem num_lt : ∀ l : List UInt8, num l < 256 ^ l.length
  | [] => by simp [num]
  | c :: l => by
    have h := num_lt l
    have hc : c.toNat < 256 := c.toNat_lt
    have e : (256 : Int) ^ (c :: l).length = 256 ^ l.length * 256 := Int.pow_succ ..
    rw [e]; simp only [num]; omega
theorem num_append (l m : List UInt8) : num (l ++ m) = num l + num m * 256 ^ l.length := by
  induction l with
  | nil => simp [num]
  | cons c l ih =>
    have e : (256 : Int) ^ (c :: l).length = 256 ^ l.length * 256 := Int.pow_succ ..
    rw [List.cons_append, num, ih, num, e, Int.mul_add]
    have : 256 * (num m * 256 ^ l.length) = num m * (256 ^ l.length * 256) := by rw [Int.mul_comm 256, Int.mul_assoc]
    omega
theorem leval_num (s : ByteArray) (p : Nat) : ∀ j : Nat, p + j ≤ s.size → leval s p j = num ((s.data.toList.drop p).take j) := by
  intro j
  induction j with
  | zero => intro _; simp [leval, num]
  | succ j ih =>
    intro h
    have hl : j < (s.data.toList.drop p).length := by rw [List.length_drop, len_data]; omega
    rw [leval, ih (by omega), List.take_succ_eq_append_getElem hl, num_append]
    have e1 : ((p : Int) + (j : Int)) = ((p + j : Nat) : Int) := by omega
    have e2 : (List.take j (List.drop p s.data.toList)).length = j := by rw [List.length_take]; omega
    rw [e1, bt_data s (p + j) (by omega), e2, List.getElem_drop]
    simp [num]
theorem bt_get (s : ByteArray) (i : Nat) (h : i < s.size) : bt s i = ((s.data.toList.getD i 0).toNat : Int) := by
  rw [bt_data s i h, List.getD_eq_getElem?_getD, List.getElem?_eq_getElem (by rw [len_data]; exact h)]; rfl
theorem wf_i64 {x : Int} (h : (Lit.int .i64 x).wf = true) : -9223372036854775808 ≤ x ∧ x ≤ 9223372036854775807 := by
  simp [Lit.wf, IntKind.min, IntKind.max, IntKind.bits, IntKind.signed] at h; omega
theorem wf_u32 {x : Int} (h : (Lit.int .u32 x).wf = true) : 0 ≤ x ∧ x < 4294967296 := by
  simp [Lit.wf, IntKind.min, IntKind.max, IntKind.bits, IntKind.signed] at h; omega
end Go.Proofs.Ytefkhcijgiagdaa.QNum
end
section
namespace Go.Proofs.Ytefkhcijgiagdaa.QIn
open Go.RowKit Go.Proofs.YtefkhcijgiagdaaW.PrintWords Go.Proofs.YtefkhcijgiagdaaW.PrintLast Go.Proofs.YtefkhcijgiagdaaW.PrintMore Go.Proofs.Ytefkhcijgiagdaa.Le Go.Proofs.Ytefkhcijgiagdaa.QLe Go.Proofs.Ytefkhcijgiagdaa.QNum Go.Proofs.Ytefkhcijgiagdaa.HKnown Go.Proofs.Ytefkhcijgiagdaa.I1
set_option linter.unusedVariables false
set_option linter.unusedSimpArgs false
def bytes (a b c d : Int) : List UInt8 := by8 (leB a 2) ++ by8 (leB b 1) ++ by8 (leB c 1) ++ by8 (leB d 4)
end Go.Proofs.Ytefkhcijgiagdaa.QIn
end
section
namespace Go.Proofs.Ytefkhcijgiagdaa.V0
open Go.RowKit Go.Proofs.YtefkhcijgiagdaaW.PrintWords Go.Proofs.YtefkhcijgiagdaaW.PrintLast Go.Proofs.YtefkhcijgiagdaaW.PrintMore
attribute [local go_sem] max2_int min2_int max_two min_two max_three min_three max_four min_four IntKind.wrap_u32 IntKind.wrap_u8   -- for this text's walks alone
set_option linter.unusedVariables false
open Go.Proofs.Ytefkhcijgiagdaa.Le Go.Proofs.Ytefkhcijgiagdaa.HKnown Go.Proofs.Ytefkhcijgiagdaa.I1 Go.Proofs.Ytefkhcijgiagdaa.E1 Go.Proofs.Ytefkhcijgiagdaa.HAsm Go.Proofs.Ytefkhcijgiagdaa.E2
set_option linter.unusedSimpArgs false
def errW : Option Int → Value
  | none => .nilIface
  | some c => .iface 0 (.int .i64 c)
theorem errW_none : errW none = .nilIface := rfl
theorem errW_some (c : Int) : errW (some c) = .iface 0 (.int .i64 c) := rfl
end Go.Proofs.Ytefkhcijgiagdaa.V0
end
section
namespace Go.Proofs.Ytefkhcijgiagdaa.V0
open Go.RowKit Go.Proofs.YtefkhcijgiagdaaW.PrintWords Go.Proofs.YtefkhcijgiagdaaW.PrintLast Go.Proofs.YtefkhcijgiagdaaW.PrintMore
attribute [local go_sem] max2_int min2_int max_two min_two max_three min_three max_four min_four IntKind.wrap_u32 IntKind.wrap_u8   -- for this text's walks alone
set_option linter.unusedVariables false
open Go.Proofs.Ytefkhcijgiagdaa.Le Go.Proofs.Ytefkhcijgiagdaa.HKnown Go.Proofs.Ytefkhcijgiagdaa.I1 Go.Proofs.Ytefkhcijgiagdaa.E1 Go.Proofs.Ytefkhcijgiagdaa.HAsm Go.Proofs.Ytefkhcijgiagdaa.E2
set_option linter.unusedSimpArgs false
def vm_Word.f (k : Nat) (a0 : ByteArray) (a1 : Int) : Option (Int × Int) := if (a0.size : Int) = 64 then (if a1 < 0 then (some (0, 51)) else (if a1 > 60 then (some (0, 51)) else (if (Int.tmod a1 4) = 0 then ((le_Get.f k a0 a1 4).bind fun bt101 => (some ((bt101.1) % 4294967296, bt101.2.2))) else (some (0, 51))))) else (some (0, 52))
set_option maxHeartbeats 8000000 in
set_option maxRecDepth 100000 in
theorem vm_Word.calls (k : Nat) (a0 : ByteArray) (a1 : Int) (r1 : Int) (r2 : Int) (w : World) (h : vm_Word.f k a0 a1 = some (r1, r2)) :
    Calls Try.prog 82 #[.string a0, .int .i64 a1] w fun e w' => e = .returned (.tuple #[.int .u32 r1, .int .i64 r2]) ∧ Drawn0 w w' := by
  have H : (if (a0.size : Int) = 64 then (if a1 < 0 then (some (0, 51)) else (if a1 > 60 then (some (0, 51)) else (if (Int.tmod a1 4) = 0 then ((le_Get.f k a0 a1 4).bind fun bt101 => (some ((bt101.1) % 4294967296, bt101.2.2))) else (some (0, 51))))) else (some (0, 52))) = some (r1, r2) := h
  clear h
  by_cases c3 : (a0.size : Int) = 64
  · rw [if_pos c3] at H
    have c3b0 : ((a0.size : Int) == 64) = true := beq_iff_eq.mpr c3
    have c3b1 : ((a0.size : Int) != 64) = false := bne_eq_false_iff_eq.mpr c3
    clear c3
    by_cases c4 : a1 < 0
    · rw [if_pos c4] at H
      have c4b0 : decide (a1 < 0) = true := decide_eq_true c4
      clear c4
      simp only [Option.some.injEq, Prod.mk.injEq] at H
      obtain ⟨rfl, rfl⟩ := H
      go_enter Try.func82, Try.ntmps82
      go_wp2
      go_ret2
      exact ⟨by first | rfl | (simp; done) | (simp [*]; done), by repeat (first | exact Drawn0.refl _ | apply Drawn0.step)⟩
    · rw [if_neg c4] at H
      have c4b0 : decide (a1 < 0) = false := decide_eq_false c4
      clear c4
      by_cases c5 : a1 > 60
      · rw [if_pos c5] at H
        have c5b0 : decide (60 < a1) = true := decide_eq_true c5
        clear c5
        simp only [Option.some.injEq, Prod.mk.injEq] at H
        obtain ⟨rfl, rfl⟩ := H
        go_enter Try.func82, Try.ntmps82
        go_wp2
        go_ret2
        exact ⟨by first | rfl | (simp; done) | (simp [*]; done), by repeat (first | exact Drawn0.refl _ | apply Drawn0.step)⟩
      · rw [if_neg c5] at H
        have c5b0 : decide (60 < a1) = false := decide_eq_false c5
        clear c5
        by_cases c6 : (Int.tmod a1 4) = 0
        · rw [if_pos c6] at H
          have c6b0 : ((Int.tmod a1 4) == 0) = true := beq_iff_eq.mpr c6
          have c6b1 : ((Int.tmod a1 4) != 0) = false := bne_eq_false_iff_eq.mpr c6
          clear c6
          replace H := Option.bind_eq_some_iff.mp H
          obtain ⟨⟨t101, t102, t103⟩, A70, H⟩ := H
          replace H : (some ((t101) % 4294967296, t103)) = some (r1, r2) := H
          have A7 := Aside0.mk A70
          clear A70
          simp only [Option.some.injEq, Prod.mk.injEq] at H
          obtain ⟨rfl, rfl⟩ := H
          go_enter Try.func82, Try.ntmps82
          go_wp2_with (first | ((with_reducible refine gate_callee (f := 91) rfl ?_); refine goesL_ (some 28) rfl rfl Try.func91 (by kernel_rfl) rfl #[.string a0, .int .i64 a1, .int .i64 4] rfl (by (try simp only [List.map_toArray, List.map_cons, List.map_nil]); first | done | rfl | (simp only [List.length_drop, List.length_take]; rfl)) ?_; (with_reducible refine (le_Get.calls k a0 a1 4 t101 t102 t103 _ A7.out).mono ?_); rintro e w' ⟨rfl, ⟨nd, rfl⟩⟩; refine ⟨_, rfl, ?_⟩))
          go_ret2
          exact ⟨by first | rfl | (simp; done) | (simp [*]; done), by repeat (first | exact Drawn0.refl _ | apply Drawn0.step)⟩
        · rw [if_neg c6] at H
          have c6b0 : ((Int.tmod a1 4) == 0) = false := beq_eq_false_iff_ne.mpr c6
          have c6b1 : ((Int.tmod a1 4) != 0) = true := bne_iff_ne.mpr c6
          simp only [Option.some.injEq, Prod.mk.injEq] at H
          obtain ⟨rfl, rfl⟩ := H
          go_enter Try.func82, Try.ntmps82
          go_wp2
          go_ret2
          exact ⟨by first | rfl | (simp; done) | (simp [*]; done), by repeat (first | exact Drawn0.refl _ | apply Drawn0.step)⟩
  · rw [if_neg c3] at H
    have c3b0 : ((a0.size : Int) == 64) = false := beq_eq_false_iff_ne.mpr c3
    have c3b1 : ((a0.size : Int) != 64) = true := bne_iff_ne.mpr c3
    simp only [Option.some.injEq, Prod.mk.injEq] at H
    obtain ⟨rfl, rfl⟩ := H
    go_enter Try.func82, Try.ntmps82
    go_wp2
    go_ret2
    exact ⟨by first | rfl | (simp; done) | (simp [*]; done), by repeat (first | exact Drawn0.refl _ | apply Drawn0.step)⟩
def doorwardref11_Word.f (k : Nat) (a0 : ByteArray) (a1 : Int) : Option (Int × Int) := if (a0.size : Int) = 64 then (if a1 < 0 then (some (0, 51)) else (if a1 > 60 then (some (0, 51)) else (if (Int.tmod a1 4) = 0 then (if 0 ≤ a1 then (if a1 ≤ (wrap64 (a1 + 4)) then (if (wrap64 (a1 + 4)) ≤ (a0.size : Int) then ((doorwardref01_Number.f k (a0.extract (a1 : Int).toNat ((wrap64 (a1 + 4)) : Int).toNat)).bind fun t113 => (some ((t113) % 4294967296, 0))) else (none)) else (none)) else (none)) else (some (0, 51))))) else (some (0, 52))
set_option maxHeartbeats 8000000 in
set_option maxRecDepth 100000 in
theorem doorwardref11_Word.calls (k : Nat) (a0 : ByteArray) (a1 : Int) (r1 : Int) (r2 : Int) (w : World) (h : doorwardref11_Word.f k a0 a1 = some (r1, r2)) :
    Calls Try.prog 83 #[.string a0, .int .i64 a1] w fun e w' => e = .returned (.tuple #[.int .u32 r1, .int .i64 r2]) ∧ Drawn0 w w' := by
  have H : (if (a0.size : Int) = 64 then (if a1 < 0 then (some (0, 51)) else (if a1 > 60 then (some (0, 51)) else (if (Int.tmod a1 4) = 0 then (if 0 ≤ a1 then (if a1 ≤ (wrap64 (a1 + 4)) then (if (wrap64 (a1 + 4)) ≤ (a0.size : Int) then ((doorwardref01_Number.f k (a0.extract (a1 : Int).toNat ((wrap64 (a1 + 4)) : Int).toNat)).bind fun t113 => (some ((t113) % 4294967296, 0))) else (none)) else (none)) else (none)) else (some (0, 51))))) else (some (0, 52))) = some (r1, r2) := h
  clear h
  by_cases c3 : (a0.size : Int) = 64
  · rw [if_pos c3] at H
    have c3b0 : ((a0.size : Int) == 64) = true := beq_iff_eq.mpr c3
    have c3b1 : ((a0.size : Int) != 64) = false := bne_eq_false_iff_eq.mpr c3
    clear c3
    by_cases c4 : a1 < 0
    · rw [if_pos c4] at H
      have c4b0 : decide (a1 < 0) = true := decide_eq_true c4
      clear c4
      simp only [Option.some.injEq, Prod.mk.injEq] at H
      obtain ⟨rfl, rfl⟩ := H
      go_enter Try.func83, Try.ntmps83
      go_wp2
      go_ret2
      exact ⟨by first | rfl | (simp; done) | (simp [*]; done), by repeat (first | exact Drawn0.refl _ | apply Drawn0.step)⟩
    · rw [if_neg c4] at H
      have c4b0 : decide (a1 < 0) = false := decide_eq_false c4
      clear c4
      by_cases c5 : a1 > 60
      · rw [if_pos c5] at H
        have c5b0 : decide (60 < a1) = true := decide_eq_true c5
        clear c5
        simp only [Option.some.injEq, Prod.mk.injEq] at H
        obtain ⟨rfl, rfl⟩ := H
        go_enter Try.func83, Try.ntmps83
        go_wp2
        go_ret2
        exact ⟨by first | rfl | (simp; done) | (simp [*]; done), by repeat (first | exact Drawn0.refl _ | apply Drawn0.step)⟩
      · rw [if_neg c5] at H
        have c5b0 : decide (60 < a1) = false := decide_eq_false c5
        clear c5
        by_cases c6 : (Int.tmod a1 4) = 0
        · rw [if_pos c6] at H
          have c6b0 : ((Int.tmod a1 4) == 0) = true := beq_iff_eq.mpr c6
          have c6b1 : ((Int.tmod a1 4) != 0) = false := bne_eq_false_iff_eq.mpr c6
          clear c6
          by_cases c7 : 0 ≤ a1
          · rw [if_pos c7] at H
            have c7b0 := eq_true c7
            have c7b1 : decide (0 ≤ a1) = true := decide_eq_true c7
            clear c7
            by_cases c8 : a1 ≤ (wrap64 (a1 + 4))
            · rw [if_pos c8] at H
              have c8b0 := eq_true c8
              have c8b1 : decide (a1 ≤ (wrap64 (a1 + 4))) = true := decide_eq_true c8
              by_cases c9 : (wrap64 (a1 + 4)) ≤ (a0.size : Int)
              · rw [if_pos c9] at H
                have c9b0 := eq_true c9
                have c9b1 : decide ((wrap64 (a1 + 4)) ≤ (a0.size : Int)) = true := decide_eq_true c9
                replace H := Option.bind_eq_some_iff.mp H
                obtain ⟨t113, A100, H⟩ := H
                replace H : (some ((t113) % 4294967296, 0)) = some (r1, r2) := H
                have A10 := Aside0.mk A100
                clear A100
                simp only [Option.some.injEq, Prod.mk.injEq] at H
                obtain ⟨rfl, rfl⟩ := H
                go_enter Try.func83, Try.ntmps83
                go_wp2_with (first | ((with_reducible refine gate_callee (f := 94) rfl ?_); refine goesL_ (some 25) rfl rfl Try.func94 (by kernel_rfl) rfl #[.string (a0.extract (a1 : Int).toNat ((wrap64 (a1 + 4)) : Int).toNat)] rfl (by (try simp only [List.map_toArray, List.map_cons, List.map_nil]); first | done | rfl | (simp only [List.length_drop, List.length_take]; rfl)) ?_; (with_reducible refine (doorwardref01_Number.calls k (a0.extract (a1 : Int).toNat ((wrap64 (a1 + 4)) : Int).toNat) t113 _ A10.out).mono ?_); rintro e w' ⟨rfl, ⟨nd, rfl⟩⟩; refine ⟨_, rfl, ?_⟩))
                go_ret2
                exact ⟨by first | rfl | (simp; done) | (simp [*]; done), by repeat (first | exact Drawn0.refl _ | apply Drawn0.step)⟩
              · rw [if_neg c9] at H
                exact absurd H (by simp)
            · rw [if_neg c8] at H
              exact absurd H (by simp)
          · rw [if_neg c7] at H
            exact absurd H (by simp)
        · rw [if_neg c6] at H
          have c6b0 : ((Int.tmod a1 4) == 0) = false := beq_eq_false_iff_ne.mpr c6
          have c6b1 : ((Int.tmod a1 4) != 0) = true := bne_iff_ne.mpr c6
          simp only [Option.some.injEq, Prod.mk.injEq] at H
          obtain ⟨rfl, rfl⟩ := H
          go_enter Try.func83, Try.ntmps83
          go_wp2
          go_ret2
          exact ⟨by first | rfl | (simp; done) | (simp [*]; done), by repeat (first | exact Drawn0.refl _ | apply Drawn0.step)⟩
  · rw [if_neg c3] at H
    have c3b0 : ((a0.size : Int) == 64) = false := beq_eq_false_iff_ne.mpr c3
    have c3b1 : ((a0.size : Int) != 64) = true := bne_iff_ne.mpr c3
    simp only [Option.some.injEq, Prod.mk.injEq] at H
    obtain ⟨rfl, rfl⟩ := H
    go_enter Try.func83, Try.ntmps83
    go_wp2
    go_ret2
    exact ⟨by first | rfl | (simp; done) | (simp [*]; done), by repeat (first | exact Drawn0.refl _ | apply Drawn0.step)⟩
end Go.Proofs.Ytefkhcijgiagdaa.V0
end
section
namespace Go.Proofs.Ytefkhcijgiagdaa.V0
open Go.RowKit Go.Proofs.YtefkhcijgiagdaaW.PrintWords Go.Proofs.YtefkhcijgiagdaaW.PrintLast Go.Proofs.YtefkhcijgiagdaaW.PrintMore
attribute [local go_sem] max2_int min2_int max_two min_two max_three min_three max_four min_four IntKind.wrap_u32 IntKind.wrap_u8   -- for this text's walks alone
set_option linter.unusedVariables false
open Go.Proofs.Ytefkhcijgiagdaa.Le Go.Proofs.Ytefkhcijgiagdaa.HKnown Go.Proofs.Ytefkhcijgiagdaa.I1 Go.Proofs.Ytefkhcijgiagdaa.E1 Go.Proofs.Ytefkhcijgiagdaa.HAsm Go.Proofs.Ytefkhcijgiagdaa.E2
set_option linter.unusedSimpArgs false
def doorwardref11_two.f (a0 : Int) (a1 : Int) (a2 : Int) : Option (Int) := if a0 = 0 then (some ((a1 + a2) % 4294967296)) else (if a0 = 1 then (some ((a1 - a2) % 4294967296)) else (if a0 = 2 then (some ((a1 * a2) % 4294967296)) else (if a0 = 4 then (some (Go.bits .or .u32 a1 a2)) else (if a0 = 5 then (some (Go.bits .and .u32 a1 a2)) else (if a0 = 6 then (if 0 ≤ (IntKind.u64.wrap (Int.tmod a2 32)) then (some ((Int.tmod (shl .u64 (IntKind.u64.wrap (a1)) (IntKind.u64.wrap (Int.tmod a2 32))) 4294967296) % 4294967296)) else (none)) else (if a0 = 7 then (if 0 ≤ (IntKind.u64.wrap (Int.tmod a2 32)) then (some (shr .u32 a1 (IntKind.u64.wrap (Int.tmod a2 32)))) else (none)) else (if a0 = 10 then (some (Go.bits .xor .u32 a1 a2)) else (some ((-a1) % 4294967296)))))))))
set_option maxHeartbeats 8000000 in
set_option maxRecDepth 100000 in
theorem doorwardref11_two.calls (a0 : Int) (a1 : Int) (a2 : Int) (r : Int) (w : World) (h : doorwardref11_two.f a0 a1 a2 = some r) :
    Calls Try.prog 144 #[.int .i64 a0, .int .u32 a1, .int .u32 a2] w fun e w' => e = .returned (.int .u32 r) ∧ Drawn0 w w' := by
  have H : (if a0 = 0 then (some ((a1 + a2) % 4294967296)) else (if a0 = 1 then (some ((a1 - a2) % 4294967296)) else (if a0 = 2 then (some ((a1 * a2) % 4294967296)) else (if a0 = 4 then (some (Go.bits .or .u32 a1 a2)) else (if a0 = 5 then (some (Go.bits .and .u32 a1 a2)) else (if a0 = 6 then (if 0 ≤ (IntKind.u64.wrap (Int.tmod a2 32)) then (some ((Int.tmod (shl .u64 (IntKind.u64.wrap (a1)) (IntKind.u64.wrap (Int.tmod a2 32))) 4294967296) % 4294967296)) else (none)) else (if a0 = 7 then (if 0 ≤ (IntKind.u64.wrap (Int.tmod a2 32)) then (some (shr .u32 a1 (IntKind.u64.wrap (Int.tmod a2 32)))) else (none)) else (if a0 = 10 then (some (Go.bits .xor .u32 a1 a2)) else (some ((-a1) % 4294967296)))))))))) = some r := h
  clear h
  by_cases c4 : a0 = 0
  · rw [if_pos c4] at H
    have c4b0 : (a0 == 0) = true := beq_iff_eq.mpr c4
    have c4b1 : (a0 != 0) = false := bne_eq_false_iff_eq.mpr c4
    clear c4
    obtain rfl := Option.some.inj H
    go_enter Try.func144, Try.ntmps144
    go_wp2
    go_ret
    exact ⟨by first | rfl | (simp; done) | (simp [*]; done), by repeat (first | exact Drawn0.refl _ | apply Drawn0.step)⟩
  · rw [if_neg c4] at H
    have c4b0 : (a0 == 0) = false := beq_eq_false_iff_ne.mpr c4
    have c4b1 : (a0 != 0) = true := bne_iff_ne.mpr c4
    by_cases c5 : a0 = 1
    · rw [if_pos c5] at H
      have c5b0 : (a0 == 1) = true := beq_iff_eq.mpr c5
      have c5b1 : (a0 != 1) = false := bne_eq_false_iff_eq.mpr c5
      clear c5
      obtain rfl := Option.some.inj H
      go_enter Try.func144, Try.ntmps144
      go_wp2
      go_ret
      exact ⟨by first | rfl | (simp; done) | (simp [*]; done), by repeat (first | exact Drawn0.refl _ | apply Drawn0.step)⟩
    · rw [if_neg c5] at H
      have c5b0 : (a0 == 1) = false := beq_eq_false_iff_ne.mpr c5
      have c5b1 : (a0 != 1) = true := bne_iff_ne.mpr c5
      by_cases c6 : a0 = 2
      · rw [if_pos c6] at H
        have c6b0 : (a0 == 2) = true := beq_iff_eq.mpr c6
        have c6b1 : (a0 != 2) = false := bne_eq_false_iff_eq.mpr c6
        clear c6
        obtain rfl := Option.some.inj H
        go_enter Try.func144, Try.ntmps144
        go_wp2
        go_ret
        exact ⟨by first | rfl | (simp; done) | (simp [*]; done), by repeat (first | exact Drawn0.refl _ | apply Drawn0.step)⟩
      · rw [if_neg c6] at H
        have c6b0 : (a0 == 2) = false := beq_eq_false_iff_ne.mpr c6
        have c6b1 : (a0 != 2) = true := bne_iff_ne.mpr c6
        by_cases c7 : a0 = 4
        · rw [if_pos c7] at H
          have c7b0 : (a0 == 4) = true := beq_iff_eq.mpr c7
          have c7b1 : (a0 != 4) = false := bne_eq_false_iff_eq.mpr c7
          clear c7
          obtain rfl := Option.some.inj H
          go_enter Try.func144, Try.ntmps144
          go_wp2
          go_ret
          exact ⟨by first | rfl | (simp; done) | (simp [*]; done), by repeat (first | exact Drawn0.refl _ | apply Drawn0.step)⟩
        · rw [if_neg c7] at H
          have c7b0 : (a0 == 4) = false := beq_eq_false_iff_ne.mpr c7
          have c7b1 : (a0 != 4) = true := bne_iff_ne.mpr c7
          by_cases c8 : a0 = 5
          · rw [if_pos c8] at H
            have c8b0 : (a0 == 5) = true := beq_iff_eq.mpr c8
            have c8b1 : (a0 != 5) = false := bne_eq_false_iff_eq.mpr c8
            clear c8
            obtain rfl := Option.some.inj H
            go_enter Try.func144, Try.ntmps144
            go_wp2
            go_ret
            exact ⟨by first | rfl | (simp; done) | (simp [*]; done), by repeat (first | exact Drawn0.refl _ | apply Drawn0.step)⟩
          · rw [if_neg c8] at H
            have c8b0 : (a0 == 5) = false := beq_eq_false_iff_ne.mpr c8
            have c8b1 : (a0 != 5) = true := bne_iff_ne.mpr c8
            by_cases c9 : a0 = 6
            · rw [if_pos c9] at H
              have c9b0 : (a0 == 6) = true := beq_iff_eq.mpr c9
              have c9b1 : (a0 != 6) = false := bne_eq_false_iff_eq.mpr c9
              clear c9
              obtain ⟨ji10, hji10⟩ : ∃ j_ : Int, (IntKind.u64.wrap (Int.tmod a2 32)) = j_ := ⟨_, rfl⟩
              replace H : (if 0 ≤ (ji10) then (some ((Int.tmod (shl .u64 (IntKind.u64.wrap (a1)) (ji10)) 4294967296) % 4294967296)) else (none)) = some r := by first | (rw [hji10] at H; exact H) | (simp only [hji10] at H ⊢; exact H)
              by_cases c11 : 0 ≤ (ji10)
              · rw [if_pos c11] at H
                have c11b0 := eq_true c11
                have c11b1 : decide (0 ≤ (ji10)) = true := decide_eq_true c11
                clear c11
                obtain ⟨ji12, hji12⟩ : ∃ j_ : Int, (shl .u64 (IntKind.u64.wrap (a1)) (ji10)) = j_ := ⟨_, rfl⟩
                replace H : (some ((Int.tmod (ji12) 4294967296) % 4294967296)) = some r := by first | (rw [hji12] at H; exact H) | (simp only [hji12] at H ⊢; exact H)
                have hji12_ : (IntKind.u64.wrap ((IntKind.u64.wrap (a1)) * 2 ^ min (ji10).toNat 64)) = ji12 := hji12
                have hji12z : (ji10) ≤ 64 → (IntKind.u64.wrap ((IntKind.u64.wrap (a1)) * 2 ^ (ji10).toNat)) = ji12 := shl_small hji12
                obtain rfl := Option.some.inj H
                go_enter Try.func144, Try.ntmps144
                go_wp2
                go_ret
                exact ⟨by first | rfl | (simp; done) | (simp only [← hji10, ← hji12] <;> (first | rfl | simp)) | (simp [*]; done), by repeat (first | exact Drawn0.refl _ | apply Drawn0.step)⟩
              · rw [if_neg c11] at H
                exact absurd H (by simp)
            · rw [if_neg c9] at H
              have c9b0 : (a0 == 6) = false := beq_eq_false_iff_ne.mpr c9
              have c9b1 : (a0 != 6) = true := bne_iff_ne.mpr c9
              by_cases c13 : a0 = 7
              · rw [if_pos c13] at H
                have c13b0 : (a0 == 7) = true := beq_iff_eq.mpr c13
                have c13b1 : (a0 != 7) = false := bne_eq_false_iff_eq.mpr c13
                clear c13
                obtain ⟨ji14, hji14⟩ : ∃ j_ : Int, (IntKind.u64.wrap (Int.tmod a2 32)) = j_ := ⟨_, rfl⟩
                replace H : (if 0 ≤ (ji14) then (some (shr .u32 a1 (ji14))) else (none)) = some r := by first | (rw [hji14] at H; exact H) | (simp only [hji14] at H ⊢; exact H)
                by_cases c15 : 0 ≤ (ji14)
                · rw [if_pos c15] at H
                  have c15b0 := eq_true c15
                  have c15b1 : decide (0 ≤ (ji14)) = true := decide_eq_true c15
                  clear c15
                  obtain ⟨ji16, hji16⟩ : ∃ j_ : Int, (shr .u32 a1 (ji14)) = j_ := ⟨_, rfl⟩
                  replace H : (some ji16) = some r := by first | (rw [hji16] at H; exact H) | (simp only [hji16] at H ⊢; exact H)
                  have hji16_ : (a1 / 2 ^ min (ji14).toNat 32) = ji16 := hji16
                  have hji16z : (ji14) ≤ 32 → (a1 / 2 ^ (ji14).toNat) = ji16 := shr_small hji16
                  (try (have ji16l : 0 ≤ ji16 := by rw [← hji16]; unfold shr; exact Int.ediv_nonneg (by omega) (Int.pow_nonneg (by decide))))
                  obtain rfl := Option.some.inj H
                  go_enter Try.func144, Try.ntmps144
                  go_wp2
                  go_ret
                  exact ⟨by first | rfl | (simp; done) | (simp only [← hji14, ← hji16] <;> (first | rfl | simp)) | (simp [*]; done), by repeat (first | exact Drawn0.refl _ | apply Drawn0.step)⟩
                · rw [if_neg c15] at H
                  exact absurd H (by simp)
              · rw [if_neg c13] at H
                have c13b0 : (a0 == 7) = false := beq_eq_false_iff_ne.mpr c13
                have c13b1 : (a0 != 7) = true := bne_iff_ne.mpr c13
                by_cases c17 : a0 = 10
                · rw [if_pos c17] at H
                  have c17b0 : (a0 == 10) = true := beq_iff_eq.mpr c17
                  have c17b1 : (a0 != 10) = false := bne_eq_false_iff_eq.mpr c17
                  clear c17
                  obtain rfl := Option.some.inj H
                  go_enter Try.func144, Try.ntmps144
                  go_wp2
                  go_ret
                  exact ⟨by first | rfl | (simp; done) | (simp [*]; done), by repeat (first | exact Drawn0.refl _ | apply Drawn0.step)⟩
                · rw [if_neg c17] at H
                  have c17b0 : (a0 == 10) = false := beq_eq_false_iff_ne.mpr c17
                  have c17b1 : (a0 != 10) = true := bne_iff_ne.mpr c17
                  obtain rfl := Option.some.inj H
                  go_enter Try.func144, Try.ntmps144
                  go_wp2
                  go_ret
                  exact ⟨by first | rfl | (simp; done) | (simp [*]; done), by repeat (first | exact Drawn0.refl _ | apply Drawn0.step)⟩
def doorwardref11_holds.f (a0 : Int) (a1 : Int) (a2 : Int) : Option (Bool) := if a0 = 1 then (some (a1 == a2)) else (if a0 = 2 then (some (decide (a1 > a2))) else (if a0 = 3 then (some (decide (a1 ≥ a2))) else (some (decide ((Go.bits .and .u32 a1 a2) > 0)))))
set_option maxHeartbeats 8000000 in
set_option maxRecDepth 100000 in
theorem doorwardref11_holds.calls (a0 : Int) (a1 : Int) (a2 : Int) (r : Bool) (w : World) (h : doorwardref11_holds.f a0 a1 a2 = some r) :
    Calls Try.prog 145 #[.int .i64 a0, .int .u32 a1, .int .u32 a2] w fun e w' => e = .returned (.bool r) ∧ Drawn0 w w' := by
  have H : (if a0 = 1 then (some (a1 == a2)) else (if a0 = 2 then (some (decide (a1 > a2))) else (if a0 = 3 then (some (decide (a1 ≥ a2))) else (some (decide ((Go.bits .and .u32 a1 a2) > 0)))))) = some r := h
  clear h
  by_cases c4 : a0 = 1
  · rw [if_pos c4] at H
    have c4b0 : (a0 == 1) = true := beq_iff_eq.mpr c4
    have c4b1 : (a0 != 1) = false := bne_eq_false_iff_eq.mpr c4
    clear c4
    obtain rfl := Option.some.inj H
    go_enter Try.func145, Try.ntmps145
    go_wp2
    go_ret
    exact ⟨by first | rfl | (simp; done) | (simp [*]; done), by repeat (first | exact Drawn0.refl _ | apply Drawn0.step)⟩
  · rw [if_neg c4] at H
    have c4b0 : (a0 == 1) = false := beq_eq_false_iff_ne.mpr c4
    have c4b1 : (a0 != 1) = true := bne_iff_ne.mpr c4
    by_cases c5 : a0 = 2
    · rw [if_pos c5] at H
      have c5b0 : (a0 == 2) = true := beq_iff_eq.mpr c5
      have c5b1 : (a0 != 2) = false := bne_eq_false_iff_eq.mpr c5
      clear c5
      obtain rfl := Option.some.inj H
      go_enter Try.func145, Try.ntmps145
      go_wp2
      go_ret
      exact ⟨by first | rfl | (simp; done) | (simp [*]; done), by repeat (first | exact Drawn0.refl _ | apply Drawn0.step)⟩
    · rw [if_neg c5] at H
      have c5b0 : (a0 == 2) = false := beq_eq_false_iff_ne.mpr c5
      have c5b1 : (a0 != 2) = true := bne_iff_ne.mpr c5
      by_cases c6 : a0 = 3
      · rw [if_pos c6] at H
        have c6b0 : (a0 == 3) = true := beq_iff_eq.mpr c6
        have c6b1 : (a0 != 3) = false := bne_eq_false_iff_eq.mpr c6
        clear c6
        obtain rfl := Option.some.inj H
        go_enter Try.func145, Try.ntmps145
        go_wp2
        go_ret
        exact ⟨by first | rfl | (simp; done) | (simp [*]; done), by repeat (first | exact Drawn0.refl _ | apply Drawn0.step)⟩
      · rw [if_neg c6] at H
        have c6b0 : (a0 == 3) = false := beq_eq_false_iff_ne.mpr c6
        have c6b1 : (a0 != 3) = true := bne_iff_ne.mpr c6
        obtain rfl := Option.some.inj H
        go_enter Try.func145, Try.ntmps145
        go_wp2
        go_ret
        exact ⟨by first | rfl | (simp; done) | (simp [*]; done), by repeat (first | exact Drawn0.refl _ | apply Drawn0.step)⟩
def doorwardlaw11_few.f (l0 : List (S28)) : Option ((List (S28))) := if 0 ≤ (mn (l0.length : Int) 200) then (if (mn (l0.length : Int) 200) ≤ (l0.length : Int) then (some (l0.take ((mn (l0.length : Int) 200) : Int).toNat)) else (none)) else (none)
set_option maxHeartbeats 8000000 in
set_option maxRecDepth 100000 in
theorem doorwardlaw11_few.calls (P0_ : Nat → Prop) (A0 : Option Addr) (c0 : Nat) (l0 : List (S28)) (r : List (S28)) (w : World) (hs0 : Kd.V k28 28 w w.heap.size (fun k_ => P0_ k_) (.slice A0 l0.length c0) l0) (h : doorwardlaw11_few.f l0 = some r) :
    Calls Try.prog 79 #[.slice A0 l0.length c0] w fun e w' => ∃ v0_ : Value, e = .returned (v0_) ∧ Kd.V k28 28 w' w.heap.size (fun k_ => (P0_ k_ ∨ w.heap.size ≤ k_)) v0_ r ∧ Below w.heap.size w w' := by
  have HO0 := Aside0.mk (show Kd.V k28 28 w w.heap.size (fun k_ => (P0_ k_ ∨ w.heap.size ≤ k_)) (.slice A0 l0.length c0) l0 from Kd.V_mono hs0 (fun k_ hk => .inl hk))
  have HB := Aside0.mk (Below.refl w.heap.size w)
  have H : (if 0 ≤ (mn (l0.length : Int) 200) then (if (mn (l0.length : Int) 200) ≤ (l0.length : Int) then (some (l0.take ((mn (l0.length : Int) 200) : Int).toNat)) else (none)) else (none)) = some r := h
  clear h
  obtain ⟨ji2, hji2⟩ : ∃ j_ : Int, (mn (l0.length : Int) 200) = j_ := ⟨_, rfl⟩
  replace H : (if 0 ≤ (ji2) then (if (ji2) ≤ (l0.length : Int) then (some (l0.take ((ji2) : Int).toNat)) else (none)) else (none)) = some r := by first | (rw [hji2] at H; exact H) | (simp only [hji2] at H ⊢; exact H)
  (try (have hji2h : ji2 ≤ 200 := by (rw [← hji2]; unfold mn; (repeat' split) <;> omega)))
  (try (have hji2g : ji2 ≤ 64 := by omega))
  (try (have hji2l : 0 ≤ ji2 := by (rw [← hji2]; unfold mn; (repeat' split) <;> omega)))
  (try (have hji2m : 0 ≤ ji2 := by omega))
  have hji2_ : (if 200 < (l0.length : Int) then 200 else (l0.length : Int)) = ji2 := hji2
  by_cases c3 : 0 ≤ (ji2)
  · rw [if_pos c3] at H
    have c3b0 := eq_true c3
    have c3b1 : decide (0 ≤ (ji2)) = true := decide_eq_true c3
    clear c3
    by_cases c4 : (ji2) ≤ (l0.length : Int)
    · rw [if_pos c4] at H
      have c4b0 := eq_true c4
      have c4b1 : decide ((ji2) ≤ (l0.length : Int)) = true := decide_eq_true c4
      clear c4
      obtain ⟨y114, hy114⟩ : ∃ y_ : List (S28), y_ = (l0.take ((ji2) : Int).toNat) := ⟨_, rfl⟩
      replace H : (some y114) = some r := by first | (rw [hy114]; with_reducible exact H) | (have H2_ := (Option.bind_some _ _).symm.trans H; rw [hy114]; with_reducible exact H2_) | (have H2_ := (Option.bind_some _ _).symm.trans H; with_reducible exact H2_) | with_reducible exact H | (rw [hy114]; exact H) | exact H
      have Ny114 := Aside0.mk hy114
      clear hy114
      obtain rfl := Option.some.inj H
      have q5 : ((ji2) : Int) ≤ ((l0.length : Int) : Int) := of_decide_eq_true (by first | (with_reducible assumption) | assumption)
      obtain ⟨i05, hi05, _, hsz5, _⟩ := info_parts info28
      have hroom5 : l0.length ≤ c0 := (Kd.V_reads' HO0.out).2.1
      have hC5 : Kd.F k28 _ _ A0 l0.length l0 := (Kd.V_at (base := w.heap.size) HO0.out).2.2
      have hcut5 := cut_to (P := Try.prog) 34 28 .i64 Try.underlying34 hi05 A0 l0.length c0 (ji2) (of_decide_eq_true (by first | (with_reducible assumption) | assumption)) q5 hroom5
      have hr5 := Kd.F_take (m := ((ji2) : Int).toNat) hC5 (by omega)
      have hy5 : y114.length = ((ji2) : Int).toNat := (by rw [Ny114.out, List.length_take]; omega)
      rw [← Ny114.out] at hr5
      rw [← hy5] at hcut5
      have HO118 := Aside0.mk (show Kd.V k28 28 _ w.heap.size _ (.slice A0 y114.length c0) y114 from Kd.V_mk (by omega) hr5)
      have HC118 := Aside0.mk (show y114.length ≤ c0 from by omega)
      clear hr5 hC5 hroom5 hi05 hsz5
      have KY5 := Aside0.mk hy5
      clear hy5
      replace q5 := eq_true q5
      go_enter Try.func79, Try.ntmps79
      go_wp2
      go_ret
      exact ⟨_, by first | rfl | (simp [errW_none, errW_some] <;> rfl) | (simp only [← hji2]; first | rfl | (simp [errW_none, errW_some] <;> rfl)) | (simp [*, errW_none, errW_some] <;> rfl), by (with_reducible repeat (first | apply Kd.V_alloc | apply Kd.V_drewN | apply Kd.V_drew)); exact HO118.out, by repeat (first | (with_reducible first | exact HB.out | apply below_alloc | apply pw_below_drewN | apply below_drew1) | exact HB.out)⟩
    · rw [if_neg c4] at H
      exact absurd H (by simp)
  · rw [if_neg c3] at H
    exact absurd H (by simp)
end Go.Proofs.Ytefkhcijgiagdaa.V0
end
section
namespace Go.Proofs.Ytefkhcijgiagdaa.QVm
open Go.RowKit Go.Proofs.YtefkhcijgiagdaaW.PrintWords Go.Proofs.YtefkhcijgiagdaaW.PrintLast Go.Proofs.YtefkhcijgiagdaaW.PrintMore Go.Proofs.Ytefkhcijgiagdaa.HKnown Go.Proofs.Ytefkhcijgiagdaa.I1
set_option linter.unusedVariables false
set_option linter.unusedSimpArgs false
structure V where
  a : Int
  x : Int
  cs : List Int
inductive R1 where
  | bad
  | done (n : Int)
  | next (v : V) (skip : Nat)
/-- What an operation makes of A; none: a division by zero, which ends the run. -/
def sumV (c n a : Int) : Option Int :=
  if c = 4 then some ((a + n) % 4294967296)
  else if c = 20 then some ((a - n) % 4294967296)
  else if c = 36 then some ((a * n) % 4294967296)
  else if c = 52 then (if n = 0 then none else some ((a / n) % 4294967296))
  else if c = 84 then some (bits BinOp.and IntKind.u32 a n)
  else if c = 68 then some (bits BinOp.or IntKind.u32 a n)
  else if c = 164 then some (bits BinOp.xor IntKind.u32 a n)
  else if c = 100 then some (a * 2 ^ (n % 32).toNat % 4294967296)
  else if c = 116 then some (a / 2 ^ (n % 32).toNat)
  else if c = 132 then some ((-a) % 4294967296)
  else some a
def testV (c n a : Int) : Bool :=
  if c = 21 then decide (a = n) else if c = 37 then decide (a > n) else if c = 53 then decide (a ≥ n) else if c = 69 then decide (bits BinOp.and IntKind.u32 a n ≠ 0) else false
def passV (c n a : Int) (i : S28) : Int := if c = 5 then i.f3 else if testV c n a = true then (if i.f1 < 0 then 0 else i.f1) else (if i.f2 < 0 then 0 else i.f2)
def byX (c : Int) : Bool := decide (c / 8 % 2 = 1 ∧ (c % 8 = 4 ∨ c % 8 = 5))
def memV (wd : Int → Option Int) (i : S28) (v : V) : Option V :=
  if i.f0 = 32 then (wd i.f3).map fun w => ⟨w, v.x, v.cs⟩
  else if i.f0 = 128 then some ⟨64, v.x, v.cs⟩
  else if i.f0 = 129 then some ⟨v.a, 64, v.cs⟩
  else if i.f0 = 0 then some ⟨i.f3, v.x, v.cs⟩
  else if i.f0 = 1 then some ⟨v.a, i.f3, v.cs⟩
  else if i.f0 = 7 then some ⟨v.a, v.a, v.cs⟩
  else if i.f0 = 135 then some ⟨v.x, v.x, v.cs⟩
  else if 16 ≤ i.f3 then none
  else if i.f0 = 2 then some ⟨v.a, v.x, v.cs.set i.f3.toNat v.a⟩
  else if i.f0 = 3 then some ⟨v.a, v.x, v.cs.set i.f3.toNat v.x⟩
  else if i.f0 = 97 then some ⟨v.a, v.cs.getD i.f3.toNat 0, v.cs⟩
  else some ⟨v.cs.getD i.f3.toNat 0, v.x, v.cs⟩
def vm1 (wd : Int → Option Int) (i : S28) (v : V) : R1 :=
  if knownB i.f0 = false then .bad
  else if i.f0 = 6 then .done i.f3
  else if i.f0 = 22 then .done v.a
  else
    let n := if byX i.f0 = true then v.x else i.f3
    let c := if byX i.f0 = true then i.f0 - 8 else i.f0
    if i.f0 % 8 = 4 then (match sumV c n v.a with | none => .done 0 | some a => .next ⟨a, v.x, v.cs⟩ 0)
    else if i.f0 % 8 = 5 then .next v (passV c n v.a i).toNat
    else (match memV wd i v with | none => .bad | some v' => .next v' 0)
def vr (wd : Int → Option Int) : List S28 → Nat → V → Nat → Option (Int × Nat)
  | [], _, _, _ => none
  | _ :: l, s + 1, v, n => vr wd l s v n
  | i :: l, 0, v, n => match vm1 wd i v with
    | .bad => none
    | .done o => some (o, n + 1)
    | .next v' s => vr wd l s v' (n + 1)
theorem vr_skip (wd : Int → Option Int) (v : V) (n : Nat) : ∀ (a b : List S28) (s : Nat), vr wd (a ++ b) (a.length + s) v n = vr wd b s v n := by
  intro a
  induction a with
  | nil => intro b s; simp
  | cons i a ih =>
    intro b s
    rw [List.cons_append, List.length_cons, show a.length + 1 + s = (a.length + s) + 1 by omega]
    exact ih b s
end Go.Proofs.Ytefkhcijgiagdaa.QVm
end
section
namespace Go.Proofs.Ytefkhcijgiagdaa.HVm
open Go.RowKit Go.Proofs.YtefkhcijgiagdaaW.PrintWords Go.Proofs.YtefkhcijgiagdaaW.PrintLast Go.Proofs.YtefkhcijgiagdaaW.PrintMore Go.Proofs.Ytefkhcijgiagdaa.I1 Go.Proofs.Ytefkhcijgiagdaa.QVm Go.Proofs.Ytefkhcijgiagdaa.QLe
set_option linter.unusedVariables false
set_option linter.unusedSimpArgs false
set_option maxRecDepth 100000
def vmL (rec : ByteArray) (v : V) (at_ out : Int) (done : Bool) : List Value := .string rec :: .int .u32 v.a :: .int .u32 v.x :: (v.cs.map (Value.int .u32) ++ [.int .i64 at_, .int .u32 out, .bool done])
structure Vm (w : World) (Wb : Nat) (rec : ByteArray) (v : V) (at_ out : Int) (done : Bool) : Prop where
  hW : w.heap[Wb]? = some (.cells (vmL rec v at_ out done).toArray 156 (0, 0))
  hl : v.cs.length = 16
section
variable {w : World} {Wb : Nat} {rec : ByteArray} {v : V} {at_ out : Int} {done : Bool}
theorem Vm.lt (h : Vm w Wb rec v at_ out done) : Wb < w.heap.size := blk_lt h.hW
theorem Vm.cell (h : Vm w Wb rec v at_ out done) (i : Nat) : w.cell? ⟨Wb, i, none⟩ = (vmL rec v at_ out done)[i]? := by rw [blk_cell h.hW i]; simp
theorem Vm.c0 (h : Vm w Wb rec v at_ out done) : w.cell? ⟨Wb, 0, none⟩ = some (.string rec) := h.cell 0
theorem Vm.c1 (h : Vm w Wb rec v at_ out done) : w.cell? ⟨Wb, 1, none⟩ = some (.int .u32 v.a) := h.cell 1
theorem Vm.c2 (h : Vm w Wb rec v at_ out done) : w.cell? ⟨Wb, 2, none⟩ = some (.int .u32 v.x) := h.cell 2
theorem vmL_mem (hl : v.cs.length = 16) (k : Nat) (hk : k < 16) : (vmL rec v at_ out done)[3 + k]? = some (.int .u32 (v.cs.getD k 0)) := by
  rw [show 3 + k = k + 1 + 1 + 1 by omega]
  simp only [vmL, List.getElem?_cons_succ]
  rw [List.getElem?_append_left (by simpa using by omega), List.getElem?_map]
  simp [List.getD, hl, hk]
theorem vmL_at (hl : v.cs.length = 16) : (vmL rec v at_ out done)[19]? = some (.int .i64 at_) := by
  simp only [vmL, List.getElem?_cons_succ]
  rw [List.getElem?_append_right (by simp [hl])]; simp [hl]
theorem vmL_out (hl : v.cs.length = 16) : (vmL rec v at_ out done)[20]? = some (.int .u32 out) := by
  simp only [vmL, List.getElem?_cons_succ]
  rw [List.getElem?_append_right (by simp [hl])]; simp [hl]
theorem vmL_done (hl : v.cs.length = 16) : (vmL rec v at_ out done)[21]? = some (.bool done) := by
  simp only [vmL, List.getElem?_cons_succ]
  rw [List.getElem?_append_right (by simp [hl])]; simp [hl]
theorem Vm.cAt (h : Vm w Wb rec v at_ out done) : w.cell? ⟨Wb, 19, none⟩ = some (.int .i64 at_) := (h.cell 19).trans (vmL_at h.hl)
theorem Vm.cOut (h : Vm w Wb rec v at_ out done) : w.cell? ⟨Wb, 20, none⟩ = some (.int .u32 out) := (h.cell 20).trans (vmL_out h.hl)
theorem Vm.cDone (h : Vm w Wb rec v at_ out done) : w.cell? ⟨Wb, 21, none⟩ = some (.bool done) := (h.cell 21).trans (vmL_done h.hl)
theorem Vm.cMem (h : Vm w Wb rec v at_ out done) (k : Nat) (hk : k < 16) : w.cell? ⟨Wb, 3 + k, none⟩ = some (.int .u32 (v.cs.getD k 0)) := (h.cell (3 + k)).trans (vmL_mem h.hl k hk)
theorem Vm.free (h : Vm w Wb rec v at_ out done) (i : Nat) : w.frozen? ⟨Wb, i, none⟩ = false := blk_frozen h.hW i
theorem Vm.put (h : Vm w Wb rec v at_ out done) (i : Nat) (u : Value) {v' : V} {at' out' : Int} {done' : Bool} (e : (vmL rec v at_ out done).set i u = vmL rec v' at' out' done') (hl : v'.cs.length = 16) : Vm (w.setCell ⟨Wb, i, none⟩ u) Wb rec v' at' out' done' :=
  ⟨blk_put h.hW i u (by rw [← e]; simp), hl⟩
theorem Vm.setA (h : Vm w Wb rec v at_ out done) (n : Int) : Vm (w.setCell ⟨Wb, 1, none⟩ (.int .u32 n)) Wb rec ⟨n, v.x, v.cs⟩ at_ out done := h.put 1 _ rfl h.hl
theorem Vm.setX (h : Vm w Wb rec v at_ out done) (n : Int) : Vm (w.setCell ⟨Wb, 2, none⟩ (.int .u32 n)) Wb rec ⟨v.a, n, v.cs⟩ at_ out done := h.put 2 _ rfl h.hl
theorem Vm.setMem (h : Vm w Wb rec v at_ out done) (k : Nat) (hk : k < 16) (n : Int) : Vm (w.setCell ⟨Wb, 3 + k, none⟩ (.int .u32 n)) Wb rec ⟨v.a, v.x, v.cs.set k n⟩ at_ out done := by
  refine h.put (3 + k) _ ?_ (by rw [List.length_set]; exact h.hl)
  rw [show 3 + k = k + 1 + 1 + 1 by omega]
  simp only [vmL, List.set_cons_succ]
  rw [List.set_append_left _ _ (by rw [List.length_map, h.hl]; exact hk), List.map_set]
theorem Vm.setAt (h : Vm w Wb rec v at_ out done) (n : Int) : Vm (w.setCell ⟨Wb, 19, none⟩ (.int .i64 n)) Wb rec v n out done := by
  refine h.put 19 _ ?_ h.hl
  simp only [vmL, List.set_cons_succ]
  rw [List.set_append_right _ _ (by simp [h.hl])]; simp [h.hl]
theorem Vm.setOut (h : Vm w Wb rec v at_ out done) (n : Int) : Vm (w.setCell ⟨Wb, 20, none⟩ (.int .u32 n)) Wb rec v at_ n done := by
  refine h.put 20 _ ?_ h.hl
  simp only [vmL, List.set_cons_succ]
  rw [List.set_append_right _ _ (by simp [h.hl])]; simp [h.hl]
theorem Vm.setDone (h : Vm w Wb rec v at_ out done) (b : Bool) : Vm (w.setCell ⟨Wb, 21, none⟩ (.bool b)) Wb rec v at_ out b := by
  refine h.put 21 _ ?_ h.hl
  simp only [vmL, List.set_cons_succ]
  rw [List.set_append_right _ _ (by simp [h.hl])]; simp [h.hl]
theorem Vm.below (h : Vm w Wb rec v at_ out done) {w' : World} (hb : Below w.heap.size w w') : Vm w' Wb rec v at_ out done := ⟨(hb.block _ h.lt).trans h.hW, h.hl⟩
theorem Vm.alloc (h : Vm w Wb rec v at_ out done) (o : Obj) : Vm (w.alloc o) Wb rec v at_ out done := h.below (below_alloc (Below.refl _ _) o)
theorem Vm.drew (h : Vm w Wb rec v at_ out done) : Vm w.drew Wb rec v at_ out done := ⟨h.hW, h.hl⟩
end
def SumPost (w : World) (B Wb : Nat) (rec : ByteArray) (v : V) (at_ out : Int) (done : Bool) (r : Option Int) (e : Ending) (w' : World) : Prop :=
  e = .returned (.tuple #[]) ∧ Below B w w' ∧ (match r with | none => Vm w' Wb rec v at_ 0 true | some a => Vm w' Wb rec ⟨a, v.x, v.cs⟩ at_ out done)
set_option maxHeartbeats 4000000 in
theorem sum_c {w : World} {B Wb : Nat} {rec : ByteArray} {v : V} {at_ out : Int} {done : Bool} (h : Vm w Wb rec v at_ out done) (hB : B ≤ Wb) (c n : Int) (hn : 0 ≤ n ∧ n < 4294967296) (ha : 0 ≤ v.a ∧ v.a < 4294967296) :
    Calls Try.prog 141 #[.pointer (some ⟨Wb, 0, none⟩), .int .i64 c, .int .u32 n] w (SumPost w B Wb rec v at_ out done (sumV c n v.a)) := by
  have hu156 := Try.underlying156
  have hlt := h.lt
  have k1 := h.c1
  have f1 := h.free 1
  have k20 := h.cOut
  have k21 := h.cDone
  have f20 := h.free 20
  have f21 := h.free 21
  have HF := Aside0.mk (show ∀ m : Int, SumPost w B Wb rec v at_ out done (some m) (.returned (.tuple #[])) (w.setCell ⟨Wb, 1, none⟩ (.int .u32 m)) from fun m => ⟨rfl, (Below.refl B w).setCell hB _, h.setA m⟩)
  have HD := Aside0.mk (show SumPost w B Wb rec v at_ out done none (.returned (.tuple #[])) ((w.setCell ⟨Wb, 20, none⟩ (.int .u32 0)).setCell ⟨Wb, 21, none⟩ (.bool true)) from ⟨rfl, ((Below.refl B w).setCell hB _).setCell hB _, (h.setOut 0).setDone true⟩)
  have HS := Aside0.mk (show SumPost w B Wb rec v at_ out done (some v.a) (.returned (.tuple #[])) w from ⟨rfl, Below.refl B w, h⟩)
  obtain ⟨va, vx, vcs⟩ := v
  simp only at k1 ha
  clear h
  unfold sumV
  by_cases e1 : c = 4
  · subst e1
    go_enter Try.func141, Try.ntmps141
    go_wp2
    go_end0
    exact HF.out _
  · rw [if_neg e1]
    by_cases e2 : c = 20
    · subst e2
      go_enter Try.func141, Try.ntmps141
      go_wp2
      go_end0
      exact HF.out _
    · rw [if_neg e2]
      by_cases e3 : c = 36
      · subst e3
        go_enter Try.func141, Try.ntmps141
        go_wp2
        go_end0
        exact HF.out _
      · rw [if_neg e3]
        by_cases e4 : c = 52
        · subst e4
          rw [if_pos rfl]
          by_cases hz : n = 0
          · subst hz
            rw [if_pos rfl]
            go_enter Try.func141, Try.ntmps141
            go_wp2
            refine bodyPost_ret (results_none rfl _ _ _) rfl ?_
            exact HD.out
          · rw [if_neg hz]
            have hdz : decide (n = 0) = false := decide_eq_false hz
            have hq : va.tdiv n = va / n := Int.tdiv_eq_ediv_of_nonneg ha.1
            go_enter Try.func141, Try.ntmps141
            go_wp2
            go_end0
            exact HF.out _
        · rw [if_neg e4]
          by_cases e5 : c = 84
          · subst e5
            go_enter Try.func141, Try.ntmps141
            go_wp2
            go_end0
            exact HF.out _
          · rw [if_neg e5]
            by_cases e6 : c = 68
            · subst e6
              go_enter Try.func141, Try.ntmps141
              go_wp2
              go_end0
              exact HF.out _
            · rw [if_neg e6]
              by_cases e7 : c = 164
              · subst e7
                go_enter Try.func141, Try.ntmps141
                go_wp2
                go_end0
                exact HF.out _
              · rw [if_neg e7]
                by_cases e8 : c = 100
                · subst e8
                  go_enter Try.func141, Try.ntmps141
                  go_wp2
                  go_end0
                  exact HF.out _
                · rw [if_neg e8]
                  by_cases e9 : c = 116
                  · subst e9
                    go_enter Try.func141, Try.ntmps141
                    go_wp2
                    go_end0
                    exact HF.out _
                  · rw [if_neg e9]
                    by_cases e10 : c = 132
                    · subst e10
                      go_enter Try.func141, Try.ntmps141
                      go_wp2
                      go_end0
                      exact HF.out _
                    · rw [if_neg e10]
                      go_enter Try.func141, Try.ntmps141
                      go_wp2
                      go_end0
                      exact HS.out
end Go.Proofs.Ytefkhcijgiagdaa.HVm
end
section
namespace Go.Proofs.Ytefkhcijgiagdaa.HVm
open Go.RowKit Go.Proofs.YtefkhcijgiagdaaW.PrintWords Go.Proofs.YtefkhcijgiagdaaW.PrintLast Go.Proofs.YtefkhcijgiagdaaW.PrintMore Go.Proofs.Ytefkhcijgiagdaa.I1 Go.Proofs.Ytefkhcijgiagdaa.QVm Go.Proofs.Ytefkhcijgiagdaa.QLe
set_option linter.unusedVariables false
set_option linter.unusedSimpArgs false
set_option maxRecDepth 100000
attribute [local go_sem] max2_int min2_int max_two min_two
def JumpPost (w : World) (B Wb : Nat) (rec : ByteArray) (v : V) (at_ out : Int) (done : Bool) (p : Int) (e : Ending) (w' : World) : Prop :=
  e = .returned (.tuple #[]) ∧ Below B w w' ∧ Vm w' Wb rec v (wrap64 (at_ + p)) out done
theorem passV_ja (n a : Int) (i : S28) : passV 5 n a i = i.f3 := by unfold passV; rw [if_pos rfl]
theorem passV_test (c n a : Int) (i : S28) (h : c ≠ 5) (b : Bool) (hb : testV c n a = b) : passV c n a i = if b = true then (if i.f1 < 0 then 0 else i.f1) else (if i.f2 < 0 then 0 else i.f2) := by unfold passV; rw [if_neg h, hb]
set_option maxHeartbeats 4000000 in
theorem jump_c {w : World} {B Wb : Nat} {rec : ByteArray} {v : V} {at_ out : Int} {done : Bool} (h : Vm w Wb rec v at_ out done) (hB : B ≤ Wb) (i : S28) (c n : Int) (hk : 0 ≤ i.f3 ∧ i.f3 < 4294967296) :
    Calls Try.prog 142 #[.pointer (some ⟨Wb, 0, none⟩), .agg #[.int .i64 i.f0, .int .i64 i.f1, .int .i64 i.f2, .int .u32 i.f3], .int .i64 c, .int .u32 n] w (JumpPost w B Wb rec v at_ out done (passV c n v.a i)) := by
  obtain ⟨a0, a1, a2, a3⟩ := i
  simp only at hk ⊢
  have hu156 := Try.underlying156
  have hu28 := Try.underlying28
  have hlt := h.lt
  have k1 := h.c1
  have k19 := h.cAt
  have f19 := h.free 19
  have hBw : B ≤ w.heap.size := by omega
  have HF := Aside0.mk (show ∀ (p : Int) (o : Obj), JumpPost w B Wb rec v at_ out done p (.returned (.tuple #[])) ((w.setCell ⟨Wb, 19, none⟩ (.int .i64 (wrap64 (at_ + p)))).alloc o).drew from fun p o => ⟨rfl, (((Below.refl B w).setCell hB _).alloc (by simp [World.setCell]; omega) o).drew, ((h.setAt (wrap64 (at_ + p))).alloc o).drew⟩)
  have H0 := Aside0.mk (show ∀ (o : Obj), JumpPost w B Wb rec v at_ out done 0 (.returned (.tuple #[])) ((w.setCell ⟨Wb, 19, none⟩ (.int .i64 (wrap64 at_))).alloc o).drew from fun o => by have h0 := HF.out 0 o; rw [Int.add_zero] at h0; exact h0)
  obtain ⟨va, vx, vcs⟩ := v
  simp only at k1
  clear h
  have wa3 : wrap64 a3 = a3 := w64 _ (by omega) (by omega)
  by_cases e5 : c = 5
  · subst e5
    rw [passV_ja]
    simp only
    go_enter Try.func142, Try.ntmps142
    go_wp2
    go_region
    all_goals go_wp2
    all_goals first | exact bodyPost_ret (results_none rfl _ _ _) rfl (HF.out _ _) | (go_end0; exact HF.out _ _)
  · have hp := Aside0.mk (passV_test c n va ⟨a0, a1, a2, a3⟩ e5)
    have yes1 := Aside0.mk (show testV c n va = true → a1 < 0 → passV c n va ⟨a0, a1, a2, a3⟩ = 0 from fun h h2 => by rw [hp.out true h, if_pos rfl, if_pos h2])
    have yes2 := Aside0.mk (show testV c n va = true → ¬ a1 < 0 → passV c n va ⟨a0, a1, a2, a3⟩ = a1 from fun h h2 => by rw [hp.out true h, if_pos rfl, if_neg h2])
    have no1 := Aside0.mk (show testV c n va = false → a2 < 0 → passV c n va ⟨a0, a1, a2, a3⟩ = 0 from fun h h2 => by rw [hp.out false h, if_neg (by decide), if_pos h2])
    have no2 := Aside0.mk (show testV c n va = false → ¬ a2 < 0 → passV c n va ⟨a0, a1, a2, a3⟩ = a2 from fun h h2 => by rw [hp.out false h, if_neg (by decide), if_neg h2])
    clear hp
    by_cases e21 : c = 21
    · subst e21
      by_cases hn : va = n
      · subst hn
        by_cases hs : a1 < 0
        · rw [yes1.out (by unfold testV; first | (simp; done) | (simp [hn]; done) | simpa using hn) hs]
          go_enter Try.func142, Try.ntmps142
          go_wp2
          go_region
          all_goals go_wp2
          all_goals (go_end0; first | exact H0.out _ | exact HF.out _ _)
        · rw [yes2.out (by unfold testV; first | (simp; done) | (simp [hn]; done) | simpa using hn) hs]
          go_enter Try.func142, Try.ntmps142
          go_wp2
          go_region
          all_goals go_wp2
          all_goals (go_end0; first | exact H0.out _ | exact HF.out _ _)
      · by_cases hs : a2 < 0
        · rw [no1.out (by unfold testV; first | (simp; done) | (simp [hn]; done) | simpa using hn) hs]
          go_enter Try.func142, Try.ntmps142
          go_wp2
          go_region
          all_goals go_wp2
          all_goals (go_end0; first | exact H0.out _ | exact HF.out _ _)
        · rw [no2.out (by unfold testV; first | (simp; done) | (simp [hn]; done) | simpa using hn) hs]
          go_enter Try.func142, Try.ntmps142
          go_wp2
          go_region
          all_goals go_wp2
          all_goals (go_end0; first | exact H0.out _ | exact HF.out _ _)
    · skip
      by_cases e37 : c = 37
      · subst e37
        by_cases hn : n < va
        · by_cases hs : a1 < 0
          · rw [yes1.out (by unfold testV; first | (simp; done) | (simp [hn]; done) | simpa using hn) hs]
            go_enter Try.func142, Try.ntmps142
            go_wp2
            go_region
            all_goals go_wp2
            all_goals (go_end0; first | exact H0.out _ | exact HF.out _ _)
          · rw [yes2.out (by unfold testV; first | (simp; done) | (simp [hn]; done) | simpa using hn) hs]
            go_enter Try.func142, Try.ntmps142
            go_wp2
            go_region
            all_goals go_wp2
            all_goals (go_end0; first | exact H0.out _ | exact HF.out _ _)
        · by_cases hs : a2 < 0
          · rw [no1.out (by unfold testV; first | (simp; done) | (simp [hn]; done) | simpa using hn) hs]
            go_enter Try.func142, Try.ntmps142
            go_wp2
            go_region
            all_goals go_wp2
            all_goals (go_end0; first | exact H0.out _ | exact HF.out _ _)
          · rw [no2.out (by unfold testV; first | (simp; done) | (simp [hn]; done) | simpa using hn) hs]
            go_enter Try.func142, Try.ntmps142
            go_wp2
            go_region
            all_goals go_wp2
            all_goals (go_end0; first | exact H0.out _ | exact HF.out _ _)
      · skip
        by_cases e53 : c = 53
        · subst e53
          by_cases hn : n ≤ va
          · by_cases hs : a1 < 0
            · rw [yes1.out (by unfold testV; first | (simp; done) | (simp [hn]; done) | simpa using hn) hs]
              go_enter Try.func142, Try.ntmps142
              go_wp2
              go_region
              all_goals go_wp2
              all_goals (go_end0; first | exact H0.out _ | exact HF.out _ _)
            · rw [yes2.out (by unfold testV; first | (simp; done) | (simp [hn]; done) | simpa using hn) hs]
              go_enter Try.func142, Try.ntmps142
              go_wp2
              go_region
              all_goals go_wp2
              all_goals (go_end0; first | exact H0.out _ | exact HF.out _ _)
          · by_cases hs : a2 < 0
            · rw [no1.out (by unfold testV; first | (simp; done) | (simp [hn]; done) | simpa using hn) hs]
              go_enter Try.func142, Try.ntmps142
              go_wp2
              go_region
              all_goals go_wp2
              all_goals (go_end0; first | exact H0.out _ | exact HF.out _ _)
            · rw [no2.out (by unfold testV; first | (simp; done) | (simp [hn]; done) | simpa using hn) hs]
              go_enter Try.func142, Try.ntmps142
              go_wp2
              go_region
              all_goals go_wp2
              all_goals (go_end0; first | exact H0.out _ | exact HF.out _ _)
        · skip
          by_cases e69 : c = 69
          · subst e69
            by_cases hn : bits BinOp.and IntKind.u32 va n = 0
            · by_cases hs : a2 < 0
              · rw [no1.out (by unfold testV; first | (simp; done) | (simp [hn]; done) | simpa using hn) hs]
                go_enter Try.func142, Try.ntmps142
                go_wp2
                go_region
                all_goals go_wp2
                all_goals (go_end0; first | exact H0.out _ | exact HF.out _ _)
              · rw [no2.out (by unfold testV; first | (simp; done) | (simp [hn]; done) | simpa using hn) hs]
                go_enter Try.func142, Try.ntmps142
                go_wp2
                go_region
                all_goals go_wp2
                all_goals (go_end0; first | exact H0.out _ | exact HF.out _ _)
            · by_cases hs : a1 < 0
              · rw [yes1.out (by unfold testV; first | (simp; done) | (simp [hn]; done) | simpa using hn) hs]
                go_enter Try.func142, Try.ntmps142
                go_wp2
                go_region
                all_goals go_wp2
                all_goals (go_end0; first | exact H0.out _ | exact HF.out _ _)
              · rw [yes2.out (by unfold testV; first | (simp; done) | (simp [hn]; done) | simpa using hn) hs]
                go_enter Try.func142, Try.ntmps142
                go_wp2
                go_region
                all_goals go_wp2
                all_goals (go_end0; first | exact H0.out _ | exact HF.out _ _)
          · skip
            by_cases hs : a2 < 0
            · rw [no1.out (by unfold testV; rw [if_neg e21, if_neg e37, if_neg e53, if_neg e69]) hs]
              go_enter Try.func142, Try.ntmps142
              go_wp2
              go_region
              all_goals go_wp2
              all_goals (go_end0; first | exact H0.out _ | exact HF.out _ _)
            · rw [no2.out (by unfold testV; rw [if_neg e21, if_neg e37, if_neg e53, if_neg e69]) hs]
              go_enter Try.func142, Try.ntmps142
              go_wp2
              go_region
              all_goals go_wp2
              all_goals (go_end0; first | exact H0.out _ | exact HF.out _ _)
end Go.Proofs.Ytefkhcijgiagdaa.HVm
end
section
namespace Go.Proofs.Ytefkhcijgiagdaa.HVm
open Go.RowKit Go.Proofs.YtefkhcijgiagdaaW.PrintWords Go.Proofs.YtefkhcijgiagdaaW.PrintLast Go.Proofs.YtefkhcijgiagdaaW.PrintMore Go.Proofs.Ytefkhcijgiagdaa.I1 Go.Proofs.Ytefkhcijgiagdaa.QVm Go.Proofs.Ytefkhcijgiagdaa.QLe
set_option linter.unusedVariables false
set_option linter.unusedSimpArgs false
set_option maxRecDepth 100000
theorem cell_c {w : World} {Wb ib mb B : Nat} {k : Int} {cs : Array Value} (hi : w.heap[ib]? = some (.cells cs 28 (0, 0))) (hi3 : cs[3]? = some (.int .u32 k)) (hm : w.heap[mb]? = some (.cells #[.pointer (some ⟨Wb, 0, none⟩)] 154 (0, 0))) (hW : Wb < w.heap.size) (hk : 0 ≤ k ∧ k < 4294967296) :
    Calls Try.prog 163 #[.pointer (some ⟨ib, 0, none⟩), .pointer (some ⟨mb, 0, none⟩)] w fun e w' => e = .returned (.pointer (if k < 16 then some ⟨Wb, 3 + k.toNat, none⟩ else none)) ∧ (w' = w ∨ w' = w.drew) := by
  have hu156 := Try.underlying156
  have hu28 := Try.underlying28
  have hu97 := Try.underlying97
  have k3 : w.cell? ⟨ib, 3, none⟩ = some (.int .u32 k) := (blk_cell hi 3).trans hi3
  have m0 : w.cell? ⟨mb, 0, none⟩ = some (.pointer (some ⟨Wb, 0, none⟩)) := blk_cell hm 0
  have l1 := blk_lt hi
  have l2 := blk_lt hm
  clear hi hi3 hm
  by_cases hlt : k < 16
  · rw [if_pos hlt]
    have hd : decide ((16 : Int) ≤ k) = false := decide_eq_false (by omega)
    obtain ⟨n, rfl⟩ : ∃ n : Nat, k = n := ⟨k.toNat, by omega⟩
    rw [Int.toNat_natCast]
    go_enter Try.func163, Try.ntmps163
    go_wp2
    go_region
    all_goals go_wp2
    all_goals (go_ret; exact ⟨rfl, .inr rfl⟩)
  · rw [if_neg hlt]
    have hd : decide ((16 : Int) ≤ k) = true := decide_eq_true (by omega)
    go_enter Try.func163, Try.ntmps163
    go_wp2
    go_ret
    exact ⟨rfl, .inl rfl⟩
theorem Vm.drewN {w : World} {Wb : Nat} {rec : ByteArray} {v : V} {at_ out : Int} {done : Bool} (h : Vm w Wb rec v at_ out done) (n : Nat) : Vm (w.drewN n) Wb rec v at_ out done := ⟨h.hW, h.hl⟩
def MemPost (w : World) (B Wb : Nat) (rec : ByteArray) (at_ out : Int) (done : Bool) (r : Option V) (e : Ending) (w' : World) : Prop :=
  e = .returned (.bool r.isSome) ∧ Below B w w' ∧ ∀ v', r = some v' → Vm w' Wb rec v' at_ out done
section
variable {w w' : World} {B Wb : Nat} {rec : ByteArray} {v' : V} {at_ out : Int} {done : Bool}
theorem mp_some (hv : Vm w' Wb rec v' at_ out done) (hb : Below B w w') : MemPost w B Wb rec at_ out done (some v') (.returned (.bool true)) w' :=
  ⟨rfl, hb, fun _ h => Option.some.inj h ▸ hv⟩
theorem mp_none (hb : Below B w w') : MemPost w B Wb rec at_ out done none (.returned (.bool false)) w' := ⟨rfl, hb, fun _ h => by cases h⟩
end
set_option maxHeartbeats 4000000 in
theorem mem_c {w : World} {B Wb : Nat} {rec : ByteArray} {v : V} {at_ out : Int} {done : Bool} (h : Vm w Wb rec v at_ out done) (hB : B ≤ Wb) (i : S28) (hk : 0 ≤ i.f3 ∧ i.f3 < 4294967296) (wd : Int → Option Int) (x b : Int)
    (hcall : ∀ W, Calls Try.prog 82 #[.string rec, .int .i64 i.f3] W fun e w' => e = .returned (.tuple #[.int .u32 x, .int .i64 b]) ∧ Drawn0 W w') (hxb : (wd i.f3 = some x ∧ b = 0) ∨ (wd i.f3 = none ∧ b = 51)) :
    Calls Try.prog 143 #[.pointer (some ⟨Wb, 0, none⟩), .agg #[.int .i64 i.f0, .int .i64 i.f1, .int .i64 i.f2, .int .u32 i.f3]] w (MemPost w B Wb rec at_ out done (memV wd i v)) := by
  obtain ⟨a0, a1, a2, a3⟩ := i
  simp only at hk hcall hxb ⊢
  have hu156 := Try.underlying156
  have hu28 := Try.underlying28
  have hmf : ∀ (fn : Fn) (first cap : Array Value) (w : World), (Instr.makeFunc fn first cap).run Try.prog w = .ok (.func fn first cap) w := fun _ _ _ _ => rfl
  have hlt := h.lt
  have sz1 : (w.alloc (.cells #[.pointer (some ⟨Wb, 0, none⟩)] 154)).heap.size = w.heap.size + 1 := by simp
  have hm0 := blk_alloc (heap_alloc_new w (.cells #[.pointer (some ⟨Wb, 0, none⟩)] 154)) (.cells #[.int .i64 a0, .int .i64 a1, .int .i64 a2, .int .u32 a3] 28)
  have hi0 := heap_alloc_new (w.alloc (.cells #[.pointer (some ⟨Wb, 0, none⟩)] 154)) (.cells #[.int .i64 a0, .int .i64 a1, .int .i64 a2, .int .u32 a3] 28)
  rw [sz1] at hi0
  have hv0 : Vm ((w.alloc (.cells #[.pointer (some ⟨Wb, 0, none⟩)] 154)).alloc (.cells #[.int .i64 a0, .int .i64 a1, .int .i64 a2, .int .u32 a3] 28)) Wb rec v at_ out done := (h.alloc _).alloc _
  have hb0 : Below B w ((w.alloc (.cells #[.pointer (some ⟨Wb, 0, none⟩)] 154)).alloc (.cells #[.int .i64 a0, .int .i64 a1, .int .i64 a2, .int .u32 a3] 28)) := ((Below.refl B w).alloc (by omega) _).alloc (by simp; omega) _
  have k0 := h.c0
  have k1 := h.c1
  have k2 := h.c2
  have f1 := h.free 1
  have f2 := h.free 2
  have HM := Aside0.mk hm0
  have HI := Aside0.mk hi0
  have HV := Aside0.mk hv0
  have HB := Aside0.mk hb0
  have HC := Aside0.mk hcall
  have H := Aside0.mk h
  clear hm0 hi0 hv0 hb0 hcall sz1 h
  have MB := Aside0.mk (show ∀ (k : Nat) (u : Value) (o1 o2 : Obj), Below B w (((w.setCell ⟨Wb, k, none⟩ u).alloc o1).alloc o2) from fun k u o1 o2 => (((Below.refl B w).setCell (p := ⟨Wb, k, none⟩) hB u).alloc (by simp [World.setCell]; omega) o1).alloc (by simp [World.setCell]; omega) o2)
  by_cases e128 : a0 = 128
  · subst e128
    rw [show memV wd ⟨128, a1, a2, a3⟩ v = some ⟨64, v.x, v.cs⟩ from rfl]
    obtain ⟨va, vx, vcs⟩ := v
    simp only at k1 k2
    go_enter Try.func143, Try.ntmps143
    go_wp2
    go_ret; exact mp_some (((H.out.setA _).alloc _).alloc _) (MB.out _ _ _ _)
  by_cases e129 : a0 = 129
  · subst e129
    rw [show memV wd ⟨129, a1, a2, a3⟩ v = some ⟨v.a, 64, v.cs⟩ from rfl]
    obtain ⟨va, vx, vcs⟩ := v
    simp only at k1 k2
    go_enter Try.func143, Try.ntmps143
    go_wp2
    go_ret; exact mp_some (((H.out.setX _).alloc _).alloc _) (MB.out _ _ _ _)
  by_cases e0 : a0 = 0
  · subst e0
    rw [show memV wd ⟨0, a1, a2, a3⟩ v = some ⟨a3, v.x, v.cs⟩ from rfl]
    obtain ⟨va, vx, vcs⟩ := v
    simp only at k1 k2
    go_enter Try.func143, Try.ntmps143
    go_wp2
    go_ret; exact mp_some (((H.out.setA _).alloc _).alloc _) (MB.out _ _ _ _)
  by_cases e1 : a0 = 1
  · subst e1
    rw [show memV wd ⟨1, a1, a2, a3⟩ v = some ⟨v.a, a3, v.cs⟩ from rfl]
    obtain ⟨va, vx, vcs⟩ := v
    simp only at k1 k2
    go_enter Try.func143, Try.ntmps143
    go_wp2
    go_ret; exact mp_some (((H.out.setX _).alloc _).alloc _) (MB.out _ _ _ _)
  by_cases e7 : a0 = 7
  · subst e7
    rw [show memV wd ⟨7, a1, a2, a3⟩ v = some ⟨v.a, v.a, v.cs⟩ from rfl]
    obtain ⟨va, vx, vcs⟩ := v
    simp only at k1 k2
    go_enter Try.func143, Try.ntmps143
    go_wp2
    go_region
    all_goals go_wp2
    all_goals (go_ret; exact mp_some (((H.out.setX _).alloc _).alloc _).drew (MB.out _ _ _ _).drew)
  by_cases e135 : a0 = 135
  · subst e135
    rw [show memV wd ⟨135, a1, a2, a3⟩ v = some ⟨v.x, v.x, v.cs⟩ from rfl]
    obtain ⟨va, vx, vcs⟩ := v
    simp only at k1 k2
    go_enter Try.func143, Try.ntmps143
    go_wp2
    go_region
    all_goals go_wp2
    all_goals (go_ret; exact mp_some (((H.out.setA _).alloc _).alloc _).drew (MB.out _ _ _ _).drew)
  by_cases e32 : a0 = 32
  · subst e32
    rw [show memV wd ⟨32, a1, a2, a3⟩ v = (wd a3).map fun w => ⟨w, v.x, v.cs⟩ from rfl]
    obtain ⟨va, vx, vcs⟩ := v
    simp only at k1 k2
    rcases hxb with ⟨hw, rfl⟩ | ⟨hw, rfl⟩
    all_goals (
      rw [hw]
      simp only [Option.map_some, Option.map_none]
      have Hw := Aside0.mk hw
      clear hw
      go_enter Try.func143, Try.ntmps143
      go_wp2
      go_quiet (first | (go_at_call 82; exact Calls.quiet_of ((HC.out _).mono (fun e w' h => ⟨h.1, h.2.out⟩))))
      go_wp2
      go_ret)
    · exact mp_some ((HV.out.drewN _).setA _) ((pw_below_drewN HB.out _).setCell (p := ⟨Wb, 1, none⟩) hB _)
    · exact mp_none ((pw_below_drewN HB.out _).setCell (p := ⟨Wb, 1, none⟩) hB _)
  have hcell := fun W hi hm hw => cell_c (w := W) (Wb := Wb) (ib := w.heap.size + 1) (mb := w.heap.size) (B := B) (k := a3) (cs := #[.int .i64 a0, .int .i64 a1, .int .i64 a2, .int .u32 a3]) hi rfl hm hw hk
  have HCE := Aside0.mk (hcell _ HI.out HM.out HV.out.lt)
  clear hcell
  by_cases hge : 16 ≤ a3
  · rw [show memV wd ⟨a0, a1, a2, a3⟩ v = none by unfold memV; rw [if_neg e32, if_neg e128, if_neg e129, if_neg e0, if_neg e1, if_neg e7, if_neg e135, if_pos hge]]
    rw [if_neg (by omega)] at HCE
    by_cases e97 : a0 = 97
    · subst e97
      go_enter Try.func143, Try.ntmps143
      go_wp2_with (go_at_call 163; refine HCE.out.mono ?_; rintro e w1 ⟨rfl, rfl | rfl⟩)
      · go_ret; exact mp_none HB.out
      · go_ret; exact mp_none HB.out.drew
    · go_enter Try.func143, Try.ntmps143
      go_wp2_with (go_at_call 163; refine HCE.out.mono ?_; rintro e w1 ⟨rfl, rfl | rfl⟩)
      · go_ret; exact mp_none HB.out
      · go_ret; exact mp_none HB.out.drew
  · rw [if_pos (by omega)] at HCE
    have hmv : memV wd ⟨a0, a1, a2, a3⟩ v = if a0 = 2 then some ⟨v.a, v.x, v.cs.set a3.toNat v.a⟩ else if a0 = 3 then some ⟨v.a, v.x, v.cs.set a3.toNat v.x⟩ else if a0 = 97 then some ⟨v.a, v.cs.getD a3.toNat 0, v.cs⟩ else some ⟨v.cs.getD a3.toNat 0, v.x, v.cs⟩ := by
      unfold memV; rw [if_neg e32, if_neg e128, if_neg e129, if_neg e0, if_neg e1, if_neg e7, if_neg e135, if_neg hge]
    have hn16 : a3.toNat < 16 := by omega
    have kc := H.out.cMem a3.toNat hn16
    have fc := H.out.free (3 + a3.toNat)
    have HN := Aside0.mk hn16
    rw [hmv]
    clear hmv hn16 hge hk hxb
    generalize a3.toNat = n at *
    by_cases e2 : a0 = 2
    · subst e2
      rw [if_pos rfl]
      go_enter Try.func143, Try.ntmps143
      go_wp2_with (go_at_call 163; refine HCE.out.mono ?_; rintro e w1 ⟨rfl, rfl | rfl⟩)
      · go_ret; exact mp_some (((H.out.setMem n HN.out _).alloc _).alloc _) (MB.out _ _ _ _)
      · go_ret; exact mp_some (((H.out.setMem n HN.out _).alloc _).alloc _).drew (MB.out _ _ _ _).drew
    rw [if_neg e2]
    by_cases e3 : a0 = 3
    · subst e3
      rw [if_pos rfl]
      go_enter Try.func143, Try.ntmps143
      go_wp2_with (go_at_call 163; refine HCE.out.mono ?_; rintro e w1 ⟨rfl, rfl | rfl⟩)
      · go_ret; exact mp_some (((H.out.setMem n HN.out _).alloc _).alloc _) (MB.out _ _ _ _)
      · go_ret; exact mp_some (((H.out.setMem n HN.out _).alloc _).alloc _).drew (MB.out _ _ _ _).drew
    rw [if_neg e3]
    by_cases e97 : a0 = 97
    · subst e97
      rw [if_pos rfl]
      go_enter Try.func143, Try.ntmps143
      go_wp2_with (go_at_call 163; refine HCE.out.mono ?_; rintro e w1 ⟨rfl, rfl | rfl⟩)
      · go_ret; exact mp_some (((H.out.setX _).alloc _).alloc _) (MB.out _ _ _ _)
      · go_ret; exact mp_some (((H.out.setX _).alloc _).alloc _).drew (MB.out _ _ _ _).drew
    · rw [if_neg e97]
      go_enter Try.func143, Try.ntmps143
      go_wp2_with (go_at_call 163; refine HCE.out.mono ?_; rintro e w1 ⟨rfl, rfl | rfl⟩)
      · go_ret; exact mp_some (((H.out.setA _).alloc _).alloc _) (MB.out _ _ _ _)
      · go_ret; exact mp_some (((H.out.setA _).alloc _).alloc _).drew (MB.out _ _ _ _).drew
end Go.Proofs.Ytefkhcijgiagdaa.HVm
end
section
namespace Go.Proofs.Ytefkhcijgiagdaa.HVm
open Go.Proofs.Ytefkhcijgiagdaa.HKnown Go.RowKit Go.Proofs.YtefkhcijgiagdaaW.PrintWords Go.Proofs.YtefkhcijgiagdaaW.PrintLast Go.Proofs.YtefkhcijgiagdaaW.PrintMore Go.Proofs.Ytefkhcijgiagdaa.I1 Go.Proofs.Ytefkhcijgiagdaa.QVm Go.Proofs.Ytefkhcijgiagdaa.QLe
set_option linter.unusedVariables false
set_option linter.unusedSimpArgs false
set_option maxRecDepth 100000
def StepPost (w : World) (B Wb : Nat) (rec : ByteArray) (at_ out : Int) (r : R1) (e : Ending) (w' : World) : Prop :=
  Below B w w' ∧ match r with
  | .bad => e = .returned (.bool false)
  | .done n => e = .returned (.bool true) ∧ ∃ v' at', Vm w' Wb rec v' at' n true
  | .next v' s => e = .returned (.bool true) ∧ Vm w' Wb rec v' (wrap64 (at_ + 1 + (s : Int))) out false
theorem below_on {B : Nat} {w w1 w2 : World} (h : Below B w w1) (hB : B ≤ w.heap.size) (k : Below w1.heap.size w1 w2) : Below B w w2 := below_then h (Nat.le_trans hB h.size) k
theorem bits_all : ∀ c : Fin 256, bits .and .i64 (c.val : Int) 7 = (c.val : Int) % 8 ∧ bits .and .i64 (c.val : Int) 8 = (c.val : Int) / 8 % 2 * 8 ∧ ((c.val : Int) / 8 % 2 = 1 → bits .andNot .i64 (c.val : Int) 8 = (c.val : Int) - 8) := by decide +kernel
theorem bits_known (c : Int) (h : knownB c = true) : bits .and .i64 c 7 = c % 8 ∧ bits .and .i64 c 8 = c / 8 % 2 * 8 ∧ (c / 8 % 2 = 1 → bits .andNot .i64 c 8 = c - 8) := by
  unfold knownB at h
  rw [Bool.and_eq_true, decide_eq_true_eq] at h
  obtain ⟨n, rfl⟩ : ∃ n : Nat, c = n := ⟨c.toNat, by omega⟩
  exact bits_all ⟨n, by omega⟩
/-- The world in which a step looks whether its code is known. -/
structure At0 (w w1 : World) (B Wb ib : Nat) (rec : ByteArray) (v : V) (at_ out : Int) (i : S28) : Prop where
  hv : Vm w1 Wb rec v at_ out false
  hb : Below B w w1
  hi : w1.heap[ib]? = some (.cells #[.int .i64 i.f0, .int .i64 i.f1, .int .i64 i.f2, .int .u32 i.f3] 28 (0, 0))
theorem At0.drew {w w1 : World} {B Wb ib : Nat} {rec : ByteArray} {v : V} {at_ out : Int} {i : S28} (h : At0 w w1 B Wb ib rec v at_ out i) : At0 w w1.drew B Wb ib rec v at_ out i := ⟨h.hv.drew, h.hb.drew, h.hi⟩
theorem At0.step {w w1 w2 : World} {B Wb ib : Nat} {rec : ByteArray} {v : V} {at_ out : Int} {i : S28} (h : At0 w w1 B Wb ib rec v at_ out i) (hB : B ≤ w.heap.size) (hb : Below w1.heap.size w1 w2) : At0 w w2 B Wb ib rec v at_ out i := ⟨h.hv.below hb, below_on h.hb hB hb, blk_below h.hi hb⟩
theorem at0_new {w : World} {B Wb : Nat} {rec : ByteArray} {v : V} {at_ out : Int} (h : Vm w Wb rec v at_ out false) (hB : B ≤ Wb) (i : S28) (n : Int) : At0 w ((w.setCell ⟨Wb, 19, none⟩ (.int .i64 n)).alloc (.cells #[.int .i64 i.f0, .int .i64 i.f1, .int .i64 i.f2, .int .u32 i.f3] 28)) B Wb w.heap.size rec v n out i := by
  have hlt := h.lt
  refine ⟨(h.setAt n).alloc _, ((Below.refl B w).setCell (p := ⟨Wb, 19, none⟩) hB _).alloc (by simp [World.setCell]; omega) _, ?_⟩
  have e : (w.setCell ⟨Wb, 19, none⟩ (.int .i64 n)).heap.size = w.heap.size := by simp [World.setCell]
  have k := heap_alloc_new (w.setCell ⟨Wb, 19, none⟩ (.int .i64 n)) (.cells #[.int .i64 i.f0, .int .i64 i.f1, .int .i64 i.f2, .int .u32 i.f3] 28)
  rw [e] at k
  exact k
set_option maxHeartbeats 4000000 in
theorem step_bad {w : World} {B Wb : Nat} {rec : ByteArray} {v : V} {at_ out : Int} (h : Vm w Wb rec v at_ out false) (hB : B ≤ Wb) (i : S28) (hkn : knownB i.f0 = false) (ha : 0 ≤ at_ ∧ at_ < 1000000) :
    Calls Try.prog 120 #[.pointer (some ⟨Wb, 0, none⟩), .agg #[.int .i64 i.f0, .int .i64 i.f1, .int .i64 i.f2, .int .u32 i.f3]] w fun e w' => e = .returned (.bool false) ∧ Below B w w' := by
  have H0 := Aside0.mk (at0_new h hB i (at_ + 1))
  obtain ⟨a0, a1, a2, a3⟩ := i
  simp only at hkn ⊢
  have hu156 := Try.underlying156
  have hu28 := Try.underlying28
  have hlt := h.lt
  have hBw := Aside0.mk (show B ≤ w.heap.size by omega)
  have k2 := h.c2
  have k19 := h.cAt
  have f19 := h.free 19
  have hkc := fun W => Known_any a0 W
  rw [hkn] at hkc
  have HK := Aside0.mk hkc
  clear hkc hkn h
  generalize h7 : bits .and .i64 a0 7 = c7
  generalize h8 : bits .and .i64 a0 8 = c8
  go_enter Try.func120, Try.ntmps120
  go_wp2
  go_region
  all_goals go_wp2_with (go_at_call 44; refine (HK.out _).mono ?_; rintro e w1 ⟨rfl, hb1⟩; have HB1 := Aside0.mk (H0.out.drew.step hBw.out hb1).hb; clear hb1)
  all_goals first
    | (go_ret; exact ⟨rfl, HB1.out⟩)
    | (go_region
       all_goals go_wp2_with (go_at_call 44; refine (HK.out _).mono ?_; rintro e w1 ⟨rfl, hb1⟩; have HB1 := Aside0.mk (H0.out.drew.drew.step hBw.out hb1).hb; clear hb1)
       all_goals (go_ret; exact ⟨rfl, HB1.out⟩))
end Go.Proofs.Ytefkhcijgiagdaa.HVm
end
section
namespace Go.Proofs.Ytefkhcijgiagdaa.HVm
open Go.Proofs.Ytefkhcijgiagdaa.HKnown Go.RowKit Go.Proofs.YtefkhcijgiagdaaW.PrintWords Go.Proofs.YtefkhcijgiagdaaW.PrintLast Go.Proofs.YtefkhcijgiagdaaW.PrintMore Go.Proofs.Ytefkhcijgiagdaa.I1 Go.Proofs.Ytefkhcijgiagdaa.QVm Go.Proofs.Ytefkhcijgiagdaa.QLe
set_option linter.unusedVariables false
set_option linter.unusedSimpArgs false
set_option maxRecDepth 100000
set_option maxHeartbeats 4000000 in
theorem step_retk {w : World} {B Wb : Nat} {rec : ByteArray} {v : V} {at_ out : Int} (h : Vm w Wb rec v at_ out false) (hB : B ≤ Wb) (i : S28) (hkn : knownB i.f0 = true) (ha : 0 ≤ at_ ∧ at_ < 1000000) (hc : i.f0 = 6) :
    Calls Try.prog 120 #[.pointer (some ⟨Wb, 0, none⟩), .agg #[.int .i64 i.f0, .int .i64 i.f1, .int .i64 i.f2, .int .u32 i.f3]] w (StepPost w B Wb rec at_ out (.done i.f3)) := by
  have H0 := Aside0.mk (at0_new h hB i (at_ + 1))
  obtain ⟨a0, a1, a2, a3⟩ := i
  obtain ⟨va, vx, vcs⟩ := v
  simp only at hkn hc ⊢
  have hu156 := Try.underlying156
  have hu28 := Try.underlying28
  have hlt := h.lt
  have hBw := Aside0.mk (show B ≤ w.heap.size by omega)
  have k2 := h.c2
  simp only at k2
  have k19 := h.cAt
  have f19 := h.free 19
  have hkc := fun W => Known_any a0 W
  rw [hkn] at hkc
  have HK := Aside0.mk hkc
  have HKN := Aside0.mk hkn
  clear hkc
  subst hc
  have h7 : bits .and .i64 6 7 = 6 := by decide +kernel
  have h8 : bits .and .i64 6 8 = 0 := by decide +kernel
  clear h hkn
  go_enter Try.func120, Try.ntmps120
  go_wp2
  go_region
  all_goals go_wp2_with (go_at_call 44; refine (HK.out _).mono ?_; rintro e w1 ⟨rfl, hb1⟩; have A1 := Aside0.mk (H0.out.drew.step hBw.out hb1); have ki0 := blk_cell A1.out.hi 0; have ki1 := blk_cell A1.out.hi 1; have ki2 := blk_cell A1.out.hi 2; have ki3 := blk_cell A1.out.hi 3; have kv1 := A1.out.hv.c1; have kv20 := A1.out.hv.cOut; have kv21 := A1.out.hv.cDone; have fv20 := A1.out.hv.free 20; have fv21 := A1.out.hv.free 21; clear hb1)
  all_goals (go_ret; exact ⟨(A1.out.hb.setCell (p := ⟨Wb, 20, none⟩) hB _).setCell (p := ⟨Wb, 21, none⟩) hB _, rfl, _, _, (A1.out.hv.setOut _).setDone true⟩)
set_option maxHeartbeats 4000000 in
theorem step_reta {w : World} {B Wb : Nat} {rec : ByteArray} {v : V} {at_ out : Int} (h : Vm w Wb rec v at_ out false) (hB : B ≤ Wb) (i : S28) (hkn : knownB i.f0 = true) (ha : 0 ≤ at_ ∧ at_ < 1000000) (hc : i.f0 = 22) :
    Calls Try.prog 120 #[.pointer (some ⟨Wb, 0, none⟩), .agg #[.int .i64 i.f0, .int .i64 i.f1, .int .i64 i.f2, .int .u32 i.f3]] w (StepPost w B Wb rec at_ out (.done v.a)) := by
  have H0 := Aside0.mk (at0_new h hB i (at_ + 1))
  obtain ⟨a0, a1, a2, a3⟩ := i
  obtain ⟨va, vx, vcs⟩ := v
  simp only at hkn hc ⊢
  have hu156 := Try.underlying156
  have hu28 := Try.underlying28
  have hlt := h.lt
  have hBw := Aside0.mk (show B ≤ w.heap.size by omega)
  have k2 := h.c2
  simp only at k2
  have k19 := h.cAt
  have f19 := h.free 19
  have hkc := fun W => Known_any a0 W
  rw [hkn] at hkc
  have HK := Aside0.mk hkc
  have HKN := Aside0.mk hkn
  clear hkc
  subst hc
  have h7 : bits .and .i64 22 7 = 6 := by decide +kernel
  have h8 : bits .and .i64 22 8 = 0 := by decide +kernel
  clear h hkn
  go_enter Try.func120, Try.ntmps120
  go_wp2
  go_region
  all_goals go_wp2_with (go_at_call 44; refine (HK.out _).mono ?_; rintro e w1 ⟨rfl, hb1⟩; have A1 := Aside0.mk (H0.out.drew.step hBw.out hb1); have ki0 := blk_cell A1.out.hi 0; have ki1 := blk_cell A1.out.hi 1; have ki2 := blk_cell A1.out.hi 2; have ki3 := blk_cell A1.out.hi 3; have kv1 := A1.out.hv.c1; have kv20 := A1.out.hv.cOut; have kv21 := A1.out.hv.cDone; have fv20 := A1.out.hv.free 20; have fv21 := A1.out.hv.free 21; clear hb1)
  all_goals (go_ret; exact ⟨(A1.out.hb.setCell (p := ⟨Wb, 20, none⟩) hB _).setCell (p := ⟨Wb, 21, none⟩) hB _, rfl, _, _, (A1.out.hv.setOut _).setDone true⟩)
end Go.Proofs.Ytefkhcijgiagdaa.HVm
end
section
namespace Go.Proofs.Ytefkhcijgiagdaa.HVm
open Go.Proofs.Ytefkhcijgiagdaa.HKnown Go.RowKit Go.Proofs.YtefkhcijgiagdaaW.PrintWords Go.Proofs.YtefkhcijgiagdaaW.PrintLast Go.Proofs.YtefkhcijgiagdaaW.PrintMore Go.Proofs.Ytefkhcijgiagdaa.I1 Go.Proofs.Ytefkhcijgiagdaa.QVm Go.Proofs.Ytefkhcijgiagdaa.QLe
set_option linter.unusedVariables false
set_option linter.unusedSimpArgs false
set_option maxRecDepth 100000
def sumR (r : Option Int) (v : V) : R1 := match r with | none => .done 0 | some a => .next ⟨a, v.x, v.cs⟩ 0
def memR (r : Option V) : R1 := match r with | none => .bad | some v' => .next v' 0
theorem passV_nonneg (c n a : Int) (i : S28) (h : 0 ≤ i.f3) : 0 ≤ passV c n a i := by
  unfold passV
  split
  · exact h
  · split
    · split <;> omega
    · split <;> omega
theorem sum_post {w w1 : World} {B Wb ib : Nat} {rec : ByteArray} {va vx : Int} {vcs : List Int} {at_ out : Int} {i : S28} {r : Option Int} {e : Ending} {w' : World} (A : At0 w w1 B Wb ib rec ⟨va, vx, vcs⟩ (at_ + 1) out i) (ha : 0 ≤ at_ ∧ at_ < 1000000) (h : SumPost w1 B Wb rec ⟨va, vx, vcs⟩ (at_ + 1) out false r e w') :
    StepPost w B Wb rec at_ out (sumR r ⟨va, vx, vcs⟩) (.returned (.bool true)) w' := by
  obtain ⟨_, hb, hr⟩ := h
  refine ⟨A.hb.trans hb, ?_⟩
  cases r with
  | none => exact ⟨rfl, _, _, hr⟩
  | some a =>
    refine ⟨rfl, ?_⟩
    rw [show wrap64 (at_ + 1 + ((0 : Nat) : Int)) = at_ + 1 by rw [w64 _ (by omega) (by omega)]; omega]
    exact hr
theorem jump_post {w w1 : World} {B Wb ib : Nat} {rec : ByteArray} {v : V} {at_ out : Int} {i : S28} {p : Int} {e : Ending} {w' : World} (A : At0 w w1 B Wb ib rec v (at_ + 1) out i) (hp : 0 ≤ p) (h : JumpPost w1 B Wb rec v (at_ + 1) out false p e w') :
    StepPost w B Wb rec at_ out (.next v p.toNat) (.returned (.bool true)) w' := by
  obtain ⟨_, hb, hr⟩ := h
  refine ⟨A.hb.trans hb, rfl, ?_⟩
  rw [show ((p.toNat : Nat) : Int) = p by omega]
  exact hr
theorem mem_post {w w1 : World} {B Wb ib : Nat} {rec : ByteArray} {v : V} {at_ out : Int} {i : S28} {r : Option V} {e : Ending} {w' : World} (A : At0 w w1 B Wb ib rec v (at_ + 1) out i) (ha : 0 ≤ at_ ∧ at_ < 1000000) (h : MemPost w1 B Wb rec (at_ + 1) out false r e w') :
    StepPost w B Wb rec at_ out (memR r) e w' := by
  obtain ⟨he, hb, hr⟩ := h
  refine ⟨A.hb.trans hb, ?_⟩
  cases r with
  | none => exact he
  | some v' =>
    refine ⟨he, ?_⟩
    rw [show wrap64 (at_ + 1 + ((0 : Nat) : Int)) = at_ + 1 by rw [w64 _ (by omega) (by omega)]; omega]
    exact hr v' rfl
set_option maxHeartbeats 4000000 in
theorem step_sum0 {w : World} {B Wb : Nat} {rec : ByteArray} {v : V} {at_ out : Int} (h : Vm w Wb rec v at_ out false) (hB : B ≤ Wb) (i : S28) (hkn : knownB i.f0 = true) (ha : 0 ≤ at_ ∧ at_ < 1000000) (hc : i.f0 % 8 = 4) (hx : i.f0 / 8 % 2 = 0) (h6 : i.f0 ≠ 6) (h22 : i.f0 ≠ 22) (hk : 0 ≤ i.f3 ∧ i.f3 < 4294967296) (hva : 0 ≤ v.a ∧ v.a < 4294967296) (hvx : 0 ≤ v.x ∧ v.x < 4294967296) :
    Calls Try.prog 120 #[.pointer (some ⟨Wb, 0, none⟩), .agg #[.int .i64 i.f0, .int .i64 i.f1, .int .i64 i.f2, .int .u32 i.f3]] w (StepPost w B Wb rec at_ out (sumR (sumV (i.f0) (i.f3) v.a) v)) := by
  have H0 := Aside0.mk (at0_new h hB i (at_ + 1))
  obtain ⟨a0, a1, a2, a3⟩ := i
  obtain ⟨va, vx, vcs⟩ := v
  simp only at hkn hc hx h6 h22 hk hva hvx ⊢
  have hu156 := Try.underlying156
  have hu28 := Try.underlying28
  have hlt := h.lt
  have hBw := Aside0.mk (show B ≤ w.heap.size by omega)
  have k2 := h.c2
  simp only at k2
  have k19 := h.cAt
  have f19 := h.free 19
  have hkc := fun W => Known_any a0 W
  rw [hkn] at hkc
  have HK := Aside0.mk hkc
  have HKN := Aside0.mk hkn
  clear hkc
  obtain ⟨h7, h8, hN⟩ := bits_known a0 hkn
  rw [hc] at h7
  rw [hx] at h8
  simp only [Int.reduceMul] at h8
  clear hN
  clear h hkn hc hx
  go_enter Try.func120, Try.ntmps120
  go_wp2
  go_region
  all_goals go_wp2_with (first | (go_at_call 44; refine (HK.out _).mono ?_; rintro e w1 ⟨rfl, hb1⟩; have A1 := Aside0.mk (H0.out.drew.step hBw.out hb1); have ki0 := blk_cell A1.out.hi 0; have ki1 := blk_cell A1.out.hi 1; have ki2 := blk_cell A1.out.hi 2; have ki3 := blk_cell A1.out.hi 3; clear hb1) | (go_at_call 141; refine (sum_c A1.out.hv hB (a0) (a3) hk hva).mono ?_; rintro e w2 hs; obtain rfl := hs.1; have HS := Aside0.mk (sum_post A1.out ha hs); clear hs))
  all_goals (go_ret; exact HS.out)
set_option maxHeartbeats 4000000 in
theorem step_sum1 {w : World} {B Wb : Nat} {rec : ByteArray} {v : V} {at_ out : Int} (h : Vm w Wb rec v at_ out false) (hB : B ≤ Wb) (i : S28) (hkn : knownB i.f0 = true) (ha : 0 ≤ at_ ∧ at_ < 1000000) (hc : i.f0 % 8 = 4) (hx : i.f0 / 8 % 2 = 1) (h6 : i.f0 ≠ 6) (h22 : i.f0 ≠ 22) (hk : 0 ≤ i.f3 ∧ i.f3 < 4294967296) (hva : 0 ≤ v.a ∧ v.a < 4294967296) (hvx : 0 ≤ v.x ∧ v.x < 4294967296) :
    Calls Try.prog 120 #[.pointer (some ⟨Wb, 0, none⟩), .agg #[.int .i64 i.f0, .int .i64 i.f1, .int .i64 i.f2, .int .u32 i.f3]] w (StepPost w B Wb rec at_ out (sumR (sumV (i.f0 - 8) (v.x) v.a) v)) := by
  have H0 := Aside0.mk (at0_new h hB i (at_ + 1))
  obtain ⟨a0, a1, a2, a3⟩ := i
  obtain ⟨va, vx, vcs⟩ := v
  simp only at hkn hc hx h6 h22 hk hva hvx ⊢
  have hu156 := Try.underlying156
  have hu28 := Try.underlying28
  have hlt := h.lt
  have hBw := Aside0.mk (show B ≤ w.heap.size by omega)
  have k2 := h.c2
  simp only at k2
  have k19 := h.cAt
  have f19 := h.free 19
  have hkc := fun W => Known_any a0 W
  rw [hkn] at hkc
  have HK := Aside0.mk hkc
  have HKN := Aside0.mk hkn
  clear hkc
  obtain ⟨h7, h8, hN⟩ := bits_known a0 hkn
  rw [hc] at h7
  rw [hx] at h8
  simp only [Int.reduceMul] at h8
  replace hN := hN hx
  clear h hkn hc hx
  go_enter Try.func120, Try.ntmps120
  go_wp2
  go_region
  all_goals go_wp2
  all_goals go_region
  all_goals go_wp2_with (first | (go_at_call 44; refine (HK.out _).mono ?_; rintro e w1 ⟨rfl, hb1⟩; have A1 := Aside0.mk (H0.out.drew.drew.step hBw.out hb1); have ki0 := blk_cell A1.out.hi 0; have ki1 := blk_cell A1.out.hi 1; have ki2 := blk_cell A1.out.hi 2; have ki3 := blk_cell A1.out.hi 3; clear hb1) | (go_at_call 141; refine (sum_c A1.out.hv hB (a0 - 8) (vx) hvx hva).mono ?_; rintro e w2 hs; obtain rfl := hs.1; have HS := Aside0.mk (sum_post A1.out ha hs); clear hs))
  all_goals (go_ret; exact HS.out)
set_option maxHeartbeats 4000000 in
theorem step_jump0 {w : World} {B Wb : Nat} {rec : ByteArray} {v : V} {at_ out : Int} (h : Vm w Wb rec v at_ out false) (hB : B ≤ Wb) (i : S28) (hkn : knownB i.f0 = true) (ha : 0 ≤ at_ ∧ at_ < 1000000) (hc : i.f0 % 8 = 5) (hx : i.f0 / 8 % 2 = 0) (h6 : i.f0 ≠ 6) (h22 : i.f0 ≠ 22) (hk : 0 ≤ i.f3 ∧ i.f3 < 4294967296) (hva : 0 ≤ v.a ∧ v.a < 4294967296) (hvx : 0 ≤ v.x ∧ v.x < 4294967296) :
    Calls Try.prog 120 #[.pointer (some ⟨Wb, 0, none⟩), .agg #[.int .i64 i.f0, .int .i64 i.f1, .int .i64 i.f2, .int .u32 i.f3]] w (StepPost w B Wb rec at_ out (R1.next v (passV (i.f0) (i.f3) v.a i).toNat)) := by
  have H0 := Aside0.mk (at0_new h hB i (at_ + 1))
  obtain ⟨a0, a1, a2, a3⟩ := i
  obtain ⟨va, vx, vcs⟩ := v
  simp only at hkn hc hx h6 h22 hk hva hvx ⊢
  have hu156 := Try.underlying156
  have hu28 := Try.underlying28
  have hlt := h.lt
  have hBw := Aside0.mk (show B ≤ w.heap.size by omega)
  have k2 := h.c2
  simp only at k2
  have k19 := h.cAt
  have f19 := h.free 19
  have hkc := fun W => Known_any a0 W
  rw [hkn] at hkc
  have HK := Aside0.mk hkc
  have HKN := Aside0.mk hkn
  clear hkc
  obtain ⟨h7, h8, hN⟩ := bits_known a0 hkn
  rw [hc] at h7
  rw [hx] at h8
  simp only [Int.reduceMul] at h8
  clear hN
  have HP := Aside0.mk (passV_nonneg (a0) (a3) va ⟨a0, a1, a2, a3⟩ hk.1)
  clear h hkn hc hx
  go_enter Try.func120, Try.ntmps120
  go_wp2
  go_region
  all_goals go_wp2_with (first | (go_at_call 44; refine (HK.out _).mono ?_; rintro e w1 ⟨rfl, hb1⟩; have A1 := Aside0.mk (H0.out.drew.step hBw.out hb1); have ki0 := blk_cell A1.out.hi 0; have ki1 := blk_cell A1.out.hi 1; have ki2 := blk_cell A1.out.hi 2; have ki3 := blk_cell A1.out.hi 3; clear hb1) | (go_at_call 142; refine (jump_c A1.out.hv hB ⟨a0, a1, a2, a3⟩ (a0) (a3) hk).mono ?_; rintro e w2 hs; obtain rfl := hs.1; have HS := Aside0.mk (jump_post A1.out HP.out hs); clear hs))
  all_goals (go_ret; exact HS.out)
set_option maxHeartbeats 4000000 in
theorem step_jump1 {w : World} {B Wb : Nat} {rec : ByteArray} {v : V} {at_ out : Int} (h : Vm w Wb rec v at_ out false) (hB : B ≤ Wb) (i : S28) (hkn : knownB i.f0 = true) (ha : 0 ≤ at_ ∧ at_ < 1000000) (hc : i.f0 % 8 = 5) (hx : i.f0 / 8 % 2 = 1) (h6 : i.f0 ≠ 6) (h22 : i.f0 ≠ 22) (hk : 0 ≤ i.f3 ∧ i.f3 < 4294967296) (hva : 0 ≤ v.a ∧ v.a < 4294967296) (hvx : 0 ≤ v.x ∧ v.x < 4294967296) :
    Calls Try.prog 120 #[.pointer (some ⟨Wb, 0, none⟩), .agg #[.int .i64 i.f0, .int .i64 i.f1, .int .i64 i.f2, .int .u32 i.f3]] w (StepPost w B Wb rec at_ out (R1.next v (passV (i.f0 - 8) (v.x) v.a i).toNat)) := by
  have H0 := Aside0.mk (at0_new h hB i (at_ + 1))
  obtain ⟨a0, a1, a2, a3⟩ := i
  obtain ⟨va, vx, vcs⟩ := v
  simp only at hkn hc hx h6 h22 hk hva hvx ⊢
  have hu156 := Try.underlying156
  have hu28 := Try.underlying28
  have hlt := h.lt
  have hBw := Aside0.mk (show B ≤ w.heap.size by omega)
  have k2 := h.c2
  simp only at k2
  have k19 := h.cAt
  have f19 := h.free 19
  have hkc := fun W => Known_any a0 W
  rw [hkn] at hkc
  have HK := Aside0.mk hkc
  have HKN := Aside0.mk hkn
  clear hkc
  obtain ⟨h7, h8, hN⟩ := bits_known a0 hkn
  rw [hc] at h7
  rw [hx] at h8
  simp only [Int.reduceMul] at h8
  replace hN := hN hx
  have HP := Aside0.mk (passV_nonneg (a0 - 8) (vx) va ⟨a0, a1, a2, a3⟩ hk.1)
  clear h hkn hc hx
  go_enter Try.func120, Try.ntmps120
  go_wp2
  go_region
  all_goals go_wp2
  all_goals go_region
  all_goals go_wp2_with (first | (go_at_call 44; refine (HK.out _).mono ?_; rintro e w1 ⟨rfl, hb1⟩; have A1 := Aside0.mk (H0.out.drew.drew.step hBw.out hb1); have ki0 := blk_cell A1.out.hi 0; have ki1 := blk_cell A1.out.hi 1; have ki2 := blk_cell A1.out.hi 2; have ki3 := blk_cell A1.out.hi 3; clear hb1) | (go_at_call 142; refine (jump_c A1.out.hv hB ⟨a0, a1, a2, a3⟩ (a0 - 8) (vx) hk).mono ?_; rintro e w2 hs; obtain rfl := hs.1; have HS := Aside0.mk (jump_post A1.out HP.out hs); clear hs))
  all_goals (go_ret; exact HS.out)
set_option maxHeartbeats 4000000 in
theorem step_mem {w : World} {B Wb : Nat} {rec : ByteArray} {v : V} {at_ out : Int} (h : Vm w Wb rec v at_ out false) (hB : B ≤ Wb) (i : S28) (hkn : knownB i.f0 = true) (ha : 0 ≤ at_ ∧ at_ < 1000000) (hc4 : i.f0 % 8 ≠ 4) (hc5 : i.f0 % 8 ≠ 5) (h6 : i.f0 ≠ 6) (h22 : i.f0 ≠ 22) (hk : 0 ≤ i.f3 ∧ i.f3 < 4294967296) (hva : 0 ≤ v.a ∧ v.a < 4294967296) (hvx : 0 ≤ v.x ∧ v.x < 4294967296) (wd : Int → Option Int) (x b : Int) (hcall : ∀ W, Calls Try.prog 82 #[.string rec, .int .i64 i.f3] W fun e w' => e = .returned (.tuple #[.int .u32 x, .int .i64 b]) ∧ Drawn0 W w') (hxb : (wd i.f3 = some x ∧ b = 0) ∨ (wd i.f3 = none ∧ b = 51)) :
    Calls Try.prog 120 #[.pointer (some ⟨Wb, 0, none⟩), .agg #[.int .i64 i.f0, .int .i64 i.f1, .int .i64 i.f2, .int .u32 i.f3]] w (StepPost w B Wb rec at_ out (memR (memV wd i v))) := by
  have H0 := Aside0.mk (at0_new h hB i (at_ + 1))
  obtain ⟨a0, a1, a2, a3⟩ := i
  obtain ⟨va, vx, vcs⟩ := v
  simp only at hkn hc4 hc5 h6 h22 hk hva hvx hcall hxb ⊢
  have hu156 := Try.underlying156
  have hu28 := Try.underlying28
  have hlt := h.lt
  have hBw := Aside0.mk (show B ≤ w.heap.size by omega)
  have k2 := h.c2
  simp only at k2
  have k19 := h.cAt
  have f19 := h.free 19
  have hkc := fun W => Known_any a0 W
  rw [hkn] at hkc
  have HK := Aside0.mk hkc
  have HKN := Aside0.mk hkn
  clear hkc
  obtain ⟨h7, h8, hN⟩ := bits_known a0 hkn
  have HC := Aside0.mk hcall
  have HX := Aside0.mk hxb
  clear h hkn hN h8 hcall hxb
  generalize a0 % 8 = c7 at h7 hc4 hc5
  generalize h8 : bits .and .i64 a0 8 = c8
  have hd4 : (c7 == 4) = false := by simpa using hc4
  have hd5 : (c7 == 5) = false := by simpa using hc5
  go_enter Try.func120, Try.ntmps120
  go_wp2
  go_region
  all_goals go_wp2_with (first | (go_at_call 44; refine (HK.out _).mono ?_; rintro e w1 ⟨rfl, hb1⟩; have A1 := Aside0.mk (H0.out.drew.step hBw.out hb1); have ki0 := blk_cell A1.out.hi 0; have ki1 := blk_cell A1.out.hi 1; have ki2 := blk_cell A1.out.hi 2; have ki3 := blk_cell A1.out.hi 3; clear hb1) | (go_at_call 143; refine (mem_c A1.out.hv hB ⟨a0, a1, a2, a3⟩ hk wd x b HC.out HX.out).mono ?_; rintro e w2 hs; obtain rfl := hs.1; have HS := Aside0.mk (mem_post A1.out ha hs); clear hs))
  all_goals (go_ret; exact HS.out)
end Go.Proofs.Ytefkhcijgiagdaa.HVm
end
section
namespace Go.Proofs.Ytefkhcijgiagdaa.HVm
open Go.Proofs.Ytefkhcijgiagdaa.HKnown Go.RowKit Go.Proofs.YtefkhcijgiagdaaW.PrintWords Go.Proofs.YtefkhcijgiagdaaW.PrintLast Go.Proofs.YtefkhcijgiagdaaW.PrintMore Go.Proofs.Ytefkhcijgiagdaa.I1 Go.Proofs.Ytefkhcijgiagdaa.QVm Go.Proofs.Ytefkhcijgiagdaa.QLe
set_option linter.unusedVariables false
set_option linter.unusedSimpArgs false
set_option maxRecDepth 100000
/-- Numbers of 32 bits. -/
abbrev U (x : Int) : Prop := 0 ≤ x ∧ x < 4294967296
structure VR (v : V) : Prop where
  a : U v.a
  x : U v.x
  cs : ∀ c ∈ v.cs, U c
theorem bits_u (op : BinOp) (x y : Int) : U (bits op .u32 x y) := by
  unfold bits
  rw [IntKind.wrap_u32]
  exact ⟨Int.emod_nonneg _ (by decide), Int.emod_lt_of_pos _ (by decide)⟩
theorem mod_u (x : Int) : U (x % 4294967296) := ⟨Int.emod_nonneg _ (by decide), Int.emod_lt_of_pos _ (by decide)⟩
theorem sumV_u (c n a : Int) (ha : U a) (r : Int) (h : sumV c n a = some r) : U r := by
  unfold sumV at h
  split at h
  · exact Option.some.inj h ▸ mod_u _
  split at h
  · exact Option.some.inj h ▸ mod_u _
  split at h
  · exact Option.some.inj h ▸ mod_u _
  split at h
  · split at h
    · cases h
    · exact Option.some.inj h ▸ mod_u _
  split at h
  · exact Option.some.inj h ▸ bits_u _ _ _
  split at h
  · exact Option.some.inj h ▸ bits_u _ _ _
  split at h
  · exact Option.some.inj h ▸ bits_u _ _ _
  split at h
  · exact Option.some.inj h ▸ mod_u _
  split at h
  · obtain rfl := Option.some.inj h
    have hp : (0 : Int) < 2 ^ (n % 32).toNat := Int.pow_pos (by decide)
    exact ⟨Int.ediv_nonneg ha.1 (Int.le_of_lt hp), Int.lt_of_le_of_lt (Int.ediv_le_self _ ha.1) ha.2⟩
  split at h
  · exact Option.some.inj h ▸ mod_u _
  · exact Option.some.inj h ▸ ha
theorem getD_u {cs : List Int} (h : ∀ c ∈ cs, U c) (k : Nat) : U (cs.getD k 0) := by
  by_cases hk : k < cs.length
  · rw [List.getD_eq_getElem?_getD, List.getElem?_eq_getElem hk]
    exact h _ (List.getElem_mem hk)
  · rw [List.getD_eq_getElem?_getD, List.getElem?_eq_none (by omega)]
    exact ⟨by decide, by decide⟩
theorem set_u {cs : List Int} (h : ∀ c ∈ cs, U c) (k : Nat) {x : Int} (hx : U x) : ∀ c ∈ cs.set k x, U c := by
  intro c hc
  rcases List.mem_or_eq_of_mem_set hc with h1 | h1
  · exact h c h1
  · exact h1 ▸ hx
theorem memV_u (wd : Int → Option Int) (i : S28) (v : V) (hwd : ∀ k x, wd k = some x → U x) (hk : U i.f3) (hv : VR v) (v' : V) (h : memV wd i v = some v') : VR v' := by
  have u64 : U 64 := ⟨by decide, by decide⟩
  unfold memV at h
  split at h
  · rw [Option.map_eq_some_iff] at h
    obtain ⟨x, h1, rfl⟩ := h
    exact ⟨hwd _ _ h1, hv.x, hv.cs⟩
  split at h
  · exact Option.some.inj h ▸ ⟨u64, hv.x, hv.cs⟩
  split at h
  · exact Option.some.inj h ▸ ⟨hv.a, u64, hv.cs⟩
  split at h
  · exact Option.some.inj h ▸ ⟨hk, hv.x, hv.cs⟩
  split at h
  · exact Option.some.inj h ▸ ⟨hv.a, hk, hv.cs⟩
  split at h
  · exact Option.some.inj h ▸ ⟨hv.a, hv.a, hv.cs⟩
  split at h
  · exact Option.some.inj h ▸ ⟨hv.x, hv.x, hv.cs⟩
  split at h
  · cases h
  split at h
  · exact Option.some.inj h ▸ ⟨hv.a, hv.x, set_u hv.cs _ hv.a⟩
  split at h
  · exact Option.some.inj h ▸ ⟨hv.a, hv.x, set_u hv.cs _ hv.x⟩
  split at h
  · exact Option.some.inj h ▸ ⟨hv.a, getD_u hv.cs _, hv.cs⟩
  · exact Option.some.inj h ▸ ⟨getD_u hv.cs _, hv.x, hv.cs⟩
/-- What an instruction is: fields that the types allow. -/
def I28 (i : S28) : Prop := i.f1 ≤ 9223372036854775807 ∧ i.f2 ≤ 9223372036854775807 ∧ U i.f3
theorem passV_le (c n a : Int) (i : S28) (h : I28 i) : passV c n a i ≤ 9223372036854775807 := by
  obtain ⟨h1, h2, h3⟩ := h
  unfold passV
  split
  · omega
  · split
    · split <;> omega
    · split <;> omega
/-- What vm1 is, by the code's kind. -/
theorem vm1_sum (wd : Int → Option Int) (i : S28) (v : V) (hkn : knownB i.f0 = true) (h6 : i.f0 ≠ 6) (h22 : i.f0 ≠ 22) (hc : i.f0 % 8 = 4) : vm1 wd i v = sumR (sumV (if byX i.f0 = true then i.f0 - 8 else i.f0) (if byX i.f0 = true then v.x else i.f3) v.a) v := by
  unfold vm1 sumR
  rw [if_neg (by rw [hkn]; decide), if_neg h6, if_neg h22]
  simp only
  rw [if_pos hc]
  all_goals (generalize sumV _ _ v.a = r
             cases r <;> rfl)
theorem vm1_jump (wd : Int → Option Int) (i : S28) (v : V) (hkn : knownB i.f0 = true) (h6 : i.f0 ≠ 6) (h22 : i.f0 ≠ 22) (hc : i.f0 % 8 = 5) : vm1 wd i v = .next v (passV (if byX i.f0 = true then i.f0 - 8 else i.f0) (if byX i.f0 = true then v.x else i.f3) v.a i).toNat := by
  unfold vm1
  rw [if_neg (by rw [hkn]; decide), if_neg h6, if_neg h22]
  simp only
  rw [if_neg (by omega), if_pos hc]
theorem vm1_mem (wd : Int → Option Int) (i : S28) (v : V) (hkn : knownB i.f0 = true) (h6 : i.f0 ≠ 6) (h22 : i.f0 ≠ 22) (hc4 : i.f0 % 8 ≠ 4) (hc5 : i.f0 % 8 ≠ 5) : vm1 wd i v = memR (memV wd i v) := by
  unfold vm1 memR
  rw [if_neg (by rw [hkn]; decide), if_neg h6, if_neg h22]
  simp only
  rw [if_neg hc4, if_neg hc5]
  all_goals (generalize memV wd i v = r
             cases r <;> rfl)
theorem vm1_bad (wd : Int → Option Int) (i : S28) (v : V) (hkn : knownB i.f0 = false) : vm1 wd i v = .bad := by unfold vm1; rw [if_pos hkn]
theorem byX_t (c : Int) (hc : c % 8 = 4 ∨ c % 8 = 5) (hx : c / 8 % 2 = 1) : byX c = true := by unfold byX; exact decide_eq_true ⟨hx, hc⟩
theorem byX_f (c : Int) (hx : c / 8 % 2 = 0) : byX c = false := by unfold byX; exact decide_eq_false (fun h => by omega)
/-- What a record's word is. -/
structure Wd (rec : ByteArray) (wd : Int → Option Int) : Prop where
  call : ∀ k, U k → ∃ x b, (∀ W, Calls Try.prog 82 #[.string rec, .int .i64 k] W fun e w' => e = .returned (.tuple #[.int .u32 x, .int .i64 b]) ∧ Drawn0 W w') ∧ ((wd k = some x ∧ b = 0) ∨ (wd k = none ∧ b = 51))
  u : ∀ k x, wd k = some x → U x
theorem vm1_next (wd : Int → Option Int) (i : S28) (v v' : V) (s : Nat) (hwd : ∀ k x, wd k = some x → U x) (hi : I28 i) (hv : VR v) (h : vm1 wd i v = .next v' s) : VR v' ∧ (s : Int) ≤ 9223372036854775807 := by
  have hkn : knownB i.f0 = true := by
    cases e : knownB i.f0 with
    | true => rfl
    | false => rw [vm1_bad wd i v e] at h; cases h
  by_cases h6 : i.f0 = 6
  · unfold vm1 at h; rw [if_neg (by rw [hkn]; decide), if_pos h6] at h; cases h
  by_cases h22 : i.f0 = 22
  · unfold vm1 at h; rw [if_neg (by rw [hkn]; decide), if_neg h6, if_pos h22] at h; cases h
  by_cases hc4 : i.f0 % 8 = 4
  · rw [vm1_sum wd i v hkn h6 h22 hc4] at h
    generalize hs : sumV _ _ v.a = r at h
    cases r with
    | none => cases h
    | some a =>
      injection h with h1 h2
      subst h1; subst h2
      exact ⟨⟨sumV_u _ _ _ hv.a _ hs, hv.x, hv.cs⟩, by decide⟩
  by_cases hc5 : i.f0 % 8 = 5
  · rw [vm1_jump wd i v hkn h6 h22 hc5] at h
    injection h with h1 h2
    subst h1; subst h2
    refine ⟨hv, ?_⟩
    have := passV_le (if byX i.f0 = true then i.f0 - 8 else i.f0) (if byX i.f0 = true then v.x else i.f3) v.a i hi
    omega
  · rw [vm1_mem wd i v hkn h6 h22 hc4 hc5] at h
    generalize hs : memV wd i v = r at h
    cases r with
    | none => cases h
    | some v1 =>
      injection h with h1 h2
      subst h1; subst h2
      exact ⟨memV_u wd i v hwd hi.2.2 hv _ hs, by decide⟩
theorem step_c {w : World} {B Wb : Nat} {rec : ByteArray} {v : V} {at_ out : Int} (h : Vm w Wb rec v at_ out false) (hB : B ≤ Wb) (i : S28) (ha : 0 ≤ at_ ∧ at_ < 1000000) (hi : I28 i) (hv : VR v) (wd : Int → Option Int) (hwd : Wd rec wd) :
    Calls Try.prog 120 #[.pointer (some ⟨Wb, 0, none⟩), .agg #[.int .i64 i.f0, .int .i64 i.f1, .int .i64 i.f2, .int .u32 i.f3]] w (StepPost w B Wb rec at_ out (vm1 wd i v)) := by
  cases hkn : knownB i.f0 with
  | false =>
    rw [vm1_bad wd i v hkn]
    exact (step_bad h hB i hkn ha).mono (fun e w' k => ⟨k.2, k.1⟩)
  | true =>
    by_cases h6 : i.f0 = 6
    · rw [show vm1 wd i v = .done i.f3 by unfold vm1; rw [if_neg (by rw [hkn]; decide), if_pos h6]]
      exact step_retk h hB i hkn ha h6
    by_cases h22 : i.f0 = 22
    · rw [show vm1 wd i v = .done v.a by unfold vm1; rw [if_neg (by rw [hkn]; decide), if_neg h6, if_pos h22]]
      exact step_reta h hB i hkn ha h22
    by_cases hc4 : i.f0 % 8 = 4
    · rw [vm1_sum wd i v hkn h6 h22 hc4]
      rcases (by omega : i.f0 / 8 % 2 = 0 ∨ i.f0 / 8 % 2 = 1) with hx | hx
      · rw [byX_f _ hx]
        exact step_sum0 h hB i hkn ha hc4 hx h6 h22 hi.2.2 hv.a hv.x
      · rw [byX_t _ (.inl hc4) hx]
        exact step_sum1 h hB i hkn ha hc4 hx h6 h22 hi.2.2 hv.a hv.x
    by_cases hc5 : i.f0 % 8 = 5
    · rw [vm1_jump wd i v hkn h6 h22 hc5]
      rcases (by omega : i.f0 / 8 % 2 = 0 ∨ i.f0 / 8 % 2 = 1) with hx | hx
      · rw [byX_f _ hx]
        exact step_jump0 h hB i hkn ha hc5 hx h6 h22 hi.2.2 hv.a hv.x
      · rw [byX_t _ (.inr hc5) hx]
        exact step_jump1 h hB i hkn ha hc5 hx h6 h22 hi.2.2 hv.a hv.x
    · rw [vm1_mem wd i v hkn h6 h22 hc4 hc5]
      obtain ⟨x, b, hcall, hxb⟩ := hwd.call i.f3 hi.2.2
      exact step_mem h hB i hkn ha hc4 hc5 h6 h22 hi.2.2 hv.a hv.x wd x b hcall hxb
theorem vr_out (wd : Int → Option Int) (v : V) (n : Nat) : ∀ (l : List S28) (s : Nat), l.length ≤ s → vr wd l s v n = none := by
  intro l
  induction l with
  | nil => intro s _; cases s <;> rfl
  | cons i l ih =>
    intro s hs
    rw [List.length_cons] at hs
    obtain ⟨s, rfl⟩ : ∃ t, s = t + 1 := ⟨s - 1, by omega⟩
    exact ih s (by omega)
theorem vr_at (wd : Int → Option Int) (l : List S28) (z : Nat) (hz : z < l.length) (v : V) (n : Nat) : vr wd l z v n = (match vm1 wd (rd_T28 l (z : Int)) v with | .bad => none | .done o => some (o, n + 1) | .next v' s => vr wd l (z + 1 + s) v' (n + 1)) := by
  have e : l = (l.take z ++ [l[z]]) ++ l.drop (z + 1) := by rw [List.append_assoc, List.singleton_append, ← List.drop_eq_getElem_cons hz, List.take_append_drop]
  have el : (l.take z).length = z := by rw [List.length_take]; omega
  have er : rd_T28 l (z : Int) = l[z] := by unfold rd_T28; rw [Int.toNat_natCast, List.getD_eq_getElem?_getD, List.getElem?_eq_getElem hz]; rfl
  rw [er]
  have h1 : vr wd l z v n = vr wd (l[z] :: l.drop (z + 1)) 0 v n := by
    have k := vr_skip wd v n (l.take z) (l[z] :: l.drop (z + 1)) 0
    rw [el, Nat.add_zero, ← List.drop_eq_getElem_cons hz, List.take_append_drop] at k
    exact k.trans (by rw [List.drop_eq_getElem_cons hz])
  rw [h1]
  simp only [vr]
  cases vm1 wd l[z] v with
  | bad => rfl
  | done o => rfl
  | next v' s =>
    simp only
    have k := vr_skip wd v' (n + 1) (l.take (z + 1)) (l.drop (z + 1)) s
    rw [List.length_take, show min (z + 1) l.length = z + 1 by omega, List.take_append_drop] at k
    exact k.symm
end Go.Proofs.Ytefkhcijgiagdaa.HVm
end
section
namespace Go.Proofs.Ytefkhcijgiagdaa.HVm
open Go.Proofs.Ytefkhcijgiagdaa.HKnown Go.RowKit Go.Proofs.YtefkhcijgiagdaaW.PrintWords Go.Proofs.YtefkhcijgiagdaaW.PrintLast Go.Proofs.YtefkhcijgiagdaaW.PrintMore Go.Proofs.Ytefkhcijgiagdaa.I1 Go.Proofs.Ytefkhcijgiagdaa.QVm Go.Proofs.Ytefkhcijgiagdaa.QLe
set_option linter.unusedVariables false
set_option linter.unusedSimpArgs false
set_option maxRecDepth 100000
def v0 : V := ⟨0, 0, List.replicate 16 0⟩
theorem v0_r : VR v0 := ⟨⟨by decide, by decide⟩, ⟨by decide, by decide⟩, fun c hc => by rw [List.eq_of_mem_replicate hc]; exact ⟨by decide, by decide⟩⟩
def RunPost (w : World) (R : Option (Int × Nat)) (e : Ending) (w' : World) : Prop :=
  Below w.heap.size w w' ∧ match R with
  | none => e = .returned (.tuple #[.int .u32 0, .int .i64 0, .int .i64 51])
  | some (o, k) => e = .returned (.tuple #[.int .u32 o, .int .i64 (k : Int), .int .i64 0])
/-- Between two steps: where the run stands, of how many steps behind it. -/
structure Mid (w wr : World) (rec : ByteArray) (wd : Int → Option Int) (l : List S28) (R : Option (Int × Nat)) (n : Nat) (z : Int) (v : V) : Prop where
  hv : Vm wr w.heap.size rec v z 0 false
  hb : Below w.heap.size w wr
  hr : VR v
  h0 : 0 ≤ z → n ≤ z.toNat ∧ vr wd l z.toNat v n = R
  h1 : z < 0 → R = none
theorem mid_next {w wr w' : World} {rec : ByteArray} {wd : Int → Option Int} {l : List S28} {R : Option (Int × Nat)} {n : Nat} {z : Int} {v v' : V} {s : Nat} (h : Mid w wr rec wd l R n z v) (hz : 0 ≤ z) (hl : z < l.length) (hlen : l.length ≤ 100000) (hi : I28 (rd_T28 l z)) (hwd : Wd rec wd) (hs : vm1 wd (rd_T28 l z) v = .next v' s)
    (hb : Below w.heap.size wr w') (hv : Vm w' w.heap.size rec v' (wrap64 (z + 1 + (s : Int))) 0 false) : Mid w w' rec wd l R (n + 1) (wrap64 (z + 1 + (s : Int))) v' := by
  obtain ⟨k1, k2⟩ := vm1_next wd _ v v' s hwd.u hi h.hr hs
  obtain ⟨k3, k4⟩ := h.h0 hz
  have ez : ((z.toNat : Nat) : Int) = z := by omega
  rw [vr_at wd l z.toNat (by omega), ez, hs] at k4
  simp only at k4
  refine ⟨hv, h.hb.trans hb, k1, fun g => ?_, fun g => ?_⟩
  · by_cases hw : z + 1 + (s : Int) ≤ 9223372036854775807
    · rw [w64 _ (by omega) hw]
      rw [show (z + 1 + (s : Int)).toNat = z.toNat + 1 + s by omega]
      exact ⟨by omega, k4⟩
    · exfalso
      unfold wrap64 at g
      omega
  · by_cases hw : z + 1 + (s : Int) ≤ 9223372036854775807
    · rw [w64 _ (by omega) hw] at g; omega
    · rw [← k4]
      exact vr_out wd v' (n + 1) l _ (by omega)
set_option maxHeartbeats 4000000 in
theorem run_c {w : World} {A0 : Option Addr} {c0 : Nat} {l : List S28} {rec : ByteArray} (hr0 : Kd.C k28 w A0 l.length l) (hc0 : l.length ≤ c0) (hlen : l.length ≤ 100000) (hi : ∀ i ∈ l, I28 i) (hz : rec.size = 64) (wd : Int → Option Int) (hwd : Wd rec wd) :
    Calls Try.prog 80 #[.slice A0 l.length c0, .string rec] w (RunPost w (vr wd l 0 v0 0)) := by
  have hu156 := Try.underlying156
  have hu28 := Try.underlying28
  have hd64 : ((rec.size : Int) != 64) = false := by rw [hz]; rfl
  have HR0 := Aside0.mk hr0
  have HI := Aside0.mk hi
  have HW := Aside0.mk hwd
  clear hr0 hi hwd hz
  generalize hR : vr wd l 0 v0 0 = R
  have HRR := Aside0.mk hR
  clear hR
  have hv := heap_alloc_new w (.cells (vmL rec v0 0 0 false).toArray 156)
  have HV := Aside0.mk hv
  clear hv
  go_enter Try.func80, Try.ntmps80
  go_wp2
  have hM0 := Aside0.mk (show Mid w (w.alloc (.cells (vmL rec v0 0 0 false).toArray 156)) rec wd l R 0 0 v0 from ⟨⟨HV.out, by decide⟩, below_alloc (Below.refl _ _) _, v0_r, fun _ => ⟨Nat.le_refl _, HRR.out⟩, fun h => by omega⟩)
  clear HV HRR
  go_loopw [8] (fun st wr => ∃ (n : Nat) (z : Int) (v : V), st = .int .i64 ((n : Int) + 1) ∧ Aside0 (Mid w wr rec wd l R n z v)) (fun st _ => l.length + 2 - (intOf st).toNat)
  case atStart => exact ⟨0, 0, v0, rfl, ⟨hM0.out⟩⟩
  case round =>
    clear hM0
    obtain ⟨n, z, v, rfl, hm⟩ := hrel
    have kz := hm.out.hv.cAt
    by_cases hz : z < 0
    · have hR := hm.out.h1 hz
      subst hR
      have hd : decide (z < 0) = true := decide_eq_true hz
      go_wp2
      go_ret3
      exact ⟨hm.out.hb, rfl⟩
    · have hd : decide (z < 0) = false := decide_eq_false hz
      have hz0 : 0 ≤ z := by omega
      by_cases hge : (l.length : Int) ≤ z
      · have hd2 : decide ((l.length : Int) ≤ z) = true := decide_eq_true hge
        have hR : R = none := by rw [← (hm.out.h0 hz0).2]; exact vr_out wd v n l _ (by omega)
        subst hR
        go_wp2
        go_ret3
        exact ⟨hm.out.hb, rfl⟩
      · have hd2 : decide ((l.length : Int) ≤ z) = false := decide_eq_false hge
        have hlt : z < (l.length : Int) := by omega
        obtain ⟨ad, eA, hx0, hx1, hx2, hx3⟩ := at_T28 (Kd.C_below HR0.out hm.out.hb) z hz0 hlt
        subst eA
        have hI := HI.out (rd_T28 l z) (by unfold rd_T28; rw [List.getD_eq_getElem?_getD, List.getElem?_eq_getElem (by omega)]; exact List.getElem_mem _)
        have hstep := step_c hm.out.hv (Nat.le_refl _) (rd_T28 l z) ⟨hz0, by omega⟩ hI hm.out.hr wd HW.out
        have hnz := Aside0.mk (hm.out.h0 hz0)
        have HII := Aside0.mk hI
        have hat := vr_at wd l z.toNat (by omega) v n
        rw [show ((z.toNat : Nat) : Int) = z by omega, (hm.out.h0 hz0).2] at hat
        clear hI
        cases hvm : vm1 wd (rd_T28 l z) v with
        | bad =>
          rw [hvm] at hstep hat
          simp only at hat
          subst hat
          clear hvm
          go_wp2_with (go_at_call 120; refine hstep.mono ?_; rintro e w2 ⟨hb2, rfl⟩; have HB2 := Aside0.mk (hm.out.hb.trans hb2); clear hb2)
          go_ret3
          exact ⟨HB2.out, rfl⟩
        | done o =>
          rw [hvm] at hstep hat
          simp only at hat
          subst hat
          clear hvm
          go_wp2_with (go_at_call 120; refine hstep.mono ?_; rintro e w2 ⟨hb2, rfl, v2, at2, hv2⟩; have kd := hv2.cDone; have ko := hv2.cOut; have HB2 := Aside0.mk (hm.out.hb.trans hb2); clear hb2 hv2)
          go_ret3
          exact ⟨HB2.out, by first | rfl | (simp; done)⟩
        | next v' s =>
          rw [hvm] at hstep
          have HVM := Aside0.mk hvm
          clear hvm hat
          have hnb : n ≤ 100000 := by have := hnz.out.1; omega
          go_wp2_with (go_at_call 120; refine hstep.mono ?_; rintro e w2 ⟨hb2, rfl, hv2⟩; have kd := hv2.cDone; have HM2 := Aside0.mk (mid_next hm.out hz0 hlt hlen HII.out HW.out HVM.out hb2 hv2); clear hb2 hv2)
          go_roundw
          case rel => exact ⟨n + 1, _, v', by go_num, ⟨HM2.out⟩⟩
          case measure => have := hnz.out.1; simp [intOf]; omega
end Go.Proofs.Ytefkhcijgiagdaa.HVm
end
section
namespace Go.Proofs.Ytefkhcijgiagdaa.QWalk
open Go.RowKit Go.Proofs.YtefkhcijgiagdaaW.PrintWords Go.Proofs.YtefkhcijgiagdaaW.PrintLast Go.Proofs.YtefkhcijgiagdaaW.PrintMore Go.Proofs.Ytefkhcijgiagdaa.Le Go.Proofs.Ytefkhcijgiagdaa.QLe Go.Proofs.Ytefkhcijgiagdaa.QNum Go.Proofs.Ytefkhcijgiagdaa.E1 Go.Proofs.Ytefkhcijgiagdaa.V0 Go.Proofs.Ytefkhcijgiagdaa.V0
set_option linter.unusedVariables false
set_option linter.unusedSimpArgs false
/-- A word of a record, where there is one. -/
def wdS (s : ByteArray) (k : Int) : Option Int := if 0 ≤ k ∧ k ≤ 60 ∧ k % 4 = 0 then some (num ((s.data.toList.drop k.toNat).take 4)) else none
theorem wdS_range (s : ByteArray) (k w : Int) (h : wdS s k = some w) (hs : s.size = 64) : 0 ≤ w ∧ w < 4294967296 := by
  unfold wdS at h
  split at h
  · rename_i c
    injection h with h
    have h1 := num_nonneg ((s.data.toList.drop k.toNat).take 4)
    have h2 := num_lt ((s.data.toList.drop k.toNat).take 4)
    have h3 : ((s.data.toList.drop k.toNat).take 4).length ≤ 4 := List.length_take_le ..
    have p4 : (256 : Int) ^ 4 = 4294967296 := by decide
    have h5 : (256 : Int) ^ ((s.data.toList.drop k.toNat).take 4).length ≤ 256 ^ 4 := by
      have : ∀ n : Nat, n ≤ 4 → (256 : Int) ^ n ≤ 256 ^ 4 := by decide
      exact this _ h3
    omega
  · cases h
theorem word_f (s : ByteArray) (hs : s.size = 64) (a : Int) : ∀ k, 20 ≤ k → vm_Word.f k s a = some (match wdS s a with | some w => (w, 0) | none => (0, 51)) := by
  intro k hk
  unfold vm_Word.f wdS
  rw [if_pos (by omega)]
  by_cases h0 : a < 0
  · rw [if_pos h0, if_neg (by omega)]
  · rw [if_neg h0]
    by_cases h1 : a > 60
    · rw [if_pos h1, if_neg (by omega)]
    · rw [if_neg h1, Int.tmod_eq_emod_of_nonneg (by omega)]
      by_cases h2 : a % 4 = 0
      · rw [if_pos h2, if_pos ⟨by omega, by omega, h2⟩]
        obtain ⟨n, rfl⟩ : ∃ n : Nat, a = n := ⟨a.toNat, by omega⟩
        have g := get_ok s (n : Int) 4 (by omega) (by omega) (by omega) (by omega) (by omega) k (by omega)
        have g' : le_Get.f k s (n : Int) 4 = some (leval s n 4, (n : Int) + 4, 0) := g
        rw [g']
        simp only [Option.bind_some, Int.toNat_natCast]
        have hl := leval_num s n 4 (by omega)
        have hr := leval_range s (n : Int) 4
        have p4 : (256 : Int) ^ 4 = 4294967296 := by decide
        rw [Int.emod_eq_of_lt hr.1 (by omega), hl]
      · rw [if_neg h2, if_neg (fun g => h2 g.2.2)]
theorem word_bad (s : ByteArray) (hs : s.size ≠ 64) (a : Int) (k : Nat) : vm_Word.f k s a = some (0, 52) := by
  unfold vm_Word.f
  rw [if_neg (by omega)]
end Go.Proofs.Ytefkhcijgiagdaa.QWalk
end
section
namespace Go.Proofs.Ytefkhcijgiagdaa.HVm
open Go.Proofs.Ytefkhcijgiagdaa.QWalk Go.Proofs.Ytefkhcijgiagdaa.V0 Go.Proofs.Ytefkhcijgiagdaa.HKnown Go.RowKit Go.Proofs.YtefkhcijgiagdaaW.PrintWords Go.Proofs.YtefkhcijgiagdaaW.PrintLast Go.Proofs.YtefkhcijgiagdaaW.PrintMore Go.Proofs.Ytefkhcijgiagdaa.I1 Go.Proofs.Ytefkhcijgiagdaa.QVm Go.Proofs.Ytefkhcijgiagdaa.QLe
set_option linter.unusedVariables false
set_option linter.unusedSimpArgs false
set_option maxRecDepth 100000
theorem wd_ok (rec : ByteArray) (hz : rec.size = 64) : Wd rec (wdS rec) := by
  refine ⟨fun k hk => ?_, fun k x h => wdS_range rec k x h hz⟩
  have h := word_f rec hz k 20 (by omega)
  cases hw : wdS rec k with
  | none =>
    rw [hw] at h
    exact ⟨0, 51, fun W => vm_Word.calls 20 rec k 0 51 W h, .inr ⟨rfl, rfl⟩⟩
  | some x =>
    rw [hw] at h
    exact ⟨x, 0, fun W => vm_Word.calls 20 rec k x 0 W h, .inl ⟨rfl, rfl⟩⟩
theorem run_short {w : World} {A0 : Option Addr} {c0 : Nat} {l : List S28} {rec : ByteArray} (hz : rec.size ≠ 64) :
    Calls Try.prog 80 #[.slice A0 l.length c0, .string rec] w fun e w' => e = .returned (.tuple #[.int .u32 0, .int .i64 0, .int .i64 52]) ∧ Below w.heap.size w w' := by
  have hn : ¬ (rec.size : Int) = 64 := by omega
  go_enter Try.func80, Try.ntmps80
  go_wp2
  go_ret3
  exact ⟨rfl, Below.refl _ _⟩
instance (i : S28) : Decidable (I28 i) := inferInstanceAs (Decidable (_ ∧ _ ∧ _))
def runB (l : List S28) (rec : ByteArray) : Int × Int × Int :=
  if rec.size = 64 then (match vr (wdS rec) l 0 v0 0 with | none => (0, 0, 51) | some (o, k) => (o, (k : Int), 0)) else (0, 0, 52)
def vm_Run.f (l0 : List S28) (a1 : ByteArray) : Option (Int × Int × Int) :=
  if l0.length ≤ 100000 ∧ (∀ i ∈ l0, I28 i) then some (runB l0 a1) else none
theorem vm_Run.calls (A0 : Option Addr) (c0 : Nat) (l0 : List (S28)) (a1 : ByteArray) (r1 : Int) (r2 : Int) (r3 : Int) (w : World) (hr0 : Kd.C k28 w A0 l0.length l0) (hc0 : l0.length ≤ c0) (h : vm_Run.f l0 a1 = some (r1, r2, r3)) :
    Calls Try.prog 80 #[.slice A0 l0.length c0, .string a1] w fun e w' => e = .returned (.tuple #[.int .u32 r1, .int .i64 r2, .int .i64 r3]) ∧ Below w.heap.size w w' := by
  unfold vm_Run.f at h
  split at h
  · rename_i hc
    obtain ⟨hl, hi⟩ := hc
    have h := Option.some.inj h
    unfold runB at h
    by_cases hz : a1.size = 64
    · rw [if_pos hz] at h
      refine (run_c hr0 hc0 hl hi hz (wdS a1) (wd_ok a1 hz)).mono ?_
      rintro e w' ⟨hb, he⟩
      refine ⟨?_, hb⟩
      cases hv : vr (wdS a1) l0 0 v0 0 with
      | none =>
        rw [hv] at h he
        simp only [Prod.mk.injEq] at h
        obtain ⟨rfl, rfl, rfl⟩ := h
        exact he
      | some x =>
        obtain ⟨o, k⟩ := x
        rw [hv] at h he
        simp only [Prod.mk.injEq] at h
        obtain ⟨rfl, rfl, rfl⟩ := h
        exact he
    · rw [if_neg hz] at h
      simp only [Prod.mk.injEq] at h
      obtain ⟨rfl, rfl, rfl⟩ := h
      exact run_short hz
  · cases h
end Go.Proofs.Ytefkhcijgiagdaa.HVm
end
section
namespace Go.Proofs.Ytefkhcijgiagdaa.K0
open Go.RowKit Go.Proofs.YtefkhcijgiagdaaW.PrintWords Go.Proofs.YtefkhcijgiagdaaW.PrintLast Go.Proofs.YtefkhcijgiagdaaW.PrintMore
attribute [local go_sem] max2_int min2_int max_two min_two max_three min_three max_four min_four IntKind.wrap_u32 IntKind.wrap_u8   -- for this text's walks alone
set_option linter.unusedVariables false
open Go.Proofs.Ytefkhcijgiagdaa.Le Go.Proofs.Ytefkhcijgiagdaa.HKnown Go.Proofs.Ytefkhcijgiagdaa.I1 Go.Proofs.Ytefkhcijgiagdaa.E1 Go.Proofs.Ytefkhcijgiagdaa.HAsm Go.Proofs.Ytefkhcijgiagdaa.E2 Go.Proofs.Ytefkhcijgiagdaa.V0 Go.Proofs.Ytefkhcijgiagdaa.HVm
set_option linter.unusedSimpArgs false
def errW : Option Int → Value
  | none => .nilIface
  | some c => .iface 0 (.int .i64 c)
theorem errW_none : errW none = .nilIface := rfl
theorem errW_some (c : Int) : errW (some c) = .iface 0 (.int .i64 c) := rfl
end Go.Proofs.Ytefkhcijgiagdaa.K0
end
section
namespace Go.Proofs.Ytefkhcijgiagdaa.QCheck
open Go.RowKit Go.Proofs.YtefkhcijgiagdaaW.PrintWords Go.Proofs.YtefkhcijgiagdaaW.PrintLast Go.Proofs.YtefkhcijgiagdaaW.PrintMore Go.Proofs.Ytefkhcijgiagdaa.HKnown Go.Proofs.Ytefkhcijgiagdaa.I1 Go.Proofs.Ytefkhcijgiagdaa.QVm
set_option linter.unusedVariables false
set_option linter.unusedSimpArgs false
def retB (c : Int) : Bool := decide (c = 6 ∨ c = 22)
/-- Does an instruction fit, with so many behind it? by its code. -/
def fitB (i : S28) (left : Int) : Bool :=
  if i.f0 = 32 then decide (i.f3 % 4 = 0 ∧ i.f3 ≤ 60)
  else if i.f0 = 96 ∨ i.f0 = 97 ∨ i.f0 = 2 ∨ i.f0 = 3 then decide (i.f3 < 16)
  else if i.f0 = 52 then decide (i.f3 ≠ 0)
  else if i.f0 = 100 ∨ i.f0 = 116 then decide (i.f3 < 32)
  else if i.f0 = 5 then decide (i.f3 < left)
  else if i.f0 = 21 ∨ i.f0 = 37 ∨ i.f0 = 53 ∨ i.f0 = 69 ∨ i.f0 = 29 ∨ i.f0 = 45 ∨ i.f0 = 61 ∨ i.f0 = 77 then decide (i.f1 < left ∧ i.f2 < left)
  else true
def z28 : S28 := ⟨0, 0, 0, 0⟩
def at_ (l : List S28) (k : Nat) : S28 := l.getD k z28
theorem getD_set_same {α : Type} (l : List α) (j : Nat) (x d : α) (h : j < l.length) : (l.set j x).getD j d = x := by
  rw [List.getD_eq_getElem?_getD, List.getElem?_set_self h]; rfl
theorem getD_set_other {α : Type} (l : List α) (i j : Nat) (x d : α) (h : i ≠ j) : (l.set i x).getD j d = l.getD j d := by
  rw [List.getD_eq_getElem?_getD, List.getD_eq_getElem?_getD, List.getElem?_set_ne h]
theorem known_codes : ∀ c : Fin 256, knownB (c.val : Int) = true → (c.val : Int) % 8 = 5 → (c.val : Int) = 5 ∨ (c.val : Int) = 21 ∨ (c.val : Int) = 37 ∨ (c.val : Int) = 53 ∨ (c.val : Int) = 69 ∨ (c.val : Int) = 29 ∨ (c.val : Int) = 45 ∨ (c.val : Int) = 61 ∨ (c.val : Int) = 77 := by decide +kernel
theorem known_range {c : Int} (h : knownB c = true) : 0 ≤ c ∧ c < 256 := by
  unfold knownB at h; rw [Bool.and_eq_true, decide_eq_true_eq] at h; exact h.1
theorem known_jump {c : Int} (h : knownB c = true) (h5 : c % 8 = 5) : c = 5 ∨ c = 21 ∨ c = 37 ∨ c = 53 ∨ c = 69 ∨ c = 29 ∨ c = 45 ∨ c = 61 ∨ c = 77 := by
  obtain ⟨a, b⟩ := known_range h
  obtain ⟨n, rfl⟩ : ∃ n : Nat, c = n := ⟨c.toNat, by omega⟩
  exact known_codes ⟨n, by omega⟩ h h5
structure Well (i : S28) (left : Int) : Prop where
  kn : knownB i.f0 = true
  t0 : 0 ≤ i.f1
  t1 : i.f1 ≤ 255
  f0 : 0 ≤ i.f2
  f1 : i.f2 ≤ 255
  lr : left ≠ 0 ∨ retB i.f0 = true
  fit : fitB i left = true
theorem Well.jump {i : S28} {left : Int} (h : Well i left) (h5 : i.f0 % 8 = 5) (hn : i.f0 ≠ 5) : i.f1 < left ∧ i.f2 < left := by
  have hf := h.fit
  have hk := known_jump h.kn h5
  unfold fitB at hf
  rw [if_neg (by omega), if_neg (by omega), if_neg (by omega), if_neg (by omega), if_neg hn, if_pos (by omega)] at hf
  exact of_decide_eq_true hf
theorem Well.cell {i : S28} {left : Int} (h : Well i left) (h5 : i.f0 = 96 ∨ i.f0 = 97 ∨ i.f0 = 2 ∨ i.f0 = 3) : i.f3 < 16 := by
  have hf := h.fit
  unfold fitB at hf
  rw [if_neg (by omega), if_pos h5] at hf
  exact of_decide_eq_true hf
end Go.Proofs.Ytefkhcijgiagdaa.QCheck
end
section
namespace Go.Proofs.Ytefkhcijgiagdaa.HCk
open Go.RowKit Go.Proofs.YtefkhcijgiagdaaW.PrintWords Go.Proofs.YtefkhcijgiagdaaW.PrintLast Go.Proofs.YtefkhcijgiagdaaW.PrintMore Go.Proofs.Ytefkhcijgiagdaa.HKnown Go.Proofs.Ytefkhcijgiagdaa.I1 Go.Proofs.Ytefkhcijgiagdaa.QVm Go.Proofs.Ytefkhcijgiagdaa.QLe Go.Proofs.Ytefkhcijgiagdaa.QCheck Go.Proofs.Ytefkhcijgiagdaa.K0
set_option linter.unusedVariables false
set_option linter.unusedSimpArgs false
set_option maxRecDepth 100000
attribute [local go_sem] max2_int min2_int max_two min_two IntKind.wrap_u32
abbrev U (x : Int) : Prop := 0 ≤ x ∧ x < 4294967296
def fnR : Value → Option (DataW Unit × List MemPlace)
  | .func (.func n) a b => if a = #[] ∧ b = #[] then some (.lit (.int .i64 (n : Int)), []) else none
  | .nilFunc => some (.lit (.int .i64 (-1)), [])
  | _ => none
def fnV : Option Nat → Value
  | some n => .func (.func n) #[] #[]
  | none => .nilFunc
theorem fnR_some (n : Nat) : fnR (.func (.func n) #[] #[]) = some (.lit (.int .i64 (n : Int)), []) := by simp [fnR]
theorem fnR_func {m : Nat} {a b : Array Value} {z : DataW Unit × List MemPlace} (h : fnR (.func (.func m) a b) = some z) : a = #[] ∧ b = #[] ∧ z = (.lit (.int .i64 (m : Int)), []) := by
  unfold fnR at h
  by_cases hab : a = #[] ∧ b = #[]
  · simp only [if_pos hab] at h
    exact ⟨hab.1, hab.2, (Option.some.inj h).symm⟩
  · simp only [if_neg hab] at h
    cases h
theorem fnR_inv {v : Value} {n : Nat} {ps : List MemPlace} (h : fnR v = some (.lit (.int .i64 (n : Int)), ps)) : v = .func (.func n) #[] #[] := by
  cases v with
  | func fn a b =>
    cases fn with
    | func m =>
      obtain ⟨rfl, rfl, hz⟩ := fnR_func h
      simp only [Prod.mk.injEq, DataW.lit.injEq, Lit.int.injEq, true_and, Int.natCast_inj] at hz
      rw [hz.1]
    | _ => simp [fnR] at h
  | nilFunc =>
    simp only [fnR, Option.some.injEq, Prod.mk.injEq, DataW.lit.injEq, Lit.int.injEq, true_and] at h
    omega
  | _ => simp [fnR] at h
theorem fnR_inv_nil {v : Value} {ps : List MemPlace} (h : fnR v = some (.lit (.int .i64 (-1)), ps)) : v = .nilFunc := by
  cases v with
  | func fn a b =>
    cases fn with
    | func m =>
      obtain ⟨rfl, rfl, hz⟩ := fnR_func h
      simp only [Prod.mk.injEq, DataW.lit.injEq, Lit.int.injEq, true_and] at hz
      omega
    | _ => simp [fnR] at h
  | nilFunc => rfl
  | _ => simp [fnR] at h
theorem law3 : Maps.Keyed Try.prog 3 := Maps.int_keyed Try.underlying3
theorem zero171 (w : World) : (zeroValue 171).run Try.prog w = .ok .nilFunc w := by kernel_rfl
def MapF (w : World) (b n : Nat) (L : Int → Option Nat) : Prop :=
  ∃ D : DataW Unit, w.ownsMap Try.prog 3 fnR b n D ∧ Maps.IsMap D ∧ ∀ (k : Int) (z : DataW Unit), D.atKey (.int .i64 k) z = match L k with | some v => .lit (.int .i64 (v : Int)) | none => z
theorem MapF.lt {w : World} {b n : Nat} {L : Int → Option Nat} (h : MapF w b n L) : b < w.heap.size := by obtain ⟨D, h, _⟩ := h; exact h.lt
theorem MapF.kept {w w' : World} {b n : Nat} {L : Int → Option Nat} (h : MapF w b n L) (he : w'.heap[b]? = w.heap[b]?) : MapF w' b n L := by
  obtain ⟨D, ⟨es, clock, hb, F, hs, hD⟩, h2⟩ := h
  exact ⟨D, ⟨es, clock, he.trans hb, F, hs, hD⟩, h2⟩
theorem MapF.below {w w' : World} {b n : Nat} {L : Int → Option Nat} (h : MapF w b n L) (hb : Below w.heap.size w w') : MapF w' b n L := h.kept (hb.block _ h.lt)
theorem MapF.look {w : World} {b n : Nat} {L : Int → Option Nat} (h : MapF w b n L) (k : Int) (hk : (Lit.int .i64 k).wf = true) :
    (Instr.lookup 168 (.map (some b)) (.int .i64 k) true).run Try.prog w = .ok (.tuple #[fnV (L k), .bool (L k).isSome]) w := by
  obtain ⟨D, ho, hm, hat⟩ := h
  obtain ⟨v, ps, hrun, hv⟩ := ho.look_ok (t := 168) (e := 171) law3 Try.underlying168 (zero171 w) (zd := .lit (.int .i64 (-1))) (zp := []) rfl (Maps.keyOf_int_mk Try.underlying3 hk)
  rw [hrun]
  have e1 : Maps.has D (.int .i64 k) = (L k).isSome := by
    cases hL : L k with
    | none => exact Maps.has_false_of_atKey (fun z => by rw [hat, hL])
    | some x => exact Maps.has_true_of_atKey (y := .lit (.int .i64 (x : Int))) (fun z => by rw [hat, hL])
  have e2 : v = fnV (L k) := by
    rw [hat] at hv
    cases hL : L k with
    | none => rw [hL] at hv; exact fnR_inv_nil hv
    | some x => rw [hL] at hv; exact fnR_inv hv
  rw [e1, e2]
theorem MapF.store {w : World} {b n : Nat} {L : Int → Option Nat} (h : MapF w b n L) (hn : n < 1000000) (k : Int) (v : Nat) (hk : (Lit.int .i64 k).wf = true) :
    ∃ w', (Instr.mapUpdate 168 (.map (some b)) (.int .i64 k) (.func (.func v) #[] #[])).run Try.prog w = .ok () w' ∧ MapF w' b (n + 1) (fun x => if x = k then some v else L x) ∧ w.grownBy w' (some b) := by
  obtain ⟨D, ho, hm, hat⟩ := h
  obtain ⟨w', hrun, ho', hg⟩ := ho.update (t := 168) (e := 171) law3 Try.underlying168 (by unfold maxLen; omega) (Maps.keyOf_int_mk Try.underlying3 hk) (fnR_some v)
  refine ⟨w', hrun, ⟨_, ho', hm.put _ _, fun x z => ?_⟩, hg⟩
  by_cases hx : x = k
  · subst hx
    show _ = match (if x = x then some v else L x) with | some v => _ | none => _
    rw [if_pos rfl, Maps.atKey_put_same hm (show WideAt.IsKeyLit (.int .i64 x) from trivial)]
  · show _ = match (if x = k then some v else L x) with | some v => _ | none => _
    rw [if_neg hx, Maps.atKey_put_other (fun e => hx (by cases e; rfl)), hat]
end Go.Proofs.Ytefkhcijgiagdaa.HCk
end
section
namespace Go.Proofs.Ytefkhcijgiagdaa.HCk
open Go.RowKit Go.Proofs.YtefkhcijgiagdaaW.PrintWords Go.Proofs.YtefkhcijgiagdaaW.PrintLast Go.Proofs.YtefkhcijgiagdaaW.PrintMore Go.Proofs.Ytefkhcijgiagdaa.HKnown Go.Proofs.Ytefkhcijgiagdaa.I1 Go.Proofs.Ytefkhcijgiagdaa.QVm Go.Proofs.Ytefkhcijgiagdaa.QLe Go.Proofs.Ytefkhcijgiagdaa.QCheck Go.Proofs.Ytefkhcijgiagdaa.K0
set_option linter.unusedVariables false
set_option linter.unusedSimpArgs false
set_option maxRecDepth 100000
attribute [local go_sem] max2_int min2_int max_two min_two IntKind.wrap_u32
def codesT : Nat → List Int
  | 0 => [32]
  | 1 => [96, 97, 2, 3]
  | 2 => [52]
  | 3 => [100, 116]
  | 4 => [5]
  | _ => [21, 37, 53, 69, 29, 45, 61, 77]
def fnT : Nat → Nat
  | 0 => 153
  | 1 => 150
  | 2 => 154
  | 3 => 151
  | 4 => 155
  | _ => 152
structure TestsAt (w : World) (ad : Addr) (ac : Nat → Addr) : Prop where
  sl : ∀ t, t < 6 → w.cell? (ad.add (t * 2)) = some (.slice (some (ac t)) (codesT t).length (codesT t).length)
  fn : ∀ t, t < 6 → w.cell? ⟨(ad.add (t * 2)).block, (ad.add (t * 2)).off + 1, none⟩ = some (.func (.func (fnT t)) #[] #[])
  cd : ∀ t j, t < 6 → j < (codesT t).length → w.cell? ((ac t).add j) = some (.int .i64 ((codesT t).getD j 0))
theorem TestsAt.below {w w' : World} {ad : Addr} {ac : Nat → Addr} (h : TestsAt w ad ac) (hb : Below w.heap.size w w') : TestsAt w' ad ac :=
  ⟨fun t ht => pw_cell_below hb (h.sl t ht), fun t ht => pw_cell_below hb (h.fn t ht), fun t j ht hj => pw_cell_below hb (h.cd t j ht hj)⟩
end Go.Proofs.Ytefkhcijgiagdaa.HCk
end
section
namespace Go.Proofs.Ytefkhcijgiagdaa.HCk
open Go.RowKit Go.Proofs.YtefkhcijgiagdaaW.PrintWords Go.Proofs.YtefkhcijgiagdaaW.PrintLast Go.Proofs.YtefkhcijgiagdaaW.PrintMore Go.Proofs.Ytefkhcijgiagdaa.HKnown Go.Proofs.Ytefkhcijgiagdaa.I1 Go.Proofs.Ytefkhcijgiagdaa.QVm Go.Proofs.Ytefkhcijgiagdaa.QLe Go.Proofs.Ytefkhcijgiagdaa.QCheck Go.Proofs.Ytefkhcijgiagdaa.K0
set_option linter.unusedVariables false
set_option linter.unusedSimpArgs false
set_option maxRecDepth 100000
attribute [local go_sem] max2_int min2_int max_two min_two IntKind.wrap_u32
/-- Fields that the types allow. -/
def IW (i : S28) : Prop := (Lit.int .i64 i.f0).wf = true ∧ (Lit.int .i64 i.f1).wf = true ∧ (Lit.int .i64 i.f2).wf = true ∧ U i.f3
theorem MapF.mono {w : World} {b n n' : Nat} {L : Int → Option Nat} (h : MapF w b n L) (hn : n ≤ n') : MapF w b n' L := by
  obtain ⟨D, h1, h2⟩ := h
  exact ⟨D, h1.mono hn, h2⟩
structure Mid1 (w wr : World) (ad : Addr) (ac : Nat → Addr) (n : Nat) (L : Int → Option Nat) : Prop where
  hM : MapF wr w.heap.size n L
  hT : TestsAt wr ad ac
  hb : Below w.heap.size w wr
  n1 : w.heap.size < ad.block
  n2 : ∀ t, w.heap.size < (ac t).block
theorem Mid1.below {w wr w' : World} {ad : Addr} {ac : Nat → Addr} {n : Nat} {L : Int → Option Nat} (h : Mid1 w wr ad ac n L) (hb : Below wr.heap.size wr w') : Mid1 w w' ad ac n L :=
  ⟨h.hM.below hb, h.hT.below hb, below_step h.hb hb, h.n1, h.n2⟩
theorem grown_cell {w w' : World} {b : Nat} (hg : w.grownBy w' (some b)) {a : Addr} {v : Value} (hc : w.cell? a = some v) (hn : b < a.block) : w'.cell? a = some v := by
  have hl := World.block_lt_of_cell? w a hc
  have := hg.block a.block hl (fun e => by injection e with e; omega)
  simp only [World.cell?, this] at hc ⊢
  exact hc
theorem add_blk (a : Addr) (j : Nat) : (a.add j).block = a.block := add_block a j
theorem Mid1.grown {w wr w' : World} {ad : Addr} {ac : Nat → Addr} {n n' : Nat} {L L' : Int → Option Nat} (h : Mid1 w wr ad ac n L) (hM : MapF w' w.heap.size n' L') (hg : wr.grownBy w' (some w.heap.size)) : Mid1 w w' ad ac n' L' :=
  ⟨hM, ⟨fun t ht => grown_cell hg (h.hT.sl t ht) (by rw [add_blk]; exact h.n1), fun t ht => grown_cell hg (h.hT.fn t ht) (by show _ < (ad.add (t * 2)).block; rw [add_blk]; exact h.n1), fun t j ht hj => grown_cell hg (h.hT.cd t j ht hj) (by rw [add_blk]; exact h.n2 t)⟩, h.hb.grown hg h.hb.size (fun k hk => by injection hk with hk; omega), h.n1, h.n2⟩
end Go.Proofs.Ytefkhcijgiagdaa.HCk
end
section
namespace Go.Proofs.Ytefkhcijgiagdaa.HCk
open Go.RowKit Go.Proofs.YtefkhcijgiagdaaW.PrintWords Go.Proofs.YtefkhcijgiagdaaW.PrintLast Go.Proofs.YtefkhcijgiagdaaW.PrintMore Go.Proofs.Ytefkhcijgiagdaa.HKnown Go.Proofs.Ytefkhcijgiagdaa.I1 Go.Proofs.Ytefkhcijgiagdaa.QVm Go.Proofs.Ytefkhcijgiagdaa.QLe Go.Proofs.Ytefkhcijgiagdaa.QCheck Go.Proofs.Ytefkhcijgiagdaa.K0
set_option linter.unusedVariables false
set_option linter.unusedSimpArgs false
set_option maxRecDepth 100000
attribute [local go_sem] max2_int min2_int max_two min_two IntKind.wrap_u32
def rowIs (w : World) (B : Nat) (v : Value) (row : List Bool) : Prop :=
  (row = [] ∧ v = .slice none 0 0) ∨ (row.length = 16 ∧ ∃ g c, v = .slice (some ⟨g, 0, none⟩) 16 c ∧ Kd.R Kd.bool 4 w B (fun _ => True) v row)
theorem rowIs.below {w w' : World} {B : Nat} {v : Value} {row : List Bool} (h : rowIs w B v row) (hb : Below w.heap.size w w') : rowIs w' B v row := by
  rcases h with h | ⟨h, g, c, e, hR⟩
  · exact .inl h
  · exact .inr ⟨h, g, c, e, Kd.R_below hR hb⟩
def RowsAt (w : World) (B ob : Nat) (rows : List (List Bool)) : Prop :=
  ∃ rv : List Value, w.heap[ob]? = some (.cells rv.toArray 120 (0, 0)) ∧ rv.length = rows.length ∧ ∀ j, j < rows.length → rowIs w B (rv.getD j undef) (rows.getD j [])
theorem RowsAt.below {w w' : World} {B ob : Nat} {rows : List (List Bool)} (h : RowsAt w B ob rows) (hb : Below w.heap.size w w') : RowsAt w' B ob rows := by
  obtain ⟨rv, h1, h2, h3⟩ := h
  exact ⟨rv, blk_below h1 hb, h2, fun j hj => (h3 j hj).below hb⟩
theorem RowsAt.cell {w : World} {B ob : Nat} {rows : List (List Bool)} (h : RowsAt w B ob rows) (j : Nat) (hj : j < rows.length) : ∃ v, w.cell? ⟨ob, j, none⟩ = some v ∧ rowIs w B v (rows.getD j []) ∧ w.frozen? ⟨ob, j, none⟩ = false := by
  obtain ⟨rv, h1, h2, h3⟩ := h
  refine ⟨rv.getD j undef, ?_, h3 j hj, blk_frozen h1 j⟩
  rw [blk_cell h1 j]
  simp [show j < rv.length by omega]
theorem RowsAt.set {w : World} {B ob : Nat} {rows : List (List Bool)} (h : RowsAt w B ob rows) (j : Nat) {v : Value} {row : List Bool} (hv : rowIs w B v row) : RowsAt (w.setCell ⟨ob, j, none⟩ v) B ob (rows.set j row) := by
  obtain ⟨rv, h1, h2, h3⟩ := h
  have keep : ∀ {u : Value} {r : List Bool}, rowIs w B u r → rowIs (w.setCell ⟨ob, j, none⟩ v) B u r := by
    intro u r hr
    rcases hr with hr | ⟨hr, g, c, e, hR⟩
    · exact .inl hr
    · exact .inr ⟨hr, g, c, e, Kd.R_set hR h1 (by decide) j v⟩
  refine ⟨rv.set j v, by rw [blk_set h1 j v]; simp, by simp [h2], fun i hi => ?_⟩
  rw [List.length_set] at hi
  by_cases e : j = i
  · subst e
    rw [getD_set_same _ _ _ _ (by omega), getD_set_same _ _ _ _ hi]
    exact keep hv
  · rw [getD_set_other _ _ _ _ _ e, getD_set_other _ _ _ _ _ e]
    exact keep (h3 i hi)
/-- The world between two rounds. -/
structure MidC (w wr : World) (ob : Nat) (rows : List (List Bool)) : Prop where
  rows : RowsAt wr w.heap.size ob rows
  hb : Below w.heap.size w wr
  ho : w.heap.size ≤ ob
theorem MidC.below {w wr w' : World} {ob : Nat} {rows : List (List Bool)} (h : MidC w wr ob rows) (hb : Below wr.heap.size wr w') : MidC w w' ob rows := ⟨h.rows.below hb, below_step h.hb hb, h.ho⟩
theorem MidC.set {w wr : World} {ob : Nat} {rows : List (List Bool)} (h : MidC w wr ob rows) (j : Nat) {v : Value} {row : List Bool} (hv : rowIs wr w.heap.size v row) : MidC w (wr.setCell ⟨ob, j, none⟩ v) ob (rows.set j row) := ⟨h.rows.set j hv, h.hb.setCell (p := ⟨ob, j, none⟩) h.ho v, h.ho⟩
end Go.Proofs.Ytefkhcijgiagdaa.HCk
end
section
namespace Go.Proofs.Ytefkhcijgiagdaa.HCk
open Go.RowKit Go.Proofs.YtefkhcijgiagdaaW.PrintWords Go.Proofs.YtefkhcijgiagdaaW.PrintLast Go.Proofs.YtefkhcijgiagdaaW.PrintMore Go.Proofs.Ytefkhcijgiagdaa.HKnown Go.Proofs.Ytefkhcijgiagdaa.I1 Go.Proofs.Ytefkhcijgiagdaa.QVm Go.Proofs.Ytefkhcijgiagdaa.QLe Go.Proofs.Ytefkhcijgiagdaa.QCheck Go.Proofs.Ytefkhcijgiagdaa.K0
set_option linter.unusedVariables false
set_option linter.unusedSimpArgs false
set_option maxRecDepth 100000
attribute [local go_sem] max2_int min2_int max_two min_two IntKind.wrap_u32
theorem MidC.drewN {w wr : World} {ob : Nat} {rows : List (List Bool)} (h : MidC w wr ob rows) (n : Nat) : MidC w (wr.drewN n) ob rows := h.below (pw_below_drewN (Below.refl _ _) n)
instance (x : Int) : Decidable (U x) := inferInstanceAs (Decidable (_ ∧ _))
instance (i : S28) : Decidable (IW i) := inferInstanceAs (Decidable (_ ∧ _ ∧ _ ∧ _))
end Go.Proofs.Ytefkhcijgiagdaa.HCk
end
section
namespace Go.Proofs.Ytefkhcijgiagdaa.K3
open Go.RowKit Go.Proofs.YtefkhcijgiagdaaW.PrintWords Go.Proofs.YtefkhcijgiagdaaW.PrintLast Go.Proofs.YtefkhcijgiagdaaW.PrintMore
attribute [local go_sem] max2_int min2_int max_two min_two max_three min_three max_four min_four IntKind.wrap_u32 IntKind.wrap_u8   -- for this text's walks alone
set_option linter.unusedVariables false
open Go.Proofs.Ytefkhcijgiagdaa.Le Go.Proofs.Ytefkhcijgiagdaa.HKnown Go.Proofs.Ytefkhcijgiagdaa.I1 Go.Proofs.Ytefkhcijgiagdaa.E1 Go.Proofs.Ytefkhcijgiagdaa.HAsm Go.Proofs.Ytefkhcijgiagdaa.E2 Go.Proofs.Ytefkhcijgiagdaa.V0 Go.Proofs.Ytefkhcijgiagdaa.HVm Go.Proofs.Ytefkhcijgiagdaa.K0 Go.Proofs.Ytefkhcijgiagdaa.HCk
set_option linter.unusedSimpArgs false
def errW : Option Int → Value
  | none => .nilIface
  | some c => .iface 0 (.int .i64 c)
theorem errW_none : errW none = .nilIface := rfl
theorem errW_some (c : Int) : errW (some c) = .iface 0 (.int .i64 c) := rfl
end Go.Proofs.Ytefkhcijgiagdaa.K3
end
section
namespace Go.Proofs.Ytefkhcijgiagdaa.HRch
open Go.RowKit Go.Proofs.YtefkhcijgiagdaaW.PrintWords Go.Proofs.YtefkhcijgiagdaaW.PrintLast Go.Proofs.YtefkhcijgiagdaaW.PrintMore Go.Proofs.Ytefkhcijgiagdaa.HKnown Go.Proofs.Ytefkhcijgiagdaa.I1 Go.Proofs.Ytefkhcijgiagdaa.QVm Go.Proofs.Ytefkhcijgiagdaa.QLe Go.Proofs.Ytefkhcijgiagdaa.QCheck Go.Proofs.Ytefkhcijgiagdaa.K0 Go.Proofs.Ytefkhcijgiagdaa.HCk
set_option linter.unusedVariables false
set_option linter.unusedSimpArgs false
set_option maxRecDepth 100000
attribute [local go_sem] max2_int min2_int max_two min_two IntKind.wrap_u32
instance (x : Int) : Decidable (U x) := inferInstanceAs (Decidable (_ ∧ _))
instance (i : S28) : Decidable (IW i) := inferInstanceAs (Decidable (_ ∧ _ ∧ _ ∧ _))
end Go.Proofs.Ytefkhcijgiagdaa.HRch
end
section
namespace Go.Proofs.Ytefkhcijgiagdaa.K1
open Go.RowKit Go.Proofs.YtefkhcijgiagdaaW.PrintWords Go.Proofs.YtefkhcijgiagdaaW.PrintLast Go.Proofs.YtefkhcijgiagdaaW.PrintMore
attribute [local go_sem] max2_int min2_int max_two min_two max_three min_three max_four min_four IntKind.wrap_u32 IntKind.wrap_u8   -- for this text's walks alone
set_option linter.unusedVariables false
open Go.Proofs.Ytefkhcijgiagdaa.Le Go.Proofs.Ytefkhcijgiagdaa.HKnown Go.Proofs.Ytefkhcijgiagdaa.I1 Go.Proofs.Ytefkhcijgiagdaa.E1 Go.Proofs.Ytefkhcijgiagdaa.HAsm Go.Proofs.Ytefkhcijgiagdaa.E2 Go.Proofs.Ytefkhcijgiagdaa.V0 Go.Proofs.Ytefkhcijgiagdaa.HVm Go.Proofs.Ytefkhcijgiagdaa.K0 Go.Proofs.Ytefkhcijgiagdaa.HCk Go.Proofs.Ytefkhcijgiagdaa.K3 Go.Proofs.Ytefkhcijgiagdaa.HRch
set_option linter.unusedSimpArgs false
def errW : Option Int → Value
  | none => .nilIface
  | some c => .iface 0 (.int .i64 c)
theorem errW_none : errW none = .nilIface := rfl
theorem errW_some (c : Int) : errW (some c) = .iface 0 (.int .i64 c) := rfl
end Go.Proofs.Ytefkhcijgiagdaa.K1
end
section
namespace Go.Proofs.Ytefkhcijgiagdaa.HMr
open Go.RowKit Go.Proofs.YtefkhcijgiagdaaW.PrintWords Go.Proofs.YtefkhcijgiagdaaW.PrintLast Go.Proofs.YtefkhcijgiagdaaW.PrintMore Go.Proofs.Ytefkhcijgiagdaa.HKnown Go.Proofs.Ytefkhcijgiagdaa.I1 Go.Proofs.Ytefkhcijgiagdaa.QVm Go.Proofs.Ytefkhcijgiagdaa.QLe Go.Proofs.Ytefkhcijgiagdaa.V0 Go.Proofs.Ytefkhcijgiagdaa.HVm
set_option linter.unusedVariables false
set_option linter.unusedSimpArgs false
set_option maxRecDepth 100000
theorem info159 : (Try.prog.info? 159).map (·.size) = some 22 := by kernel_rfl
def mL (v : V) (at_ out : Int) (done wrong : Bool) : List Value := .int .u32 v.a :: .int .u32 v.x :: (v.cs.map (Value.int .u32) ++ [.int .i64 at_, .int .u32 out, .bool done, .bool wrong])
theorem mL_len {v : V} (hl : v.cs.length = 16) (at_ out : Int) (done wrong : Bool) : (mL v at_ out done wrong).length = 22 := by simp [mL, hl]
theorem mL_one (v : V) (at_ out : Int) (done wrong : Bool) : (mL v at_ out done wrong).toArray.all (·.oneCell') = true := by
  simp [mL, Value.oneCell']
theorem mL_size {v : V} (hl : v.cs.length = 16) (at_ out : Int) (done wrong : Bool) : (Try.prog.info? 159).map (·.size) = some (mL v at_ out done wrong).toArray.size := by
  rw [info159]; simp [mL_len hl]
structure Mb (w : World) (g : Nat) (v : V) (at_ out : Int) (done wrong : Bool) : Prop where
  hW : w.heap[g]? = some (.cells (mL v at_ out done wrong).toArray 159 (0, 0))
  hl : v.cs.length = 16
section
variable {w : World} {g : Nat} {v : V} {at_ out : Int} {done wrong : Bool}
theorem Mb.lt (h : Mb w g v at_ out done wrong) : g < w.heap.size := blk_lt h.hW
theorem Mb.cell (h : Mb w g v at_ out done wrong) (i : Nat) : w.cell? ⟨g, i, none⟩ = (mL v at_ out done wrong)[i]? := by rw [blk_cell h.hW i]; simp
theorem Mb.cA (h : Mb w g v at_ out done wrong) : w.cell? ⟨g, 0, none⟩ = some (.int .u32 v.a) := h.cell 0
theorem Mb.cX (h : Mb w g v at_ out done wrong) : w.cell? ⟨g, 1, none⟩ = some (.int .u32 v.x) := h.cell 1
theorem mL_mem (hl : v.cs.length = 16) (k : Nat) (hk : k < 16) : (mL v at_ out done wrong)[2 + k]? = some (.int .u32 (v.cs.getD k 0)) := by
  rw [show 2 + k = k + 1 + 1 by omega]
  simp only [mL, List.getElem?_cons_succ]
  rw [List.getElem?_append_left (by simpa using by omega), List.getElem?_map]
  simp [List.getD, hl, hk]
theorem Mb.cMem (h : Mb w g v at_ out done wrong) (k : Nat) (hk : k < 16) : w.cell? ⟨g, 2 + k, none⟩ = some (.int .u32 (v.cs.getD k 0)) := (h.cell (2 + k)).trans (mL_mem h.hl k hk)
theorem mL_tail (hl : v.cs.length = 16) (j : Nat) : (mL v at_ out done wrong)[18 + j]? = [Value.int .i64 at_, .int .u32 out, .bool done, .bool wrong][j]? := by
  rw [show 18 + j = (16 + j) + 1 + 1 by omega]
  simp only [mL, List.getElem?_cons_succ]
  rw [List.getElem?_append_right (by simp [hl])]; simp [hl]
theorem Mb.cAt (h : Mb w g v at_ out done wrong) : w.cell? ⟨g, 18, none⟩ = some (.int .i64 at_) := (h.cell 18).trans (mL_tail h.hl 0)
theorem Mb.cOut (h : Mb w g v at_ out done wrong) : w.cell? ⟨g, 19, none⟩ = some (.int .u32 out) := (h.cell 19).trans (mL_tail h.hl 1)
theorem Mb.cDone (h : Mb w g v at_ out done wrong) : w.cell? ⟨g, 20, none⟩ = some (.bool done) := (h.cell 20).trans (mL_tail h.hl 2)
theorem Mb.cWrong (h : Mb w g v at_ out done wrong) : w.cell? ⟨g, 21, none⟩ = some (.bool wrong) := (h.cell 21).trans (mL_tail h.hl 3)
theorem Mb.free (h : Mb w g v at_ out done wrong) (i : Nat) : w.frozen? ⟨g, i, none⟩ = false := blk_frozen h.hW i
theorem Mb.put (h : Mb w g v at_ out done wrong) (i : Nat) (u : Value) {v' : V} {at' out' : Int} {done' wrong' : Bool} (e : (mL v at_ out done wrong).set i u = mL v' at' out' done' wrong') (hl : v'.cs.length = 16) : Mb (w.setCell ⟨g, i, none⟩ u) g v' at' out' done' wrong' :=
  ⟨blk_put h.hW i u (by rw [← e]; simp), hl⟩
theorem Mb.setA (h : Mb w g v at_ out done wrong) (n : Int) : Mb (w.setCell ⟨g, 0, none⟩ (.int .u32 n)) g ⟨n, v.x, v.cs⟩ at_ out done wrong := h.put 0 _ rfl h.hl
theorem Mb.setX (h : Mb w g v at_ out done wrong) (n : Int) : Mb (w.setCell ⟨g, 1, none⟩ (.int .u32 n)) g ⟨v.a, n, v.cs⟩ at_ out done wrong := h.put 1 _ rfl h.hl
theorem Mb.setMem (h : Mb w g v at_ out done wrong) (k : Nat) (hk : k < 16) (n : Int) : Mb (w.setCell ⟨g, 2 + k, none⟩ (.int .u32 n)) g ⟨v.a, v.x, v.cs.set k n⟩ at_ out done wrong := by
  refine h.put (2 + k) _ ?_ (by rw [List.length_set]; exact h.hl)
  rw [show 2 + k = k + 1 + 1 by omega]
  simp only [mL, List.set_cons_succ]
  rw [List.set_append_left _ _ (by rw [List.length_map, h.hl]; exact hk), List.map_set]
theorem mL_set (hl : v.cs.length = 16) (j : Nat) (u : Value) : (mL v at_ out done wrong).set (18 + j) u = .int .u32 v.a :: .int .u32 v.x :: (v.cs.map (Value.int .u32) ++ [Value.int .i64 at_, .int .u32 out, .bool done, .bool wrong].set j u) := by
  rw [show 18 + j = (16 + j) + 1 + 1 by omega]
  simp only [mL, List.set_cons_succ]
  rw [List.set_append_right _ _ (by simp [hl])]; simp [hl]
theorem Mb.setAt (h : Mb w g v at_ out done wrong) (n : Int) : Mb (w.setCell ⟨g, 18, none⟩ (.int .i64 n)) g v n out done wrong := h.put 18 _ (mL_set h.hl 0 _) h.hl
theorem Mb.setOut (h : Mb w g v at_ out done wrong) (n : Int) : Mb (w.setCell ⟨g, 19, none⟩ (.int .u32 n)) g v at_ n done wrong := h.put 19 _ (mL_set h.hl 1 _) h.hl
theorem Mb.setDone (h : Mb w g v at_ out done wrong) (b : Bool) : Mb (w.setCell ⟨g, 20, none⟩ (.bool b)) g v at_ out b wrong := h.put 20 _ (mL_set h.hl 2 _) h.hl
theorem Mb.setWrong (h : Mb w g v at_ out done wrong) (b : Bool) : Mb (w.setCell ⟨g, 21, none⟩ (.bool b)) g v at_ out done b := h.put 21 _ (mL_set h.hl 3 _) h.hl
theorem Mb.below (h : Mb w g v at_ out done wrong) {w' : World} (hb : Below w.heap.size w w') : Mb w' g v at_ out done wrong := ⟨(hb.block _ h.lt).trans h.hW, h.hl⟩
theorem Mb.alloc (h : Mb w g v at_ out done wrong) (o : Obj) : Mb (w.alloc o) g v at_ out done wrong := h.below (below_alloc (Below.refl _ _) o)
theorem Mb.drew (h : Mb w g v at_ out done wrong) : Mb w.drew g v at_ out done wrong := ⟨h.hW, h.hl⟩
theorem Mb.row (h : Mb w g v at_ out done wrong) {v' : V} (hl : v'.cs.length = 16) (at' out' : Int) (done' wrong' : Bool) : Mb (w.setRow g (mL v' at' out' done' wrong').toArray) g v' at' out' done' wrong' := ⟨setRow_heap _ _ _ _ _ _ h.hW, hl⟩
end
def z0 : V := ⟨0, 0, List.replicate 16 0⟩
end Go.Proofs.Ytefkhcijgiagdaa.HMr
end
section
namespace Go.Proofs.Ytefkhcijgiagdaa.HMr
open Go.RowKit Go.Proofs.YtefkhcijgiagdaaW.PrintWords Go.Proofs.YtefkhcijgiagdaaW.PrintLast Go.Proofs.YtefkhcijgiagdaaW.PrintMore Go.Proofs.Ytefkhcijgiagdaa.HKnown Go.Proofs.Ytefkhcijgiagdaa.I1 Go.Proofs.Ytefkhcijgiagdaa.QVm Go.Proofs.Ytefkhcijgiagdaa.QLe Go.Proofs.Ytefkhcijgiagdaa.V0 Go.Proofs.Ytefkhcijgiagdaa.HVm
set_option linter.unusedVariables false
set_option linter.unusedSimpArgs false
set_option maxRecDepth 100000
def MovPost (w : World) (at_ : Int) (r : Option V) (e : Ending) (w' : World) : Prop :=
  ∃ v2 wr, e = .returned (.agg (mL v2 at_ 0 false wr).toArray) ∧ v2.cs.length = 16 ∧ Below w.heap.size w w' ∧ (match r with | none => wr = true | some v' => wr = false ∧ v2 = v')
theorem blk1 (w : World) (c : Array Value) (t : TypeId) (b z : Obj) : (((w.alloc (.cells c t)).alloc b).alloc z).heap[w.heap.size]? = some (.cells c t (0, 0)) := blk_alloc (blk_alloc (heap_alloc_new _ _) _) _
theorem blk3 (w : World) (a b : Obj) (c : Array Value) (t : TypeId) : (((w.alloc a).alloc b).alloc (.cells c t)).heap[w.heap.size + 1 + 1]? = some (.cells c t (0, 0)) := by
  have := heap_alloc_new ((w.alloc a).alloc b) (.cells c t)
  rw [World.size_alloc, World.size_alloc] at this
  exact this
theorem row3 (w : World) (a b : Obj) (z c : Array Value) (t : TypeId) : (((w.alloc a).alloc b).alloc (.cells z t)).setRow (w.heap.size + 1 + 1) c = ((w.alloc a).alloc b).alloc (.cells c t) := by
  have := World.setRow_alloc_new ((w.alloc a).alloc b) z c t
  rw [World.size_alloc, World.size_alloc] at this
  exact this
theorem toA {l l' : List Value} {k : Nat} {u : Value} (h : l.set k u = l') : l.toArray.setIfInBounds k u = l'.toArray := by rw [← h]; simp
theorem getA (l : List Value) (k : Nat) : l.toArray[k]? = l[k]? := by simp
theorem mL_setm {v : V} {at_ out : Int} {done wrong : Bool} (hl : v.cs.length = 16) (k : Nat) (hk : k < 16) (n : Int) : (mL v at_ out done wrong).set (2 + k) (.int .u32 n) = mL ⟨v.a, v.x, v.cs.set k n⟩ at_ out done wrong := by
  rw [show 2 + k = k + 1 + 1 by omega]
  simp only [mL, List.set_cons_succ]
  rw [List.set_append_left _ _ (by rw [List.length_map, hl]; exact hk), List.map_set]
theorem mem_low (wd : Int → Option Int) (i : S28) (v : V) (h : i.f3 < 16) (hc : i.f0 = 2 ∨ i.f0 = 3 ∨ i.f0 = 96 ∨ i.f0 = 97) : memV wd i v = if i.f0 = 2 then some ⟨v.a, v.x, v.cs.set i.f3.toNat v.a⟩ else if i.f0 = 3 then some ⟨v.a, v.x, v.cs.set i.f3.toNat v.x⟩ else if i.f0 = 97 then some ⟨v.a, v.cs.getD i.f3.toNat 0, v.cs⟩ else some ⟨v.cs.getD i.f3.toNat 0, v.x, v.cs⟩ := by
  unfold memV
  rw [if_neg (by omega), if_neg (by omega), if_neg (by omega), if_neg (by omega), if_neg (by omega), if_neg (by omega), if_neg (by omega), if_neg (by omega)]
theorem mem_2 {R1 R2 R3 R4 : Option V} (n : Nat) : (if (2 : Int) = 2 then R1 else if (2 : Int) = 3 then R2 else if (2 : Int) = 97 then R3 else R4) = R1 := rfl
theorem mem_3 {R1 R2 R3 R4 : Option V} (n : Nat) : (if (3 : Int) = 2 then R1 else if (3 : Int) = 3 then R2 else if (3 : Int) = 97 then R3 else R4) = R2 := rfl
theorem mem_97 {R1 R2 R3 R4 : Option V} (n : Nat) : (if (97 : Int) = 2 then R1 else if (97 : Int) = 3 then R2 else if (97 : Int) = 97 then R3 else R4) = R3 := rfl
theorem mem_96 {R1 R2 R3 R4 : Option V} (n : Nat) : (if (96 : Int) = 2 then R1 else if (96 : Int) = 3 then R2 else if (96 : Int) = 97 then R3 else R4) = R4 := rfl
theorem mem_wrong (wd : Int → Option Int) (i : S28) (v : V) (h : 16 ≤ i.f3) (hc : i.f0 = 2 ∨ i.f0 = 3 ∨ i.f0 = 96 ∨ i.f0 = 97) : memV wd i v = none := by
  unfold memV
  rw [if_neg (by omega), if_neg (by omega), if_neg (by omega), if_neg (by omega), if_neg (by omega), if_neg (by omega), if_neg (by omega), if_pos h]
end Go.Proofs.Ytefkhcijgiagdaa.HMr
end
section
namespace Go.Proofs.Ytefkhcijgiagdaa.HMr
open Go.RowKit Go.Proofs.YtefkhcijgiagdaaW.PrintWords Go.Proofs.YtefkhcijgiagdaaW.PrintLast Go.Proofs.YtefkhcijgiagdaaW.PrintMore Go.Proofs.Ytefkhcijgiagdaa.HKnown Go.Proofs.Ytefkhcijgiagdaa.I1 Go.Proofs.Ytefkhcijgiagdaa.QVm Go.Proofs.Ytefkhcijgiagdaa.QLe Go.Proofs.Ytefkhcijgiagdaa.V0 Go.Proofs.Ytefkhcijgiagdaa.HVm
set_option linter.unusedVariables false
set_option linter.unusedSimpArgs false
set_option maxRecDepth 100000
set_option maxHeartbeats 4000000 in
theorem mov_len {w : World} {rec : ByteArray} {v : V} (hl : v.cs.length = 16) (at_ : Int) (a1 a2 a3 : Int) (wd : Int → Option Int) (hk : 0 ≤ a3 ∧ a3 < 4294967296) :
    Calls Try.prog 147 #[.agg (mL v at_ 0 false false).toArray, .agg #[.int .i64 128, .int .i64 a1, .int .i64 a2, .int .u32 a3], .string rec] w (MovPost w at_ (memV wd ⟨128, a1, a2, a3⟩ v)) := by
  have hu159 := Try.underlying159
  have hu28 := Try.underlying28
  have hu97 := Try.underlying97
  rw [show memV wd ⟨128, a1, a2, a3⟩ v = some ⟨64, v.x, v.cs⟩ from rfl]
  have HV := Aside0.mk (show (⟨64, v.x, v.cs⟩ : V).cs.length = 16 from hl)
  have hA : (mL v at_ 0 false false).toArray[0]? = some (.int .u32 v.a) := rfl
  have hX : (mL v at_ 0 false false).toArray[1]? = some (.int .u32 v.x) := rfl
  have h21 : (mL v at_ 0 false false).toArray[21]? = some (.bool false) := by rw [getA]; exact mL_tail hl 3
  have HE := Aside0.mk (toA (show (mL v at_ 0 false false).set (0) (.int .u32 64) = mL ⟨64, v.x, v.cs⟩ at_ 0 false false from rfl))
  obtain ⟨Cs, hCs⟩ : ∃ Cs, (mL v at_ 0 false false).toArray = Cs := ⟨_, rfl⟩
  rw [hCs] at HE hA hX h21 ⊢
  have hw64 : wrap64 a3 = a3 := w64 _ (by omega) (by omega)
  clear hCs hl
  go_enter Try.func147, Try.ntmps147
  go_wp2_with (first | ((with_reducible refine gate_dst (N := 109) rfl ?_); rw [HE.out]; refine wpList_load_row rfl 159 (.tmp 3) rfl w.heap.size rfl 159 _ (0, 0) _ (blk1 _ _ _ _ _) Try.underlying159 rfl (mL_size HV.out _ _ _ _) ?_) | (refine wpList_store_row rfl 159 (.tmp 6) (.tmp 109) rfl (w.heap.size + 1 + 1) _ rfl rfl 159 _ (blk3 _ _ _ _ _) (mL_size HV.out _ _ _ _) (by simp [mL_len HV.out]) (mL_one _ _ _ _ _) ?_; rw [row3]))
  refine bodyPost_ret (v := .agg (mL ⟨64, v.x, v.cs⟩ at_ 0 false false).toArray) (results_cell_row (p := 6) (by kernel_rfl) _ _ (w.heap.size + 1 + 1) 159 _ (0, 0) _ rfl (blk3 _ _ _ _ _) Try.underlying159 rfl (mL_size HV.out _ _ _ _)) rfl ?_
  exact ⟨⟨64, v.x, v.cs⟩, false, rfl, HV.out, below_alloc (below_alloc (below_alloc (Below.refl _ _) _) _) _, ⟨rfl, rfl⟩⟩
set_option maxHeartbeats 4000000 in
theorem mov_lxlen {w : World} {rec : ByteArray} {v : V} (hl : v.cs.length = 16) (at_ : Int) (a1 a2 a3 : Int) (wd : Int → Option Int) (hk : 0 ≤ a3 ∧ a3 < 4294967296) :
    Calls Try.prog 147 #[.agg (mL v at_ 0 false false).toArray, .agg #[.int .i64 129, .int .i64 a1, .int .i64 a2, .int .u32 a3], .string rec] w (MovPost w at_ (memV wd ⟨129, a1, a2, a3⟩ v)) := by
  have hu159 := Try.underlying159
  have hu28 := Try.underlying28
  have hu97 := Try.underlying97
  rw [show memV wd ⟨129, a1, a2, a3⟩ v = some ⟨v.a, 64, v.cs⟩ from rfl]
  have HV := Aside0.mk (show (⟨v.a, 64, v.cs⟩ : V).cs.length = 16 from hl)
  have hA : (mL v at_ 0 false false).toArray[0]? = some (.int .u32 v.a) := rfl
  have hX : (mL v at_ 0 false false).toArray[1]? = some (.int .u32 v.x) := rfl
  have h21 : (mL v at_ 0 false false).toArray[21]? = some (.bool false) := by rw [getA]; exact mL_tail hl 3
  have HE := Aside0.mk (toA (show (mL v at_ 0 false false).set (1) (.int .u32 64) = mL ⟨v.a, 64, v.cs⟩ at_ 0 false false from rfl))
  obtain ⟨Cs, hCs⟩ : ∃ Cs, (mL v at_ 0 false false).toArray = Cs := ⟨_, rfl⟩
  rw [hCs] at HE hA hX h21 ⊢
  have hw64 : wrap64 a3 = a3 := w64 _ (by omega) (by omega)
  clear hCs hl
  go_enter Try.func147, Try.ntmps147
  go_wp2_with (first | ((with_reducible refine gate_dst (N := 109) rfl ?_); rw [HE.out]; refine wpList_load_row rfl 159 (.tmp 3) rfl w.heap.size rfl 159 _ (0, 0) _ (blk1 _ _ _ _ _) Try.underlying159 rfl (mL_size HV.out _ _ _ _) ?_) | (refine wpList_store_row rfl 159 (.tmp 6) (.tmp 109) rfl (w.heap.size + 1 + 1) _ rfl rfl 159 _ (blk3 _ _ _ _ _) (mL_size HV.out _ _ _ _) (by simp [mL_len HV.out]) (mL_one _ _ _ _ _) ?_; rw [row3]))
  refine bodyPost_ret (v := .agg (mL ⟨v.a, 64, v.cs⟩ at_ 0 false false).toArray) (results_cell_row (p := 6) (by kernel_rfl) _ _ (w.heap.size + 1 + 1) 159 _ (0, 0) _ rfl (blk3 _ _ _ _ _) Try.underlying159 rfl (mL_size HV.out _ _ _ _)) rfl ?_
  exact ⟨⟨v.a, 64, v.cs⟩, false, rfl, HV.out, below_alloc (below_alloc (below_alloc (Below.refl _ _) _) _) _, ⟨rfl, rfl⟩⟩
set_option maxHeartbeats 4000000 in
theorem mov_ldimm {w : World} {rec : ByteArray} {v : V} (hl : v.cs.length = 16) (at_ : Int) (a1 a2 a3 : Int) (wd : Int → Option Int) (hk : 0 ≤ a3 ∧ a3 < 4294967296) :
    Calls Try.prog 147 #[.agg (mL v at_ 0 false false).toArray, .agg #[.int .i64 0, .int .i64 a1, .int .i64 a2, .int .u32 a3], .string rec] w (MovPost w at_ (memV wd ⟨0, a1, a2, a3⟩ v)) := by
  have hu159 := Try.underlying159
  have hu28 := Try.underlying28
  have hu97 := Try.underlying97
  rw [show memV wd ⟨0, a1, a2, a3⟩ v = some ⟨a3, v.x, v.cs⟩ from rfl]
  have HV := Aside0.mk (show (⟨a3, v.x, v.cs⟩ : V).cs.length = 16 from hl)
  have hA : (mL v at_ 0 false false).toArray[0]? = some (.int .u32 v.a) := rfl
  have hX : (mL v at_ 0 false false).toArray[1]? = some (.int .u32 v.x) := rfl
  have h21 : (mL v at_ 0 false false).toArray[21]? = some (.bool false) := by rw [getA]; exact mL_tail hl 3
  have HE := Aside0.mk (toA (show (mL v at_ 0 false false).set (0) (.int .u32 a3) = mL ⟨a3, v.x, v.cs⟩ at_ 0 false false from rfl))
  obtain ⟨Cs, hCs⟩ : ∃ Cs, (mL v at_ 0 false false).toArray = Cs := ⟨_, rfl⟩
  rw [hCs] at HE hA hX h21 ⊢
  have hw64 : wrap64 a3 = a3 := w64 _ (by omega) (by omega)
  clear hCs hl
  go_enter Try.func147, Try.ntmps147
  go_wp2_with (first | ((with_reducible refine gate_dst (N := 109) rfl ?_); rw [HE.out]; refine wpList_load_row rfl 159 (.tmp 3) rfl w.heap.size rfl 159 _ (0, 0) _ (blk1 _ _ _ _ _) Try.underlying159 rfl (mL_size HV.out _ _ _ _) ?_) | (refine wpList_store_row rfl 159 (.tmp 6) (.tmp 109) rfl (w.heap.size + 1 + 1) _ rfl rfl 159 _ (blk3 _ _ _ _ _) (mL_size HV.out _ _ _ _) (by simp [mL_len HV.out]) (mL_one _ _ _ _ _) ?_; rw [row3]))
  refine bodyPost_ret (v := .agg (mL ⟨a3, v.x, v.cs⟩ at_ 0 false false).toArray) (results_cell_row (p := 6) (by kernel_rfl) _ _ (w.heap.size + 1 + 1) 159 _ (0, 0) _ rfl (blk3 _ _ _ _ _) Try.underlying159 rfl (mL_size HV.out _ _ _ _)) rfl ?_
  exact ⟨⟨a3, v.x, v.cs⟩, false, rfl, HV.out, below_alloc (below_alloc (below_alloc (Below.refl _ _) _) _) _, ⟨rfl, rfl⟩⟩
end Go.Proofs.Ytefkhcijgiagdaa.HMr
end
section
namespace Go.Proofs.Ytefkhcijgiagdaa.HMr
open Go.RowKit Go.Proofs.YtefkhcijgiagdaaW.PrintWords Go.Proofs.YtefkhcijgiagdaaW.PrintLast Go.Proofs.YtefkhcijgiagdaaW.PrintMore Go.Proofs.Ytefkhcijgiagdaa.HKnown Go.Proofs.Ytefkhcijgiagdaa.I1 Go.Proofs.Ytefkhcijgiagdaa.QVm Go.Proofs.Ytefkhcijgiagdaa.QLe Go.Proofs.Ytefkhcijgiagdaa.V0 Go.Proofs.Ytefkhcijgiagdaa.HVm
set_option linter.unusedVariables false
set_option linter.unusedSimpArgs false
set_option maxRecDepth 100000
set_option maxHeartbeats 4000000 in
theorem mov_lximm {w : World} {rec : ByteArray} {v : V} (hl : v.cs.length = 16) (at_ : Int) (a1 a2 a3 : Int) (wd : Int → Option Int) (hk : 0 ≤ a3 ∧ a3 < 4294967296) :
    Calls Try.prog 147 #[.agg (mL v at_ 0 false false).toArray, .agg #[.int .i64 1, .int .i64 a1, .int .i64 a2, .int .u32 a3], .string rec] w (MovPost w at_ (memV wd ⟨1, a1, a2, a3⟩ v)) := by
  have hu159 := Try.underlying159
  have hu28 := Try.underlying28
  have hu97 := Try.underlying97
  rw [show memV wd ⟨1, a1, a2, a3⟩ v = some ⟨v.a, a3, v.cs⟩ from rfl]
  have HV := Aside0.mk (show (⟨v.a, a3, v.cs⟩ : V).cs.length = 16 from hl)
  have hA : (mL v at_ 0 false false).toArray[0]? = some (.int .u32 v.a) := rfl
  have hX : (mL v at_ 0 false false).toArray[1]? = some (.int .u32 v.x) := rfl
  have h21 : (mL v at_ 0 false false).toArray[21]? = some (.bool false) := by rw [getA]; exact mL_tail hl 3
  have HE := Aside0.mk (toA (show (mL v at_ 0 false false).set (1) (.int .u32 a3) = mL ⟨v.a, a3, v.cs⟩ at_ 0 false false from rfl))
  obtain ⟨Cs, hCs⟩ : ∃ Cs, (mL v at_ 0 false false).toArray = Cs := ⟨_, rfl⟩
  rw [hCs] at HE hA hX h21 ⊢
  have hw64 : wrap64 a3 = a3 := w64 _ (by omega) (by omega)
  clear hCs hl
  go_enter Try.func147, Try.ntmps147
  go_wp2_with (first | ((with_reducible refine gate_dst (N := 109) rfl ?_); rw [HE.out]; refine wpList_load_row rfl 159 (.tmp 3) rfl w.heap.size rfl 159 _ (0, 0) _ (blk1 _ _ _ _ _) Try.underlying159 rfl (mL_size HV.out _ _ _ _) ?_) | (refine wpList_store_row rfl 159 (.tmp 6) (.tmp 109) rfl (w.heap.size + 1 + 1) _ rfl rfl 159 _ (blk3 _ _ _ _ _) (mL_size HV.out _ _ _ _) (by simp [mL_len HV.out]) (mL_one _ _ _ _ _) ?_; rw [row3]))
  refine bodyPost_ret (v := .agg (mL ⟨v.a, a3, v.cs⟩ at_ 0 false false).toArray) (results_cell_row (p := 6) (by kernel_rfl) _ _ (w.heap.size + 1 + 1) 159 _ (0, 0) _ rfl (blk3 _ _ _ _ _) Try.underlying159 rfl (mL_size HV.out _ _ _ _)) rfl ?_
  exact ⟨⟨v.a, a3, v.cs⟩, false, rfl, HV.out, below_alloc (below_alloc (below_alloc (Below.refl _ _) _) _) _, ⟨rfl, rfl⟩⟩
set_option maxHeartbeats 4000000 in
theorem mov_tax {w : World} {rec : ByteArray} {v : V} (hl : v.cs.length = 16) (at_ : Int) (a1 a2 a3 : Int) (wd : Int → Option Int) (hk : 0 ≤ a3 ∧ a3 < 4294967296) :
    Calls Try.prog 147 #[.agg (mL v at_ 0 false false).toArray, .agg #[.int .i64 7, .int .i64 a1, .int .i64 a2, .int .u32 a3], .string rec] w (MovPost w at_ (memV wd ⟨7, a1, a2, a3⟩ v)) := by
  have hu159 := Try.underlying159
  have hu28 := Try.underlying28
  have hu97 := Try.underlying97
  rw [show memV wd ⟨7, a1, a2, a3⟩ v = some ⟨v.a, v.a, v.cs⟩ from rfl]
  have HV := Aside0.mk (show (⟨v.a, v.a, v.cs⟩ : V).cs.length = 16 from hl)
  have hA : (mL v at_ 0 false false).toArray[0]? = some (.int .u32 v.a) := rfl
  have hX : (mL v at_ 0 false false).toArray[1]? = some (.int .u32 v.x) := rfl
  have h21 : (mL v at_ 0 false false).toArray[21]? = some (.bool false) := by rw [getA]; exact mL_tail hl 3
  have HE := Aside0.mk (toA (show (mL v at_ 0 false false).set (1) (.int .u32 v.a) = mL ⟨v.a, v.a, v.cs⟩ at_ 0 false false from rfl))
  obtain ⟨Cs, hCs⟩ : ∃ Cs, (mL v at_ 0 false false).toArray = Cs := ⟨_, rfl⟩
  rw [hCs] at HE hA hX h21 ⊢
  have hw64 : wrap64 a3 = a3 := w64 _ (by omega) (by omega)
  clear hCs hl
  go_enter Try.func147, Try.ntmps147
  go_wp2_with (first | ((with_reducible refine gate_dst (N := 109) rfl ?_); rw [HE.out]; refine wpList_load_row rfl 159 (.tmp 3) rfl w.heap.size rfl 159 _ (0, 0) _ (blk1 _ _ _ _ _) Try.underlying159 rfl (mL_size HV.out _ _ _ _) ?_) | (refine wpList_store_row rfl 159 (.tmp 6) (.tmp 109) rfl (w.heap.size + 1 + 1) _ rfl rfl 159 _ (blk3 _ _ _ _ _) (mL_size HV.out _ _ _ _) (by simp [mL_len HV.out]) (mL_one _ _ _ _ _) ?_; rw [row3]))
  refine bodyPost_ret (v := .agg (mL ⟨v.a, v.a, v.cs⟩ at_ 0 false false).toArray) (results_cell_row (p := 6) (by kernel_rfl) _ _ (w.heap.size + 1 + 1) 159 _ (0, 0) _ rfl (blk3 _ _ _ _ _) Try.underlying159 rfl (mL_size HV.out _ _ _ _)) rfl ?_
  exact ⟨⟨v.a, v.a, v.cs⟩, false, rfl, HV.out, below_alloc (below_alloc (below_alloc (Below.refl _ _) _) _) _, ⟨rfl, rfl⟩⟩
set_option maxHeartbeats 4000000 in
theorem mov_txa {w : World} {rec : ByteArray} {v : V} (hl : v.cs.length = 16) (at_ : Int) (a1 a2 a3 : Int) (wd : Int → Option Int) (hk : 0 ≤ a3 ∧ a3 < 4294967296) :
    Calls Try.prog 147 #[.agg (mL v at_ 0 false false).toArray, .agg #[.int .i64 135, .int .i64 a1, .int .i64 a2, .int .u32 a3], .string rec] w (MovPost w at_ (memV wd ⟨135, a1, a2, a3⟩ v)) := by
  have hu159 := Try.underlying159
  have hu28 := Try.underlying28
  have hu97 := Try.underlying97
  rw [show memV wd ⟨135, a1, a2, a3⟩ v = some ⟨v.x, v.x, v.cs⟩ from rfl]
  have HV := Aside0.mk (show (⟨v.x, v.x, v.cs⟩ : V).cs.length = 16 from hl)
  have hA : (mL v at_ 0 false false).toArray[0]? = some (.int .u32 v.a) := rfl
  have hX : (mL v at_ 0 false false).toArray[1]? = some (.int .u32 v.x) := rfl
  have h21 : (mL v at_ 0 false false).toArray[21]? = some (.bool false) := by rw [getA]; exact mL_tail hl 3
  have HE := Aside0.mk (toA (show (mL v at_ 0 false false).set (0) (.int .u32 v.x) = mL ⟨v.x, v.x, v.cs⟩ at_ 0 false false from rfl))
  obtain ⟨Cs, hCs⟩ : ∃ Cs, (mL v at_ 0 false false).toArray = Cs := ⟨_, rfl⟩
  rw [hCs] at HE hA hX h21 ⊢
  have hw64 : wrap64 a3 = a3 := w64 _ (by omega) (by omega)
  clear hCs hl
  go_enter Try.func147, Try.ntmps147
  go_wp2_with (first | ((with_reducible refine gate_dst (N := 109) rfl ?_); rw [HE.out]; refine wpList_load_row rfl 159 (.tmp 3) rfl w.heap.size rfl 159 _ (0, 0) _ (blk1 _ _ _ _ _) Try.underlying159 rfl (mL_size HV.out _ _ _ _) ?_) | (refine wpList_store_row rfl 159 (.tmp 6) (.tmp 109) rfl (w.heap.size + 1 + 1) _ rfl rfl 159 _ (blk3 _ _ _ _ _) (mL_size HV.out _ _ _ _) (by simp [mL_len HV.out]) (mL_one _ _ _ _ _) ?_; rw [row3]))
  refine bodyPost_ret (v := .agg (mL ⟨v.x, v.x, v.cs⟩ at_ 0 false false).toArray) (results_cell_row (p := 6) (by kernel_rfl) _ _ (w.heap.size + 1 + 1) 159 _ (0, 0) _ rfl (blk3 _ _ _ _ _) Try.underlying159 rfl (mL_size HV.out _ _ _ _)) rfl ?_
  exact ⟨⟨v.x, v.x, v.cs⟩, false, rfl, HV.out, below_alloc (below_alloc (below_alloc (Below.refl _ _) _) _) _, ⟨rfl, rfl⟩⟩
end Go.Proofs.Ytefkhcijgiagdaa.HMr
end
section
namespace Go.Proofs.Ytefkhcijgiagdaa.HMr
open Go.RowKit Go.Proofs.YtefkhcijgiagdaaW.PrintWords Go.Proofs.YtefkhcijgiagdaaW.PrintLast Go.Proofs.YtefkhcijgiagdaaW.PrintMore Go.Proofs.Ytefkhcijgiagdaa.HKnown Go.Proofs.Ytefkhcijgiagdaa.I1 Go.Proofs.Ytefkhcijgiagdaa.QVm Go.Proofs.Ytefkhcijgiagdaa.QLe Go.Proofs.Ytefkhcijgiagdaa.V0 Go.Proofs.Ytefkhcijgiagdaa.HVm
set_option linter.unusedVariables false
set_option linter.unusedSimpArgs false
set_option maxRecDepth 100000
set_option maxHeartbeats 4000000 in
theorem mov_w96 {w : World} {rec : ByteArray} {v : V} (hl : v.cs.length = 16) (at_ : Int) (a1 a2 a3 : Int) (wd : Int → Option Int) (hk : 0 ≤ a3 ∧ a3 < 4294967296) (h16 : 16 ≤ a3) :
    Calls Try.prog 147 #[.agg (mL v at_ 0 false false).toArray, .agg #[.int .i64 96, .int .i64 a1, .int .i64 a2, .int .u32 a3], .string rec] w (MovPost w at_ (memV wd ⟨96, a1, a2, a3⟩ v)) := by
  have hu159 := Try.underlying159
  have hu28 := Try.underlying28
  have hu97 := Try.underlying97
  rw [show memV wd ⟨96, a1, a2, a3⟩ v = none from mem_wrong wd _ v h16 (by show (96 : Int) = 2 ∨ (96 : Int) = 3 ∨ (96 : Int) = 96 ∨ (96 : Int) = 97; decide)]
  have HV := Aside0.mk (show (v : V).cs.length = 16 from hl)
  have hA : (mL v at_ 0 false false).toArray[0]? = some (.int .u32 v.a) := rfl
  have hX : (mL v at_ 0 false false).toArray[1]? = some (.int .u32 v.x) := rfl
  have h21 : (mL v at_ 0 false false).toArray[21]? = some (.bool false) := by rw [getA]; exact mL_tail hl 3
  have HE := Aside0.mk (toA (show (mL v at_ 0 false false).set (21) (.bool true) = mL v at_ 0 false true from mL_set hl 3 _))
  obtain ⟨Cs, hCs⟩ : ∃ Cs, (mL v at_ 0 false false).toArray = Cs := ⟨_, rfl⟩
  rw [hCs] at HE hA hX h21 ⊢
  have hw64 : wrap64 a3 = a3 := w64 _ (by omega) (by omega)
  have hd15 : decide (15 < a3) = true := decide_eq_true (by omega)
  clear hCs hl
  go_enter Try.func147, Try.ntmps147
  go_wp2_with (first | ((with_reducible refine gate_dst (N := 39) rfl ?_); rw [HE.out]; refine wpList_load_row rfl 159 (.tmp 3) rfl w.heap.size rfl 159 _ (0, 0) _ (blk1 _ _ _ _ _) Try.underlying159 rfl (mL_size HV.out _ _ _ _) ?_) | (refine wpList_store_row rfl 159 (.tmp 6) (.tmp 39) rfl (w.heap.size + 1 + 1) _ rfl rfl 159 _ (blk3 _ _ _ _ _) (mL_size HV.out _ _ _ _) (by simp [mL_len HV.out]) (mL_one _ _ _ _ _) ?_; rw [row3]))
  refine bodyPost_ret (v := .agg (mL v at_ 0 false true).toArray) (results_cell_row (p := 6) (by kernel_rfl) _ _ (w.heap.size + 1 + 1) 159 _ (0, 0) _ rfl (blk3 _ _ _ _ _) Try.underlying159 rfl (mL_size HV.out _ _ _ _)) rfl ?_
  exact ⟨v, true, rfl, HV.out, below_alloc (below_alloc (below_alloc (Below.refl _ _) _) _) _, rfl⟩
set_option maxHeartbeats 4000000 in
theorem mov_w97 {w : World} {rec : ByteArray} {v : V} (hl : v.cs.length = 16) (at_ : Int) (a1 a2 a3 : Int) (wd : Int → Option Int) (hk : 0 ≤ a3 ∧ a3 < 4294967296) (h16 : 16 ≤ a3) :
    Calls Try.prog 147 #[.agg (mL v at_ 0 false false).toArray, .agg #[.int .i64 97, .int .i64 a1, .int .i64 a2, .int .u32 a3], .string rec] w (MovPost w at_ (memV wd ⟨97, a1, a2, a3⟩ v)) := by
  have hu159 := Try.underlying159
  have hu28 := Try.underlying28
  have hu97 := Try.underlying97
  rw [show memV wd ⟨97, a1, a2, a3⟩ v = none from mem_wrong wd _ v h16 (by show (97 : Int) = 2 ∨ (97 : Int) = 3 ∨ (97 : Int) = 96 ∨ (97 : Int) = 97; decide)]
  have HV := Aside0.mk (show (v : V).cs.length = 16 from hl)
  have hA : (mL v at_ 0 false false).toArray[0]? = some (.int .u32 v.a) := rfl
  have hX : (mL v at_ 0 false false).toArray[1]? = some (.int .u32 v.x) := rfl
  have h21 : (mL v at_ 0 false false).toArray[21]? = some (.bool false) := by rw [getA]; exact mL_tail hl 3
  have HE := Aside0.mk (toA (show (mL v at_ 0 false false).set (21) (.bool true) = mL v at_ 0 false true from mL_set hl 3 _))
  obtain ⟨Cs, hCs⟩ : ∃ Cs, (mL v at_ 0 false false).toArray = Cs := ⟨_, rfl⟩
  rw [hCs] at HE hA hX h21 ⊢
  have hw64 : wrap64 a3 = a3 := w64 _ (by omega) (by omega)
  have hd15 : decide (15 < a3) = true := decide_eq_true (by omega)
  clear hCs hl
  go_enter Try.func147, Try.ntmps147
  go_wp2_with (first | ((with_reducible refine gate_dst (N := 39) rfl ?_); rw [HE.out]; refine wpList_load_row rfl 159 (.tmp 3) rfl w.heap.size rfl 159 _ (0, 0) _ (blk1 _ _ _ _ _) Try.underlying159 rfl (mL_size HV.out _ _ _ _) ?_) | (refine wpList_store_row rfl 159 (.tmp 6) (.tmp 39) rfl (w.heap.size + 1 + 1) _ rfl rfl 159 _ (blk3 _ _ _ _ _) (mL_size HV.out _ _ _ _) (by simp [mL_len HV.out]) (mL_one _ _ _ _ _) ?_; rw [row3]))
  refine bodyPost_ret (v := .agg (mL v at_ 0 false true).toArray) (results_cell_row (p := 6) (by kernel_rfl) _ _ (w.heap.size + 1 + 1) 159 _ (0, 0) _ rfl (blk3 _ _ _ _ _) Try.underlying159 rfl (mL_size HV.out _ _ _ _)) rfl ?_
  exact ⟨v, true, rfl, HV.out, below_alloc (below_alloc (below_alloc (Below.refl _ _) _) _) _, rfl⟩
end Go.Proofs.Ytefkhcijgiagdaa.HMr
end
section
namespace Go.Proofs.Ytefkhcijgiagdaa.HMr
open Go.RowKit Go.Proofs.YtefkhcijgiagdaaW.PrintWords Go.Proofs.YtefkhcijgiagdaaW.PrintLast Go.Proofs.YtefkhcijgiagdaaW.PrintMore Go.Proofs.Ytefkhcijgiagdaa.HKnown Go.Proofs.Ytefkhcijgiagdaa.I1 Go.Proofs.Ytefkhcijgiagdaa.QVm Go.Proofs.Ytefkhcijgiagdaa.QLe Go.Proofs.Ytefkhcijgiagdaa.V0 Go.Proofs.Ytefkhcijgiagdaa.HVm
set_option linter.unusedVariables false
set_option linter.unusedSimpArgs false
set_option maxRecDepth 100000
set_option maxHeartbeats 4000000 in
theorem mov_w2 {w : World} {rec : ByteArray} {v : V} (hl : v.cs.length = 16) (at_ : Int) (a1 a2 a3 : Int) (wd : Int → Option Int) (hk : 0 ≤ a3 ∧ a3 < 4294967296) (h16 : 16 ≤ a3) :
    Calls Try.prog 147 #[.agg (mL v at_ 0 false false).toArray, .agg #[.int .i64 2, .int .i64 a1, .int .i64 a2, .int .u32 a3], .string rec] w (MovPost w at_ (memV wd ⟨2, a1, a2, a3⟩ v)) := by
  have hu159 := Try.underlying159
  have hu28 := Try.underlying28
  have hu97 := Try.underlying97
  rw [show memV wd ⟨2, a1, a2, a3⟩ v = none from mem_wrong wd _ v h16 (by show (2 : Int) = 2 ∨ (2 : Int) = 3 ∨ (2 : Int) = 96 ∨ (2 : Int) = 97; decide)]
  have HV := Aside0.mk (show (v : V).cs.length = 16 from hl)
  have hA : (mL v at_ 0 false false).toArray[0]? = some (.int .u32 v.a) := rfl
  have hX : (mL v at_ 0 false false).toArray[1]? = some (.int .u32 v.x) := rfl
  have h21 : (mL v at_ 0 false false).toArray[21]? = some (.bool false) := by rw [getA]; exact mL_tail hl 3
  have HE := Aside0.mk (toA (show (mL v at_ 0 false false).set (21) (.bool true) = mL v at_ 0 false true from mL_set hl 3 _))
  obtain ⟨Cs, hCs⟩ : ∃ Cs, (mL v at_ 0 false false).toArray = Cs := ⟨_, rfl⟩
  rw [hCs] at HE hA hX h21 ⊢
  have hw64 : wrap64 a3 = a3 := w64 _ (by omega) (by omega)
  have hd15 : decide (15 < a3) = true := decide_eq_true (by omega)
  clear hCs hl
  go_enter Try.func147, Try.ntmps147
  go_wp2_with (first | ((with_reducible refine gate_dst (N := 39) rfl ?_); rw [HE.out]; refine wpList_load_row rfl 159 (.tmp 3) rfl w.heap.size rfl 159 _ (0, 0) _ (blk1 _ _ _ _ _) Try.underlying159 rfl (mL_size HV.out _ _ _ _) ?_) | (refine wpList_store_row rfl 159 (.tmp 6) (.tmp 39) rfl (w.heap.size + 1 + 1) _ rfl rfl 159 _ (blk3 _ _ _ _ _) (mL_size HV.out _ _ _ _) (by simp [mL_len HV.out]) (mL_one _ _ _ _ _) ?_; rw [row3]))
  refine bodyPost_ret (v := .agg (mL v at_ 0 false true).toArray) (results_cell_row (p := 6) (by kernel_rfl) _ _ (w.heap.size + 1 + 1) 159 _ (0, 0) _ rfl (blk3 _ _ _ _ _) Try.underlying159 rfl (mL_size HV.out _ _ _ _)) rfl ?_
  exact ⟨v, true, rfl, HV.out, below_alloc (below_alloc (below_alloc (Below.refl _ _) _) _) _, rfl⟩
set_option maxHeartbeats 4000000 in
theorem mov_w3 {w : World} {rec : ByteArray} {v : V} (hl : v.cs.length = 16) (at_ : Int) (a1 a2 a3 : Int) (wd : Int → Option Int) (hk : 0 ≤ a3 ∧ a3 < 4294967296) (h16 : 16 ≤ a3) :
    Calls Try.prog 147 #[.agg (mL v at_ 0 false false).toArray, .agg #[.int .i64 3, .int .i64 a1, .int .i64 a2, .int .u32 a3], .string rec] w (MovPost w at_ (memV wd ⟨3, a1, a2, a3⟩ v)) := by
  have hu159 := Try.underlying159
  have hu28 := Try.underlying28
  have hu97 := Try.underlying97
  rw [show memV wd ⟨3, a1, a2, a3⟩ v = none from mem_wrong wd _ v h16 (by show (3 : Int) = 2 ∨ (3 : Int) = 3 ∨ (3 : Int) = 96 ∨ (3 : Int) = 97; decide)]
  have HV := Aside0.mk (show (v : V).cs.length = 16 from hl)
  have hA : (mL v at_ 0 false false).toArray[0]? = some (.int .u32 v.a) := rfl
  have hX : (mL v at_ 0 false false).toArray[1]? = some (.int .u32 v.x) := rfl
  have h21 : (mL v at_ 0 false false).toArray[21]? = some (.bool false) := by rw [getA]; exact mL_tail hl 3
  have HE := Aside0.mk (toA (show (mL v at_ 0 false false).set (21) (.bool true) = mL v at_ 0 false true from mL_set hl 3 _))
  obtain ⟨Cs, hCs⟩ : ∃ Cs, (mL v at_ 0 false false).toArray = Cs := ⟨_, rfl⟩
  rw [hCs] at HE hA hX h21 ⊢
  have hw64 : wrap64 a3 = a3 := w64 _ (by omega) (by omega)
  have hd15 : decide (15 < a3) = true := decide_eq_true (by omega)
  clear hCs hl
  go_enter Try.func147, Try.ntmps147
  go_wp2_with (first | ((with_reducible refine gate_dst (N := 39) rfl ?_); rw [HE.out]; refine wpList_load_row rfl 159 (.tmp 3) rfl w.heap.size rfl 159 _ (0, 0) _ (blk1 _ _ _ _ _) Try.underlying159 rfl (mL_size HV.out _ _ _ _) ?_) | (refine wpList_store_row rfl 159 (.tmp 6) (.tmp 39) rfl (w.heap.size + 1 + 1) _ rfl rfl 159 _ (blk3 _ _ _ _ _) (mL_size HV.out _ _ _ _) (by simp [mL_len HV.out]) (mL_one _ _ _ _ _) ?_; rw [row3]))
  refine bodyPost_ret (v := .agg (mL v at_ 0 false true).toArray) (results_cell_row (p := 6) (by kernel_rfl) _ _ (w.heap.size + 1 + 1) 159 _ (0, 0) _ rfl (blk3 _ _ _ _ _) Try.underlying159 rfl (mL_size HV.out _ _ _ _)) rfl ?_
  exact ⟨v, true, rfl, HV.out, below_alloc (below_alloc (below_alloc (Below.refl _ _) _) _) _, rfl⟩
end Go.Proofs.Ytefkhcijgiagdaa.HMr
end
section
namespace Go.Proofs.Ytefkhcijgiagdaa.HMr
open Go.RowKit Go.Proofs.YtefkhcijgiagdaaW.PrintWords Go.Proofs.YtefkhcijgiagdaaW.PrintLast Go.Proofs.YtefkhcijgiagdaaW.PrintMore Go.Proofs.Ytefkhcijgiagdaa.HKnown Go.Proofs.Ytefkhcijgiagdaa.I1 Go.Proofs.Ytefkhcijgiagdaa.QVm Go.Proofs.Ytefkhcijgiagdaa.QLe Go.Proofs.Ytefkhcijgiagdaa.V0 Go.Proofs.Ytefkhcijgiagdaa.HVm
set_option linter.unusedVariables false
set_option linter.unusedSimpArgs false
set_option maxRecDepth 100000
set_option maxHeartbeats 4000000 in
theorem mov_ldmem {w : World} {rec : ByteArray} {v : V} (hl : v.cs.length = 16) (at_ : Int) (a1 a2 a3 : Int) (wd : Int → Option Int) (hk : 0 ≤ a3 ∧ a3 < 4294967296) (h16 : a3 < 16) :
    Calls Try.prog 147 #[.agg (mL v at_ 0 false false).toArray, .agg #[.int .i64 96, .int .i64 a1, .int .i64 a2, .int .u32 a3], .string rec] w (MovPost w at_ (memV wd ⟨96, a1, a2, a3⟩ v)) := by
  have hu159 := Try.underlying159
  have hu28 := Try.underlying28
  have hu97 := Try.underlying97
  obtain ⟨n, rfl⟩ : ∃ n : Nat, a3 = n := ⟨a3.toNat, by omega⟩
  have hn : n < 16 := by omega
  rw [show memV wd ⟨96, a1, a2, (n : Int)⟩ v = some ⟨v.cs.getD n 0, v.x, v.cs⟩ from (mem_low wd _ v (by show (n : Int) < 16; omega) (by show (96 : Int) = 2 ∨ (96 : Int) = 3 ∨ (96 : Int) = 96 ∨ (96 : Int) = 97; decide)).trans (mem_96 n)]
  have HV0 := Aside0.mk (show (⟨v.cs.getD n 0, v.x, v.cs⟩ : V).cs.length = 16 from hl)
  have hA : (mL v at_ 0 false false).toArray[0]? = some (.int .u32 v.a) := rfl
  have hX : (mL v at_ 0 false false).toArray[1]? = some (.int .u32 v.x) := rfl
  have h21 : (mL v at_ 0 false false).toArray[21]? = some (.bool false) := by rw [getA]; exact mL_tail hl 3
  have HMEM : (mL v at_ 0 false false).toArray[2 + n]? = some (.int .u32 (v.cs.getD n 0)) := by rw [getA]; exact mL_mem hl n hn
  generalize hcv : v.cs.getD n 0 = cv at *
  have HV := Aside0.mk (show (⟨cv, v.x, v.cs⟩ : V).cs.length = 16 from HV0.out)
  have HE := Aside0.mk (toA (show (mL v at_ 0 false false).set (0) (.int .u32 (cv)) = mL ⟨cv, v.x, v.cs⟩ at_ 0 false false from rfl))
  obtain ⟨Cs, hCs⟩ : ∃ Cs, (mL v at_ 0 false false).toArray = Cs := ⟨_, rfl⟩
  rw [hCs] at HE hA hX h21 HMEM ⊢
  have hw64 : wrap64 (n : Int) = n := w64 _ (by omega) (by omega)
  have hd15 : decide (15 < (n : Int)) = false := decide_eq_false (by omega)
  have i0 : (0 : Int) ≤ (n : Int) := by omega
  have i1 : (n : Int) < 16 := by omega
  clear hCs hl
  go_enter Try.func147, Try.ntmps147
  go_wp2_with (first | ((with_reducible refine gate_dst (N := 109) rfl ?_); rw [HE.out]; refine wpList_load_row rfl 159 (.tmp 3) rfl w.heap.size rfl 159 _ (0, 0) _ (blk1 _ _ _ _ _) Try.underlying159 rfl (mL_size HV.out _ _ _ _) ?_) | (refine wpList_store_row rfl 159 (.tmp 6) (.tmp 109) rfl (w.heap.size + 1 + 1) _ rfl rfl 159 _ (blk3 _ _ _ _ _) (mL_size HV.out _ _ _ _) (by simp [mL_len HV.out]) (mL_one _ _ _ _ _) ?_; rw [row3]))
  refine bodyPost_ret (v := .agg (mL ⟨cv, v.x, v.cs⟩ at_ 0 false false).toArray) (results_cell_row (p := 6) (by kernel_rfl) _ _ (w.heap.size + 1 + 1) 159 _ (0, 0) _ rfl (blk3 _ _ _ _ _) Try.underlying159 rfl (mL_size HV.out _ _ _ _)) rfl ?_
  exact ⟨⟨cv, v.x, v.cs⟩, false, rfl, HV.out, below_alloc (below_alloc (below_alloc (Below.refl _ _) _) _) _, ⟨rfl, rfl⟩⟩
set_option maxHeartbeats 4000000 in
theorem mov_lxmem {w : World} {rec : ByteArray} {v : V} (hl : v.cs.length = 16) (at_ : Int) (a1 a2 a3 : Int) (wd : Int → Option Int) (hk : 0 ≤ a3 ∧ a3 < 4294967296) (h16 : a3 < 16) :
    Calls Try.prog 147 #[.agg (mL v at_ 0 false false).toArray, .agg #[.int .i64 97, .int .i64 a1, .int .i64 a2, .int .u32 a3], .string rec] w (MovPost w at_ (memV wd ⟨97, a1, a2, a3⟩ v)) := by
  have hu159 := Try.underlying159
  have hu28 := Try.underlying28
  have hu97 := Try.underlying97
  obtain ⟨n, rfl⟩ : ∃ n : Nat, a3 = n := ⟨a3.toNat, by omega⟩
  have hn : n < 16 := by omega
  rw [show memV wd ⟨97, a1, a2, (n : Int)⟩ v = some ⟨v.a, v.cs.getD n 0, v.cs⟩ from (mem_low wd _ v (by show (n : Int) < 16; omega) (by show (97 : Int) = 2 ∨ (97 : Int) = 3 ∨ (97 : Int) = 96 ∨ (97 : Int) = 97; decide)).trans (mem_97 n)]
  have HV0 := Aside0.mk (show (⟨v.a, v.cs.getD n 0, v.cs⟩ : V).cs.length = 16 from hl)
  have hA : (mL v at_ 0 false false).toArray[0]? = some (.int .u32 v.a) := rfl
  have hX : (mL v at_ 0 false false).toArray[1]? = some (.int .u32 v.x) := rfl
  have h21 : (mL v at_ 0 false false).toArray[21]? = some (.bool false) := by rw [getA]; exact mL_tail hl 3
  have HMEM : (mL v at_ 0 false false).toArray[2 + n]? = some (.int .u32 (v.cs.getD n 0)) := by rw [getA]; exact mL_mem hl n hn
  generalize hcv : v.cs.getD n 0 = cv at *
  have HV := Aside0.mk (show (⟨v.a, cv, v.cs⟩ : V).cs.length = 16 from HV0.out)
  have HE := Aside0.mk (toA (show (mL v at_ 0 false false).set (1) (.int .u32 (cv)) = mL ⟨v.a, cv, v.cs⟩ at_ 0 false false from rfl))
  obtain ⟨Cs, hCs⟩ : ∃ Cs, (mL v at_ 0 false false).toArray = Cs := ⟨_, rfl⟩
  rw [hCs] at HE hA hX h21 HMEM ⊢
  have hw64 : wrap64 (n : Int) = n := w64 _ (by omega) (by omega)
  have hd15 : decide (15 < (n : Int)) = false := decide_eq_false (by omega)
  have i0 : (0 : Int) ≤ (n : Int) := by omega
  have i1 : (n : Int) < 16 := by omega
  clear hCs hl
  go_enter Try.func147, Try.ntmps147
  go_wp2_with (first | ((with_reducible refine gate_dst (N := 109) rfl ?_); rw [HE.out]; refine wpList_load_row rfl 159 (.tmp 3) rfl w.heap.size rfl 159 _ (0, 0) _ (blk1 _ _ _ _ _) Try.underlying159 rfl (mL_size HV.out _ _ _ _) ?_) | (refine wpList_store_row rfl 159 (.tmp 6) (.tmp 109) rfl (w.heap.size + 1 + 1) _ rfl rfl 159 _ (blk3 _ _ _ _ _) (mL_size HV.out _ _ _ _) (by simp [mL_len HV.out]) (mL_one _ _ _ _ _) ?_; rw [row3]))
  refine bodyPost_ret (v := .agg (mL ⟨v.a, cv, v.cs⟩ at_ 0 false false).toArray) (results_cell_row (p := 6) (by kernel_rfl) _ _ (w.heap.size + 1 + 1) 159 _ (0, 0) _ rfl (blk3 _ _ _ _ _) Try.underlying159 rfl (mL_size HV.out _ _ _ _)) rfl ?_
  exact ⟨⟨v.a, cv, v.cs⟩, false, rfl, HV.out, below_alloc (below_alloc (below_alloc (Below.refl _ _) _) _) _, ⟨rfl, rfl⟩⟩
end Go.Proofs.Ytefkhcijgiagdaa.HMr
end
section
namespace Go.Proofs.Ytefkhcijgiagdaa.HMr
open Go.RowKit Go.Proofs.YtefkhcijgiagdaaW.PrintWords Go.Proofs.YtefkhcijgiagdaaW.PrintLast Go.Proofs.YtefkhcijgiagdaaW.PrintMore Go.Proofs.Ytefkhcijgiagdaa.HKnown Go.Proofs.Ytefkhcijgiagdaa.I1 Go.Proofs.Ytefkhcijgiagdaa.QVm Go.Proofs.Ytefkhcijgiagdaa.QLe Go.Proofs.Ytefkhcijgiagdaa.V0 Go.Proofs.Ytefkhcijgiagdaa.HVm
set_option linter.unusedVariables false
set_option linter.unusedSimpArgs false
set_option maxRecDepth 100000
set_option maxHeartbeats 4000000 in
theorem mov_st {w : World} {rec : ByteArray} {v : V} (hl : v.cs.length = 16) (at_ : Int) (a1 a2 a3 : Int) (wd : Int → Option Int) (hk : 0 ≤ a3 ∧ a3 < 4294967296) (h16 : a3 < 16) :
    Calls Try.prog 147 #[.agg (mL v at_ 0 false false).toArray, .agg #[.int .i64 2, .int .i64 a1, .int .i64 a2, .int .u32 a3], .string rec] w (MovPost w at_ (memV wd ⟨2, a1, a2, a3⟩ v)) := by
  have hu159 := Try.underlying159
  have hu28 := Try.underlying28
  have hu97 := Try.underlying97
  obtain ⟨n, rfl⟩ : ∃ n : Nat, a3 = n := ⟨a3.toNat, by omega⟩
  have hn : n < 16 := by omega
  rw [show memV wd ⟨2, a1, a2, (n : Int)⟩ v = some ⟨v.a, v.x, v.cs.set n v.a⟩ from (mem_low wd _ v (by show (n : Int) < 16; omega) (by show (2 : Int) = 2 ∨ (2 : Int) = 3 ∨ (2 : Int) = 96 ∨ (2 : Int) = 97; decide)).trans (mem_2 n)]
  have HV0 := Aside0.mk (show (⟨v.a, v.x, v.cs.set n v.a⟩ : V).cs.length = 16 from (by rw [List.length_set]; exact hl))
  have hA : (mL v at_ 0 false false).toArray[0]? = some (.int .u32 v.a) := rfl
  have hX : (mL v at_ 0 false false).toArray[1]? = some (.int .u32 v.x) := rfl
  have h21 : (mL v at_ 0 false false).toArray[21]? = some (.bool false) := by rw [getA]; exact mL_tail hl 3
  have HMEM : (mL v at_ 0 false false).toArray[2 + n]? = some (.int .u32 (v.cs.getD n 0)) := by rw [getA]; exact mL_mem hl n hn
  generalize hcv : v.cs.getD n 0 = cv at *
  have HV := Aside0.mk (show (⟨v.a, v.x, v.cs.set n v.a⟩ : V).cs.length = 16 from HV0.out)
  have HE := Aside0.mk (toA (show (mL v at_ 0 false false).set (2 + n) (.int .u32 v.a) = mL ⟨v.a, v.x, v.cs.set n v.a⟩ at_ 0 false false from mL_setm hl _ hn _))
  obtain ⟨Cs, hCs⟩ : ∃ Cs, (mL v at_ 0 false false).toArray = Cs := ⟨_, rfl⟩
  rw [hCs] at HE hA hX h21 HMEM ⊢
  have hw64 : wrap64 (n : Int) = n := w64 _ (by omega) (by omega)
  have hd15 : decide (15 < (n : Int)) = false := decide_eq_false (by omega)
  have i0 : (0 : Int) ≤ (n : Int) := by omega
  have i1 : (n : Int) < 16 := by omega
  clear hCs hl
  go_enter Try.func147, Try.ntmps147
  go_wp2_with (first | ((with_reducible refine gate_dst (N := 109) rfl ?_); rw [HE.out]; refine wpList_load_row rfl 159 (.tmp 3) rfl w.heap.size rfl 159 _ (0, 0) _ (blk1 _ _ _ _ _) Try.underlying159 rfl (mL_size HV.out _ _ _ _) ?_) | (refine wpList_store_row rfl 159 (.tmp 6) (.tmp 109) rfl (w.heap.size + 1 + 1) _ rfl rfl 159 _ (blk3 _ _ _ _ _) (mL_size HV.out _ _ _ _) (by simp [mL_len HV.out]) (mL_one _ _ _ _ _) ?_; rw [row3]))
  refine bodyPost_ret (v := .agg (mL ⟨v.a, v.x, v.cs.set n v.a⟩ at_ 0 false false).toArray) (results_cell_row (p := 6) (by kernel_rfl) _ _ (w.heap.size + 1 + 1) 159 _ (0, 0) _ rfl (blk3 _ _ _ _ _) Try.underlying159 rfl (mL_size HV.out _ _ _ _)) rfl ?_
  exact ⟨⟨v.a, v.x, v.cs.set n v.a⟩, false, rfl, HV.out, below_alloc (below_alloc (below_alloc (Below.refl _ _) _) _) _, ⟨rfl, rfl⟩⟩
set_option maxHeartbeats 4000000 in
theorem mov_stx {w : World} {rec : ByteArray} {v : V} (hl : v.cs.length = 16) (at_ : Int) (a1 a2 a3 : Int) (wd : Int → Option Int) (hk : 0 ≤ a3 ∧ a3 < 4294967296) (h16 : a3 < 16) :
    Calls Try.prog 147 #[.agg (mL v at_ 0 false false).toArray, .agg #[.int .i64 3, .int .i64 a1, .int .i64 a2, .int .u32 a3], .string rec] w (MovPost w at_ (memV wd ⟨3, a1, a2, a3⟩ v)) := by
  have hu159 := Try.underlying159
  have hu28 := Try.underlying28
  have hu97 := Try.underlying97
  obtain ⟨n, rfl⟩ : ∃ n : Nat, a3 = n := ⟨a3.toNat, by omega⟩
  have hn : n < 16 := by omega
  rw [show memV wd ⟨3, a1, a2, (n : Int)⟩ v = some ⟨v.a, v.x, v.cs.set n v.x⟩ from (mem_low wd _ v (by show (n : Int) < 16; omega) (by show (3 : Int) = 2 ∨ (3 : Int) = 3 ∨ (3 : Int) = 96 ∨ (3 : Int) = 97; decide)).trans (mem_3 n)]
  have HV0 := Aside0.mk (show (⟨v.a, v.x, v.cs.set n v.x⟩ : V).cs.length = 16 from (by rw [List.length_set]; exact hl))
  have hA : (mL v at_ 0 false false).toArray[0]? = some (.int .u32 v.a) := rfl
  have hX : (mL v at_ 0 false false).toArray[1]? = some (.int .u32 v.x) := rfl
  have h21 : (mL v at_ 0 false false).toArray[21]? = some (.bool false) := by rw [getA]; exact mL_tail hl 3
  have HMEM : (mL v at_ 0 false false).toArray[2 + n]? = some (.int .u32 (v.cs.getD n 0)) := by rw [getA]; exact mL_mem hl n hn
  generalize hcv : v.cs.getD n 0 = cv at *
  have HV := Aside0.mk (show (⟨v.a, v.x, v.cs.set n v.x⟩ : V).cs.length = 16 from HV0.out)
  have HE := Aside0.mk (toA (show (mL v at_ 0 false false).set (2 + n) (.int .u32 v.x) = mL ⟨v.a, v.x, v.cs.set n v.x⟩ at_ 0 false false from mL_setm hl _ hn _))
  obtain ⟨Cs, hCs⟩ : ∃ Cs, (mL v at_ 0 false false).toArray = Cs := ⟨_, rfl⟩
  rw [hCs] at HE hA hX h21 HMEM ⊢
  have hw64 : wrap64 (n : Int) = n := w64 _ (by omega) (by omega)
  have hd15 : decide (15 < (n : Int)) = false := decide_eq_false (by omega)
  have i0 : (0 : Int) ≤ (n : Int) := by omega
  have i1 : (n : Int) < 16 := by omega
  clear hCs hl
  go_enter Try.func147, Try.ntmps147
  go_wp2_with (first | ((with_reducible refine gate_dst (N := 109) rfl ?_); rw [HE.out]; refine wpList_load_row rfl 159 (.tmp 3) rfl w.heap.size rfl 159 _ (0, 0) _ (blk1 _ _ _ _ _) Try.underlying159 rfl (mL_size HV.out _ _ _ _) ?_) | (refine wpList_store_row rfl 159 (.tmp 6) (.tmp 109) rfl (w.heap.size + 1 + 1) _ rfl rfl 159 _ (blk3 _ _ _ _ _) (mL_size HV.out _ _ _ _) (by simp [mL_len HV.out]) (mL_one _ _ _ _ _) ?_; rw [row3]))
  refine bodyPost_ret (v := .agg (mL ⟨v.a, v.x, v.cs.set n v.x⟩ at_ 0 false false).toArray) (results_cell_row (p := 6) (by kernel_rfl) _ _ (w.heap.size + 1 + 1) 159 _ (0, 0) _ rfl (blk3 _ _ _ _ _) Try.underlying159 rfl (mL_size HV.out _ _ _ _)) rfl ?_
  exact ⟨⟨v.a, v.x, v.cs.set n v.x⟩, false, rfl, HV.out, below_alloc (below_alloc (below_alloc (Below.refl _ _) _) _) _, ⟨rfl, rfl⟩⟩
end Go.Proofs.Ytefkhcijgiagdaa.HMr
end
section
namespace Go.Proofs.Ytefkhcijgiagdaa.HMr
open Go.RowKit Go.Proofs.YtefkhcijgiagdaaW.PrintWords Go.Proofs.YtefkhcijgiagdaaW.PrintLast Go.Proofs.YtefkhcijgiagdaaW.PrintMore Go.Proofs.Ytefkhcijgiagdaa.HKnown Go.Proofs.Ytefkhcijgiagdaa.I1 Go.Proofs.Ytefkhcijgiagdaa.QVm Go.Proofs.Ytefkhcijgiagdaa.QLe Go.Proofs.Ytefkhcijgiagdaa.V0 Go.Proofs.Ytefkhcijgiagdaa.HVm
set_option linter.unusedVariables false
set_option linter.unusedSimpArgs false
set_option maxRecDepth 100000
set_option maxHeartbeats 4000000 in
theorem mov_abs0 {w : World} {rec : ByteArray} {v : V} (hl : v.cs.length = 16) (at_ : Int) (a1 a2 a3 : Int) (wd : Int → Option Int) (hk : 0 ≤ a3 ∧ a3 < 4294967296) (x : Int)
    (hcall : ∀ W, Calls Try.prog 83 #[.string rec, .int .i64 a3] W fun e w' => e = .returned (.tuple #[.int .u32 x, .int .i64 0]) ∧ Drawn0 W w') (hx : wd a3 = some x) :
    Calls Try.prog 147 #[.agg (mL v at_ 0 false false).toArray, .agg #[.int .i64 32, .int .i64 a1, .int .i64 a2, .int .u32 a3], .string rec] w (MovPost w at_ (memV wd ⟨32, a1, a2, a3⟩ v)) := by
  have hu159 := Try.underlying159
  have hu28 := Try.underlying28
  have hu97 := Try.underlying97
  rw [show memV wd ⟨32, a1, a2, a3⟩ v = some ⟨x, v.x, v.cs⟩ from by show (wd a3).map _ = _; rw [hx]; rfl]
  have HV := Aside0.mk hl
  have HV2 := Aside0.mk (show (⟨x, v.x, v.cs⟩ : V).cs.length = 16 from hl)
  have HCALL := Aside0.mk hcall
  obtain ⟨Cs, hCs⟩ : ∃ Cs, (mL v at_ 0 false false).toArray = Cs := ⟨_, rfl⟩
  rw [hCs]
  have HCS := Aside0.mk hCs
  have hw64 : wrap64 a3 = a3 := w64 _ (by omega) (by omega)
  clear hCs hl hcall hx
  go_enter Try.func147, Try.ntmps147
  go_wp2_with (first | (go_at_call 83; refine (HCALL.out _).mono ?_; rintro e w1 ⟨rfl, hb0⟩; have hb := hb0.below; have HM1 := Aside0.mk (show Mb w1 w.heap.size v at_ 0 false false from ⟨by rw [HCS.out]; exact blk_below (blk1 _ _ _ _ _) hb, HV.out⟩); have HZ := Aside0.mk (blk_below (blk3 _ _ _ _ _) hb); have HB := Aside0.mk (below_step (below_alloc (below_alloc (below_alloc (Below.refl w.heap.size w) _) _) _) hb); clear hb0 hb; have k0 := HM1.out.cA; have k21 := HM1.out.cWrong; have f0 := HM1.out.free 0; have f21 := HM1.out.free 21; have HM2 := Aside0.mk ((HM1.out.setA x).setWrong false); have HZ2 := Aside0.mk (blk_far (p := ⟨w.heap.size, 21, none⟩) (blk_far (p := ⟨w.heap.size, 0, none⟩) HZ.out (by show w.heap.size + 1 + 1 ≠ w.heap.size; omega) (.int .u32 x)) (by show w.heap.size + 1 + 1 ≠ w.heap.size; omega) (.bool false)); have HB2 := Aside0.mk ((HB.out.setCell (p := ⟨w.heap.size, 0, none⟩) (Nat.le_refl _) (.int .u32 x)).setCell (p := ⟨w.heap.size, 21, none⟩) (Nat.le_refl _) (.bool false)); clear HZ HB HM1) | ((with_reducible refine gate_dst (N := 109) rfl ?_); refine wpList_load_row rfl 159 (.tmp 3) rfl w.heap.size rfl 159 _ (0, 0) _ HM2.out.hW Try.underlying159 rfl (mL_size HV.out _ _ _ _) ?_) | (refine wpList_store_row rfl 159 (.tmp 6) (.tmp 109) rfl (w.heap.size + 1 + 1) _ rfl rfl 159 _ HZ2.out (mL_size HV.out _ _ _ _) (by simp [mL_len (v := ⟨x, v.x, v.cs⟩) HV2.out]) (mL_one _ _ _ _ _) ?_))
  refine bodyPost_ret (v := .agg (mL ⟨x, v.x, v.cs⟩ at_ 0 false false).toArray) (results_cell_row (p := 6) (by kernel_rfl) _ _ (w.heap.size + 1 + 1) 159 _ (0, 0) _ rfl (setRow_heap _ _ _ _ _ _ HZ2.out) Try.underlying159 rfl (mL_size HV.out _ _ _ _)) rfl ?_
  exact ⟨⟨x, v.x, v.cs⟩, false, rfl, HV.out, below_setRow HB2.out (by omega) _, ⟨rfl, rfl⟩⟩
set_option maxHeartbeats 4000000 in
theorem mov_abs1 {w : World} {rec : ByteArray} {v : V} (hl : v.cs.length = 16) (at_ : Int) (a1 a2 a3 : Int) (wd : Int → Option Int) (hk : 0 ≤ a3 ∧ a3 < 4294967296) (x : Int)
    (hcall : ∀ W, Calls Try.prog 83 #[.string rec, .int .i64 a3] W fun e w' => e = .returned (.tuple #[.int .u32 x, .int .i64 51]) ∧ Drawn0 W w') (hx : wd a3 = none) :
    Calls Try.prog 147 #[.agg (mL v at_ 0 false false).toArray, .agg #[.int .i64 32, .int .i64 a1, .int .i64 a2, .int .u32 a3], .string rec] w (MovPost w at_ (memV wd ⟨32, a1, a2, a3⟩ v)) := by
  have hu159 := Try.underlying159
  have hu28 := Try.underlying28
  have hu97 := Try.underlying97
  rw [show memV wd ⟨32, a1, a2, a3⟩ v = none from by show (wd a3).map _ = _; rw [hx]; rfl]
  have HV := Aside0.mk hl
  have HV2 := Aside0.mk (show (⟨x, v.x, v.cs⟩ : V).cs.length = 16 from hl)
  have HCALL := Aside0.mk hcall
  obtain ⟨Cs, hCs⟩ : ∃ Cs, (mL v at_ 0 false false).toArray = Cs := ⟨_, rfl⟩
  rw [hCs]
  have HCS := Aside0.mk hCs
  have hw64 : wrap64 a3 = a3 := w64 _ (by omega) (by omega)
  clear hCs hl hcall hx
  go_enter Try.func147, Try.ntmps147
  go_wp2_with (first | (go_at_call 83; refine (HCALL.out _).mono ?_; rintro e w1 ⟨rfl, hb0⟩; have hb := hb0.below; have HM1 := Aside0.mk (show Mb w1 w.heap.size v at_ 0 false false from ⟨by rw [HCS.out]; exact blk_below (blk1 _ _ _ _ _) hb, HV.out⟩); have HZ := Aside0.mk (blk_below (blk3 _ _ _ _ _) hb); have HB := Aside0.mk (below_step (below_alloc (below_alloc (below_alloc (Below.refl w.heap.size w) _) _) _) hb); clear hb0 hb; have k0 := HM1.out.cA; have k21 := HM1.out.cWrong; have f0 := HM1.out.free 0; have f21 := HM1.out.free 21; have HM2 := Aside0.mk ((HM1.out.setA x).setWrong true); have HZ2 := Aside0.mk (blk_far (p := ⟨w.heap.size, 21, none⟩) (blk_far (p := ⟨w.heap.size, 0, none⟩) HZ.out (by show w.heap.size + 1 + 1 ≠ w.heap.size; omega) (.int .u32 x)) (by show w.heap.size + 1 + 1 ≠ w.heap.size; omega) (.bool true)); have HB2 := Aside0.mk ((HB.out.setCell (p := ⟨w.heap.size, 0, none⟩) (Nat.le_refl _) (.int .u32 x)).setCell (p := ⟨w.heap.size, 21, none⟩) (Nat.le_refl _) (.bool true)); clear HZ HB HM1) | ((with_reducible refine gate_dst (N := 109) rfl ?_); refine wpList_load_row rfl 159 (.tmp 3) rfl w.heap.size rfl 159 _ (0, 0) _ HM2.out.hW Try.underlying159 rfl (mL_size HV.out _ _ _ _) ?_) | (refine wpList_store_row rfl 159 (.tmp 6) (.tmp 109) rfl (w.heap.size + 1 + 1) _ rfl rfl 159 _ HZ2.out (mL_size HV.out _ _ _ _) (by simp [mL_len (v := ⟨x, v.x, v.cs⟩) HV2.out]) (mL_one _ _ _ _ _) ?_))
  refine bodyPost_ret (v := .agg (mL ⟨x, v.x, v.cs⟩ at_ 0 false true).toArray) (results_cell_row (p := 6) (by kernel_rfl) _ _ (w.heap.size + 1 + 1) 159 _ (0, 0) _ rfl (setRow_heap _ _ _ _ _ _ HZ2.out) Try.underlying159 rfl (mL_size HV.out _ _ _ _)) rfl ?_
  exact ⟨⟨x, v.x, v.cs⟩, true, rfl, HV.out, below_setRow HB2.out (by omega) _, rfl⟩
end Go.Proofs.Ytefkhcijgiagdaa.HMr
end
section
namespace Go.Proofs.Ytefkhcijgiagdaa.HMr
open Go.RowKit Go.Proofs.YtefkhcijgiagdaaW.PrintWords Go.Proofs.YtefkhcijgiagdaaW.PrintLast Go.Proofs.YtefkhcijgiagdaaW.PrintMore Go.Proofs.Ytefkhcijgiagdaa.HKnown Go.Proofs.Ytefkhcijgiagdaa.I1 Go.Proofs.Ytefkhcijgiagdaa.QVm Go.Proofs.Ytefkhcijgiagdaa.QLe Go.Proofs.Ytefkhcijgiagdaa.V0 Go.Proofs.Ytefkhcijgiagdaa.HVm
set_option linter.unusedVariables false
set_option linter.unusedSimpArgs false
set_option maxRecDepth 100000
theorem moves_c {w : World} {rec : ByteArray} {v : V} (hl : v.cs.length = 16) (at_ : Int) (i : S28) (wd : Int → Option Int) (hk : 0 ≤ i.f3 ∧ i.f3 < 4294967296) (x b : Int)
    (hcall : ∀ W, Calls Try.prog 83 #[.string rec, .int .i64 i.f3] W fun e w' => e = .returned (.tuple #[.int .u32 x, .int .i64 b]) ∧ Drawn0 W w') (hxb : (wd i.f3 = some x ∧ b = 0) ∨ (wd i.f3 = none ∧ b = 51))
    (hc : i.f0 = 32 ∨ i.f0 = 128 ∨ i.f0 = 129 ∨ i.f0 = 0 ∨ i.f0 = 1 ∨ i.f0 = 7 ∨ i.f0 = 135 ∨ i.f0 = 2 ∨ i.f0 = 3 ∨ i.f0 = 96 ∨ i.f0 = 97) :
    Calls Try.prog 147 #[.agg (mL v at_ 0 false false).toArray, .agg #[.int .i64 i.f0, .int .i64 i.f1, .int .i64 i.f2, .int .u32 i.f3], .string rec] w (MovPost w at_ (memV wd i v)) := by
  obtain ⟨c, a1, a2, a3⟩ := i
  simp only at hk hcall hxb hc ⊢
  rcases hc with rfl | rfl | rfl | rfl | rfl | rfl | rfl | rfl | rfl | rfl | rfl
  · rcases hxb with ⟨h, rfl⟩ | ⟨h, rfl⟩
    · exact mov_abs0 hl at_ a1 a2 a3 wd hk x hcall h
    · exact mov_abs1 hl at_ a1 a2 a3 wd hk x hcall h
  · exact mov_len hl at_ a1 a2 a3 wd hk
  · exact mov_lxlen hl at_ a1 a2 a3 wd hk
  · exact mov_ldimm hl at_ a1 a2 a3 wd hk
  · exact mov_lximm hl at_ a1 a2 a3 wd hk
  · exact mov_tax hl at_ a1 a2 a3 wd hk
  · exact mov_txa hl at_ a1 a2 a3 wd hk
  · by_cases h : 16 ≤ a3
    · exact mov_w2 hl at_ a1 a2 a3 wd hk h
    · exact mov_st hl at_ a1 a2 a3 wd hk (by omega)
  · by_cases h : 16 ≤ a3
    · exact mov_w3 hl at_ a1 a2 a3 wd hk h
    · exact mov_stx hl at_ a1 a2 a3 wd hk (by omega)
  · by_cases h : 16 ≤ a3
    · exact mov_w96 hl at_ a1 a2 a3 wd hk h
    · exact mov_ldmem hl at_ a1 a2 a3 wd hk (by omega)
  · by_cases h : 16 ≤ a3
    · exact mov_w97 hl at_ a1 a2 a3 wd hk h
    · exact mov_lxmem hl at_ a1 a2 a3 wd hk (by omega)
end Go.Proofs.Ytefkhcijgiagdaa.HMr
end
section
namespace Go.Proofs.Ytefkhcijgiagdaa.QRef01
open Go.RowKit Go.Proofs.YtefkhcijgiagdaaW.PrintWords Go.Proofs.YtefkhcijgiagdaaW.PrintLast Go.Proofs.YtefkhcijgiagdaaW.PrintMore Go.Proofs.Ytefkhcijgiagdaa.QLe Go.Proofs.Ytefkhcijgiagdaa.QNum Go.Proofs.Ytefkhcijgiagdaa.I1
set_option linter.unusedVariables false
set_option linter.unusedSimpArgs false
theorem number_loop (s : ByteArray) (h8 : s.size ≤ 8) : ∀ i : Nat, i ≤ s.size → ∀ k, i < k → doorwardref01_Number.l0 k s (num (s.data.toList.drop i)) ((i : Int) - 1) = some (num s.data.toList) := by
  intro i
  induction i with
  | zero =>
    intro hi k hk
    obtain ⟨k, rfl⟩ : ∃ m, k = m + 1 := ⟨k - 1, by omega⟩
    simp only [doorwardref01_Number.l0]
    rw [if_neg (by omega)]; rfl
  | succ i ih =>
    intro hi k hk
    obtain ⟨k, rfl⟩ : ∃ m, k = m + 1 := ⟨k - 1, by omega⟩
    have hl : i < s.data.toList.length := by rw [len_data]; omega
    simp only [doorwardref01_Number.l0]
    have e : (((i + 1 : Nat) : Int) - 1) = (i : Int) := by omega
    rw [e, if_pos (by omega), if_pos (by omega), if_pos (by omega)]
    have hn := num_nonneg (s.data.toList.drop (i + 1))
    have hlt := num_lt (s.data.toList.drop (i + 1))
    rw [List.length_drop, len_data] at hlt
    have hp := p7 (s.size - (i + 1)) (by omega)
    have hb := bt_range s i
    have hd : num (s.data.toList.drop i) = 256 * num (s.data.toList.drop (i + 1)) + bt s i := by
      rw [List.drop_eq_getElem_cons hl, num, bt_data s i (by omega)]
    rw [u64_small (256 * num (s.data.toList.drop (i + 1))) (by omega) (by omega), u64_small (bt s i) hb.1 (by omega), u64_small _ (by omega) (by omega), ← hd, w64 _ (by omega) (by omega)]
    exact ih (by omega) k (by omega)
theorem number_ok (s : ByteArray) (h8 : s.size ≤ 8) : ∀ k, 10 ≤ k → doorwardref01_Number.f k s = some (num s.data.toList) := by
  intro k hk
  unfold doorwardref01_Number.f
  have h := number_loop s h8 s.size (Nat.le_refl _) k (by omega)
  rw [List.drop_of_length_le (by rw [len_data]; exact Nat.le_refl _)] at h
  rw [w64 _ (by omega) (by omega)]
  exact h
end Go.Proofs.Ytefkhcijgiagdaa.QRef01
end
section
namespace Go.Proofs.Ytefkhcijgiagdaa.QIn
open Go.RowKit Go.Proofs.YtefkhcijgiagdaaW.PrintWords Go.Proofs.YtefkhcijgiagdaaW.PrintLast Go.Proofs.YtefkhcijgiagdaaW.PrintMore Go.Proofs.Ytefkhcijgiagdaa.Le Go.Proofs.Ytefkhcijgiagdaa.QLe Go.Proofs.Ytefkhcijgiagdaa.QNum Go.Proofs.Ytefkhcijgiagdaa.QRef01 Go.Proofs.Ytefkhcijgiagdaa.HKnown Go.Proofs.Ytefkhcijgiagdaa.I1
set_option linter.unusedVariables false
set_option linter.unusedSimpArgs false
theorem known_f (c : Int) : insn_Known.f c = some (knownB c) := rfl
theorem refKnown256 : ∀ c : Fin 256, doorwardref10_Known.f 1 (c.1 : Int) = some (knownB (c.1 : Int)) := by decide +kernel
theorem refKnown (c : Int) : ∀ k, 1 ≤ k → doorwardref10_Known.f k c = some (knownB c) := by
  intro k hk
  by_cases h : 0 ≤ c ∧ c < 256
  · have h2 := refKnown256 ⟨c.toNat, by omega⟩
    have e : ((c.toNat : Nat) : Int) = c := by omega
    rw [show ((⟨c.toNat, by omega⟩ : Fin 256).1 : Int) = c from e] at h2
    exact at_rounds (g := fun k => doorwardref10_Known.f k c) (doorwardref10_Known.mono c) hk h2
  · obtain ⟨k, rfl⟩ : ∃ m, k = m + 1 := ⟨k - 1, by omega⟩
    have hf : knownB c = false := by unfold knownB; rw [decide_eq_false h]; rfl
    unfold doorwardref10_Known.f
    rw [hf]
    by_cases h0 : c < 0
    · rw [if_pos h0]; simp [doorwardref10_Known.j0]
    · rw [if_neg h0, decide_eq_true (by omega)]; simp [doorwardref10_Known.j0]
/-- what eight bytes are read as. -/
def codeOf (l : List UInt8) : Int := num (l.take 2)
def getS (l : List UInt8) : Int × Int × Int × Int × Int :=
  if l.length = 8 ∧ knownB (codeOf l) = true then (codeOf l, ((l.getD 2 0).toNat : Int), ((l.getD 3 0).toNat : Int), num (l.drop 4), 0) else (0, 0, 0, 0, 50)
theorem get_ok (s : ByteArray) : ∀ k, 20 ≤ k → insn_Get.f k s = some (getS s.data.toList) := by
  intro k hk
  unfold insn_Get.f getS
  by_cases h : s.size = 8
  · have hl : s.data.toList.length = 8 := by rw [len_data, h]
    rw [if_pos (by omega)]
    have g1 : le_Get.f k s 0 2 = some (leval s 0 2, 2, 0) := QLe.get_ok s 0 2 (by omega) (by omega) (by omega) (by omega) (by omega) k (by omega)
    have g2 : le_Get.f k s 4 4 = some (leval s 4 4, 8, 0) := QLe.get_ok s 4 4 (by omega) (by omega) (by omega) (by omega) (by omega) k (by omega)
    rw [g1, g2]
    simp only [Option.bind_some]
    have v1 : leval s 0 2 = codeOf s.data.toList := by
      have := leval_num s 0 2 (by omega)
      simpa [codeOf] using this
    have v2 : leval s 4 4 = num (s.data.toList.drop 4) := by
      have := leval_num s 4 4 (by omega)
      rw [List.take_of_length_le (by rw [List.length_drop]; omega)] at this
      exact this
    have n1 := num_nonneg (s.data.toList.take 2)
    have n2 := num_lt (s.data.toList.take 2)
    have n3 := num_nonneg (s.data.toList.drop 4)
    have n4 := num_lt (s.data.toList.drop 4)
    have l1 : (s.data.toList.take 2).length = 2 := by rw [List.length_take]; omega
    have l2 : (s.data.toList.drop 4).length = 4 := by rw [List.length_drop]; omega
    rw [l1] at n2
    rw [l2] at n4
    have p2 : (256 : Int) ^ 2 = 65536 := by decide
    have p4 : (256 : Int) ^ 4 = 4294967296 := by decide
    have b2 := bt_get s 2 (by omega)
    have b3 := bt_get s 3 (by omega)
    have b2' : bt s 2 = ((s.data.toList.getD 2 0).toNat : Int) := b2
    have b3' : bt s 3 = ((s.data.toList.getD 3 0).toNat : Int) := b3
    have r2 := bt_range s 2
    have r3 := bt_range s 3
    have w1 : wrap64 (codeOf s.data.toList) = codeOf s.data.toList := w64 _ (by unfold codeOf; omega) (by unfold codeOf; omega)
    rw [if_pos (by omega), if_pos (by omega), v1, v2, w1, known_f]
    simp only [Option.bind_some]
    rw [w64 (bt s 2) (by omega) (by omega), w64 (bt s 3) (by omega) (by omega), b2', b3']
    by_cases hk2 : knownB (codeOf s.data.toList) = true
    · rw [if_pos hk2, if_pos ⟨hl, hk2⟩, Int.emod_eq_of_lt n3 (by omega)]
    · rw [if_neg hk2, if_neg (fun g => hk2 g.2)]
  · rw [if_neg (by omega), if_neg (fun g => h (by rw [← len_data]; exact g.1))]
end Go.Proofs.Ytefkhcijgiagdaa.QIn
end
