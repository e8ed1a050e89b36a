/- CallWords: the record's sixteen words are the call's number, architecture, place and arguments. -/
import Derived.Test.YtoeklekjhaigoaaProg
import Derived.Below
import Derived.Deep.Draws
import Derived.Deep.AppendLies
import Derived.Maps.AppendAt
import Derived.OwnWalk
import Derived.Laws.BytesArg
import Derived.Laws.MakeOwn
import Derived.Laws.OwnMore
import Derived.Deep.OwnRows
import Derived.Tactics
import Derived.Lib.ConvBytes
import Derived.Laws.Slices
import Derived.WalkKit
import Derived.KernelRfl
import Derived.RowKit3
import Derived.Deep.LoopGhost
import Derived.Deep.QuietTactic
import Derived.BigQuiet
import Derived.WideLaws
import Derived.Deep.DeepCutAuto
import Derived.Deep.CutBlock
import Derived.Deep.RegionHeld3
import Derived.Laws.Rows
import Derived.Lib.AppendStr
import Derived.ArgAppend
import Derived.Laws.IdiomCopy
import Derived.OrdersHeld
import Derived.Laws.BitsLemmas
import Derived.RowKit
import Derived.Test.YtoeklekjhaigoaaWWords
import Derived.Test.YtoeklekjhaigoaaWLast
import Derived.Test.YtoeklekjhaigoaaWTab
import Derived.Test.YtoeklekjhaigoaaWFour
import Derived.Test.YtoeklekjhaigoaaWQPut
import Derived.Test.YtoeklekjhaigoaaWApart
import Derived.Test.YtoeklekjhaigoaaWArr
import Derived.Test.YtoeklekjhaigoaaWZeros
import Derived.Test.YtoeklekjhaigoaaWFoot
import Derived.Test.YtoeklekjhaigoaaWKept
import Derived.Test.YtoeklekjhaigoaaWShare
import Derived.Test.YtoeklekjhaigoaaWN
import Derived.Test.YtoeklekjhaigoaaWFootNe
import Derived.Test.YtoeklekjhaigoaaWAt
import Derived.Test.YtoeklekjhaigoaaWEqStruct
import Derived.Test.YtoeklekjhaigoaaWRepsOne
import Derived.Test.YtoeklekjhaigoaaWInv
import Derived.Test.YtoeklekjhaigoaaWInvWords
import Derived.Test.YtoeklekjhaigoaaWGuard
import Derived.Test.YtoeklekjhaigoaaWNEv
import Derived.Test.YtoeklekjhaigoaaWMore
import Derived.Laws.Tables
import Derived.Laws.CopyOwn
import Derived.Deep.WholeRow
import Derived.ChangeKeysEq
import Derived.Shelf.Abstract
import Derived.Deep.RegionLaw
import Derived.Maps.OwnSet
import Derived.StringKeys
import Derived.DataReads
import Derived.DataElems
import Derived.SizedLaws
import Derived.ProofKit
import Derived.Test.YtoeklekjhaigoaaRows
import Derived.Test.YtoeklekjhaigoaaOrder
import Derived.OpenShut
import Derived.ShutString
import Derived.ChangeOld
section
namespace Go.Proofs.Ytoeklekjhaigoaa.Le
open Go.RowKit Go.Proofs.YtoeklekjhaigoaaW.PrintWords Go.Proofs.YtoeklekjhaigoaaW.PrintLast Go.Proofs.YtoeklekjhaigoaaW.PrintMore
attribute [local go_sem] max2_int min2_int max_two min_two max_three min_three max_four min_four IntKind.wrap_u32 IntKind.wrap_u8   -- for this text's walks alone
set_option linter.unusedVariables false
set_option linter.unusedSimpArgs false
def errW : Option Int → Value
  | none => .nilIface
  | some c => .iface 0 (.int .i64 c)
theorem errW_none : errW none = .nilIface := rfl
theorem errW_some (c : Int) : errW (some c) = .iface 0 (.int .i64 c) := rfl
theorem info5 : (Try.prog.info? 5).map (fun i => (i.zero, i.size, i.bytes)) = some (some (.int .u8 0), 1, 1) := by kernel_rfl
end Go.Proofs.Ytoeklekjhaigoaa.Le
end
section
namespace Go.Proofs.Ytoeklekjhaigoaa.Le
open Go.RowKit Go.Proofs.YtoeklekjhaigoaaW.PrintWords Go.Proofs.YtoeklekjhaigoaaW.PrintLast Go.Proofs.YtoeklekjhaigoaaW.PrintMore
attribute [local go_sem] max2_int min2_int max_two min_two max_three min_three max_four min_four IntKind.wrap_u32 IntKind.wrap_u8   -- for this text's walks alone
set_option linter.unusedVariables false
set_option linter.unusedSimpArgs false
mutual
def le_Put.j0 : Nat → Int → Int → Bool → Option (ByteArray × Int)
  | 0, _, _, _ => none
  | k + 1, x0, x1, x24 => if x24 = true then (some ((⟨#[]⟩ : ByteArray), 1)) else (if 0 ≤ x1 then (if (x1 : Int).toNat ≤ 281474976710656 then (le_Put.l0 k x0 (List.replicate (x1 : Int).toNat 0) x1 0) else (none)) else (none))
def le_Put.l0 : Nat → Int → List Int → Int → Int → Option (ByteArray × Int)
  | 0, _, _, _, _ => none
  | k + 1, x0, x6, x27, x28 => if x28 < x27 then (if 0 ≤ (wrap64 (8 * x28)) then (if 0 ≤ x28 then (if x28 < (x6.length : Int) then (le_Put.l0 k x0 (x6.set (x28 : Int).toNat ((shr .u64 x0 (wrap64 (8 * x28))) % 256)) x27 (wrap64 (x28 + 1))) else (none)) else (none)) else (none)) else (some (strOfNums x6, 0))
end
def le_Put.f (k : Nat) (a0 : Int) (a1 : Int) : Option (ByteArray × Int) := if a1 < 1 then (le_Put.j0 k a0 a1 true) else (if a1 > 8 then (le_Put.j0 k a0 a1 true) else (if a1 < 8 then (if 0 ≤ (wrap64 (8 * a1)) then (le_Put.j0 k a0 a1 ((shr .u64 a0 (wrap64 (8 * a1))) != 0)) else (none)) else (le_Put.j0 k a0 a1 false)))
set_option maxHeartbeats 8000000 in
set_option maxRecDepth 100000 in
theorem le_Put.calls (k : Nat) (a0 : Int) (a1 : Int) (r1 : ByteArray) (r2 : Int) (w : World) (h : le_Put.f k a0 a1 = some (r1, r2)) :
    Calls Try.prog 94 #[.int .u64 a0, .int .i64 a1] w fun e w' => e = .returned (.tuple #[.string r1, .int .i64 r2]) ∧ Below w.heap.size w w' := by
  have HB := Aside0.mk (Below.refl w.heap.size w)
  have H : (if a1 < 1 then (le_Put.j0 k a0 a1 true) else (if a1 > 8 then (le_Put.j0 k a0 a1 true) else (if a1 < 8 then (if 0 ≤ (wrap64 (8 * a1)) then (le_Put.j0 k a0 a1 ((shr .u64 a0 (wrap64 (8 * a1))) != 0)) else (none)) else (le_Put.j0 k a0 a1 false)))) = some (r1, r2) := h
  clear h
  have HC3 := Aside0.mk H
  clear H
  go_enter Try.func94, Try.ntmps94
  go_upto_region 1 with (fail)
  go_cut [24] (fun v24 wc => ∃ (kq : Nat) (x24_2 : Bool), v24 = .bool x24_2 ∧ Aside0 (le_Put.j0 kq a0 a1 x24_2 = some (r1, r2)) ∧ Aside0 (kq ≤ k) ∧ Aside0 (Below w.heap.size w wc))
  case first =>
    have H := HC3.out
    clear HC3
    by_cases c4 : a1 < 1
    · rw [if_pos c4] at H
      have c4b0 : decide (a1 < 1) = true := decide_eq_true c4
      clear c4
      (first | rw [c4b0] | (simp only [i64_w, i32_w]; rw [c4b0]) | skip)
      have H' := Aside0.mk H
      clear H
      go_wp2
      go_meet
      case rel => exact ⟨_, (true), (by first | rfl | (simp; done) | (simp [*]; done)), H', ⟨by first | omega | exact Nat.le_refl _⟩, ⟨by repeat (first | (with_reducible first | exact HB.out | apply below_alloc | apply pw_below_drewN | apply below_drew1) | exact HB.out)⟩⟩
    · rw [if_neg c4] at H
      have c4b0 : decide (a1 < 1) = false := decide_eq_false c4
      clear c4
      (first | rw [c4b0] | (simp only [i64_w, i32_w]; rw [c4b0]) | skip)
      by_cases c5 : a1 > 8
      · rw [if_pos c5] at H
        have c5b0 : decide (8 < a1) = true := decide_eq_true c5
        clear c5
        have H' := Aside0.mk H
        clear H
        go_wp2
        go_meet
        case rel => exact ⟨_, (true), (by first | rfl | (simp; done) | (simp [*]; done)), H', ⟨by first | omega | exact Nat.le_refl _⟩, ⟨by repeat (first | (with_reducible first | exact HB.out | apply below_alloc | apply pw_below_drewN | apply below_drew1) | exact HB.out)⟩⟩
      · rw [if_neg c5] at H
        have c5b0 : decide (8 < a1) = false := decide_eq_false c5
        clear c5
        by_cases c6 : a1 < 8
        · rw [if_pos c6] at H
          have c6b0 : decide (a1 < 8) = true := decide_eq_true c6
          clear c6
          obtain ⟨ji7, hji7⟩ : ∃ j_ : Int, (wrap64 (8 * a1)) = j_ := ⟨_, rfl⟩
          replace H : (if 0 ≤ (ji7) then (le_Put.j0 k a0 a1 ((shr .u64 a0 (ji7)) != 0)) else (none)) = some (r1, r2) := by first | (rw [hji7] at H; exact H) | (simp only [hji7] at H ⊢; exact H)
          have hji7w : (IntKind.i64.wrap (8 * a1)) = ji7 := (i64_w _).trans hji7
          by_cases c8 : 0 ≤ (ji7)
          · rw [if_pos c8] at H
            have c8b0 := eq_true c8
            have c8b1 : decide (0 ≤ (ji7)) = true := decide_eq_true c8
            clear c8
            obtain ⟨ji9, hji9⟩ : ∃ j_ : Int, (shr .u64 a0 (ji7)) = j_ := ⟨_, rfl⟩
            replace H : (le_Put.j0 k a0 a1 ((ji9) != 0)) = some (r1, r2) := by first | (rw [hji9] at H; exact H) | (simp only [hji9] at H ⊢; exact H)
            have hji9_ : (a0 / 2 ^ min (ji7).toNat 64) = ji9 := hji9
            have hji9z : (ji7) ≤ 64 → (a0 / 2 ^ (ji7).toNat) = ji9 := shr_small hji9
            (try (have ji9l : 0 ≤ ji9 := by rw [← hji9]; unfold shr; exact Int.ediv_nonneg (by omega) (Int.pow_nonneg (by decide))))
            have H' := Aside0.mk H
            clear H
            go_wp2
            go_meet
            case rel => exact ⟨_, (((ji9) != 0)), (by first | rfl | (simp; done) | (simp only [← hji9] <;> (first | rfl | simp)) | (simp [*]; done)), H', ⟨by first | omega | exact Nat.le_refl _⟩, ⟨by repeat (first | (with_reducible first | exact HB.out | apply below_alloc | apply pw_below_drewN | apply below_drew1) | exact HB.out)⟩⟩
          · rw [if_neg c8] at H
            exact absurd H (by simp)
        · rw [if_neg c6] at H
          have c6b0 : decide (a1 < 8) = false := decide_eq_false c6
          clear c6
          have H' := Aside0.mk H
          clear H
          go_wp2
          go_meet
          case rel => exact ⟨_, (false), (by first | rfl | (simp; done) | (simp [*]; done)), H', ⟨by first | omega | exact Nat.le_refl _⟩, ⟨by repeat (first | (with_reducible first | exact HB.out | apply below_alloc | apply pw_below_drewN | apply below_drew1) | exact HB.out)⟩⟩
  case rest =>
    clear HC3
    try clear p2
    try clear c4
    try clear c4b0
    try clear c5
    try clear c5b0
    try clear c6
    try clear c6b0
    try clear p6
    try clear c8
    try clear c8b0
    try clear c8b1
    try clear c9
    obtain ⟨kq, x24_2, rfl, HA, HJ2, HB⟩ := hcut
    cases kq with
    | zero => exact absurd HA.out (by simp [le_Put.j0])
    | succ kj2 =>
      have H := HA.out
      clear HA
      simp only [le_Put.j0] at H
      by_cases c10 : x24_2 = true
      · subst c10
        have H1 : (some ((⟨#[]⟩ : ByteArray), 1)) = some (r1, r2) := by rw [if_pos rfl] at H; exact H
        clear H
        have H := H1
        clear H1
        simp only [Option.some.injEq, Prod.mk.injEq] at H
        obtain ⟨rfl, rfl⟩ := H
        go_wp2
        go_ret2
        exact ⟨by first | rfl | (simp [errW_none, errW_some] <;> rfl) | (simp [*, errW_none, errW_some] <;> rfl), by repeat (first | (with_reducible first | exact HB.out | apply below_alloc | apply pw_below_drewN | apply below_drew1) | exact HB.out)⟩
      · replace c10 := Bool.eq_false_iff.mpr c10
        subst c10
        have H1 : (if 0 ≤ a1 then (if (a1 : Int).toNat ≤ 281474976710656 then (le_Put.l0 kj2 a0 (List.replicate (a1 : Int).toNat 0) a1 0) else (none)) else (none)) = some (r1, r2) := by rw [if_neg (show ¬ (false = true) by decide)] at H; exact H
        clear H
        have H := H1
        clear H1
        by_cases c11 : 0 ≤ a1
        · rw [if_pos c11] at H
          have c11b0 := eq_true c11
          have c11b1 : decide (0 ≤ a1) = true := decide_eq_true c11
          clear c11
          by_cases c12 : (a1 : Int).toNat ≤ 281474976710656
          · rw [if_pos c12] at H
            have c12b0 := eq_true c12
            have c12b1 : decide ((a1 : Int).toNat ≤ 281474976710656) = true := decide_eq_true c12
            clear c12
            obtain ⟨y101, hy101⟩ : ∃ y_ : List Int, y_ = (List.replicate (a1 : Int).toNat 0) := ⟨_, rfl⟩
            replace H : (le_Put.l0 kj2 a0 y101 a1 0) = some (r1, r2) := by first | (rw [hy101]; with_reducible exact H) | (have H2_ := (Option.bind_some _ _).symm.trans H; rw [hy101]; with_reducible exact H2_) | (have H2_ := (Option.bind_some _ _).symm.trans H; with_reducible exact H2_) | with_reducible exact H | (rw [hy101]; exact H) | exact H
            have Ny101 := Aside0.mk hy101
            clear hy101
            have H' := Aside0.mk H
            clear H
            go_wp2_with (first | ((with_reducible refine gate_dst (N := 26) rfl ?_); refine Kd.R_make (Kd.int .u8) _ 5 rfl (N := 26) rfl 118 _ _ rfl a1 rfl rfl Try.underlying118 (.int .u8 0) 1 info5 rfl (by decide) (by omega) 0 (ok := fun _ => True) (okp := fun _ => True) rfl (fun _ hk => hk) trivial (of_decide_eq_true (by first | (with_reducible assumption) | assumption)) (Nat.le_trans (Nat.mul_le_mul_right _ (of_decide_eq_true (by first | (with_reducible assumption) | assumption) : a1.toNat ≤ 281474976710656)) (by omega)) (Below.refl _ _) (Nat.le_refl _) ?_; intro v102 w13 ho14 hb hg_ hnew_; clear hg_ hnew_; (first | rw [← Ny101.out] at ho14 | (simp only [Int.reduceToNat] at ho14; rw [← Ny101.out] at ho14)); have n0_ := Aside0.mk (Kd.R_lower ho14 (below_size (by repeat (first | (with_reducible first | exact HB.out | apply below_alloc | apply pw_below_drewN | apply below_drew1) | exact HB.out)))); have n1_ := Aside0.mk (below_step (by repeat (first | (with_reducible first | exact HB.out | apply below_alloc | apply pw_below_drewN | apply below_drew1) | exact HB.out)) hb); clear HB; have HO103 := n0_; have HB := n1_; clear n0_ n1_; clear hb ho14))
            go_loopg [28] kj2 (fun kq v28 w' => ∃ (x6_2 : List Int) (x28_2 : Int), v28 = .int .i64 x28_2 ∧ Aside0 (le_Put.l0 kq a0 x6_2 a1 x28_2 = some (r1, r2)) ∧ Aside0 (kq ≤ kj2) ∧ Aside0 (Kd.R (Kd.int .u8) 5 w' w.heap.size (fun _ => True) v102 x6_2) ∧ Aside0 (Below w.heap.size w w'))
            case atStart => exact ⟨(y101), (0), (by first | rfl | (simp; done) | (simp [*]; done)), H', ⟨Nat.le_refl _⟩, ⟨by (with_reducible repeat (first | apply Kd.R_alloc | apply Kd.R_drewN | apply Kd.R_drew)); exact HO103.out⟩, ⟨by repeat (first | (with_reducible first | exact HB.out | apply below_alloc | apply pw_below_drewN | apply below_drew1) | exact HB.out)⟩⟩
            case round =>
              clear H'
              try clear c1
              try clear p2
              try clear c4
              try clear c4b0
              try clear c5
              try clear c5b0
              try clear c6
              try clear c6b0
              try clear p6
              try clear c8
              try clear c8b0
              try clear c8b1
              try clear c9
              try clear c10
              try clear c11
              try clear c11b0
              try clear c11b1
              try clear c12
              try clear c12b0
              try clear c12b1
              try clear p2
              try clear p6
              obtain ⟨x6_2, x28_2, rfl, HA, HK2, HO_6, HB⟩ := hrel
              cases gk with
              | zero => exact absurd HA.out (by simp [le_Put.l0])
              | succ k2 =>
                have H := HA.out
                clear HA
                simp only [le_Put.l0] at H
                by_cases c15 : x28_2 < a1
                · rw [if_pos c15] at H
                  have c15b0 : decide (x28_2 < a1) = true := decide_eq_true c15
                  clear c15
                  obtain ⟨ji16, hji16⟩ : ∃ j_ : Int, (wrap64 (8 * x28_2)) = j_ := ⟨_, rfl⟩
                  replace H : (if 0 ≤ (ji16) then (if 0 ≤ x28_2 then (if x28_2 < (x6_2.length : Int) then (le_Put.l0 k2 a0 (x6_2.set (x28_2 : Int).toNat ((shr .u64 a0 (ji16)) % 256)) a1 (wrap64 (x28_2 + 1))) else (none)) else (none)) else (none)) = some (r1, r2) := by first | (rw [hji16] at H; exact H) | (simp only [hji16] at H ⊢; exact H)
                  have hji16w : (IntKind.i64.wrap (8 * x28_2)) = ji16 := (i64_w _).trans hji16
                  by_cases c17 : 0 ≤ (ji16)
                  · rw [if_pos c17] at H
                    have c17b0 := eq_true c17
                    have c17b1 : decide (0 ≤ (ji16)) = true := decide_eq_true c17
                    clear c17
                    obtain ⟨ji18, hji18⟩ : ∃ j_ : Int, (shr .u64 a0 (ji16)) = j_ := ⟨_, rfl⟩
                    replace H : (if 0 ≤ x28_2 then (if x28_2 < (x6_2.length : Int) then (le_Put.l0 k2 a0 (x6_2.set (x28_2 : Int).toNat ((ji18) % 256)) a1 (wrap64 (x28_2 + 1))) else (none)) else (none)) = some (r1, r2) := by first | (rw [hji18] at H; exact H) | (simp only [hji18] at H ⊢; exact H)
                    have hji18_ : (a0 / 2 ^ min (ji16).toNat 64) = ji18 := hji18
                    have hji18z : (ji16) ≤ 64 → (a0 / 2 ^ (ji16).toNat) = ji18 := shr_small hji18
                    (try (have ji18l : 0 ≤ ji18 := by rw [← hji18]; unfold shr; exact Int.ediv_nonneg (by omega) (Int.pow_nonneg (by decide))))
                    by_cases c19 : 0 ≤ x28_2
                    · rw [if_pos c19] at H
                      have c19b0 : decide (0 ≤ x28_2) = true := decide_eq_true c19
                      clear c19
                      by_cases c20 : x28_2 < (x6_2.length : Int)
                      · rw [if_pos c20] at H
                        have c20b0 : decide (x28_2 < (x6_2.length : Int)) = true := decide_eq_true c20
                        clear c20
                        obtain ⟨y104, hy104⟩ : ∃ y_ : List Int, y_ = (x6_2.set (x28_2 : Int).toNat ((ji18) % 256)) := ⟨_, rfl⟩
                        replace H : (le_Put.l0 k2 a0 y104 a1 (wrap64 (x28_2 + 1))) = some (r1, r2) := by first | (rw [hy104]; with_reducible exact H) | (have H2_ := (Option.bind_some _ _).symm.trans H; rw [hy104]; with_reducible exact H2_) | (have H2_ := (Option.bind_some _ _).symm.trans H; with_reducible exact H2_) | with_reducible exact H | (rw [hy104]; exact H) | exact H
                        have Ny104 := Aside0.mk hy104
                        clear hy104
                        have H' := Aside0.mk H
                        clear H
                        have p21 : 0 ≤ (x28_2 : Int) := of_decide_eq_true (by first | (with_reducible assumption) | assumption)
                        have q21 : (x28_2 : Int) < ((x6_2.length : Int) : Int) := of_decide_eq_true (by first | (with_reducible assumption) | assumption)
                        obtain ⟨go21, co21, eo21, gb21, gl21, cl21, HG21⟩ := Kd.R_form HO_6.out (by omega)
                        (first | cases eo21 | (injection eo21 with ea_ en_ ec_; (first | subst ea_ | (injection ea_ with ea_; subst ea_)); subst ec_; clear en_))
                        have GB21 := Aside0.mk gb21
                        have GG21 := Aside0.mk HG21
                        clear gb21 gl21 HG21
                        obtain ⟨hx21_0, hf21_0⟩ := Kd.R_celln 0 HO_6.out (x28_2 : Int) p21 q21
                        replace p21 := eq_true p21
                        replace q21 := eq_true q21
                        have HP22 := Kd.R_putg HO_6.out (x28_2 : Int) ((ji18) % 256)
                        go_wp2_with (first | ((with_reducible refine gate_store (t := 5) (p := 38) rfl ?_); refine store_event (t := 5) (p := 38) (v := ?vo_w23) (w1 := (wr.setCell ⟨go21, (x28_2 : Int).toNat, none⟩ (.int .u8 ((ji18) % 256)))) ?hg ?ho ?hn ?hr ?_; (case ho => rfl); (case hg => rfl); (case hn => rfl); (case hr => first | (go_simp; done) | (go_simp; rfl)); intro w23 hw; have hg : wr.grownBy w23 (some go21) := (by rw [hw]; exact HP22.2); have hp_ : Kd.R (Kd.int .u8) 5 w23 w.heap.size (fun _ => True) (.slice (some ⟨go21, 0, none⟩) x6_2.length co21) y104 := (by rw [hw, Ny104.out]; exact HP22.1); clear HP22; have n0_ := Aside0.mk (hp_); have n1_ := Aside0.mk ((by rw [hw]; exact below_set (HB.out) GB21.out : Below w.heap.size w w23)); clear HO_6; clear HB; have HO_6 := n0_; have HB := n1_; clear n0_ n1_; clear hg hw hp_))
                        go_roundg k2
                        case measure => have := HJ2.out; have := HK2.out; omega
                        case rel => exact ⟨(y104), (wrap64 (x28_2 + 1)), (by first | rfl | (simp; done) | (simp [*]; done)), H', ⟨by have := HJ2.out; have := HK2.out; omega⟩, ⟨by (with_reducible repeat (first | apply Kd.R_alloc | apply Kd.R_drewN | apply Kd.R_drew)); exact HO_6.out⟩, ⟨by repeat (first | (with_reducible first | exact HB.out | apply below_alloc | apply pw_below_drewN | apply below_drew1) | exact HB.out)⟩⟩
                      · rw [if_neg c20] at H
                        exact absurd H (by simp)
                    · rw [if_neg c19] at H
                      exact absurd H (by simp)
                  · rw [if_neg c17] at H
                    exact absurd H (by simp)
                · rw [if_neg c15] at H
                  have c15b0 : decide (x28_2 < a1) = false := decide_eq_false c15
                  clear c15
                  simp only [Option.some.injEq, Prod.mk.injEq] at H
                  obtain ⟨rfl, rfl⟩ := H
                  have hcv24 := own_string (P := Try.prog) Try.underlying118 Try.underlying5 Try.underlying9 (Kd.own_of_R HO_6.out)
                  go_wp2
                  go_ret2
                  exact ⟨by first | rfl | (simp [errW_none, errW_some] <;> rfl) | (simp [*, errW_none, errW_some] <;> rfl), by repeat (first | (with_reducible first | exact HB.out | apply below_alloc | apply pw_below_drewN | apply below_drew1) | exact HB.out)⟩
          · rw [if_neg c12] at H
            exact absurd H (by simp)
        · rw [if_neg c11] at H
          exact absurd H (by simp)
mutual
def le_Get.j0 : Nat → ByteArray → Int → Int → Bool → Option (Int × Int × Int)
  | 0, _, _, _, _ => none
  | k + 1, x0, x1, x2, x11 => if x11 = true then (some (0, 0, 1)) else (if x1 > (x0.size : Int) then (some (0, 0, 3)) else (if (wrap64 ((x0.size : Int) - x1)) < x2 then (some (0, 0, 3)) else (le_Get.l0 k x0 x1 x2 0 x2 0)))
def le_Get.l0 : Nat → ByteArray → Int → Int → Int → Int → Int → Option (Int × Int × Int)
  | 0, _, _, _, _, _, _ => none
  | k + 1, x0, x1, x2, x9, x35, x36 => if x36 < x35 then (if 0 ≤ (wrap64 (x1 + x36)) then (if (wrap64 (x1 + x36)) < (x0.size : Int) then (if 0 ≤ (wrap64 (8 * x36)) then (le_Get.l0 k x0 x1 x2 (Go.bits .or .u64 x9 (shl .u64 (IntKind.u64.wrap (bt x0 (wrap64 (x1 + x36)))) (wrap64 (8 * x36)))) x35 (wrap64 (x36 + 1))) else (none)) else (none)) else (none)) else (some (x9, wrap64 (x1 + x2), 0))
end
def le_Get.f (k : Nat) (a0 : ByteArray) (a1 : Int) (a2 : Int) : Option (Int × Int × Int) := if a2 < 1 then (le_Get.j0 k a0 a1 a2 true) else (if a2 > 8 then (le_Get.j0 k a0 a1 a2 true) else (le_Get.j0 k a0 a1 a2 (decide (a1 < 0))))
set_option maxHeartbeats 8000000 in
set_option maxRecDepth 100000 in
theorem le_Get.calls (k : Nat) (a0 : ByteArray) (a1 : Int) (a2 : Int) (r1 : Int) (r2 : Int) (r3 : Int) (w : World) (h : le_Get.f k a0 a1 a2 = some (r1, r2, r3)) :
    Calls Try.prog 95 #[.string a0, .int .i64 a1, .int .i64 a2] w fun e w' => e = .returned (.tuple #[.int .u64 r1, .int .i64 r2, .int .i64 r3]) ∧ Drawn0 w w' := by
  have H : (if a2 < 1 then (le_Get.j0 k a0 a1 a2 true) else (if a2 > 8 then (le_Get.j0 k a0 a1 a2 true) else (le_Get.j0 k a0 a1 a2 (decide (a1 < 0))))) = some (r1, r2, r3) := h
  clear h
  have HC4 := Aside0.mk H
  clear H
  go_enter Try.func95, Try.ntmps95
  go_upto_region 1 with (fail)
  go_cut [11] (fun v11 wc => ∃ (kq : Nat) (x11_3 : Bool), v11 = .bool x11_3 ∧ Aside0 (le_Get.j0 kq a0 a1 a2 x11_3 = some (r1, r2, r3)) ∧ Aside0 (kq ≤ k) ∧ Drawn0 w wc)
  case first =>
    have H := HC4.out
    clear HC4
    by_cases c5 : a2 < 1
    · rw [if_pos c5] at H
      have c5b0 : decide (a2 < 1) = true := decide_eq_true c5
      clear c5
      (first | rw [c5b0] | (simp only [i64_w, i32_w]; rw [c5b0]) | skip)
      have H' := Aside0.mk H
      clear H
      go_wp2
      go_meet
      case rel => exact ⟨_, (true), (by first | rfl | (simp; done) | (simp [*]; done)), H', ⟨by first | omega | exact Nat.le_refl _⟩, by repeat (first | exact Drawn0.refl _ | apply Drawn0.step)⟩
    · rw [if_neg c5] at H
      have c5b0 : decide (a2 < 1) = false := decide_eq_false c5
      clear c5
      (first | rw [c5b0] | (simp only [i64_w, i32_w]; rw [c5b0]) | skip)
      by_cases c6 : a2 > 8
      · rw [if_pos c6] at H
        have c6b0 : decide (8 < a2) = true := decide_eq_true c6
        clear c6
        have H' := Aside0.mk H
        clear H
        go_wp2
        go_meet
        case rel => exact ⟨_, (true), (by first | rfl | (simp; done) | (simp [*]; done)), H', ⟨by first | omega | exact Nat.le_refl _⟩, by repeat (first | exact Drawn0.refl _ | apply Drawn0.step)⟩
      · rw [if_neg c6] at H
        have c6b0 : decide (8 < a2) = false := decide_eq_false c6
        clear c6
        have H' := Aside0.mk H
        clear H
        go_wp2
        go_meet
        case rel => exact ⟨_, (decide (a1 < 0)), (by first | rfl | (simp; done) | (simp [*]; done)), H', ⟨by first | omega | exact Nat.le_refl _⟩, by repeat (first | exact Drawn0.refl _ | apply Drawn0.step)⟩
  case rest =>
    clear HC4
    try clear p2
    try clear c5
    try clear c5b0
    try clear c6
    try clear c6b0
    obtain ⟨kq, x11_3, rfl, HA, HJ3, ⟨mc3, rfl⟩⟩ := hcut
    cases kq with
    | zero => exact absurd HA.out (by simp [le_Get.j0])
    | succ kj3 =>
      have H := HA.out
      clear HA
      simp only [le_Get.j0] at H
      by_cases c7 : x11_3 = true
      · subst c7
        have H1 : (some (0, 0, 1)) = some (r1, r2, r3) := by rw [if_pos rfl] at H; exact H
        clear H
        have H := H1
        clear H1
        simp only [Option.some.injEq, Prod.mk.injEq] at H
        obtain ⟨rfl, rfl, rfl⟩ := H
        go_wp2
        go_ret3
        exact ⟨by first | rfl | (simp; done) | (simp [*]; done), by repeat (first | exact Drawn0.refl _ | apply Drawn0.step)⟩
      · replace c7 := Bool.eq_false_iff.mpr c7
        subst c7
        have H1 : (if a1 > (a0.size : Int) then (some (0, 0, 3)) else (if (wrap64 ((a0.size : Int) - a1)) < a2 then (some (0, 0, 3)) else (le_Get.l0 kj3 a0 a1 a2 0 a2 0))) = some (r1, r2, r3) := by rw [if_neg (show ¬ (false = true) by decide)] at H; exact H
        clear H
        have H := H1
        clear H1
        by_cases c8 : a1 > (a0.size : Int)
        · rw [if_pos c8] at H
          have c8b0 : decide ((a0.size : Int) < a1) = true := decide_eq_true c8
          clear c8
          simp only [Option.some.injEq, Prod.mk.injEq] at H
          obtain ⟨rfl, rfl, rfl⟩ := H
          go_wp2
          go_ret3
          exact ⟨by first | rfl | (simp; done) | (simp [*]; done), by repeat (first | exact Drawn0.refl _ | apply Drawn0.step)⟩
        · rw [if_neg c8] at H
          have c8b0 : decide ((a0.size : Int) < a1) = false := decide_eq_false c8
          clear c8
          by_cases c9 : (wrap64 ((a0.size : Int) - a1)) < a2
          · rw [if_pos c9] at H
            have c9b0 : decide ((wrap64 ((a0.size : Int) - a1)) < a2) = true := decide_eq_true c9
            clear c9
            simp only [Option.some.injEq, Prod.mk.injEq] at H
            obtain ⟨rfl, rfl, rfl⟩ := H
            go_wp2
            go_ret3
            exact ⟨by first | rfl | (simp; done) | (simp [*]; done), by repeat (first | exact Drawn0.refl _ | apply Drawn0.step)⟩
          · rw [if_neg c9] at H
            have c9b0 : decide ((wrap64 ((a0.size : Int) - a1)) < a2) = false := decide_eq_false c9
            clear c9
            have H' := Aside0.mk H
            clear H
            go_wp2
            go_loopg [9, 36] kj3 (fun kq v9 v36 w' => ∃ (x9_2 : Int) (x36_2 : Int), v9 = .int .u64 x9_2 ∧ v36 = .int .i64 x36_2 ∧ Aside0 (le_Get.l0 kq a0 a1 a2 x9_2 a2 x36_2 = some (r1, r2, r3)) ∧ Aside0 (kq ≤ kj3) ∧ Drawn0 w w')
            case atStart => exact ⟨(0), (0), (by first | rfl | (simp; done) | (simp [*]; done)), (by first | rfl | (simp; done) | (simp [*]; done)), H', ⟨Nat.le_refl _⟩, by repeat (first | exact Drawn0.refl _ | apply Drawn0.step)⟩
            case round =>
              clear H'
              try clear p2
              try clear c3
              try clear c5
              try clear c5b0
              try clear c6
              try clear c6b0
              try clear p6
              try clear c7
              try clear c8
              try clear c8b0
              try clear c9
              try clear c9b0
              try clear p2
              obtain ⟨x9_2, x36_2, rfl, rfl, HA, HK2, ⟨m2, rfl⟩⟩ := hrel
              cases gk with
              | zero => exact absurd HA.out (by simp [le_Get.l0])
              | succ k2 =>
                have H := HA.out
                clear HA
                simp only [le_Get.l0] at H
                by_cases c10 : x36_2 < a2
                · rw [if_pos c10] at H
                  have c10b0 : decide (x36_2 < a2) = true := decide_eq_true c10
                  clear c10
                  obtain ⟨ji11, hji11⟩ : ∃ j_ : Int, (wrap64 (a1 + x36_2)) = j_ := ⟨_, rfl⟩
                  replace H : (if 0 ≤ (ji11) then (if (ji11) < (a0.size : Int) then (if 0 ≤ (wrap64 (8 * x36_2)) then (le_Get.l0 k2 a0 a1 a2 (Go.bits .or .u64 x9_2 (shl .u64 (IntKind.u64.wrap (bt a0 (ji11))) (wrap64 (8 * x36_2)))) a2 (wrap64 (x36_2 + 1))) else (none)) else (none)) else (none)) = some (r1, r2, r3) := by first | (rw [hji11] at H; exact H) | (simp only [hji11] at H ⊢; exact H)
                  have hji11w : (IntKind.i64.wrap (a1 + x36_2)) = ji11 := (i64_w _).trans hji11
                  by_cases c12 : 0 ≤ (ji11)
                  · rw [if_pos c12] at H
                    have c12b0 : decide (0 ≤ (ji11)) = true := decide_eq_true c12
                    clear c12
                    by_cases c13 : (ji11) < (a0.size : Int)
                    · rw [if_pos c13] at H
                      have c13b0 : decide ((ji11) < (a0.size : Int)) = true := decide_eq_true c13
                      clear c13
                      obtain ⟨ji15, hji15⟩ : ∃ j_ : Int, (wrap64 (8 * x36_2)) = j_ := ⟨_, rfl⟩
                      replace H : (if 0 ≤ (ji15) then (le_Get.l0 k2 a0 a1 a2 (Go.bits .or .u64 x9_2 (shl .u64 (IntKind.u64.wrap (bt a0 (ji11))) (ji15))) a2 (wrap64 (x36_2 + 1))) else (none)) = some (r1, r2, r3) := by first | (rw [hji15] at H; exact H) | (simp only [hji15] at H ⊢; exact H)
                      have hji15w : (IntKind.i64.wrap (8 * x36_2)) = ji15 := (i64_w _).trans hji15
                      by_cases c16 : 0 ≤ (ji15)
                      · rw [if_pos c16] at H
                        have c16b0 := eq_true c16
                        have c16b1 : decide (0 ≤ (ji15)) = true := decide_eq_true c16
                        clear c16
                        obtain ⟨ji17, hji17⟩ : ∃ j_ : Int, (shl .u64 (IntKind.u64.wrap (bt a0 (ji11))) (ji15)) = j_ := ⟨_, rfl⟩
                        replace H : (le_Get.l0 k2 a0 a1 a2 (Go.bits .or .u64 x9_2 (ji17)) a2 (wrap64 (x36_2 + 1))) = some (r1, r2, r3) := by first | (rw [hji17] at H; exact H) | (simp only [hji17] at H ⊢; exact H)
                        have hji17_ : (IntKind.u64.wrap ((IntKind.u64.wrap (bt a0 (ji11))) * 2 ^ min (ji15).toNat 64)) = ji17 := hji17
                        have hji17z : (ji15) ≤ 64 → (IntKind.u64.wrap ((IntKind.u64.wrap (bt a0 (ji11))) * 2 ^ (ji15).toNat)) = ji17 := shl_small hji17
                        have H' := Aside0.mk H
                        clear H
                        have p14 : 0 ≤ ((ji11) : Int) := of_decide_eq_true (by first | (with_reducible assumption) | assumption)
                        have q14 : (ji11) < (a0.size : Int) := of_decide_eq_true (by first | (with_reducible assumption) | assumption)
                        have hx14 := bt_at a0 (ji11)
                        replace p14 := eq_true p14
                        replace q14 := eq_true q14
                        go_wp2
                        go_roundg k2
                        case measure => have := HJ3.out; have := HK2.out; omega
                        case rel => exact ⟨(Go.bits .or .u64 x9_2 (ji17)), (wrap64 (x36_2 + 1)), (by first | rfl | (simp; done) | (simp only [← hji17] <;> (first | rfl | simp)) | (simp [*]; done)), (by first | rfl | (simp; done) | (simp [*]; done)), H', ⟨by have := HJ3.out; have := HK2.out; omega⟩, by repeat (first | exact Drawn0.refl _ | apply Drawn0.step)⟩
                      · rw [if_neg c16] at H
                        exact absurd H (by simp)
                    · rw [if_neg c13] at H
                      exact absurd H (by simp)
                  · rw [if_neg c12] at H
                    exact absurd H (by simp)
                · rw [if_neg c10] at H
                  have c10b0 : decide (x36_2 < a2) = false := decide_eq_false c10
                  clear c10
                  simp only [Option.some.injEq, Prod.mk.injEq] at H
                  obtain ⟨rfl, rfl, rfl⟩ := H
                  go_wp2
                  go_ret3
                  exact ⟨by first | rfl | (simp; done) | (simp [*]; done), by repeat (first | exact Drawn0.refl _ | apply Drawn0.step)⟩
end Go.Proofs.Ytoeklekjhaigoaa.Le
end
section
namespace Go.Proofs.Ytoeklekjhaigoaa.QLe
open Go.RowKit Go.Proofs.YtoeklekjhaigoaaW.PrintWords Go.Proofs.YtoeklekjhaigoaaW.PrintLast Go.Proofs.YtoeklekjhaigoaaW.PrintMore Go.Proofs.Ytoeklekjhaigoaa.Le
set_option linter.unusedVariables false
set_option linter.unusedSimpArgs false
def leval (s : ByteArray) (p : Int) : Nat → Int
  | 0 => 0
  | j + 1 => leval s p j + bt s (p + j) * 256 ^ j
theorem pow256 (j : Nat) : (0 : Int) < 256 ^ j := Int.pow_pos (by decide)
theorem p7 (i : Nat) (h : i < 8) : (256 : Int) ^ i ≤ 72057594037927936 := by
  match i, h with
  | 0, _ | 1, _ | 2, _ | 3, _ | 4, _ | 5, _ | 6, _ | 7, _ => decide
theorem leval_range (s : ByteArray) (p : Int) (j : Nat) : 0 ≤ leval s p j ∧ leval s p j < 256 ^ j := by
  induction j with
  | zero => simp [leval]
  | succ j ih =>
    have hb := bt_range s (p + j)
    have hp := pow256 j
    have h1 : bt s (p + j) * 256 ^ j ≤ 255 * 256 ^ j := Int.mul_le_mul_of_nonneg_right hb.2 (Int.le_of_lt hp)
    have h2 : 0 ≤ bt s (p + j) * 256 ^ j := Int.mul_nonneg hb.1 (Int.le_of_lt hp)
    have h3 : (256 : Int) ^ (j + 1) = 256 ^ j * 256 := Int.pow_succ ..
    simp only [leval]
    omega
theorem w64 (x : Int) (h : -9223372036854775808 ≤ x) (h2 : x ≤ 9223372036854775807) : wrap64 x = x := by unfold wrap64; omega
theorem u64_small (x : Int) (h0 : 0 ≤ x) (h1 : x < 18446744073709551616) : IntKind.u64.wrap x = x := by
  have e : IntKind.u64.wrap x = x % 18446744073709551616 := rfl
  rw [e]; exact Int.emod_eq_of_lt h0 h1
theorem or_low (i : Nat) (x y : Int) (hx0 : 0 ≤ x) (hx : x < 2 ^ i) (hy0 : 0 ≤ y) (hy : y % 2 ^ i = 0) (hx1 : x < 2 ^ 64) (hy1 : y < 2 ^ 64) : Go.bits .or .u64 x y = x + y := by
  have hw : ∀ n : Int, 0 ≤ n → n < 2 ^ 64 → IntKind.u64.wrap n = n := by
    intro n a b
    exact u64_small n a (by have e64 : (2 : Int) ^ 64 = 18446744073709551616 := by decide
                            omega)
  have h := Go.bits_join .u64 64 (by decide) hw i y x hy0 hy hy1 hx0 hx hx1
  have hc : Go.bits .or .u64 x y = Go.bits .or .u64 y x := by
    simp only [Go.bits]
    rw [BitVec.or_comm]
  rw [hc, h]; omega
theorem pow_shift (i : Nat) : (2 : Int) ^ (8 * i) = 256 ^ i := by rw [Int.pow_mul]; rfl
theorem shl_byte (c : Int) (i : Nat) (h0 : 0 ≤ c) (h1 : c ≤ 255) (hi : i < 8) : shl .u64 (IntKind.u64.wrap c) (wrap64 (8 * (i : Int))) = c * 256 ^ i := by
  have e : (wrap64 (8 * (i : Int))).toNat = 8 * i := by rw [w64 _ (by omega) (by omega)]; omega
  have hm : min (8 * i) 64 = 8 * i := by omega
  have hp := pow256 i
  have h8 := p7 i hi
  have h2 : c * 256 ^ i ≤ 255 * 256 ^ i := Int.mul_le_mul_of_nonneg_right h1 (Int.le_of_lt hp)
  have h3 : 0 ≤ c * 256 ^ i := Int.mul_nonneg h0 (Int.le_of_lt hp)
  unfold shl
  rw [u64_small c h0 (by omega), e, show IntKind.u64.bits = 64 from rfl, hm, pow_shift, u64_small _ h3 (by omega)]
theorem get_loop (s : ByteArray) (p : Int) (sz : Nat) (hp : 0 ≤ p) (hs : p + sz ≤ s.size) (hz : s.size ≤ 4611686018427387904) (h8 : sz ≤ 8) :
    ∀ d i : Nat, i + d = sz → ∀ k, d < k → le_Get.l0 k s p sz (leval s p i) sz i = some (leval s p sz, p + sz, 0) := by
  intro d
  induction d with
  | zero =>
    intro i hi k hk
    obtain ⟨k, rfl⟩ : ∃ m, k = m + 1 := ⟨k - 1, by omega⟩
    obtain rfl : i = sz := by omega
    simp only [le_Get.l0]
    rw [if_neg (by omega), w64 _ (by omega) (by omega)]
  | succ d ih =>
    intro i hi k hk
    obtain ⟨k, rfl⟩ : ∃ m, k = m + 1 := ⟨k - 1, by omega⟩
    have hb := bt_range s (p + i)
    have hl := leval_range s p i
    simp only [le_Get.l0]
    rw [if_pos (by omega), w64 (p + i) (by omega) (by omega), if_pos (by omega), if_pos (by omega), if_pos (by rw [w64 _ (by omega) (by omega)]; omega), shl_byte _ i hb.1 hb.2 (by omega), w64 ((i : Int) + 1) (by omega) (by omega)]
    have hpp := pow256 i
    have h7 := p7 i (by omega)
    have e64 : (2 : Int) ^ 64 = 18446744073709551616 := by decide
    have h1 : bt s (p + i) * 256 ^ i ≤ 255 * 256 ^ i := Int.mul_le_mul_of_nonneg_right hb.2 (Int.le_of_lt hpp)
    have h2 : 0 ≤ bt s (p + i) * 256 ^ i := Int.mul_nonneg hb.1 (Int.le_of_lt hpp)
    rw [or_low (8 * i) _ _ hl.1 (by rw [pow_shift]; exact hl.2) h2 (by rw [pow_shift]; exact Int.mul_emod_left ..) (by omega) (by omega)]
    have := ih (i + 1) (by omega) k (by omega)
    simpa [leval] using this
theorem get_ok (s : ByteArray) (p : Int) (sz : Nat) (h1 : 1 ≤ sz) (h8 : sz ≤ 8) (hp : 0 ≤ p) (hs : p + sz ≤ s.size) (hz : s.size ≤ 4611686018427387904) :
    ∀ k, 10 ≤ k → le_Get.f k s p sz = some (leval s p sz, p + sz, 0) := by
  intro k hk
  obtain ⟨k, rfl⟩ : ∃ m, k = m + 1 := ⟨k - 1, by omega⟩
  unfold le_Get.f
  rw [if_neg (by omega), if_neg (by omega), decide_eq_false (by omega)]
  simp only [le_Get.j0]
  rw [if_neg (by decide), if_neg (by omega), if_neg (by rw [w64 _ (by omega) (by omega)]; omega)]
  exact get_loop s p sz hp hs hz h8 sz 0 (by omega) k (by omega)
def leB (n : Int) (sz : Nat) : List Int := (List.range sz).map fun i => n / 256 ^ i % 256
theorem leB_length (n : Int) (sz : Nat) : (leB n sz).length = sz := by simp [leB]
def part (n : Int) (sz i : Nat) : List Int := (List.range sz).map fun j => if j < i then n / 256 ^ j % 256 else 0
theorem part_length (n : Int) (sz i : Nat) : (part n sz i).length = sz := by simp [part]
theorem part_set (n : Int) (sz i : Nat) (h : i < sz) : (part n sz i).set i (n / 256 ^ i % 256) = part n sz (i + 1) := by
  apply List.ext_getElem (by simp [part])
  intro j h1 h2
  simp only [part, List.getElem_set, List.getElem_map, List.getElem_range]
  by_cases hj : i = j
  · subst hj; simp
  · by_cases hl : j < i
    · simp [hj, hl, show j < i + 1 by omega]
    · simp [hj, hl, show ¬ j < i + 1 by omega]
theorem shr_byte (n : Int) (i : Nat) (hi : i < 8) : shr .u64 n (wrap64 (8 * (i : Int))) % 256 = n / 256 ^ i % 256 := by
  have e : (wrap64 (8 * (i : Int))).toNat = 8 * i := by rw [w64 _ (by omega) (by omega)]; omega
  unfold shr
  rw [e, show IntKind.u64.bits = 64 from rfl, show min (8 * i) 64 = 8 * i by omega, pow_shift]
theorem put_loop (n : Int) (sz : Nat) (h8 : sz ≤ 8) : ∀ d i : Nat, i + d = sz → ∀ k, d < k → le_Put.l0 k n (part n sz i) sz i = some (strOfNums (leB n sz), 0) := by
  intro d
  induction d with
  | zero =>
    intro i hi k hk
    obtain ⟨k, rfl⟩ : ∃ m, k = m + 1 := ⟨k - 1, by omega⟩
    obtain rfl : i = sz := by omega
    simp only [le_Put.l0]
    rw [if_neg (by omega)]
    have : part n i i = leB n i := by
      apply List.ext_getElem (by simp [part, leB])
      intro j h1 h2
      have : j < i := by simpa [part] using h1
      simp [part, leB, this]
    rw [this]
  | succ d ih =>
    intro i hi k hk
    obtain ⟨k, rfl⟩ : ∃ m, k = m + 1 := ⟨k - 1, by omega⟩
    simp only [le_Put.l0]
    rw [if_pos (by omega), if_pos (by rw [w64 _ (by omega) (by omega)]; omega), if_pos (by omega), if_pos (by rw [part_length]; omega), shr_byte n i (by omega), Int.toNat_natCast, part_set n sz i (by omega), w64 ((i : Int) + 1) (by omega) (by omega)]
    exact ih (i + 1) (by omega) k (by omega)
theorem part_zero (n : Int) (sz : Nat) : List.replicate sz (0 : Int) = part n sz 0 := by
  apply List.ext_getElem (by simp [part])
  intro j h1 h2
  simp [part]
theorem put_j0 (n : Int) (sz : Nat) (h8 : sz ≤ 8) : ∀ k, 10 ≤ k → le_Put.j0 k n sz false = some (strOfNums (leB n sz), 0) := by
  intro k hk
  obtain ⟨k, rfl⟩ : ∃ m, k = m + 1 := ⟨k - 1, by omega⟩
  simp only [le_Put.j0]
  rw [if_neg (by decide), if_pos (by omega), if_pos (by omega), Int.toNat_natCast, part_zero n sz]
  exact put_loop n sz h8 sz 0 (by omega) k (by omega)
theorem shr_test (n : Int) (sz : Nat) (h : sz < 8) (h0 : 0 ≤ n) : (shr .u64 n (wrap64 (8 * (sz : Int))) != 0) = !decide (n < 256 ^ sz) := by
  have e : (wrap64 (8 * (sz : Int))).toNat = 8 * sz := by rw [w64 _ (by omega) (by omega)]; omega
  unfold shr
  rw [e, show IntKind.u64.bits = 64 from rfl, show min (8 * sz) 64 = 8 * sz by omega, pow_shift]
  have hp := pow256 sz
  by_cases hlt : n < 256 ^ sz
  · rw [Int.ediv_eq_zero_of_lt h0 hlt]; simp [hlt]
  · have : 1 ≤ n / 256 ^ sz := by rw [Int.le_ediv_iff_mul_le hp]; omega
    have h2 : n / 256 ^ sz ≠ 0 := by omega
    simp [hlt, h2]
theorem put_ok (n : Int) (sz : Nat) (h1 : 1 ≤ sz) (h8 : sz ≤ 8) (h0 : 0 ≤ n) (hn : sz = 8 ∨ n < 256 ^ sz) : ∀ k, 10 ≤ k → le_Put.f k n sz = some (strOfNums (leB n sz), 0) := by
  intro k hk
  unfold le_Put.f
  rw [if_neg (by omega), if_neg (by omega)]
  by_cases hz : sz < 8
  · have hlt : n < 256 ^ sz := by omega
    rw [if_pos (by omega), if_pos (by rw [w64 _ (by omega) (by omega)]; omega), shr_test n sz hz h0, decide_eq_true hlt]
    exact put_j0 n sz h8 k hk
  · rw [if_neg (by omega)]
    exact put_j0 n sz h8 k hk
theorem bt_data (s : ByteArray) (i : Nat) (h : i < s.size) : bt s i = ((s.data.toList[i]'(by rw [Array.length_toList]; exact h)).toNat : Int) := by
  have := bt_at s (i : Int) (by simpa using h)
  rw [← this]; simp [ByteArray.getElem_eq_getElem_data]
theorem sON_data (xs : List Int) : (strOfNums xs).data.toList = xs.map fun n => UInt8.ofNat n.toNat := rfl
theorem sON_size (xs : List Int) : (strOfNums xs).size = xs.length := by
  show (strOfNums xs).data.size = _
  rw [← Array.length_toList, sON_data, List.length_map]
theorem app_data (a b : ByteArray) : (a ++ b).data.toList = a.data.toList ++ b.data.toList := by simp
theorem len_data (a : ByteArray) : a.data.toList.length = a.size := by rw [Array.length_toList]; rfl
end Go.Proofs.Ytoeklekjhaigoaa.QLe
end
section
namespace Go.Proofs.Ytoeklekjhaigoaa.QNum
open Go.RowKit Go.Proofs.YtoeklekjhaigoaaW.PrintWords Go.Proofs.YtoeklekjhaigoaaW.PrintLast Go.Proofs.YtoeklekjhaigoaaW.PrintMore Go.Proofs.Ytoeklekjhaigoaa.QLe
set_option linter.unusedVariables false
set_option linter.unusedSimpArgs false
/-- a row of small numbers, as bytes. -/
def by8 (xs : List Int) : List UInt8 := xs.map fun n => UInt8.ofNat n.toNat
theorem by8_length (a : List Int) : (by8 a).length = a.length := by simp [by8]
theorem sON_by8 (xs : List Int) : (strOfNums xs).data.toList = by8 xs := rfl
/-- the number of a row of bytes. -/
def num : List UInt8 → Int
  | [] => 0
  | c :: l => 256 * num l + (c.toNat : Int)
theorem leB_succ (n : Int) (sz : Nat) : leB n (sz + 1) = n % 256 :: leB (n / 256) sz := by
  unfold leB
  rw [List.range_succ_eq_map, List.map_cons, List.map_map]
  congr 1
  · simp
  · apply List.map_congr_left
    intro i _
    show n / 256 ^ (i + 1) % 256 = n / 256 / 256 ^ i % 256
    rw [Int.pow_succ, Int.mul_comm, Int.ediv_ediv_of_nonneg (by decide)]
theorem num_leB (sz : Nat) : ∀ n : Int, 0 ≤ n → n < 256 ^ sz → num (by8 (leB n sz)) = n := by
  induction sz with
  | zero => intro n h0 h1; simp [leB, by8, num]; simp at h1; omega
  | succ sz ih =>
    intro n h0 h1
    have e : (256 : Int) ^ (sz + 1) = 256 ^ sz * 256 := Int.pow_succ ..
    rw [e] at h1
    rw [leB_succ]
    have hd : n / 256 < 256 ^ sz := by omega
    have h2 := ih (n / 256) (by omega) hd
    show 256 * num (by8 (leB (n / 256) sz)) + ((UInt8.ofNat (n % 256).toNat).toNat : Int) = n
    rw [h2, UInt8.toNat_ofNat']
    omega
theorem by8_leB_length (n : Int) (sz : Nat) : (by8 (leB n sz)).length = sz := by rw [by8_length, leB_length]
theorem num_append (l m : List UInt8) : num (l ++ m) = num l + num m * 256 ^ l.length := by
  induction l with
  | nil => simp [num]
  | cons c l ih =>
    have e : (256 : Int) ^ (c :: l).length = 256 ^ l.length * 256 := Int.pow_succ ..
    rw [List.cons_append, num, ih, num, e, Int.mul_add]
    have : 256 * (num m * 256 ^ l.length) = num m * (256 ^ l.length * 256) := by rw [Int.mul_comm 256, Int.mul_assoc]
    omega
theorem leval_num (s : ByteArray) (p : Nat) : ∀ j : Nat, p + j ≤ s.size → leval s p j = num ((s.data.toList.drop p).take j) := by
  intro j
  induction j with
  | zero => intro _; simp [leval, num]
  | succ j ih =>
    intro h
    have hl : j < (s.data.toList.drop p).length := by rw [List.length_drop, len_data]; omega
    rw [leval, ih (by omega), List.take_succ_eq_append_getElem hl, num_append]
    have e1 : ((p : Int) + (j : Int)) = ((p + j : Nat) : Int) := by omega
    have e2 : (List.take j (List.drop p s.data.toList)).length = j := by rw [List.length_take]; omega
    rw [e1, bt_data s (p + j) (by omega), e2, List.getElem_drop]
    simp [num]
theorem wf_u32 {x : Int} (h : (Lit.int .u32 x).wf = true) : 0 ≤ x ∧ x < 4294967296 := by
  simp [Lit.wf, IntKind.min, IntKind.max, IntKind.bits, IntKind.signed] at h; omega
theorem wf_u64 {x : Int} (h : (Lit.int .u64 x).wf = true) : 0 ≤ x ∧ x < 18446744073709551616 := by
  simp [Lit.wf, IntKind.min, IntKind.max, IntKind.bits, IntKind.signed] at h; omega
end Go.Proofs.Ytoeklekjhaigoaa.QNum
end
section
namespace Go.Proofs.Ytoeklekjhaigoaa.HPack
open Go.RowKit Go.Proofs.YtoeklekjhaigoaaW.PrintWords Go.Proofs.YtoeklekjhaigoaaW.PrintLast Go.Proofs.YtoeklekjhaigoaaW.PrintMore Go.Proofs.Ytoeklekjhaigoaa.Le Go.Proofs.Ytoeklekjhaigoaa.QLe Go.Proofs.Ytoeklekjhaigoaa.QNum
set_option linter.unusedVariables false
set_option linter.unusedSimpArgs false
set_option maxRecDepth 100000
theorem put_any (n : Int) (sz : Nat) (w : World) (h1 : 1 ≤ sz) (h8 : sz ≤ 8) (h0 : 0 ≤ n) (hn : sz = 8 ∨ n < 256 ^ sz) :
    Calls Try.prog 94 #[.int .u64 n, .int .i64 (sz : Int)] w fun e w' => e = .returned (.tuple #[.string (strOfNums (leB n sz)), .int .i64 0]) ∧ Below w.heap.size w w' :=
  le_Put.calls 10 n sz _ _ w (put_ok n sz h1 h8 h0 hn 10 (Nat.le_refl _))
/-- add: a number more. -/
def AddPost (ob : Nat) (s : ByteArray) (w : World) (e : Ending) (w' : World) : Prop := e = .returned (.tuple #[]) ∧ w'.heap[ob]? = some (.cells #[.string s] 9 (0, 0)) ∧ Below ob w w'
set_option maxHeartbeats 1000000 in
theorem add_c {w : World} {ob : Nat} {s0 : ByteArray} (hb : w.heap[ob]? = some (.cells #[.string s0] 9 (0, 0))) (n : Int) (sz : Nat) (h1 : 1 ≤ sz) (h8 : sz ≤ 8) (h0 : 0 ≤ n) (hn : sz = 8 ∨ n < 256 ^ sz) (hs : s0.size ≤ 1000) :
    Calls Try.prog 93 #[.int .u64 n, .int .i64 (sz : Int), .pointer (some ⟨ob, 0, none⟩)] w (AddPost ob (s0 ++ strOfNums (leB n sz)) w) := by
  have hput := put_any n sz w h1 h8 h0 hn
  have hlt := blk_lt hb
  have hsz : (strOfNums (leB n sz)).size ≤ 8 := by rw [sON_size, leB_length]; exact h8
  generalize strOfNums (leB n sz) = st at *
  have HB := Aside0.mk hb
  clear hb h0 hn
  go_enter Try.func93, Try.ntmps93
  go_wp2_with (go_at_call 94; refine hput.mono ?_; rintro e w1 ⟨rfl, hb1⟩; have hw1 := blk_below HB.out hb1; have k0 := blk_cell hw1 0; have f0 := blk_frozen hw1 0; have HW1 := Aside0.mk hw1; clear hw1)
  go_end0
  exact ⟨rfl, blk_put HW1.out 0 _ rfl, (below_then (Below.refl ob w) (Nat.le_of_lt hlt) hb1).setCell (p := ⟨ob, 0, none⟩) (Nat.le_refl _) _⟩
/-- The arguments of a call. -/
def ar (a0 a1 a2 a3 a4 a5 : Int) : Nat → Int
  | 0 => a0
  | 1 => a1
  | 2 => a2
  | 3 => a3
  | 4 => a4
  | _ => a5
def packTo (nr arch ip a0 a1 a2 a3 a4 a5 : Int) : Nat → ByteArray
  | 0 => ⟨#[]⟩ ++ strOfNums (leB nr 4) ++ strOfNums (leB arch 4) ++ strOfNums (leB ip 8)
  | j + 1 => packTo nr arch ip a0 a1 a2 a3 a4 a5 j ++ strOfNums (leB (ar a0 a1 a2 a3 a4 a5 j) 8)
theorem packTo_size (nr arch ip a0 a1 a2 a3 a4 a5 : Int) : ∀ j, (packTo nr arch ip a0 a1 a2 a3 a4 a5 j).size = 16 + 8 * j := by
  intro j
  induction j with
  | zero =>
    have e0 : (⟨#[]⟩ : ByteArray).size = 0 := rfl
    simp only [packTo, ByteArray.size_append, sON_size, leB_length, e0]
  | succ j ih => simp only [packTo, ByteArray.size_append, sON_size, leB_length, ih]; omega
theorem size30 : (Try.prog.info? 30).map (·.size) = some 1 := by kernel_rfl
theorem run_index1 {P : Program} (t e : TypeId) (n : Nat) (k : IntKind) (ht : P.underlying t = some (.array n e)) (hu : P.underlying e = some (.int k)) (i : Nat) (inf : TypeInfo) (hi : P.info? e = some inf) (hs : inf.size = 1) (cs : Array Value) (hn : i < n) (x : Value) (hx : cs[i]? = some x) (w : World) :
    (Instr.index t (.agg cs) (.int .i64 (i : Int))).run P w = .ok x w := by
  have h1 : (sizeOf e).run P w = .ok 1 w := by rw [run_sizeOf w hi]; simp [Program.cellsOf, hi, hs]
  have h2 : (isAgg e).run P w = .ok false w := by simp [isAgg, run_underlying hu, go_sem]
  have h3 : (0 : Int) ≤ (i : Int) ∧ (i : Int) < (n : Int) := by omega
  simp [Instr.index, run_underlying ht, asIntOf, h1, h2, h3, hn, Go.part, hx, go_sem]
theorem ar_index (a0 a1 a2 a3 a4 a5 : Int) (j : Nat) (h : j < 6) (w : World) :
    (Instr.index 47 (.agg #[.int .u64 a0, .int .u64 a1, .int .u64 a2, .int .u64 a3, .int .u64 a4, .int .u64 a5]) (.int .i64 (j : Int))).run Try.prog w = .ok (.int .u64 (ar a0 a1 a2 a3 a4 a5 j)) w := by
  obtain ⟨inf, hi, hs⟩ := Option.map_eq_some_iff.1 size30
  refine run_index1 47 30 6 .u64 Try.underlying47 Try.underlying30 j inf hi hs _ h _ ?_ w
  match j, h with
  | 0, _ | 1, _ | 2, _ | 3, _ | 4, _ | 5, _ => rfl
def packB (nr arch ip a0 a1 a2 a3 a4 a5 : Int) : ByteArray := packTo nr arch ip a0 a1 a2 a3 a4 a5 6
set_option maxHeartbeats 2000000 in
theorem pack_any (nr arch ip a0 a1 a2 a3 a4 a5 : Int) (w : World) (hnr : 0 ≤ nr ∧ nr < 4294967296) (har : 0 ≤ arch ∧ arch < 4294967296) (hip : 0 ≤ ip) (h0 : 0 ≤ a0) (h1 : 0 ≤ a1) (h2 : 0 ≤ a2) (h3 : 0 ≤ a3) (h4 : 0 ≤ a4) (h5 : 0 ≤ a5) :
    Calls Try.prog 53 #[.agg #[.int .u32 nr, .int .u32 arch, .int .u64 ip, .int .u64 a0, .int .u64 a1, .int .u64 a2, .int .u64 a3, .int .u64 a4, .int .u64 a5]] w fun e w' => e = .returned (.string (packB nr arch ip a0 a1 a2 a3 a4 a5)) ∧ Below w.heap.size w w' := by
  have hu49 := Try.underlying49
  have hu47 := Try.underlying47
  have hmf : ∀ (fn : Fn) (first cap : Array Value) (w : World), (Instr.makeFunc fn first cap).run Try.prog w = .ok (.func fn first cap) w := fun _ _ _ _ => rfl
  have p4 : (256 : Int) ^ 4 = 4294967296 := by decide
  have un : IntKind.u64.wrap nr = nr := u64_small nr (by omega) (by omega)
  have ua : IntKind.u64.wrap arch = arch := u64_small arch (by omega) (by omega)
  have e0 : (⟨#[]⟩ : ByteArray).size = 0 := rfl
  have hob0 := heap_alloc_new (w.alloc (.cells #[.int .u32 nr, .int .u32 arch, .int .u64 ip, .int .u64 a0, .int .u64 a1, .int .u64 a2, .int .u64 a3, .int .u64 a4, .int .u64 a5] 49)) (.cells #[.string ⟨#[]⟩] 9)
  have hcb0 := blk_alloc (heap_alloc_new w (.cells #[.int .u32 nr, .int .u32 arch, .int .u64 ip, .int .u64 a0, .int .u64 a1, .int .u64 a2, .int .u64 a3, .int .u64 a4, .int .u64 a5] 49)) (.cells #[.string ⟨#[]⟩] 9)
  have sz1 : (w.alloc (.cells #[.int .u32 nr, .int .u32 arch, .int .u64 ip, .int .u64 a0, .int .u64 a1, .int .u64 a2, .int .u64 a3, .int .u64 a4, .int .u64 a5] 49)).heap.size = w.heap.size + 1 := by simp
  rw [sz1] at hob0
  have hb0 : Below w.heap.size w ((w.alloc (.cells #[.int .u32 nr, .int .u32 arch, .int .u64 ip, .int .u64 a0, .int .u64 a1, .int .u64 a2, .int .u64 a3, .int .u64 a4, .int .u64 a5] 49)).alloc (.cells #[.string ⟨#[]⟩] 9)) := below_alloc (below_alloc (Below.refl _ _) _) _
  have hix := ar_index a0 a1 a2 a3 a4 a5
  generalize hwi : ((w.alloc (.cells #[.int .u32 nr, .int .u32 arch, .int .u64 ip, .int .u64 a0, .int .u64 a1, .int .u64 a2, .int .u64 a3, .int .u64 a4, .int .u64 a5] 49)).alloc (.cells #[.string ⟨#[]⟩] 9)) = wi at hob0 hcb0 hb0
  have tok1 : True := trivial
  have tok2 : True := trivial
  have tok3 : True := trivial
  have HWI := Aside0.mk hwi
  clear hwi
  have HO := Aside0.mk hob0
  have HC := Aside0.mk hcb0
  have HB0 := Aside0.mk hb0
  clear hob0 hcb0 hb0
  go_enter Try.func53, Try.ntmps53
  go_wp2_with (first | (go_at_call 93; have _t := tok1; rw [HWI.out]; refine (add_c HO.out nr 4 (by omega) (by omega) hnr.1 (.inr (by omega)) (by rw [e0]; omega)).mono ?_; rintro e w1 ⟨rfl, ho1, hb1⟩; have hc1 := (hb1.block w.heap.size (by omega)).trans HC.out; have k11 := blk_cell hc1 1; have HO1 := Aside0.mk ho1; have HC1 := Aside0.mk hc1; clear tok1 _t ho1 hc1) | (go_at_call 93; have _t := tok2; refine (add_c HO1.out arch 4 (by omega) (by omega) har.1 (.inr (by omega)) (by rw [ByteArray.size_append, e0, sON_size, leB_length]; omega)).mono ?_; rintro e w2 ⟨rfl, ho2, hb2⟩; have hc2 := (hb2.block w.heap.size (by omega)).trans HC1.out; have k22 := blk_cell hc2 2; have HO2 := Aside0.mk ho2; have HC2 := Aside0.mk hc2; clear tok2 _t ho2 hc2) | (go_at_call 93; have _t := tok3; refine (add_c HO2.out ip 8 (by omega) (by omega) hip (.inl rfl) (by simp only [ByteArray.size_append, e0, sON_size, leB_length]; omega)).mono ?_; rintro e w3 ⟨rfl, ho3, hb3⟩; have hc3 := (hb3.block w.heap.size (by omega)).trans HC2.out; have k33 := blk_cell hc3 3; have k34 := blk_cell hc3 4; have k35 := blk_cell hc3 5; have k36 := blk_cell hc3 6; have k37 := blk_cell hc3 7; have k38 := blk_cell hc3 8; have HO3 := Aside0.mk ho3; clear tok3 _t ho3 hc3))
  have HB3 := Aside0.mk (below_weaken (below_weaken (below_weaken HB0.out (Nat.le_succ _) hb1) (Nat.le_succ _) hb2) (Nat.le_succ _) hb3)
  have hj0 := Aside0.mk (show ∀ j, j < 6 → 0 ≤ ar a0 a1 a2 a3 a4 a5 j from fun j hj => by
    match j, hj with
    | 0, _ => exact h0
    | 1, _ => exact h1
    | 2, _ => exact h2
    | 3, _ => exact h3
    | 4, _ => exact h4
    | 5, _ => exact h5)
  clear hb1 hb2 hb3 k33 k34 k35 k36 k37 k38 un ua
  go_loopw [24] (fun i wr => ∃ j : Nat, j ≤ 6 ∧ i = .int .i64 j ∧ Aside0 (wr.heap[w.heap.size + 1]? = some (.cells #[.string (packTo nr arch ip a0 a1 a2 a3 a4 a5 j)] 9 (0, 0))) ∧ Aside0 (Below w.heap.size w wr)) (fun i _ => 6 - (intOf i).toNat)
  case atStart => exact ⟨0, by omega, rfl, ⟨HO3.out⟩, ⟨HB3.out⟩⟩
  case round =>
    clear HO3 HB3
    obtain ⟨j, hj, rfl, ho, hb⟩ := hrel
    by_cases hlt : j < 6
    · have hdj : decide ((j : Int) < 6) = true := decide_eq_true (by omega)
      have hx := hix j hlt
      have hn := hj0.out j hlt
      have hs := packTo_size nr arch ip a0 a1 a2 a3 a4 a5 j
      have hadd := add_c ho.out (ar a0 a1 a2 a3 a4 a5 j) 8 (by omega) (by omega) hn (.inl rfl) (by omega)
      clear hix
      have hsucc := Aside0.mk (show packTo nr arch ip a0 a1 a2 a3 a4 a5 j ++ strOfNums (leB (ar a0 a1 a2 a3 a4 a5 j) 8) = packTo nr arch ip a0 a1 a2 a3 a4 a5 (j + 1) from rfl)
      generalize ar a0 a1 a2 a3 a4 a5 j = n at *
      go_wp2_with (go_at_call 93; refine hadd.mono ?_; rintro e w4 ⟨rfl, ho4, hb4⟩)
      go_roundw
      case rel => exact ⟨j + 1, by omega, by go_num, ⟨hsucc.out ▸ ho4⟩, ⟨below_weaken hb.out (Nat.le_succ _) hb4⟩⟩
      case measure => simp [intOf]; omega
    · obtain rfl : j = 6 := by omega
      have hdj : decide (((6 : Nat) : Int) < 6) = false := rfl
      have k0 := blk_cell ho.out 0
      clear hix
      go_wp2
      go_ret
      exact ⟨rfl, hb.out⟩
end Go.Proofs.Ytoeklekjhaigoaa.HPack
end
section
namespace Go.Proofs.Ytoeklekjhaigoaa.HUnpack
open Go.RowKit Go.Proofs.YtoeklekjhaigoaaW.PrintWords Go.Proofs.YtoeklekjhaigoaaW.PrintLast Go.Proofs.YtoeklekjhaigoaaW.PrintMore Go.Proofs.Ytoeklekjhaigoaa.Le Go.Proofs.Ytoeklekjhaigoaa.QLe Go.Proofs.Ytoeklekjhaigoaa.QNum Go.Proofs.Ytoeklekjhaigoaa.HPack
set_option linter.unusedVariables false
set_option linter.unusedSimpArgs false
set_option maxRecDepth 100000
theorem get_any (s : ByteArray) (p : Nat) (sz : Nat) (w : World) (h1 : 1 ≤ sz) (h8 : sz ≤ 8) (hp : p + sz ≤ s.size) (hz : s.size ≤ 1000) :
    Calls Try.prog 95 #[.string s, .int .i64 (p : Int), .int .i64 (sz : Int)] w fun e w' => e = .returned (.tuple #[.int .u64 (leval s p sz), .int .i64 ((p : Int) + (sz : Int)), .int .i64 0]) ∧ Below w.heap.size w w' :=
  (le_Get.calls 20 s (p : Int) (sz : Int) (leval s p sz) ((p : Int) + (sz : Int)) 0 w (get_ok s (p : Int) sz h1 h8 (by omega) (by omega) (by omega) 20 (by omega))).mono (fun e w' h => ⟨h.1, by obtain ⟨n, rfl⟩ := h.2.out; exact pw_below_drewN (Below.refl _ _) n⟩)
def NextPost (sb ab : Nat) (s : ByteArray) (p n : Int) (w : World) (e : Ending) (w' : World) : Prop := e = .returned (.int .u64 n) ∧ w'.heap[ab]? = some (.cells #[.int .i64 p] 3 (0, 0)) ∧ Below ab w w' ∧ KeepBut w w' ab none
set_option maxHeartbeats 1000000 in
theorem next_c {w : World} {sb ab : Nat} {s : ByteArray} {p : Nat} (hs : w.heap[sb]? = some (.cells #[.string s] 9 (0, 0))) (ha : w.heap[ab]? = some (.cells #[.int .i64 (p : Int)] 3 (0, 0))) (sz : Nat) (h1 : 1 ≤ sz) (h8 : sz ≤ 8) (hp : p + sz ≤ s.size) (hz : s.size ≤ 1000) :
    Calls Try.prog 96 #[.int .i64 (sz : Int), .pointer (some ⟨sb, 0, none⟩), .pointer (some ⟨ab, 0, none⟩)] w (NextPost sb ab s ((p : Int) + (sz : Int)) (leval s p sz) w) := by
  have hget := fun W => get_any s p sz W h1 h8 hp hz
  have k1 := blk_cell hs 0
  have k2 := blk_cell ha 0
  have l1 := blk_lt hs
  have l2 := blk_lt ha
  have HA := Aside0.mk ha
  clear hs ha
  generalize leval s p sz = n at *
  go_enter Try.func96, Try.ntmps96
  go_wp2_with (go_at_call 95; refine (hget _).mono ?_; rintro e w1 ⟨rfl, hb1⟩; have hw1 := blk_below HA.out hb1; have k0 := blk_cell hw1 0; have f0 := blk_frozen hw1 0; have HW1 := Aside0.mk hw1; clear hw1)
  go_ret
  exact ⟨rfl, blk_put HW1.out 0 _ rfl, (below_then (Below.refl ab w) (Nat.le_of_lt l2) hb1).setCell (p := ⟨ab, 0, none⟩) (Nat.le_refl _) _, by simp [World.setCell]; exact hb1.size, fun i hi hne _ => (Below.heap_setCell _ _ _ _ hne).trans (hb1.block i hi)⟩
structure US (w0 w : World) (cb : Nat) (s : ByteArray) (p : Nat) (cs : Array Value) : Prop where
  hs : w.heap[w0.heap.size]? = some (.cells #[.string s] 9 (0, 0))
  hr : w.heap[w0.heap.size + 1]? = some (.cells #[.int .u32 0, .int .u32 0, .int .u64 0, .int .u64 0, .int .u64 0, .int .u64 0, .int .u64 0, .int .u64 0, .int .u64 0] 49 (0, 0))
  ha : w.heap[w0.heap.size + 1 + 1]? = some (.cells #[.int .i64 (p : Int)] 3 (0, 0))
  hc : w.heap[cb]? = some (.cells cs 49 (0, 0))
  hb : Below w0.heap.size w0 w
  hlt : w0.heap.size + 1 + 1 < cb
theorem US.next {w0 w w' : World} {cb : Nat} {s : ByteArray} {p q : Nat} {cs : Array Value} {n : Int} {e : Ending} (h : US w0 w cb s p cs) (k : NextPost w0.heap.size (w0.heap.size + 1 + 1) s (q : Int) n w e w') : US w0 w' cb s q cs := by
  obtain ⟨_, k1, k2, k3⟩ := k
  have := h.hlt
  exact ⟨(k3.2 _ (blk_lt h.hs) (by omega) (by simp)).trans h.hs, (k3.2 _ (blk_lt h.hr) (by omega) (by simp)).trans h.hr, k1, (k3.2 _ (blk_lt h.hc) (by omega) (by simp)).trans h.hc, below_weaken h.hb (by omega) k2, h.hlt⟩
theorem US.call {w0 w : World} {cb : Nat} {s : ByteArray} {p : Nat} {cs : Array Value} (h : US w0 w cb s p cs) (sz : Nat) (h1 : 1 ≤ sz) (h8 : sz ≤ 8) (hp : p + sz ≤ s.size) (hz : s.size ≤ 1000) :
    Calls Try.prog 96 #[.int .i64 (sz : Int), .pointer (some ⟨w0.heap.size, 0, none⟩), .pointer (some ⟨w0.heap.size + 1 + 1, 0, none⟩)] w fun e w' => e = .returned (.int .u64 (leval s p sz)) ∧ US w0 w' cb s (p + sz) cs :=
  (next_c h.hs h.ha sz h1 h8 hp hz).mono (fun e w' k => ⟨k.1, h.next (q := p + sz) (n := leval s p sz) (by have k' := k; unfold NextPost at k' ⊢; rw [Int.natCast_add]; exact k')⟩)
def unp (s : ByteArray) : Option (Int × Int × Int × Int × Int × Int × Int × Int × Int) :=
  if s.size = 64 then some (leval s 0 4 % 4294967296, leval s 4 4 % 4294967296, leval s 8 8, leval s 16 8, leval s 24 8, leval s 32 8, leval s 40 8, leval s 48 8, leval s 56 8) else none
end Go.Proofs.Ytoeklekjhaigoaa.HUnpack
end
section
namespace Go.Proofs.Ytoeklekjhaigoaa.C1
open Go.RowKit Go.Proofs.YtoeklekjhaigoaaW.PrintWords Go.Proofs.YtoeklekjhaigoaaW.PrintLast Go.Proofs.YtoeklekjhaigoaaW.PrintMore
attribute [local go_sem] max2_int min2_int max_two min_two max_three min_three max_four min_four IntKind.wrap_u32 IntKind.wrap_u8   -- for this text's walks alone
set_option linter.unusedVariables false
open Go.Proofs.Ytoeklekjhaigoaa.Le
set_option linter.unusedSimpArgs false
def errW : Option Int → Value
  | none => .nilIface
  | some c => .iface 0 (.int .i64 c)
theorem errW_none : errW none = .nilIface := rfl
theorem errW_some (c : Int) : errW (some c) = .iface 0 (.int .i64 c) := rfl
structure S112 where
  f0 : ByteArray
  f1 : Int
  f2 : Int
def z112 : S112 := ⟨(⟨#[]⟩ : ByteArray), (0 : Int), (0 : Int)⟩
def k112 : Kd S112 := Kd.iso (Kd.pair Kd.string (Kd.pair (Kd.int .i64) (Kd.int .i64))) (fun x : S112 => (x.f0, x.f1, x.f2))
theorem k112_open {w : World} {x : S112} {cs : List Value} (h : k112.K w x cs) : cs = [.string x.f0, .int .i64 x.f1, .int .i64 x.f2] := by
  obtain ⟨_, _, rfl, rfl, ⟨_, _, rfl, rfl, rfl⟩⟩ := h
  exact rfl
theorem k112_mkM (w : World) (base : Nat) (ok : Nat → Prop) (x : S112)  : k112.M w base ok x [.string x.f0, .int .i64 x.f1, .int .i64 x.f2] := ⟨[.string x.f0], [.int .i64 x.f1, .int .i64 x.f2], rfl, rfl, ⟨[.int .i64 x.f1], [.int .i64 x.f2], rfl, rfl, rfl⟩⟩
def rd_T112 (xs : List S112) (i : Int) : S112 := xs.getD i.toNat z112
theorem at_T112 {w : World} {A : Option Addr} {n : Nat} {xs : List S112} (h : Kd.C k112 w A n xs) (i : Int) (h0 : 0 ≤ i) (h1 : i < n) : ∃ ad , A = some ad ∧ w.cell? (ad.add (i.toNat * 3)) = some (.string (rd_T112 xs i).f0) ∧ w.cell? ⟨(ad.add (i.toNat * 3)).block, (ad.add (i.toNat * 3)).off + 1, none⟩ = some (.int .i64 (rd_T112 xs i).f1) ∧ w.cell? ⟨(ad.add (i.toNat * 3)).block, (ad.add (i.toNat * 3)).off + 2, none⟩ = some (.int .i64 (rd_T112 xs i).f2) := by
  obtain ⟨ad, c, e, _, hK, hc0⟩ := Kd.C_get h z112 i h0 h1
  have hc : ∀ j u, c[j]? = some u → w.cell? (ad.add (i.toNat * 3 + j)) = some u := hc0
  obtain rfl := k112_open hK
  exact ⟨ad, e, hc 0 _ rfl, by rw [← add_field _ _ 1 (by omega)]; exact hc 1 _ rfl, by rw [← add_field _ _ 2 (by omega)]; exact hc 2 _ rfl⟩
end Go.Proofs.Ytoeklekjhaigoaa.C1
end
section
namespace Go.Proofs.Ytoeklekjhaigoaa.C1
open Go.RowKit Go.Proofs.YtoeklekjhaigoaaW.PrintWords Go.Proofs.YtoeklekjhaigoaaW.PrintLast Go.Proofs.YtoeklekjhaigoaaW.PrintMore
attribute [local go_sem] max2_int min2_int max_two min_two max_three min_three max_four min_four IntKind.wrap_u32 IntKind.wrap_u8   -- for this text's walks alone
set_option linter.unusedVariables false
open Go.Proofs.Ytoeklekjhaigoaa.Le
set_option linter.unusedSimpArgs false
def call_table.f  : Option ((List (S112))) := some (([(⟨(⟨#[114, 101, 97, 100]⟩ : ByteArray), 0, 63⟩ : S112), (⟨(⟨#[119, 114, 105, 116, 101]⟩ : ByteArray), 1, 64⟩ : S112), (⟨(⟨#[111, 112, 101, 110]⟩ : ByteArray), 2, (-1)⟩ : S112), (⟨(⟨#[99, 108, 111, 115, 101]⟩ : ByteArray), 3, 57⟩ : S112), (⟨(⟨#[115, 116, 97, 116]⟩ : ByteArray), 4, (-1)⟩ : S112), (⟨(⟨#[102, 115, 116, 97, 116]⟩ : ByteArray), 5, 80⟩ : S112), (⟨(⟨#[108, 115, 101, 101, 107]⟩ : ByteArray), 8, 62⟩ : S112), (⟨(⟨#[109, 109, 97, 112]⟩ : ByteArray), 9, 222⟩ : S112), (⟨(⟨#[109, 112, 114, 111, 116, 101, 99, 116]⟩ : ByteArray), 10, 226⟩ : S112), (⟨(⟨#[109, 117, 110, 109, 97, 112]⟩ : ByteArray), 11, 215⟩ : S112), (⟨(⟨#[98, 114, 107]⟩ : ByteArray), 12, 214⟩ : S112), (⟨(⟨#[105, 111, 99, 116, 108]⟩ : ByteArray), 16, 29⟩ : S112), (⟨(⟨#[97, 99, 99, 101, 115, 115]⟩ : ByteArray), 21, (-1)⟩ : S112), (⟨(⟨#[112, 105, 112, 101]⟩ : ByteArray), 22, (-1)⟩ : S112), (⟨(⟨#[100, 117, 112]⟩ : ByteArray), 32, 23⟩ : S112), (⟨(⟨#[103, 101, 116, 112, 105, 100]⟩ : ByteArray), 39, 172⟩ : S112), (⟨(⟨#[115, 111, 99, 107, 101, 116]⟩ : ByteArray), 41, 198⟩ : S112), (⟨(⟨#[99, 111, 110, 110, 101, 99, 116]⟩ : ByteArray), 42, 203⟩ : S112), (⟨(⟨#[97, 99, 99, 101, 112, 116]⟩ : ByteArray), 43, 202⟩ : S112), (⟨(⟨#[98, 105, 110, 100]⟩ : ByteArray), 49, 200⟩ : S112), (⟨(⟨#[108, 105, 115, 116, 101, 110]⟩ : ByteArray), 50, 201⟩ : S112), (⟨(⟨#[99, 108, 111, 110, 101]⟩ : ByteArray), 56, 220⟩ : S112), (⟨(⟨#[102, 111, 114, 107]⟩ : ByteArray), 57, (-1)⟩ : S112), (⟨(⟨#[101, 120, 101, 99, 118, 101]⟩ : ByteArray), 59, 221⟩ : S112), (⟨(⟨#[101, 120, 105, 116]⟩ : ByteArray), 60, 93⟩ : S112), (⟨(⟨#[107, 105, 108, 108]⟩ : ByteArray), 62, 129⟩ : S112), (⟨(⟨#[117, 110, 97, 109, 101]⟩ : ByteArray), 63, 160⟩ : S112), (⟨(⟨#[102, 99, 110, 116, 108]⟩ : ByteArray), 72, 25⟩ : S112), (⟨(⟨#[112, 116, 114, 97, 99, 101]⟩ : ByteArray), 101, 117⟩ : S112), (⟨(⟨#[103, 101, 116, 117, 105, 100]⟩ : ByteArray), 102, 174⟩ : S112), (⟨(⟨#[109, 111, 117, 110, 116]⟩ : ByteArray), 165, 40⟩ : S112), (⟨(⟨#[102, 117, 116, 101, 120]⟩ : ByteArray), 202, 98⟩ : S112), (⟨(⟨#[101, 120, 105, 116, 95, 103, 114, 111, 117, 112]⟩ : ByteArray), 231, 94⟩ : S112), (⟨(⟨#[111, 112, 101, 110, 97, 116]⟩ : ByteArray), 257, 56⟩ : S112), (⟨(⟨#[115, 101, 99, 99, 111, 109, 112]⟩ : ByteArray), 317, 277⟩ : S112)] : List (S112)))
set_option maxHeartbeats 8000000 in
set_option maxRecDepth 100000 in
theorem call_table.calls  (r : List (S112)) (w : World) (h : call_table.f  = some r) :
    Calls Try.prog 80 #[] w fun e w' => ∃ v0_ : Value, e = .returned (v0_) ∧ Kd.R k112 112 w' w.heap.size (fun _ => True) v0_ r ∧ Below w.heap.size w w' := by
  have hu112 := Try.underlying112
  have HB := Aside0.mk (Below.refl w.heap.size w)
  have H : (some (([(⟨(⟨#[114, 101, 97, 100]⟩ : ByteArray), 0, 63⟩ : S112), (⟨(⟨#[119, 114, 105, 116, 101]⟩ : ByteArray), 1, 64⟩ : S112), (⟨(⟨#[111, 112, 101, 110]⟩ : ByteArray), 2, (-1)⟩ : S112), (⟨(⟨#[99, 108, 111, 115, 101]⟩ : ByteArray), 3, 57⟩ : S112), (⟨(⟨#[115, 116, 97, 116]⟩ : ByteArray), 4, (-1)⟩ : S112), (⟨(⟨#[102, 115, 116, 97, 116]⟩ : ByteArray), 5, 80⟩ : S112), (⟨(⟨#[108, 115, 101, 101, 107]⟩ : ByteArray), 8, 62⟩ : S112), (⟨(⟨#[109, 109, 97, 112]⟩ : ByteArray), 9, 222⟩ : S112), (⟨(⟨#[109, 112, 114, 111, 116, 101, 99, 116]⟩ : ByteArray), 10, 226⟩ : S112), (⟨(⟨#[109, 117, 110, 109, 97, 112]⟩ : ByteArray), 11, 215⟩ : S112), (⟨(⟨#[98, 114, 107]⟩ : ByteArray), 12, 214⟩ : S112), (⟨(⟨#[105, 111, 99, 116, 108]⟩ : ByteArray), 16, 29⟩ : S112), (⟨(⟨#[97, 99, 99, 101, 115, 115]⟩ : ByteArray), 21, (-1)⟩ : S112), (⟨(⟨#[112, 105, 112, 101]⟩ : ByteArray), 22, (-1)⟩ : S112), (⟨(⟨#[100, 117, 112]⟩ : ByteArray), 32, 23⟩ : S112), (⟨(⟨#[103, 101, 116, 112, 105, 100]⟩ : ByteArray), 39, 172⟩ : S112), (⟨(⟨#[115, 111, 99, 107, 101, 116]⟩ : ByteArray), 41, 198⟩ : S112), (⟨(⟨#[99, 111, 110, 110, 101, 99, 116]⟩ : ByteArray), 42, 203⟩ : S112), (⟨(⟨#[97, 99, 99, 101, 112, 116]⟩ : ByteArray), 43, 202⟩ : S112), (⟨(⟨#[98, 105, 110, 100]⟩ : ByteArray), 49, 200⟩ : S112), (⟨(⟨#[108, 105, 115, 116, 101, 110]⟩ : ByteArray), 50, 201⟩ : S112), (⟨(⟨#[99, 108, 111, 110, 101]⟩ : ByteArray), 56, 220⟩ : S112), (⟨(⟨#[102, 111, 114, 107]⟩ : ByteArray), 57, (-1)⟩ : S112), (⟨(⟨#[101, 120, 101, 99, 118, 101]⟩ : ByteArray), 59, 221⟩ : S112), (⟨(⟨#[101, 120, 105, 116]⟩ : ByteArray), 60, 93⟩ : S112), (⟨(⟨#[107, 105, 108, 108]⟩ : ByteArray), 62, 129⟩ : S112), (⟨(⟨#[117, 110, 97, 109, 101]⟩ : ByteArray), 63, 160⟩ : S112), (⟨(⟨#[102, 99, 110, 116, 108]⟩ : ByteArray), 72, 25⟩ : S112), (⟨(⟨#[112, 116, 114, 97, 99, 101]⟩ : ByteArray), 101, 117⟩ : S112), (⟨(⟨#[103, 101, 116, 117, 105, 100]⟩ : ByteArray), 102, 174⟩ : S112), (⟨(⟨#[109, 111, 117, 110, 116]⟩ : ByteArray), 165, 40⟩ : S112), (⟨(⟨#[102, 117, 116, 101, 120]⟩ : ByteArray), 202, 98⟩ : S112), (⟨(⟨#[101, 120, 105, 116, 95, 103, 114, 111, 117, 112]⟩ : ByteArray), 231, 94⟩ : S112), (⟨(⟨#[111, 112, 101, 110, 97, 116]⟩ : ByteArray), 257, 56⟩ : S112), (⟨(⟨#[115, 101, 99, 99, 111, 109, 112]⟩ : ByteArray), 317, 277⟩ : S112)] : List (S112)))) = some r := h
  clear h
  obtain ⟨y101, hy101⟩ : ∃ y_ : List (S112), y_ = (([(⟨(⟨#[114, 101, 97, 100]⟩ : ByteArray), 0, 63⟩ : S112), (⟨(⟨#[119, 114, 105, 116, 101]⟩ : ByteArray), 1, 64⟩ : S112), (⟨(⟨#[111, 112, 101, 110]⟩ : ByteArray), 2, (-1)⟩ : S112), (⟨(⟨#[99, 108, 111, 115, 101]⟩ : ByteArray), 3, 57⟩ : S112), (⟨(⟨#[115, 116, 97, 116]⟩ : ByteArray), 4, (-1)⟩ : S112), (⟨(⟨#[102, 115, 116, 97, 116]⟩ : ByteArray), 5, 80⟩ : S112), (⟨(⟨#[108, 115, 101, 101, 107]⟩ : ByteArray), 8, 62⟩ : S112), (⟨(⟨#[109, 109, 97, 112]⟩ : ByteArray), 9, 222⟩ : S112), (⟨(⟨#[109, 112, 114, 111, 116, 101, 99, 116]⟩ : ByteArray), 10, 226⟩ : S112), (⟨(⟨#[109, 117, 110, 109, 97, 112]⟩ : ByteArray), 11, 215⟩ : S112), (⟨(⟨#[98, 114, 107]⟩ : ByteArray), 12, 214⟩ : S112), (⟨(⟨#[105, 111, 99, 116, 108]⟩ : ByteArray), 16, 29⟩ : S112), (⟨(⟨#[97, 99, 99, 101, 115, 115]⟩ : ByteArray), 21, (-1)⟩ : S112), (⟨(⟨#[112, 105, 112, 101]⟩ : ByteArray), 22, (-1)⟩ : S112), (⟨(⟨#[100, 117, 112]⟩ : ByteArray), 32, 23⟩ : S112), (⟨(⟨#[103, 101, 116, 112, 105, 100]⟩ : ByteArray), 39, 172⟩ : S112), (⟨(⟨#[115, 111, 99, 107, 101, 116]⟩ : ByteArray), 41, 198⟩ : S112), (⟨(⟨#[99, 111, 110, 110, 101, 99, 116]⟩ : ByteArray), 42, 203⟩ : S112), (⟨(⟨#[97, 99, 99, 101, 112, 116]⟩ : ByteArray), 43, 202⟩ : S112), (⟨(⟨#[98, 105, 110, 100]⟩ : ByteArray), 49, 200⟩ : S112), (⟨(⟨#[108, 105, 115, 116, 101, 110]⟩ : ByteArray), 50, 201⟩ : S112), (⟨(⟨#[99, 108, 111, 110, 101]⟩ : ByteArray), 56, 220⟩ : S112), (⟨(⟨#[102, 111, 114, 107]⟩ : ByteArray), 57, (-1)⟩ : S112), (⟨(⟨#[101, 120, 101, 99, 118, 101]⟩ : ByteArray), 59, 221⟩ : S112), (⟨(⟨#[101, 120, 105, 116]⟩ : ByteArray), 60, 93⟩ : S112), (⟨(⟨#[107, 105, 108, 108]⟩ : ByteArray), 62, 129⟩ : S112), (⟨(⟨#[117, 110, 97, 109, 101]⟩ : ByteArray), 63, 160⟩ : S112), (⟨(⟨#[102, 99, 110, 116, 108]⟩ : ByteArray), 72, 25⟩ : S112), (⟨(⟨#[112, 116, 114, 97, 99, 101]⟩ : ByteArray), 101, 117⟩ : S112), (⟨(⟨#[103, 101, 116, 117, 105, 100]⟩ : ByteArray), 102, 174⟩ : S112), (⟨(⟨#[109, 111, 117, 110, 116]⟩ : ByteArray), 165, 40⟩ : S112), (⟨(⟨#[102, 117, 116, 101, 120]⟩ : ByteArray), 202, 98⟩ : S112), (⟨(⟨#[101, 120, 105, 116, 95, 103, 114, 111, 117, 112]⟩ : ByteArray), 231, 94⟩ : S112), (⟨(⟨#[111, 112, 101, 110, 97, 116]⟩ : ByteArray), 257, 56⟩ : S112), (⟨(⟨#[115, 101, 99, 99, 111, 109, 112]⟩ : ByteArray), 317, 277⟩ : S112)] : List (S112))) := ⟨_, rfl⟩
  replace H : (some y101) = some r := by first | (rw [hy101]; with_reducible exact H) | (have H2_ := (Option.bind_some _ _).symm.trans H; rw [hy101]; with_reducible exact H2_) | (have H2_ := (Option.bind_some _ _).symm.trans H; with_reducible exact H2_) | with_reducible exact H | (rw [hy101]; exact H) | exact H
  have Ny101 := Aside0.mk hy101
  clear hy101
  obtain rfl := Option.some.inj H
  go_enter Try.func80, Try.ntmps80
  go_wp2_with (first | ((with_reducible refine gate_dst (N := 36) rfl ?_); refine Kd.R_lit k112 _ 112 ?hg (N := 36) ?hd (xs := ([(⟨(⟨#[114, 101, 97, 100]⟩ : ByteArray), 0, 63⟩ : S112), (⟨(⟨#[119, 114, 105, 116, 101]⟩ : ByteArray), 1, 64⟩ : S112), (⟨(⟨#[111, 112, 101, 110]⟩ : ByteArray), 2, (-1)⟩ : S112), (⟨(⟨#[99, 108, 111, 115, 101]⟩ : ByteArray), 3, 57⟩ : S112), (⟨(⟨#[115, 116, 97, 116]⟩ : ByteArray), 4, (-1)⟩ : S112), (⟨(⟨#[102, 115, 116, 97, 116]⟩ : ByteArray), 5, 80⟩ : S112), (⟨(⟨#[108, 115, 101, 101, 107]⟩ : ByteArray), 8, 62⟩ : S112), (⟨(⟨#[109, 109, 97, 112]⟩ : ByteArray), 9, 222⟩ : S112), (⟨(⟨#[109, 112, 114, 111, 116, 101, 99, 116]⟩ : ByteArray), 10, 226⟩ : S112), (⟨(⟨#[109, 117, 110, 109, 97, 112]⟩ : ByteArray), 11, 215⟩ : S112), (⟨(⟨#[98, 114, 107]⟩ : ByteArray), 12, 214⟩ : S112), (⟨(⟨#[105, 111, 99, 116, 108]⟩ : ByteArray), 16, 29⟩ : S112), (⟨(⟨#[97, 99, 99, 101, 115, 115]⟩ : ByteArray), 21, (-1)⟩ : S112), (⟨(⟨#[112, 105, 112, 101]⟩ : ByteArray), 22, (-1)⟩ : S112), (⟨(⟨#[100, 117, 112]⟩ : ByteArray), 32, 23⟩ : S112), (⟨(⟨#[103, 101, 116, 112, 105, 100]⟩ : ByteArray), 39, 172⟩ : S112), (⟨(⟨#[115, 111, 99, 107, 101, 116]⟩ : ByteArray), 41, 198⟩ : S112), (⟨(⟨#[99, 111, 110, 110, 101, 99, 116]⟩ : ByteArray), 42, 203⟩ : S112), (⟨(⟨#[97, 99, 99, 101, 112, 116]⟩ : ByteArray), 43, 202⟩ : S112), (⟨(⟨#[98, 105, 110, 100]⟩ : ByteArray), 49, 200⟩ : S112), (⟨(⟨#[108, 105, 115, 116, 101, 110]⟩ : ByteArray), 50, 201⟩ : S112), (⟨(⟨#[99, 108, 111, 110, 101]⟩ : ByteArray), 56, 220⟩ : S112), (⟨(⟨#[102, 111, 114, 107]⟩ : ByteArray), 57, (-1)⟩ : S112), (⟨(⟨#[101, 120, 101, 99, 118, 101]⟩ : ByteArray), 59, 221⟩ : S112), (⟨(⟨#[101, 120, 105, 116]⟩ : ByteArray), 60, 93⟩ : S112), (⟨(⟨#[107, 105, 108, 108]⟩ : ByteArray), 62, 129⟩ : S112), (⟨(⟨#[117, 110, 97, 109, 101]⟩ : ByteArray), 63, 160⟩ : S112), (⟨(⟨#[102, 99, 110, 116, 108]⟩ : ByteArray), 72, 25⟩ : S112), (⟨(⟨#[112, 116, 114, 97, 99, 101]⟩ : ByteArray), 101, 117⟩ : S112), (⟨(⟨#[103, 101, 116, 117, 105, 100]⟩ : ByteArray), 102, 174⟩ : S112), (⟨(⟨#[109, 111, 117, 110, 116]⟩ : ByteArray), 165, 40⟩ : S112), (⟨(⟨#[102, 117, 116, 101, 120]⟩ : ByteArray), 202, 98⟩ : S112), (⟨(⟨#[101, 120, 105, 116, 95, 103, 114, 111, 117, 112]⟩ : ByteArray), 231, 94⟩ : S112), (⟨(⟨#[111, 112, 101, 110, 97, 116]⟩ : ByteArray), 257, 56⟩ : S112), (⟨(⟨#[115, 101, 99, 99, 111, 109, 112]⟩ : ByteArray), 317, 277⟩ : S112)] : List (S112))) (inner := [.string (⟨#[114, 101, 97, 100]⟩ : ByteArray), .int .i64 0, .int .i64 63, .string (⟨#[119, 114, 105, 116, 101]⟩ : ByteArray), .int .i64 1, .int .i64 64, .string (⟨#[111, 112, 101, 110]⟩ : ByteArray), .int .i64 2, .int .i64 (-1), .string (⟨#[99, 108, 111, 115, 101]⟩ : ByteArray), .int .i64 3, .int .i64 57, .string (⟨#[115, 116, 97, 116]⟩ : ByteArray), .int .i64 4, .int .i64 (-1), .string (⟨#[102, 115, 116, 97, 116]⟩ : ByteArray), .int .i64 5, .int .i64 80, .string (⟨#[108, 115, 101, 101, 107]⟩ : ByteArray), .int .i64 8, .int .i64 62, .string (⟨#[109, 109, 97, 112]⟩ : ByteArray), .int .i64 9, .int .i64 222, .string (⟨#[109, 112, 114, 111, 116, 101, 99, 116]⟩ : ByteArray), .int .i64 10, .int .i64 226, .string (⟨#[109, 117, 110, 109, 97, 112]⟩ : ByteArray), .int .i64 11, .int .i64 215, .string (⟨#[98, 114, 107]⟩ : ByteArray), .int .i64 12, .int .i64 214, .string (⟨#[105, 111, 99, 116, 108]⟩ : ByteArray), .int .i64 16, .int .i64 29, .string (⟨#[97, 99, 99, 101, 115, 115]⟩ : ByteArray), .int .i64 21, .int .i64 (-1), .string (⟨#[112, 105, 112, 101]⟩ : ByteArray), .int .i64 22, .int .i64 (-1), .string (⟨#[100, 117, 112]⟩ : ByteArray), .int .i64 32, .int .i64 23, .string (⟨#[103, 101, 116, 112, 105, 100]⟩ : ByteArray), .int .i64 39, .int .i64 172, .string (⟨#[115, 111, 99, 107, 101, 116]⟩ : ByteArray), .int .i64 41, .int .i64 198, .string (⟨#[99, 111, 110, 110, 101, 99, 116]⟩ : ByteArray), .int .i64 42, .int .i64 203, .string (⟨#[97, 99, 99, 101, 112, 116]⟩ : ByteArray), .int .i64 43, .int .i64 202, .string (⟨#[98, 105, 110, 100]⟩ : ByteArray), .int .i64 49, .int .i64 200, .string (⟨#[108, 105, 115, 116, 101, 110]⟩ : ByteArray), .int .i64 50, .int .i64 201, .string (⟨#[99, 108, 111, 110, 101]⟩ : ByteArray), .int .i64 56, .int .i64 220, .string (⟨#[102, 111, 114, 107]⟩ : ByteArray), .int .i64 57, .int .i64 (-1), .string (⟨#[101, 120, 101, 99, 118, 101]⟩ : ByteArray), .int .i64 59, .int .i64 221, .string (⟨#[101, 120, 105, 116]⟩ : ByteArray), .int .i64 60, .int .i64 93, .string (⟨#[107, 105, 108, 108]⟩ : ByteArray), .int .i64 62, .int .i64 129, .string (⟨#[117, 110, 97, 109, 101]⟩ : ByteArray), .int .i64 63, .int .i64 160, .string (⟨#[102, 99, 110, 116, 108]⟩ : ByteArray), .int .i64 72, .int .i64 25, .string (⟨#[112, 116, 114, 97, 99, 101]⟩ : ByteArray), .int .i64 101, .int .i64 117, .string (⟨#[103, 101, 116, 117, 105, 100]⟩ : ByteArray), .int .i64 102, .int .i64 174, .string (⟨#[109, 111, 117, 110, 116]⟩ : ByteArray), .int .i64 165, .int .i64 40, .string (⟨#[102, 117, 116, 101, 120]⟩ : ByteArray), .int .i64 202, .int .i64 98, .string (⟨#[101, 120, 105, 116, 95, 103, 114, 111, 117, 112]⟩ : ByteArray), .int .i64 231, .int .i64 94, .string (⟨#[111, 112, 101, 110, 97, 116]⟩ : ByteArray), .int .i64 257, .int .i64 56, .string (⟨#[115, 101, 99, 99, 111, 109, 112]⟩ : ByteArray), .int .i64 317, .int .i64 277]) (ok := fun _ => True) (okp := fun _ => True) ?hr ?hp (fun _ hk => hk) trivial (Below.refl _ _) (Nat.le_refl _) (by simp) ?_; (case hd => rfl); (case hg => rfl); (case hr => first | (go_simp; done) | (go_simp; rfl)); (case hp => exact (Reps.c3 (show Kd.M k112 _ _ _ (⟨(⟨#[114, 101, 97, 100]⟩ : ByteArray), 0, 63⟩ : S112) [.string (⟨#[114, 101, 97, 100]⟩ : ByteArray), .int .i64 0, .int .i64 63] from (k112_mkM _ _ _ (⟨(⟨#[114, 101, 97, 100]⟩ : ByteArray), 0, 63⟩ : S112) )) (Reps.c3 (show Kd.M k112 _ _ _ (⟨(⟨#[119, 114, 105, 116, 101]⟩ : ByteArray), 1, 64⟩ : S112) [.string (⟨#[119, 114, 105, 116, 101]⟩ : ByteArray), .int .i64 1, .int .i64 64] from (k112_mkM _ _ _ (⟨(⟨#[119, 114, 105, 116, 101]⟩ : ByteArray), 1, 64⟩ : S112) )) (Reps.c3 (show Kd.M k112 _ _ _ (⟨(⟨#[111, 112, 101, 110]⟩ : ByteArray), 2, (-1)⟩ : S112) [.string (⟨#[111, 112, 101, 110]⟩ : ByteArray), .int .i64 2, .int .i64 (-1)] from (k112_mkM _ _ _ (⟨(⟨#[111, 112, 101, 110]⟩ : ByteArray), 2, (-1)⟩ : S112) )) (Reps.c3 (show Kd.M k112 _ _ _ (⟨(⟨#[99, 108, 111, 115, 101]⟩ : ByteArray), 3, 57⟩ : S112) [.string (⟨#[99, 108, 111, 115, 101]⟩ : ByteArray), .int .i64 3, .int .i64 57] from (k112_mkM _ _ _ (⟨(⟨#[99, 108, 111, 115, 101]⟩ : ByteArray), 3, 57⟩ : S112) )) (Reps.c3 (show Kd.M k112 _ _ _ (⟨(⟨#[115, 116, 97, 116]⟩ : ByteArray), 4, (-1)⟩ : S112) [.string (⟨#[115, 116, 97, 116]⟩ : ByteArray), .int .i64 4, .int .i64 (-1)] from (k112_mkM _ _ _ (⟨(⟨#[115, 116, 97, 116]⟩ : ByteArray), 4, (-1)⟩ : S112) )) (Reps.c3 (show Kd.M k112 _ _ _ (⟨(⟨#[102, 115, 116, 97, 116]⟩ : ByteArray), 5, 80⟩ : S112) [.string (⟨#[102, 115, 116, 97, 116]⟩ : ByteArray), .int .i64 5, .int .i64 80] from (k112_mkM _ _ _ (⟨(⟨#[102, 115, 116, 97, 116]⟩ : ByteArray), 5, 80⟩ : S112) )) (Reps.c3 (show Kd.M k112 _ _ _ (⟨(⟨#[108, 115, 101, 101, 107]⟩ : ByteArray), 8, 62⟩ : S112) [.string (⟨#[108, 115, 101, 101, 107]⟩ : ByteArray), .int .i64 8, .int .i64 62] from (k112_mkM _ _ _ (⟨(⟨#[108, 115, 101, 101, 107]⟩ : ByteArray), 8, 62⟩ : S112) )) (Reps.c3 (show Kd.M k112 _ _ _ (⟨(⟨#[109, 109, 97, 112]⟩ : ByteArray), 9, 222⟩ : S112) [.string (⟨#[109, 109, 97, 112]⟩ : ByteArray), .int .i64 9, .int .i64 222] from (k112_mkM _ _ _ (⟨(⟨#[109, 109, 97, 112]⟩ : ByteArray), 9, 222⟩ : S112) )) (Reps.c3 (show Kd.M k112 _ _ _ (⟨(⟨#[109, 112, 114, 111, 116, 101, 99, 116]⟩ : ByteArray), 10, 226⟩ : S112) [.string (⟨#[109, 112, 114, 111, 116, 101, 99, 116]⟩ : ByteArray), .int .i64 10, .int .i64 226] from (k112_mkM _ _ _ (⟨(⟨#[109, 112, 114, 111, 116, 101, 99, 116]⟩ : ByteArray), 10, 226⟩ : S112) )) (Reps.c3 (show Kd.M k112 _ _ _ (⟨(⟨#[109, 117, 110, 109, 97, 112]⟩ : ByteArray), 11, 215⟩ : S112) [.string (⟨#[109, 117, 110, 109, 97, 112]⟩ : ByteArray), .int .i64 11, .int .i64 215] from (k112_mkM _ _ _ (⟨(⟨#[109, 117, 110, 109, 97, 112]⟩ : ByteArray), 11, 215⟩ : S112) )) (Reps.c3 (show Kd.M k112 _ _ _ (⟨(⟨#[98, 114, 107]⟩ : ByteArray), 12, 214⟩ : S112) [.string (⟨#[98, 114, 107]⟩ : ByteArray), .int .i64 12, .int .i64 214] from (k112_mkM _ _ _ (⟨(⟨#[98, 114, 107]⟩ : ByteArray), 12, 214⟩ : S112) )) (Reps.c3 (show Kd.M k112 _ _ _ (⟨(⟨#[105, 111, 99, 116, 108]⟩ : ByteArray), 16, 29⟩ : S112) [.string (⟨#[105, 111, 99, 116, 108]⟩ : ByteArray), .int .i64 16, .int .i64 29] from (k112_mkM _ _ _ (⟨(⟨#[105, 111, 99, 116, 108]⟩ : ByteArray), 16, 29⟩ : S112) )) (Reps.c3 (show Kd.M k112 _ _ _ (⟨(⟨#[97, 99, 99, 101, 115, 115]⟩ : ByteArray), 21, (-1)⟩ : S112) [.string (⟨#[97, 99, 99, 101, 115, 115]⟩ : ByteArray), .int .i64 21, .int .i64 (-1)] from (k112_mkM _ _ _ (⟨(⟨#[97, 99, 99, 101, 115, 115]⟩ : ByteArray), 21, (-1)⟩ : S112) )) (Reps.c3 (show Kd.M k112 _ _ _ (⟨(⟨#[112, 105, 112, 101]⟩ : ByteArray), 22, (-1)⟩ : S112) [.string (⟨#[112, 105, 112, 101]⟩ : ByteArray), .int .i64 22, .int .i64 (-1)] from (k112_mkM _ _ _ (⟨(⟨#[112, 105, 112, 101]⟩ : ByteArray), 22, (-1)⟩ : S112) )) (Reps.c3 (show Kd.M k112 _ _ _ (⟨(⟨#[100, 117, 112]⟩ : ByteArray), 32, 23⟩ : S112) [.string (⟨#[100, 117, 112]⟩ : ByteArray), .int .i64 32, .int .i64 23] from (k112_mkM _ _ _ (⟨(⟨#[100, 117, 112]⟩ : ByteArray), 32, 23⟩ : S112) )) (Reps.c3 (show Kd.M k112 _ _ _ (⟨(⟨#[103, 101, 116, 112, 105, 100]⟩ : ByteArray), 39, 172⟩ : S112) [.string (⟨#[103, 101, 116, 112, 105, 100]⟩ : ByteArray), .int .i64 39, .int .i64 172] from (k112_mkM _ _ _ (⟨(⟨#[103, 101, 116, 112, 105, 100]⟩ : ByteArray), 39, 172⟩ : S112) )) (Reps.c3 (show Kd.M k112 _ _ _ (⟨(⟨#[115, 111, 99, 107, 101, 116]⟩ : ByteArray), 41, 198⟩ : S112) [.string (⟨#[115, 111, 99, 107, 101, 116]⟩ : ByteArray), .int .i64 41, .int .i64 198] from (k112_mkM _ _ _ (⟨(⟨#[115, 111, 99, 107, 101, 116]⟩ : ByteArray), 41, 198⟩ : S112) )) (Reps.c3 (show Kd.M k112 _ _ _ (⟨(⟨#[99, 111, 110, 110, 101, 99, 116]⟩ : ByteArray), 42, 203⟩ : S112) [.string (⟨#[99, 111, 110, 110, 101, 99, 116]⟩ : ByteArray), .int .i64 42, .int .i64 203] from (k112_mkM _ _ _ (⟨(⟨#[99, 111, 110, 110, 101, 99, 116]⟩ : ByteArray), 42, 203⟩ : S112) )) (Reps.c3 (show Kd.M k112 _ _ _ (⟨(⟨#[97, 99, 99, 101, 112, 116]⟩ : ByteArray), 43, 202⟩ : S112) [.string (⟨#[97, 99, 99, 101, 112, 116]⟩ : ByteArray), .int .i64 43, .int .i64 202] from (k112_mkM _ _ _ (⟨(⟨#[97, 99, 99, 101, 112, 116]⟩ : ByteArray), 43, 202⟩ : S112) )) (Reps.c3 (show Kd.M k112 _ _ _ (⟨(⟨#[98, 105, 110, 100]⟩ : ByteArray), 49, 200⟩ : S112) [.string (⟨#[98, 105, 110, 100]⟩ : ByteArray), .int .i64 49, .int .i64 200] from (k112_mkM _ _ _ (⟨(⟨#[98, 105, 110, 100]⟩ : ByteArray), 49, 200⟩ : S112) )) (Reps.c3 (show Kd.M k112 _ _ _ (⟨(⟨#[108, 105, 115, 116, 101, 110]⟩ : ByteArray), 50, 201⟩ : S112) [.string (⟨#[108, 105, 115, 116, 101, 110]⟩ : ByteArray), .int .i64 50, .int .i64 201] from (k112_mkM _ _ _ (⟨(⟨#[108, 105, 115, 116, 101, 110]⟩ : ByteArray), 50, 201⟩ : S112) )) (Reps.c3 (show Kd.M k112 _ _ _ (⟨(⟨#[99, 108, 111, 110, 101]⟩ : ByteArray), 56, 220⟩ : S112) [.string (⟨#[99, 108, 111, 110, 101]⟩ : ByteArray), .int .i64 56, .int .i64 220] from (k112_mkM _ _ _ (⟨(⟨#[99, 108, 111, 110, 101]⟩ : ByteArray), 56, 220⟩ : S112) )) (Reps.c3 (show Kd.M k112 _ _ _ (⟨(⟨#[102, 111, 114, 107]⟩ : ByteArray), 57, (-1)⟩ : S112) [.string (⟨#[102, 111, 114, 107]⟩ : ByteArray), .int .i64 57, .int .i64 (-1)] from (k112_mkM _ _ _ (⟨(⟨#[102, 111, 114, 107]⟩ : ByteArray), 57, (-1)⟩ : S112) )) (Reps.c3 (show Kd.M k112 _ _ _ (⟨(⟨#[101, 120, 101, 99, 118, 101]⟩ : ByteArray), 59, 221⟩ : S112) [.string (⟨#[101, 120, 101, 99, 118, 101]⟩ : ByteArray), .int .i64 59, .int .i64 221] from (k112_mkM _ _ _ (⟨(⟨#[101, 120, 101, 99, 118, 101]⟩ : ByteArray), 59, 221⟩ : S112) )) (Reps.c3 (show Kd.M k112 _ _ _ (⟨(⟨#[101, 120, 105, 116]⟩ : ByteArray), 60, 93⟩ : S112) [.string (⟨#[101, 120, 105, 116]⟩ : ByteArray), .int .i64 60, .int .i64 93] from (k112_mkM _ _ _ (⟨(⟨#[101, 120, 105, 116]⟩ : ByteArray), 60, 93⟩ : S112) )) (Reps.c3 (show Kd.M k112 _ _ _ (⟨(⟨#[107, 105, 108, 108]⟩ : ByteArray), 62, 129⟩ : S112) [.string (⟨#[107, 105, 108, 108]⟩ : ByteArray), .int .i64 62, .int .i64 129] from (k112_mkM _ _ _ (⟨(⟨#[107, 105, 108, 108]⟩ : ByteArray), 62, 129⟩ : S112) )) (Reps.c3 (show Kd.M k112 _ _ _ (⟨(⟨#[117, 110, 97, 109, 101]⟩ : ByteArray), 63, 160⟩ : S112) [.string (⟨#[117, 110, 97, 109, 101]⟩ : ByteArray), .int .i64 63, .int .i64 160] from (k112_mkM _ _ _ (⟨(⟨#[117, 110, 97, 109, 101]⟩ : ByteArray), 63, 160⟩ : S112) )) (Reps.c3 (show Kd.M k112 _ _ _ (⟨(⟨#[102, 99, 110, 116, 108]⟩ : ByteArray), 72, 25⟩ : S112) [.string (⟨#[102, 99, 110, 116, 108]⟩ : ByteArray), .int .i64 72, .int .i64 25] from (k112_mkM _ _ _ (⟨(⟨#[102, 99, 110, 116, 108]⟩ : ByteArray), 72, 25⟩ : S112) )) (Reps.c3 (show Kd.M k112 _ _ _ (⟨(⟨#[112, 116, 114, 97, 99, 101]⟩ : ByteArray), 101, 117⟩ : S112) [.string (⟨#[112, 116, 114, 97, 99, 101]⟩ : ByteArray), .int .i64 101, .int .i64 117] from (k112_mkM _ _ _ (⟨(⟨#[112, 116, 114, 97, 99, 101]⟩ : ByteArray), 101, 117⟩ : S112) )) (Reps.c3 (show Kd.M k112 _ _ _ (⟨(⟨#[103, 101, 116, 117, 105, 100]⟩ : ByteArray), 102, 174⟩ : S112) [.string (⟨#[103, 101, 116, 117, 105, 100]⟩ : ByteArray), .int .i64 102, .int .i64 174] from (k112_mkM _ _ _ (⟨(⟨#[103, 101, 116, 117, 105, 100]⟩ : ByteArray), 102, 174⟩ : S112) )) (Reps.c3 (show Kd.M k112 _ _ _ (⟨(⟨#[109, 111, 117, 110, 116]⟩ : ByteArray), 165, 40⟩ : S112) [.string (⟨#[109, 111, 117, 110, 116]⟩ : ByteArray), .int .i64 165, .int .i64 40] from (k112_mkM _ _ _ (⟨(⟨#[109, 111, 117, 110, 116]⟩ : ByteArray), 165, 40⟩ : S112) )) (Reps.c3 (show Kd.M k112 _ _ _ (⟨(⟨#[102, 117, 116, 101, 120]⟩ : ByteArray), 202, 98⟩ : S112) [.string (⟨#[102, 117, 116, 101, 120]⟩ : ByteArray), .int .i64 202, .int .i64 98] from (k112_mkM _ _ _ (⟨(⟨#[102, 117, 116, 101, 120]⟩ : ByteArray), 202, 98⟩ : S112) )) (Reps.c3 (show Kd.M k112 _ _ _ (⟨(⟨#[101, 120, 105, 116, 95, 103, 114, 111, 117, 112]⟩ : ByteArray), 231, 94⟩ : S112) [.string (⟨#[101, 120, 105, 116, 95, 103, 114, 111, 117, 112]⟩ : ByteArray), .int .i64 231, .int .i64 94] from (k112_mkM _ _ _ (⟨(⟨#[101, 120, 105, 116, 95, 103, 114, 111, 117, 112]⟩ : ByteArray), 231, 94⟩ : S112) )) (Reps.c3 (show Kd.M k112 _ _ _ (⟨(⟨#[111, 112, 101, 110, 97, 116]⟩ : ByteArray), 257, 56⟩ : S112) [.string (⟨#[111, 112, 101, 110, 97, 116]⟩ : ByteArray), .int .i64 257, .int .i64 56] from (k112_mkM _ _ _ (⟨(⟨#[111, 112, 101, 110, 97, 116]⟩ : ByteArray), 257, 56⟩ : S112) )) (Reps.c3 (show Kd.M k112 _ _ _ (⟨(⟨#[115, 101, 99, 99, 111, 109, 112]⟩ : ByteArray), 317, 277⟩ : S112) [.string (⟨#[115, 101, 99, 99, 111, 109, 112]⟩ : ByteArray), .int .i64 317, .int .i64 277] from (k112_mkM _ _ _ (⟨(⟨#[115, 101, 99, 99, 111, 109, 112]⟩ : ByteArray), 317, 277⟩ : S112) )) (Reps.none _ _))))))))))))))))))))))))))))))))))))); intro v102 w1 ho2 hb hg_ hnew_; clear hg_ hnew_; (first | rw [← Ny101.out] at ho2 | (simp only [Int.reduceToNat] at ho2; rw [← Ny101.out] at ho2)); have n0_ := Aside0.mk (Kd.R_lower ho2 (below_size (by repeat (first | (with_reducible first | exact HB.out | apply below_alloc | apply pw_below_drewN | apply below_drew1) | exact HB.out)))); have n1_ := Aside0.mk (below_step (by repeat (first | (with_reducible first | exact HB.out | apply below_alloc | apply pw_below_drewN | apply below_drew1) | exact HB.out)) hb); clear HB; have HO103 := n0_; have HB := n1_; clear n0_ n1_; clear hb ho2))
  go_ret
  exact ⟨_, by first | rfl | (simp [errW_none, errW_some] <;> rfl) | (simp [*, errW_none, errW_some] <;> rfl), by (with_reducible repeat (first | apply Kd.R_alloc | apply Kd.R_drewN | apply Kd.R_drew)); exact HO103.out, by repeat (first | (with_reducible first | exact HB.out | apply below_alloc | apply pw_below_drewN | apply below_drew1) | exact HB.out)⟩
def call_row_number.f (a0_0 : ByteArray) (a0_1 : Int) (a0_2 : Int) (a1 : Int) : Option (Int × Bool) := if a1 = 3221225534 then (some ((mx a0_1 0) % 4294967296, decide (a0_1 ≥ 0))) else (if a1 = 3221225655 then (some ((mx a0_2 0) % 4294967296, decide (a0_2 ≥ 0))) else (some (mx (-1) 0, decide ((-1) ≥ 0))))
set_option maxHeartbeats 8000000 in
set_option maxRecDepth 100000 in
theorem call_row_number.calls (a0_0 : ByteArray) (a0_1 : Int) (a0_2 : Int) (a1 : Int) (r1 : Int) (r2 : Bool) (w : World) (h : call_row_number.f a0_0 a0_1 a0_2 a1 = some (r1, r2)) :
    Calls Try.prog 81 #[.agg #[.string a0_0, .int .i64 a0_1, .int .i64 a0_2], .int .u32 a1] w fun e w' => e = .returned (.tuple #[.int .u32 r1, .bool r2]) ∧ Below w.heap.size w w' := by
  have hu112 := Try.underlying112
  have HB := Aside0.mk (Below.refl w.heap.size w)
  have H : (if a1 = 3221225534 then (some ((mx a0_1 0) % 4294967296, decide (a0_1 ≥ 0))) else (if a1 = 3221225655 then (some ((mx a0_2 0) % 4294967296, decide (a0_2 ≥ 0))) else (some (mx (-1) 0, decide ((-1) ≥ 0))))) = some (r1, r2) := h
  clear h
  by_cases c3 : a1 = 3221225534
  · rw [if_pos c3] at H
    have c3b0 : (a1 == 3221225534) = true := beq_iff_eq.mpr c3
    have c3b1 : (a1 != 3221225534) = false := bne_eq_false_iff_eq.mpr c3
    clear c3
    obtain ⟨ji4, hji4⟩ : ∃ j_ : Int, (mx a0_1 0) = j_ := ⟨_, rfl⟩
    replace H : (some ((ji4) % 4294967296, decide (a0_1 ≥ 0))) = some (r1, r2) := by first | (rw [hji4] at H; exact H) | (simp only [hji4] at H ⊢; exact H)
    (try (have hji4l : 0 ≤ ji4 := by (rw [← hji4]; unfold mx; (repeat' split) <;> omega)))
    (try (have hji4m : 0 ≤ ji4 := by omega))
    have hji4_ : (if a0_1 < 0 then 0 else a0_1) = ji4 := hji4
    simp only [Option.some.injEq, Prod.mk.injEq] at H
    obtain ⟨rfl, rfl⟩ := H
    go_enter Try.func81, Try.ntmps81
    go_wp2_with (first | ((with_reducible refine gate_dst (N := 2) rfl ?_); refine box_event ?hg (N := 2) ?hd (cs := #[.string a0_0, .int .i64 a0_1, .int .i64 a0_2]) (t := 112) ?hr ?_; (case hd => rfl); (case hg => rfl); (case hr => first | (go_simp; done) | (go_simp; rfl)); intro gb104 hg w5 hbox hb; have n0_ := Aside0.mk (below_step (by repeat (first | (with_reducible first | exact HB.out | apply below_alloc | apply pw_below_drewN | apply below_drew1) | exact HB.out)) hb); have n1_ := Aside0.mk (hbox); have n2_ := Aside0.mk ((by rw [hg]; exact (below_size (by repeat (first | (with_reducible first | exact HB.out | apply below_alloc | apply pw_below_drewN | apply below_drew1) | exact HB.out))) : w.heap.size ≤ gb104)); have n3_ := Aside0.mk ((by rw [hg]; exact (below_size (by repeat (first | (with_reducible first | exact HB.out | apply below_alloc | apply pw_below_drewN | apply below_drew1) | exact HB.out))) : w.heap.size ≤ gb104)); clear HB; have HB := n0_; have BK104 := n1_; have GW104 := n2_; have GE104 := n3_; clear n0_ n1_ n2_ n3_; clear hb hbox hg; have hcz6_0 : w5.cell? ⟨gb104, 0, none⟩ = some (.string a0_0) := (blk_cell BK104.out 0).trans rfl; have hcz6_1 : w5.cell? ⟨gb104, 1, none⟩ = some (.int .i64 a0_1) := (blk_cell BK104.out 1).trans rfl; have hcz6_2 : w5.cell? ⟨gb104, 2, none⟩ = some (.int .i64 a0_2) := (blk_cell BK104.out 2).trans rfl; have hfz6_0 := blk_frozen BK104.out 0; have hfz6_1 := blk_frozen BK104.out 1; have hfz6_2 := blk_frozen BK104.out 2))
    go_ret2
    exact ⟨by first | rfl | (simp [errW_none, errW_some] <;> rfl) | (simp only [← hji4]; first | rfl | (simp [errW_none, errW_some] <;> rfl)) | (simp [*, errW_none, errW_some] <;> rfl), by repeat (first | (with_reducible first | exact HB.out | apply below_alloc | apply pw_below_drewN | apply below_drew1 | refine below_set ?_ GE104.out) | exact HB.out)⟩
  · rw [if_neg c3] at H
    have c3b0 : (a1 == 3221225534) = false := beq_eq_false_iff_ne.mpr c3
    have c3b1 : (a1 != 3221225534) = true := bne_iff_ne.mpr c3
    by_cases c7 : a1 = 3221225655
    · rw [if_pos c7] at H
      have c7b0 : (a1 == 3221225655) = true := beq_iff_eq.mpr c7
      have c7b1 : (a1 != 3221225655) = false := bne_eq_false_iff_eq.mpr c7
      clear c7
      obtain ⟨ji8, hji8⟩ : ∃ j_ : Int, (mx a0_2 0) = j_ := ⟨_, rfl⟩
      replace H : (some ((ji8) % 4294967296, decide (a0_2 ≥ 0))) = some (r1, r2) := by first | (rw [hji8] at H; exact H) | (simp only [hji8] at H ⊢; exact H)
      (try (have hji8l : 0 ≤ ji8 := by (rw [← hji8]; unfold mx; (repeat' split) <;> omega)))
      (try (have hji8m : 0 ≤ ji8 := by omega))
      have hji8_ : (if a0_2 < 0 then 0 else a0_2) = ji8 := hji8
      simp only [Option.some.injEq, Prod.mk.injEq] at H
      obtain ⟨rfl, rfl⟩ := H
      go_enter Try.func81, Try.ntmps81
      go_wp2_with (first | ((with_reducible refine gate_dst (N := 2) rfl ?_); refine box_event ?hg (N := 2) ?hd (cs := #[.string a0_0, .int .i64 a0_1, .int .i64 a0_2]) (t := 112) ?hr ?_; (case hd => rfl); (case hg => rfl); (case hr => first | (go_simp; done) | (go_simp; rfl)); intro gb104 hg w9 hbox hb; have n0_ := Aside0.mk (below_step (by repeat (first | (with_reducible first | exact HB.out | apply below_alloc | apply pw_below_drewN | apply below_drew1) | exact HB.out)) hb); have n1_ := Aside0.mk (hbox); have n2_ := Aside0.mk ((by rw [hg]; exact (below_size (by repeat (first | (with_reducible first | exact HB.out | apply below_alloc | apply pw_below_drewN | apply below_drew1) | exact HB.out))) : w.heap.size ≤ gb104)); have n3_ := Aside0.mk ((by rw [hg]; exact (below_size (by repeat (first | (with_reducible first | exact HB.out | apply below_alloc | apply pw_below_drewN | apply below_drew1) | exact HB.out))) : w.heap.size ≤ gb104)); clear HB; have HB := n0_; have BK104 := n1_; have GW104 := n2_; have GE104 := n3_; clear n0_ n1_ n2_ n3_; clear hb hbox hg; have hcz10_0 : w9.cell? ⟨gb104, 0, none⟩ = some (.string a0_0) := (blk_cell BK104.out 0).trans rfl; have hcz10_1 : w9.cell? ⟨gb104, 1, none⟩ = some (.int .i64 a0_1) := (blk_cell BK104.out 1).trans rfl; have hcz10_2 : w9.cell? ⟨gb104, 2, none⟩ = some (.int .i64 a0_2) := (blk_cell BK104.out 2).trans rfl; have hfz10_0 := blk_frozen BK104.out 0; have hfz10_1 := blk_frozen BK104.out 1; have hfz10_2 := blk_frozen BK104.out 2))
      go_ret2
      exact ⟨by first | rfl | (simp [errW_none, errW_some] <;> rfl) | (simp only [← hji8]; first | rfl | (simp [errW_none, errW_some] <;> rfl)) | (simp [*, errW_none, errW_some] <;> rfl), by repeat (first | (with_reducible first | exact HB.out | apply below_alloc | apply pw_below_drewN | apply below_drew1 | refine below_set ?_ GE104.out) | exact HB.out)⟩
    · rw [if_neg c7] at H
      have c7b0 : (a1 == 3221225655) = false := beq_eq_false_iff_ne.mpr c7
      have c7b1 : (a1 != 3221225655) = true := bne_iff_ne.mpr c7
      obtain ⟨ji11, hji11⟩ : ∃ j_ : Int, (mx (-1) 0) = j_ := ⟨_, rfl⟩
      replace H : (some (ji11, decide ((-1) ≥ 0))) = some (r1, r2) := by first | (rw [hji11] at H; exact H) | (simp only [hji11] at H ⊢; exact H)
      (try (have hji11h : ji11 ≤ 0 := by (rw [← hji11]; unfold mx; (repeat' split) <;> omega)))
      (try (have hji11g : ji11 ≤ 64 := by omega))
      (try (have hji11l : 0 ≤ ji11 := by (rw [← hji11]; unfold mx; (repeat' split) <;> omega)))
      (try (have hji11m : 0 ≤ ji11 := by omega))
      have hji11_ : (if (-1) < 0 then 0 else (-1)) = ji11 := hji11
      simp only [Option.some.injEq, Prod.mk.injEq] at H
      obtain ⟨rfl, rfl⟩ := H
      go_enter Try.func81, Try.ntmps81
      go_wp2_with (first | ((with_reducible refine gate_dst (N := 2) rfl ?_); refine box_event ?hg (N := 2) ?hd (cs := #[.string a0_0, .int .i64 a0_1, .int .i64 a0_2]) (t := 112) ?hr ?_; (case hd => rfl); (case hg => rfl); (case hr => first | (go_simp; done) | (go_simp; rfl)); intro gb104 hg w12 hbox hb; have n0_ := Aside0.mk (below_step (by repeat (first | (with_reducible first | exact HB.out | apply below_alloc | apply pw_below_drewN | apply below_drew1) | exact HB.out)) hb); have n1_ := Aside0.mk (hbox); have n2_ := Aside0.mk ((by rw [hg]; exact (below_size (by repeat (first | (with_reducible first | exact HB.out | apply below_alloc | apply pw_below_drewN | apply below_drew1) | exact HB.out))) : w.heap.size ≤ gb104)); have n3_ := Aside0.mk ((by rw [hg]; exact (below_size (by repeat (first | (with_reducible first | exact HB.out | apply below_alloc | apply pw_below_drewN | apply below_drew1) | exact HB.out))) : w.heap.size ≤ gb104)); clear HB; have HB := n0_; have BK104 := n1_; have GW104 := n2_; have GE104 := n3_; clear n0_ n1_ n2_ n3_; clear hb hbox hg))
      go_ret2
      exact ⟨by first | rfl | (simp [errW_none, errW_some] <;> rfl) | (simp only [← hji11]; first | rfl | (simp [errW_none, errW_some] <;> rfl)) | (simp [*, errW_none, errW_some] <;> rfl), by repeat (first | (with_reducible first | exact HB.out | apply below_alloc | apply pw_below_drewN | apply below_drew1 | refine below_set ?_ GE104.out) | exact HB.out)⟩
def call_Nr.l0 : Nat → Int → ByteArray → List (S112) → Int → Int → Option (Int × Bool)
  | 0, _, _, _, _, _ => none
  | k + 1, x0, x1, x8, x9, x10 => if x10 < x9 then (if 0 ≤ x10 then (if x10 < (x8.length : Int) then (if ((rd_T112 x8 x10).f0).toList = x1.toList then ((call_row_number.f ((rd_T112 x8 x10).f0) ((rd_T112 x8 x10).f1) ((rd_T112 x8 x10).f2) x0).bind fun bt110 => (some (bt110.1, bt110.2))) else (call_Nr.l0 k x0 x1 x8 x9 (wrap64 (x10 + 1)))) else (none)) else (none)) else (some (0, false))
def call_Nr.f (k : Nat) (a0 : Int) (a1 : ByteArray) : Option (Int × Bool) := (call_table.f).bind fun t105 => (call_Nr.l0 k a0 a1 t105 (t105.length : Int) 0)
set_option maxHeartbeats 8000000 in
set_option maxRecDepth 100000 in
theorem call_Nr.calls (k : Nat) (a0 : Int) (a1 : ByteArray) (r1 : Int) (r2 : Bool) (w : World) (h : call_Nr.f k a0 a1 = some (r1, r2)) :
    Calls Try.prog 30 #[.int .u32 a0, .string a1] w fun e w' => e = .returned (.tuple #[.int .u32 r1, .bool r2]) ∧ Below w.heap.size w w' := by
  have hu112 := Try.underlying112
  have HB := Aside0.mk (Below.refl w.heap.size w)
  have H : ((call_table.f).bind fun t105 => (call_Nr.l0 k a0 a1 t105 (t105.length : Int) 0)) = some (r1, r2) := h
  clear h
  replace H := Option.bind_eq_some_iff.mp H
  obtain ⟨t105, A30, H⟩ := H
  replace H : (call_Nr.l0 k a0 a1 t105 (t105.length : Int) 0) = some (r1, r2) := H
  have A3 := Aside0.mk A30
  clear A30
  have H' := Aside0.mk H
  clear H
  go_enter Try.func30, Try.ntmps30
  go_wp2_with (first | ((with_reducible refine gate_callee (f := 80) rfl ?_); refine goesL_ (some 8) rfl rfl Try.func80 (by kernel_rfl) rfl #[] rfl (by (try simp only [List.map_toArray, List.map_cons, List.map_nil]); first | done | rfl | (simp only [List.length_drop, List.length_take]; rfl)) ?_; (with_reducible refine (call_table.calls  t105 _ A3.out).mono ?_); rintro e w4 ⟨v106, rfl, ho0, hb⟩; refine ⟨_, rfl, ?_⟩; have n0_ := Aside0.mk (Kd.R_lower ho0 (below_size (by repeat (first | (with_reducible first | exact HB.out | apply below_alloc | apply pw_below_drewN | apply below_drew1) | exact HB.out)))); have n1_ := Aside0.mk (below_step (by repeat (first | (with_reducible first | exact HB.out | apply below_alloc | apply pw_below_drewN | apply below_drew1) | exact HB.out)) hb); clear HB; have HO107 := n0_; have HB := n1_; clear n0_ n1_; (try clear hb); (try clear hb2); (try clear hk); (try clear hi); (try clear ho0); obtain ⟨Ao5, co5, eo5⟩ := Kd.R_slice HO107.out; subst eo5))
  go_loopg [10] k (fun kq v10 w' => ∃ (x10_1 : Int), v10 = .int .i64 x10_1 ∧ Aside0 (call_Nr.l0 kq a0 a1 t105 (t105.length : Int) x10_1 = some (r1, r2)) ∧ Aside0 (kq ≤ k) ∧ Aside0 (Kd.R k112 112 w' w.heap.size (fun _ => True) (.slice Ao5 t105.length co5) t105) ∧ Aside0 (Below w.heap.size w w'))
  case atStart => exact ⟨(0), (by first | rfl | (simp; done) | (simp [*]; done)), H', ⟨Nat.le_refl _⟩, ⟨by (with_reducible repeat (first | apply Kd.R_alloc | apply Kd.R_drewN | apply Kd.R_drew)); exact HO107.out⟩, ⟨by repeat (first | (with_reducible first | exact HB.out | apply below_alloc | apply pw_below_drewN | apply below_drew1) | exact HB.out)⟩⟩
  case round =>
    clear H'
    try clear p2
    try clear c3
    obtain ⟨x10_1, rfl, HA, HK1, HO_8, HB⟩ := hrel
    cases gk with
    | zero => exact absurd HA.out (by simp [call_Nr.l0])
    | succ k1 =>
      have H := HA.out
      clear HA
      simp only [call_Nr.l0] at H
      by_cases c6 : x10_1 < (t105.length : Int)
      · rw [if_pos c6] at H
        have c6b0 : decide (x10_1 < (t105.length : Int)) = true := decide_eq_true c6
        clear c6
        by_cases c7 : 0 ≤ x10_1
        · rw [if_pos c7] at H
          have c7b0 : decide (0 ≤ x10_1) = true := decide_eq_true c7
          clear c7
          by_cases c8 : x10_1 < (t105.length : Int)
          · rw [if_pos c8] at H
            have c8b0 : decide (x10_1 < (t105.length : Int)) = true := decide_eq_true c8
            clear c8
            by_cases c9 : ((rd_T112 t105 x10_1).f0).toList = a1.toList
            · rw [if_pos c9] at H
              have c9b0 : (((rd_T112 t105 x10_1).f0).toList == a1.toList) = true := beq_iff_eq.mpr c9
              have c9b1 : (((rd_T112 t105 x10_1).f0).toList != a1.toList) = false := bne_eq_false_iff_eq.mpr c9
              clear c9
              replace H := Option.bind_eq_some_iff.mp H
              obtain ⟨⟨t110, t111⟩, A100, H⟩ := H
              replace H : (some (t110, t111)) = some (r1, r2) := H
              have A10 := Aside0.mk A100
              clear A100
              simp only [Option.some.injEq, Prod.mk.injEq] at H
              obtain ⟨rfl, rfl⟩ := H
              have p108 : 0 ≤ (x10_1 : Int) := of_decide_eq_true (by first | (with_reducible assumption) | assumption)
              have q108 : x10_1 < (t105.length : Int) := of_decide_eq_true (by first | (with_reducible assumption) | assumption)
              obtain ⟨ad108, e108, hx108_0, hx108_1, hx108_2⟩ := at_T112 (Kd.R_reads' HO_8.out).2.2 x10_1 p108 q108
              cases e108
              replace p108 := eq_true p108
              replace q108 := eq_true q108
              go_wp2_with (first | ((with_reducible refine gate_dst (N := 7) rfl ?_); refine box_event ?hg (N := 7) ?hd (cs := #[.string (⟨#[]⟩ : ByteArray), .int .i64 0, .int .i64 0]) (t := 112) ?hr ?_; (case hd => rfl); (case hg => rfl); (case hr => first | (go_simp; done) | (go_simp; rfl)); intro gb109 hg w11 hbox hb; have n0_ := Aside0.mk (Kd.R_below (Kd.R_elderB (by (with_reducible repeat (first | apply Kd.R_alloc | apply Kd.R_drewN | apply Kd.R_drew)); exact HO_8.out) gb109 (Nat.le_of_eq hg.symm)) hb); have n1_ := Aside0.mk (below_step (by repeat (first | (with_reducible first | exact HB.out | apply below_alloc | apply pw_below_drewN | apply below_drew1) | exact HB.out)) hb); have n2_ := Aside0.mk (hbox); have n3_ := Aside0.mk ((by rw [hg]; exact (below_size (by repeat (first | (with_reducible first | exact HB.out | apply below_alloc | apply pw_below_drewN | apply below_drew1) | exact HB.out))) : w.heap.size ≤ gb109)); have n4_ := Aside0.mk ((by rw [hg]; exact (below_size (by repeat (first | (with_reducible first | exact HB.out | apply below_alloc | apply pw_below_drewN | apply below_drew1) | exact HB.out))) : w.heap.size ≤ gb109)); clear HO_8; clear HB; have HO_8 := n0_; have HB := n1_; have BK109 := n2_; have GW109 := n3_; have GE109 := n4_; clear n0_ n1_ n2_ n3_ n4_; clear hb hbox hg; have hcz12_0 : w11.cell? ⟨gb109, 0, none⟩ = some (.string (⟨#[]⟩ : ByteArray)) := (blk_cell BK109.out 0).trans rfl; have hcz12_1 : w11.cell? ⟨gb109, 1, none⟩ = some (.int .i64 0) := (blk_cell BK109.out 1).trans rfl; have hcz12_2 : w11.cell? ⟨gb109, 2, none⟩ = some (.int .i64 0) := (blk_cell BK109.out 2).trans rfl; have hfz12_0 := blk_frozen BK109.out 0; have hfz12_1 := blk_frozen BK109.out 1; have hfz12_2 := blk_frozen BK109.out 2) | ((with_reducible refine gate_callee (f := 81) rfl ?_); refine goesL_ (some 20) rfl rfl Try.func81 (by kernel_rfl) rfl #[.agg #[.string ((rd_T112 t105 x10_1).f0), .int .i64 ((rd_T112 t105 x10_1).f1), .int .i64 ((rd_T112 t105 x10_1).f2)], .int .u32 a0] rfl (by (try simp only [List.map_toArray, List.map_cons, List.map_nil]); first | done | rfl | (simp only [List.length_drop, List.length_take]; rfl)) ?_; (with_reducible refine (call_row_number.calls ((rd_T112 t105 x10_1).f0) ((rd_T112 t105 x10_1).f1) ((rd_T112 t105 x10_1).f2) a0 t110 t111 _ A10.out).mono ?_); rintro e w13 ⟨rfl, hb⟩; refine ⟨_, rfl, ?_⟩; have n0_ := Aside0.mk (Kd.R_below (by (with_reducible repeat (first | apply Kd.R_alloc | apply Kd.R_drewN | apply Kd.R_drew)); exact (Kd.R_mono (Kd.R_far (p := ⟨gb109, 2, none⟩) (Kd.R_far (p := ⟨gb109, 1, none⟩) (Kd.R_far (p := ⟨gb109, 0, none⟩) (Kd.R_mono HO_8.out (fun k_ hk => (⟨hk, hk.2⟩ : _ ∧ k_ ≠ gb109))) (fun _ hk => hk.2) (.string ((rd_T112 t105 x10_1).f0))) (fun _ hk => hk.2) (.int .i64 ((rd_T112 t105 x10_1).f1))) (fun _ hk => hk.2) (.int .i64 ((rd_T112 t105 x10_1).f2))) (fun _ h_ => h_.1))) hb); have n1_ := Aside0.mk (blk_below (g := gb109) (o := .cells #[.string ((rd_T112 t105 x10_1).f0), .int .i64 ((rd_T112 t105 x10_1).f1), .int .i64 ((rd_T112 t105 x10_1).f2)] 112 (0, 0)) (by (with_reducible repeat (first | refine blk_drewN ?_ _ | refine blk_drew ?_ | refine blk_alloc ?_ _)); refine blk_put (cs := #[.string ((rd_T112 t105 x10_1).f0), .int .i64 ((rd_T112 t105 x10_1).f1), .int .i64 0]) ?_ 2 _ rfl; (with_reducible repeat (first | refine blk_drewN ?_ _ | refine blk_drew ?_ | refine blk_alloc ?_ _)); refine blk_put (cs := #[.string ((rd_T112 t105 x10_1).f0), .int .i64 0, .int .i64 0]) ?_ 1 _ rfl; (with_reducible repeat (first | refine blk_drewN ?_ _ | refine blk_drew ?_ | refine blk_alloc ?_ _)); refine blk_put (cs := #[.string (⟨#[]⟩ : ByteArray), .int .i64 0, .int .i64 0]) ?_ 0 _ rfl; (with_reducible repeat (first | refine blk_drewN ?_ _ | refine blk_drew ?_ | refine blk_alloc ?_ _)); exact BK109.out) hb); have n2_ := Aside0.mk (below_step (by repeat (first | (with_reducible first | exact HB.out | apply below_alloc | apply pw_below_drewN | apply below_drew1 | refine below_set ?_ GE109.out) | exact HB.out)) hb); clear HO_8; clear BK109; clear HB; have HO_8 := n0_; have BK109 := n1_; have HB := n2_; clear n0_ n1_ n2_; (try clear hb); (try clear hb2); (try clear hk); (try clear hi)))
              go_ret2
              exact ⟨by first | rfl | (simp [errW_none, errW_some] <;> rfl) | (simp [*, errW_none, errW_some] <;> rfl), by repeat (first | (with_reducible first | exact HB.out | apply below_alloc | apply pw_below_drewN | apply below_drew1 | refine below_set ?_ GE109.out) | exact HB.out)⟩
            · rw [if_neg c9] at H
              have c9b0 : (((rd_T112 t105 x10_1).f0).toList == a1.toList) = false := beq_eq_false_iff_ne.mpr c9
              have c9b1 : (((rd_T112 t105 x10_1).f0).toList != a1.toList) = true := bne_iff_ne.mpr c9
              have H' := Aside0.mk H
              clear H
              have p108 : 0 ≤ (x10_1 : Int) := of_decide_eq_true (by first | (with_reducible assumption) | assumption)
              have q108 : x10_1 < (t105.length : Int) := of_decide_eq_true (by first | (with_reducible assumption) | assumption)
              obtain ⟨ad108, e108, hx108_0, hx108_1, hx108_2⟩ := at_T112 (Kd.R_reads' HO_8.out).2.2 x10_1 p108 q108
              cases e108
              replace p108 := eq_true p108
              replace q108 := eq_true q108
              go_wp2_with (first | ((with_reducible refine gate_dst (N := 7) rfl ?_); refine box_event ?hg (N := 7) ?hd (cs := #[.string (⟨#[]⟩ : ByteArray), .int .i64 0, .int .i64 0]) (t := 112) ?hr ?_; (case hd => rfl); (case hg => rfl); (case hr => first | (go_simp; done) | (go_simp; rfl)); intro gb109 hg w14 hbox hb; have n0_ := Aside0.mk (Kd.R_below (Kd.R_elderB (by (with_reducible repeat (first | apply Kd.R_alloc | apply Kd.R_drewN | apply Kd.R_drew)); exact HO_8.out) gb109 (Nat.le_of_eq hg.symm)) hb); have n1_ := Aside0.mk (below_step (by repeat (first | (with_reducible first | exact HB.out | apply below_alloc | apply pw_below_drewN | apply below_drew1) | exact HB.out)) hb); have n2_ := Aside0.mk (hbox); have n3_ := Aside0.mk ((by rw [hg]; exact (below_size (by repeat (first | (with_reducible first | exact HB.out | apply below_alloc | apply pw_below_drewN | apply below_drew1) | exact HB.out))) : w.heap.size ≤ gb109)); have n4_ := Aside0.mk ((by rw [hg]; exact (below_size (by repeat (first | (with_reducible first | exact HB.out | apply below_alloc | apply pw_below_drewN | apply below_drew1) | exact HB.out))) : w.heap.size ≤ gb109)); clear HO_8; clear HB; have HO_8 := n0_; have HB := n1_; have BK109 := n2_; have GW109 := n3_; have GE109 := n4_; clear n0_ n1_ n2_ n3_ n4_; clear hb hbox hg; have hcz15_0 : w14.cell? ⟨gb109, 0, none⟩ = some (.string (⟨#[]⟩ : ByteArray)) := (blk_cell BK109.out 0).trans rfl; have hcz15_1 : w14.cell? ⟨gb109, 1, none⟩ = some (.int .i64 0) := (blk_cell BK109.out 1).trans rfl; have hcz15_2 : w14.cell? ⟨gb109, 2, none⟩ = some (.int .i64 0) := (blk_cell BK109.out 2).trans rfl; have hfz15_0 := blk_frozen BK109.out 0; have hfz15_1 := blk_frozen BK109.out 1; have hfz15_2 := blk_frozen BK109.out 2))
              go_roundg k1
              case measure => have := HK1.out; omega
              case rel => exact ⟨(wrap64 (x10_1 + 1)), (by first | rfl | (simp; done) | (simp [*]; done)), H', ⟨by have := HK1.out; omega⟩, ⟨by (with_reducible repeat (first | apply Kd.R_alloc | apply Kd.R_drewN | apply Kd.R_drew)); exact Kd.R_mono (Kd.R_far (p := ⟨gb109, 2, none⟩) (Kd.R_far (p := ⟨gb109, 1, none⟩) (Kd.R_far (p := ⟨gb109, 0, none⟩) (Kd.R_mono HO_8.out (fun k_ hk => (⟨hk, hk.2⟩ : _ ∧ k_ ≠ gb109))) (fun _ hk => hk.2) (.string ((rd_T112 t105 x10_1).f0))) (fun _ hk => hk.2) (.int .i64 ((rd_T112 t105 x10_1).f1))) (fun _ hk => hk.2) (.int .i64 ((rd_T112 t105 x10_1).f2))) (fun _ hk => trivial)⟩, ⟨by repeat (first | (with_reducible first | exact HB.out | apply below_alloc | apply pw_below_drewN | apply below_drew1 | refine below_set ?_ GE109.out) | exact HB.out)⟩⟩
          · rw [if_neg c8] at H
            exact absurd H (by simp)
        · rw [if_neg c7] at H
          exact absurd H (by simp)
      · rw [if_neg c6] at H
        have c6b0 : decide (x10_1 < (t105.length : Int)) = false := decide_eq_false c6
        clear c6
        simp only [Option.some.injEq, Prod.mk.injEq] at H
        obtain ⟨rfl, rfl⟩ := H
        go_wp2
        go_ret2
        exact ⟨by first | rfl | (simp [errW_none, errW_some] <;> rfl) | (simp [*, errW_none, errW_some] <;> rfl), by repeat (first | (with_reducible first | exact HB.out | apply below_alloc | apply pw_below_drewN | apply below_drew1) | exact HB.out)⟩
def doorwardlaw13_alive.f (k : Nat)  : Option (Bool) := (call_Nr.f k 3221225534 (⟨#[111, 112, 101, 110, 97, 116]⟩ : ByteArray)).bind fun bt119 => (if bt119.2 = true then (some (bt119.1 == 257)) else (some false))
set_option maxHeartbeats 8000000 in
set_option maxRecDepth 100000 in
theorem doorwardlaw13_alive.calls (k : Nat)  (r : Bool) (w : World) (h : doorwardlaw13_alive.f k  = some r) :
    Calls Try.prog 32 #[] w fun e w' => e = .returned (.bool r) ∧ Below w.heap.size w w' := by
  have HB := Aside0.mk (Below.refl w.heap.size w)
  have H : ((call_Nr.f k 3221225534 (⟨#[111, 112, 101, 110, 97, 116]⟩ : ByteArray)).bind fun bt119 => (if bt119.2 = true then (some (bt119.1 == 257)) else (some false))) = some r := h
  clear h
  replace H := Option.bind_eq_some_iff.mp H
  obtain ⟨⟨t119, t120⟩, A10, H⟩ := H
  replace H : (if t120 = true then (some (t119 == 257)) else (some false)) = some r := H
  have A1 := Aside0.mk A10
  clear A10
  by_cases c2 : t120 = true
  · subst c2
    have H1 : (some (t119 == 257)) = some r := by rw [if_pos rfl] at H; exact H
    clear H
    have H := H1
    clear H1
    obtain rfl := Option.some.inj H
    go_enter Try.func32, Try.ntmps32
    go_wp2_with (first | ((with_reducible refine gate_callee (f := 30) rfl ?_); refine goesL_ (some 4) rfl rfl Try.func30 (by kernel_rfl) rfl #[.int .u32 3221225534, .string (⟨#[111, 112, 101, 110, 97, 116]⟩ : ByteArray)] rfl (by (try simp only [List.map_toArray, List.map_cons, List.map_nil]); first | done | rfl | (simp only [List.length_drop, List.length_take]; rfl)) ?_; (with_reducible refine (call_Nr.calls k 3221225534 (⟨#[111, 112, 101, 110, 97, 116]⟩ : ByteArray) t119 true _ A1.out).mono ?_); rintro e w3 ⟨rfl, hb⟩; refine ⟨_, rfl, ?_⟩; have n0_ := Aside0.mk (below_step (by repeat (first | (with_reducible first | exact HB.out | apply below_alloc | apply pw_below_drewN | apply below_drew1) | exact HB.out)) hb); clear HB; have HB := n0_; clear n0_; (try clear hb); (try clear hb2); (try clear hk); (try clear hi)))
    go_ret
    exact ⟨by first | rfl | (simp [errW_none, errW_some] <;> rfl) | (simp [*, errW_none, errW_some] <;> rfl), by repeat (first | (with_reducible first | exact HB.out | apply below_alloc | apply pw_below_drewN | apply below_drew1) | exact HB.out)⟩
  · replace c2 := Bool.eq_false_iff.mpr c2
    subst c2
    have H1 : (some false) = some r := by rw [if_neg (show ¬ (false = true) by decide)] at H; exact H
    clear H
    have H := H1
    clear H1
    obtain rfl := Option.some.inj H
    go_enter Try.func32, Try.ntmps32
    go_wp2_with (first | ((with_reducible refine gate_callee (f := 30) rfl ?_); refine goesL_ (some 4) rfl rfl Try.func30 (by kernel_rfl) rfl #[.int .u32 3221225534, .string (⟨#[111, 112, 101, 110, 97, 116]⟩ : ByteArray)] rfl (by (try simp only [List.map_toArray, List.map_cons, List.map_nil]); first | done | rfl | (simp only [List.length_drop, List.length_take]; rfl)) ?_; (with_reducible refine (call_Nr.calls k 3221225534 (⟨#[111, 112, 101, 110, 97, 116]⟩ : ByteArray) t119 false _ A1.out).mono ?_); rintro e w4 ⟨rfl, hb⟩; refine ⟨_, rfl, ?_⟩; have n0_ := Aside0.mk (below_step (by repeat (first | (with_reducible first | exact HB.out | apply below_alloc | apply pw_below_drewN | apply below_drew1) | exact HB.out)) hb); clear HB; have HB := n0_; clear n0_; (try clear hb); (try clear hb2); (try clear hk); (try clear hi)))
    go_ret
    exact ⟨by first | rfl | (simp [errW_none, errW_some] <;> rfl) | (simp [*, errW_none, errW_some] <;> rfl), by repeat (first | (with_reducible first | exact HB.out | apply below_alloc | apply pw_below_drewN | apply below_drew1) | exact HB.out)⟩
end Go.Proofs.Ytoeklekjhaigoaa.C1
end
section
namespace Go.Proofs.Ytoeklekjhaigoaa.C2
open Go.RowKit Go.Proofs.YtoeklekjhaigoaaW.PrintWords Go.Proofs.YtoeklekjhaigoaaW.PrintLast Go.Proofs.YtoeklekjhaigoaaW.PrintMore
attribute [local go_sem] max2_int min2_int max_two min_two max_three min_three max_four min_four IntKind.wrap_u32 IntKind.wrap_u8   -- for this text's walks alone
set_option linter.unusedVariables false
open Go.Proofs.Ytoeklekjhaigoaa.Le Go.Proofs.Ytoeklekjhaigoaa.C1
set_option linter.unusedSimpArgs false
def errW : Option Int → Value
  | none => .nilIface
  | some c => .iface 0 (.int .i64 c)
theorem errW_none : errW none = .nilIface := rfl
theorem errW_some (c : Int) : errW (some c) = .iface 0 (.int .i64 c) := rfl
end Go.Proofs.Ytoeklekjhaigoaa.C2
end
section
namespace Go.Proofs.Ytoeklekjhaigoaa.W0
open Go.RowKit Go.Proofs.YtoeklekjhaigoaaW.PrintWords Go.Proofs.YtoeklekjhaigoaaW.PrintLast Go.Proofs.YtoeklekjhaigoaaW.PrintMore
attribute [local go_sem] max2_int min2_int max_two min_two max_three min_three max_four min_four IntKind.wrap_u32 IntKind.wrap_u8   -- for this text's walks alone
set_option linter.unusedVariables false
open Go.Proofs.Ytoeklekjhaigoaa.Le Go.Proofs.Ytoeklekjhaigoaa.C1 Go.Proofs.Ytoeklekjhaigoaa.C2
set_option linter.unusedSimpArgs false
def errW : Option Int → Value
  | none => .nilIface
  | some c => .iface 0 (.int .i64 c)
theorem errW_none : errW none = .nilIface := rfl
theorem errW_some (c : Int) : errW (some c) = .iface 0 (.int .i64 c) := rfl
end Go.Proofs.Ytoeklekjhaigoaa.W0
end
section
namespace Go.Proofs.Ytoeklekjhaigoaa.W0
open Go.RowKit Go.Proofs.YtoeklekjhaigoaaW.PrintWords Go.Proofs.YtoeklekjhaigoaaW.PrintLast Go.Proofs.YtoeklekjhaigoaaW.PrintMore
attribute [local go_sem] max2_int min2_int max_two min_two max_three min_three max_four min_four IntKind.wrap_u32 IntKind.wrap_u8   -- for this text's walks alone
set_option linter.unusedVariables false
open Go.Proofs.Ytoeklekjhaigoaa.Le Go.Proofs.Ytoeklekjhaigoaa.C1 Go.Proofs.Ytoeklekjhaigoaa.C2
set_option linter.unusedSimpArgs false
def vm_Word.f (k : Nat) (a0 : ByteArray) (a1 : Int) : Option (Int × Int) := if (a0.size : Int) = 64 then (if a1 < 0 then (some (0, 51)) else (if a1 > 60 then (some (0, 51)) else (if (Int.tmod a1 4) = 0 then ((le_Get.f k a0 a1 4).bind fun bt113 => (some ((bt113.1) % 4294967296, bt113.2.2))) else (some (0, 51))))) else (some (0, 52))
set_option maxHeartbeats 8000000 in
set_option maxRecDepth 100000 in
theorem vm_Word.calls (k : Nat) (a0 : ByteArray) (a1 : Int) (r1 : Int) (r2 : Int) (w : World) (h : vm_Word.f k a0 a1 = some (r1, r2)) :
    Calls Try.prog 54 #[.string a0, .int .i64 a1] w fun e w' => e = .returned (.tuple #[.int .u32 r1, .int .i64 r2]) ∧ Drawn0 w w' := by
  have H : (if (a0.size : Int) = 64 then (if a1 < 0 then (some (0, 51)) else (if a1 > 60 then (some (0, 51)) else (if (Int.tmod a1 4) = 0 then ((le_Get.f k a0 a1 4).bind fun bt113 => (some ((bt113.1) % 4294967296, bt113.2.2))) else (some (0, 51))))) else (some (0, 52))) = some (r1, r2) := h
  clear h
  by_cases c3 : (a0.size : Int) = 64
  · rw [if_pos c3] at H
    have c3b0 : ((a0.size : Int) == 64) = true := beq_iff_eq.mpr c3
    have c3b1 : ((a0.size : Int) != 64) = false := bne_eq_false_iff_eq.mpr c3
    clear c3
    by_cases c4 : a1 < 0
    · rw [if_pos c4] at H
      have c4b0 : decide (a1 < 0) = true := decide_eq_true c4
      clear c4
      simp only [Option.some.injEq, Prod.mk.injEq] at H
      obtain ⟨rfl, rfl⟩ := H
      go_enter Try.func54, Try.ntmps54
      go_wp2
      go_ret2
      exact ⟨by first | rfl | (simp; done) | (simp [*]; done), by repeat (first | exact Drawn0.refl _ | apply Drawn0.step)⟩
    · rw [if_neg c4] at H
      have c4b0 : decide (a1 < 0) = false := decide_eq_false c4
      clear c4
      by_cases c5 : a1 > 60
      · rw [if_pos c5] at H
        have c5b0 : decide (60 < a1) = true := decide_eq_true c5
        clear c5
        simp only [Option.some.injEq, Prod.mk.injEq] at H
        obtain ⟨rfl, rfl⟩ := H
        go_enter Try.func54, Try.ntmps54
        go_wp2
        go_ret2
        exact ⟨by first | rfl | (simp; done) | (simp [*]; done), by repeat (first | exact Drawn0.refl _ | apply Drawn0.step)⟩
      · rw [if_neg c5] at H
        have c5b0 : decide (60 < a1) = false := decide_eq_false c5
        clear c5
        by_cases c6 : (Int.tmod a1 4) = 0
        · rw [if_pos c6] at H
          have c6b0 : ((Int.tmod a1 4) == 0) = true := beq_iff_eq.mpr c6
          have c6b1 : ((Int.tmod a1 4) != 0) = false := bne_eq_false_iff_eq.mpr c6
          clear c6
          replace H := Option.bind_eq_some_iff.mp H
          obtain ⟨⟨t113, t114, t115⟩, A70, H⟩ := H
          replace H : (some ((t113) % 4294967296, t115)) = some (r1, r2) := H
          have A7 := Aside0.mk A70
          clear A70
          simp only [Option.some.injEq, Prod.mk.injEq] at H
          obtain ⟨rfl, rfl⟩ := H
          go_enter Try.func54, Try.ntmps54
          go_wp2_with (first | ((with_reducible refine gate_callee (f := 95) rfl ?_); refine goesL_ (some 28) rfl rfl Try.func95 (by kernel_rfl) rfl #[.string a0, .int .i64 a1, .int .i64 4] rfl (by (try simp only [List.map_toArray, List.map_cons, List.map_nil]); first | done | rfl | (simp only [List.length_drop, List.length_take]; rfl)) ?_; (with_reducible refine (le_Get.calls k a0 a1 4 t113 t114 t115 _ A7.out).mono ?_); rintro e w' ⟨rfl, ⟨nd, rfl⟩⟩; refine ⟨_, rfl, ?_⟩))
          go_ret2
          exact ⟨by first | rfl | (simp; done) | (simp [*]; done), by repeat (first | exact Drawn0.refl _ | apply Drawn0.step)⟩
        · rw [if_neg c6] at H
          have c6b0 : ((Int.tmod a1 4) == 0) = false := beq_eq_false_iff_ne.mpr c6
          have c6b1 : ((Int.tmod a1 4) != 0) = true := bne_iff_ne.mpr c6
          simp only [Option.some.injEq, Prod.mk.injEq] at H
          obtain ⟨rfl, rfl⟩ := H
          go_enter Try.func54, Try.ntmps54
          go_wp2
          go_ret2
          exact ⟨by first | rfl | (simp; done) | (simp [*]; done), by repeat (first | exact Drawn0.refl _ | apply Drawn0.step)⟩
  · rw [if_neg c3] at H
    have c3b0 : ((a0.size : Int) == 64) = false := beq_eq_false_iff_ne.mpr c3
    have c3b1 : ((a0.size : Int) != 64) = true := bne_iff_ne.mpr c3
    simp only [Option.some.injEq, Prod.mk.injEq] at H
    obtain ⟨rfl, rfl⟩ := H
    go_enter Try.func54, Try.ntmps54
    go_wp2
    go_ret2
    exact ⟨by first | rfl | (simp; done) | (simp [*]; done), by repeat (first | exact Drawn0.refl _ | apply Drawn0.step)⟩
end Go.Proofs.Ytoeklekjhaigoaa.W0
end
section
namespace Go.Proofs.Ytoeklekjhaigoaa.W1
open Go.RowKit Go.Proofs.YtoeklekjhaigoaaW.PrintWords Go.Proofs.YtoeklekjhaigoaaW.PrintLast Go.Proofs.YtoeklekjhaigoaaW.PrintMore
attribute [local go_sem] max2_int min2_int max_two min_two max_three min_three max_four min_four IntKind.wrap_u32 IntKind.wrap_u8   -- for this text's walks alone
set_option linter.unusedVariables false
open Go.Proofs.Ytoeklekjhaigoaa.Le Go.Proofs.Ytoeklekjhaigoaa.C1 Go.Proofs.Ytoeklekjhaigoaa.C2 Go.Proofs.Ytoeklekjhaigoaa.W0
set_option linter.unusedSimpArgs false
def errW : Option Int → Value
  | none => .nilIface
  | some c => .iface 0 (.int .i64 c)
theorem errW_none : errW none = .nilIface := rfl
theorem errW_some (c : Int) : errW (some c) = .iface 0 (.int .i64 c) := rfl
end Go.Proofs.Ytoeklekjhaigoaa.W1
end
section
namespace Go.Proofs.Ytoeklekjhaigoaa.R01
open Go.RowKit Go.Proofs.YtoeklekjhaigoaaW.PrintWords Go.Proofs.YtoeklekjhaigoaaW.PrintLast Go.Proofs.YtoeklekjhaigoaaW.PrintMore
attribute [local go_sem] max2_int min2_int max_two min_two max_three min_three max_four min_four IntKind.wrap_u32 IntKind.wrap_u8   -- for this text's walks alone
set_option linter.unusedVariables false
open Go.Proofs.Ytoeklekjhaigoaa.Le Go.Proofs.Ytoeklekjhaigoaa.C1 Go.Proofs.Ytoeklekjhaigoaa.C2 Go.Proofs.Ytoeklekjhaigoaa.W0 Go.Proofs.Ytoeklekjhaigoaa.W1
set_option linter.unusedSimpArgs false
def errW : Option Int → Value
  | none => .nilIface
  | some c => .iface 0 (.int .i64 c)
theorem errW_none : errW none = .nilIface := rfl
theorem errW_some (c : Int) : errW (some c) = .iface 0 (.int .i64 c) := rfl
end Go.Proofs.Ytoeklekjhaigoaa.R01
end
section
namespace Go.Proofs.Ytoeklekjhaigoaa.K49
open Go.RowKit Go.Proofs.YtoeklekjhaigoaaW.PrintWords Go.Proofs.YtoeklekjhaigoaaW.PrintLast Go.Proofs.YtoeklekjhaigoaaW.PrintMore
structure S47 where
  f0 : Int
  f1 : Int
  f2 : Int
  f3 : Int
  f4 : Int
  f5 : Int
def k47 : Kd S47 := Kd.iso (Kd.pair (Kd.int .u64) (Kd.pair (Kd.int .u64) (Kd.pair (Kd.int .u64) (Kd.pair (Kd.int .u64) (Kd.pair (Kd.int .u64) (Kd.int .u64)))))) (fun x : S47 => (x.f0, x.f1, x.f2, x.f3, x.f4, x.f5))
structure S49 where
  f0 : Int
  f1 : Int
  f2 : Int
  f3 : S47
def k49 : Kd S49 := Kd.iso (Kd.pair (Kd.int .u32) (Kd.pair (Kd.int .u32) (Kd.pair (Kd.int .u64) k47))) (fun x : S49 => (x.f0, x.f1, x.f2, x.f3))
theorem k49_open {w : World} {x : S49} {cs : List Value} (h : k49.K w x cs) : cs = [.int .u32 x.f0, .int .u32 x.f1, .int .u64 x.f2, .int .u64 x.f3.f0, .int .u64 x.f3.f1, .int .u64 x.f3.f2, .int .u64 x.f3.f3, .int .u64 x.f3.f4, .int .u64 x.f3.f5] := by
  obtain ⟨_, _, rfl, rfl, ⟨_, _, rfl, rfl, ⟨_, _, rfl, rfl, ⟨_, _, rfl, rfl, ⟨_, _, rfl, rfl, ⟨_, _, rfl, rfl, ⟨_, _, rfl, rfl, ⟨_, _, rfl, rfl, rfl⟩⟩⟩⟩⟩⟩⟩⟩ := h
  exact rfl
end Go.Proofs.Ytoeklekjhaigoaa.K49
end
section
namespace Go.Proofs.Ytoeklekjhaigoaa.QCall
open Go.RowKit Go.Proofs.YtoeklekjhaigoaaW.PrintWords Go.Proofs.YtoeklekjhaigoaaW.PrintLast Go.Proofs.YtoeklekjhaigoaaW.PrintMore Go.Proofs.Ytoeklekjhaigoaa.Le Go.Proofs.Ytoeklekjhaigoaa.C1 Go.Proofs.Ytoeklekjhaigoaa.QNum Go.Proofs.Ytoeklekjhaigoaa.QLe
set_option linter.unusedVariables false
set_option linter.unusedSimpArgs false
set_option maxRecDepth 100000
def tbl : List S112 := call_table.f.getD []
theorem tbl_f : call_table.f = some tbl := rfl
theorem tbl_len : tbl.length = 35 := by decide +kernel
/-- A row's number. -/
def num (r : S112) (a : Int) : Int × Bool := if a = 3221225534 then (mx r.f1 0 % 4294967296, decide (r.f1 ≥ 0)) else if a = 3221225655 then (mx r.f2 0 % 4294967296, decide (r.f2 ≥ 0)) else (0, false)
theorem num_f (r : S112) (a : Int) : call_row_number.f r.f0 r.f1 r.f2 a = some (num r a) := by
  unfold call_row_number.f num
  split
  · rfl
  · split
    · rfl
    · simp [mx]
def findNr (a : Int) (nm : List UInt8) : List S112 → Int × Bool
  | [] => (0, false)
  | r :: t => if r.f0.toList = nm then num r a else findNr a nm t
theorem rd_get (xs : List S112) (i : Nat) (h : i < xs.length) : rd_T112 xs i = xs[i] := by
  unfold rd_T112; simp [List.getD, h]
theorem nr_loop (a : Int) (nm : ByteArray) (xs : List S112) (hl : xs.length < 1000000) : ∀ n i : Nat, i + n = xs.length → ∀ k, n < k → call_Nr.l0 k a nm xs (xs.length : Int) i = some (findNr a nm.toList (xs.drop i)) := by
  intro n
  induction n with
  | zero =>
    intro i hi k hk
    obtain ⟨k, rfl⟩ : ∃ m, k = m + 1 := ⟨k - 1, by omega⟩
    simp only [call_Nr.l0]
    rw [if_neg (by omega), List.drop_eq_nil_of_le (by omega)]; rfl
  | succ n ih =>
    intro i hi k hk
    obtain ⟨k, rfl⟩ : ∃ m, k = m + 1 := ⟨k - 1, by omega⟩
    simp only [call_Nr.l0]
    have hlt : i < xs.length := by omega
    rw [if_pos (by omega), if_pos (by omega), if_pos (by omega), rd_get xs i hlt, List.drop_eq_getElem_cons hlt, w64 _ (by omega) (by omega), num_f]
    simp only [findNr, Option.bind_some]
    split
    · rfl
    · exact ih (i + 1) (by omega) k (by omega)
theorem nr_f (a : Int) (nm : ByteArray) (k : Nat) (hk : 36 ≤ k) : call_Nr.f k a nm = some (findNr a nm.toList tbl) := by
  unfold call_Nr.f
  rw [tbl_f]
  simp only [Option.bind_some]
  exact nr_loop a nm tbl (by rw [tbl_len]; omega) tbl.length 0 (by omega) k (by rw [tbl_len]; omega)
theorem alive_ok (k : Nat) (hk : 36 ≤ k) : doorwardlaw13_alive.f k = some true := by
  unfold doorwardlaw13_alive.f
  rw [nr_f _ _ k hk]
  have : findNr 3221225534 (⟨#[111, 112, 101, 110, 97, 116]⟩ : ByteArray).toList tbl = (257, true) := by decide +kernel
  rw [this]; rfl
end Go.Proofs.Ytoeklekjhaigoaa.QCall
end
section
namespace Go.Proofs.Ytoeklekjhaigoaa.HLaw13
open Go.RowKit Go.Proofs.YtoeklekjhaigoaaW.PrintWords Go.Proofs.YtoeklekjhaigoaaW.PrintLast Go.Proofs.YtoeklekjhaigoaaW.PrintMore Go.Proofs.Ytoeklekjhaigoaa.Le Go.Proofs.Ytoeklekjhaigoaa.C1 Go.Proofs.Ytoeklekjhaigoaa.QCall Go.Proofs.Ytoeklekjhaigoaa.QLe Go.Proofs.Ytoeklekjhaigoaa.QNum Go.Proofs.Ytoeklekjhaigoaa.HPack Go.Proofs.Ytoeklekjhaigoaa.HUnpack
set_option linter.unusedVariables false
set_option linter.unusedSimpArgs false
set_option maxRecDepth 100000
attribute [local go_sem] max2_int min2_int max_two min_two max_three min_three max_four min_four IntKind.wrap_u32 IntKind.wrap_u8
def R9 (w : World) (g : Nat) (x0 x1 x2 x3 x4 x5 x6 x7 x8 : Int) : Prop := w.heap[g]? = some (.cells #[.int .u32 x0, .int .u32 x1, .int .u64 x2, .int .u64 x3, .int .u64 x4, .int .u64 x5, .int .u64 x6, .int .u64 x7, .int .u64 x8] 49 (0, 0))
theorem R9.below {w w1 : World} {g : Nat} {x0 x1 x2 x3 x4 x5 x6 x7 x8 : Int} (h : R9 w g x0 x1 x2 x3 x4 x5 x6 x7 x8) (hb : Below w.heap.size w w1) : R9 w1 g x0 x1 x2 x3 x4 x5 x6 x7 x8 := blk_below h hb
theorem R9.alloc {w : World} {g : Nat} {x0 x1 x2 x3 x4 x5 x6 x7 x8 : Int} (h : R9 w g x0 x1 x2 x3 x4 x5 x6 x7 x8) (o : Obj) : R9 (w.alloc o) g x0 x1 x2 x3 x4 x5 x6 x7 x8 := blk_alloc h o
theorem R9.new (w : World) (x0 x1 x2 x3 x4 x5 x6 x7 x8 : Int) : R9 (w.alloc (.cells #[.int .u32 x0, .int .u32 x1, .int .u64 x2, .int .u64 x3, .int .u64 x4, .int .u64 x5, .int .u64 x6, .int .u64 x7, .int .u64 x8] 49)) w.heap.size x0 x1 x2 x3 x4 x5 x6 x7 x8 := heap_alloc_new _ _
abbrev PackAny (f : Nat) (x0 x1 x2 x3 x4 x5 x6 x7 x8 : Int) (r : ByteArray) : Prop := ∀ W : World, Calls Try.prog f #[.agg #[.int .u32 x0, .int .u32 x1, .int .u64 x2, .int .u64 x3, .int .u64 x4, .int .u64 x5, .int .u64 x6, .int .u64 x7, .int .u64 x8]] W fun e w' => e = .returned (.string r) ∧ Below W.heap.size W w'
theorem alive_any (W : World) : Calls Try.prog 32 #[] W fun e w' => e = .returned (.bool true) ∧ Below W.heap.size W w' :=
  (doorwardlaw13_alive.calls 40 true W (alive_ok 40 (by omega))).mono (fun e w' h => ⟨h.1, by first | exact h.2 | exact h.2.below⟩)
end Go.Proofs.Ytoeklekjhaigoaa.HLaw13
end
section
namespace Go.Proofs.Ytoeklekjhaigoaa.QBack
open Go.RowKit Go.Proofs.YtoeklekjhaigoaaW.PrintWords Go.Proofs.YtoeklekjhaigoaaW.PrintLast Go.Proofs.YtoeklekjhaigoaaW.PrintMore Go.Proofs.Ytoeklekjhaigoaa.C1 Go.Proofs.Ytoeklekjhaigoaa.QLe Go.Proofs.Ytoeklekjhaigoaa.QNum Go.Proofs.Ytoeklekjhaigoaa.QCall Go.Proofs.Ytoeklekjhaigoaa.HPack Go.Proofs.Ytoeklekjhaigoaa.HUnpack
set_option linter.unusedVariables false
set_option linter.unusedSimpArgs false
theorem piece (a b c : List UInt8) (p n : Nat) (h : a.length = p) (k : b.length = n) : (((a ++ b) ++ c).drop p).take n = b := by
  rw [List.append_assoc, List.drop_left' h, List.take_left' k]
theorem pack_list (nr arch ip a0 a1 a2 a3 a4 a5 : Int) : (packB nr arch ip a0 a1 a2 a3 a4 a5).data.toList = by8 (leB nr 4) ++ (by8 (leB arch 4) ++ (by8 (leB ip 8) ++ (by8 (leB a0 8) ++ (by8 (leB a1 8) ++ (by8 (leB a2 8) ++ (by8 (leB a3 8) ++ (by8 (leB a4 8) ++ by8 (leB a5 8)))))))) := by
  simp only [packB, packTo, app_data, sON_by8, ar, List.append_assoc]
  rfl
theorem pack_size (nr arch ip a0 a1 a2 a3 a4 a5 : Int) : (packB nr arch ip a0 a1 a2 a3 a4 a5).size = 64 := packTo_size nr arch ip a0 a1 a2 a3 a4 a5 6
theorem p4 : (256 : Int) ^ 4 = 4294967296 := by decide
theorem p8 : (256 : Int) ^ 8 = 18446744073709551616 := by decide
theorem lev_piece (s : ByteArray) (x : Int) (p n : Nat) (a c : List UInt8) (hl : s.data.toList = (a ++ by8 (leB x n)) ++ c) (ha : a.length = p) (h0 : 0 ≤ x) (h1 : x < 256 ^ n) (hs : p + n ≤ s.size) : leval s (p : Int) n = x := by
  rw [leval_num s p n hs, hl, piece a _ c p n ha (by8_leB_length _ _), num_leB n x h0 h1]
theorem unp_pack (nr arch ip a0 a1 a2 a3 a4 a5 : Int) (hnr : 0 ≤ nr ∧ nr < 4294967296) (har : 0 ≤ arch ∧ arch < 4294967296) (hip : 0 ≤ ip ∧ ip < 18446744073709551616) (h0 : 0 ≤ a0 ∧ a0 < 18446744073709551616) (h1 : 0 ≤ a1 ∧ a1 < 18446744073709551616) (h2 : 0 ≤ a2 ∧ a2 < 18446744073709551616) (h3 : 0 ≤ a3 ∧ a3 < 18446744073709551616) (h4 : 0 ≤ a4 ∧ a4 < 18446744073709551616) (h5 : 0 ≤ a5 ∧ a5 < 18446744073709551616) :
    unp (packB nr arch ip a0 a1 a2 a3 a4 a5) = some (nr, arch, ip, a0, a1, a2, a3, a4, a5) := by
  have hz := pack_size nr arch ip a0 a1 a2 a3 a4 a5
  have hl := pack_list nr arch ip a0 a1 a2 a3 a4 a5
  generalize packB nr arch ip a0 a1 a2 a3 a4 a5 = s at hz hl
  have L4 := fun x => by8_leB_length x 4
  have L8 := fun x => by8_leB_length x 8
  have e0 : leval s ((0 : Nat) : Int) 4 = nr := lev_piece s nr 0 4 [] _ (by rw [hl]; rfl) rfl hnr.1 (by rw [p4]; exact hnr.2) (by omega)
  have e1 : leval s ((4 : Nat) : Int) 4 = arch := lev_piece s arch 4 4 (by8 (leB nr 4)) _ (by rw [hl]; simp only [List.append_assoc]; rfl) (by simp [L4]) har.1 (by rw [p4]; exact har.2) (by omega)
  have e2 : leval s ((8 : Nat) : Int) 8 = ip := lev_piece s ip 8 8 (by8 (leB nr 4) ++ by8 (leB arch 4)) _ (by rw [hl]; simp only [List.append_assoc]; rfl) (by simp [L4]) hip.1 (by rw [p8]; exact hip.2) (by omega)
  have e3 : leval s ((16 : Nat) : Int) 8 = a0 := lev_piece s a0 16 8 (by8 (leB nr 4) ++ (by8 (leB arch 4) ++ by8 (leB ip 8))) _ (by rw [hl]; simp only [List.append_assoc]; rfl) (by simp [L4, L8]) h0.1 (by rw [p8]; exact h0.2) (by omega)
  have e4 : leval s ((24 : Nat) : Int) 8 = a1 := lev_piece s a1 24 8 (by8 (leB nr 4) ++ (by8 (leB arch 4) ++ (by8 (leB ip 8) ++ by8 (leB a0 8)))) _ (by rw [hl]; simp only [List.append_assoc]; rfl) (by simp [L4, L8]) h1.1 (by rw [p8]; exact h1.2) (by omega)
  have e5 : leval s ((32 : Nat) : Int) 8 = a2 := lev_piece s a2 32 8 (by8 (leB nr 4) ++ (by8 (leB arch 4) ++ (by8 (leB ip 8) ++ (by8 (leB a0 8) ++ by8 (leB a1 8))))) _ (by rw [hl]; simp only [List.append_assoc]; rfl) (by simp [L4, L8]) h2.1 (by rw [p8]; exact h2.2) (by omega)
  have e6 : leval s ((40 : Nat) : Int) 8 = a3 := lev_piece s a3 40 8 (by8 (leB nr 4) ++ (by8 (leB arch 4) ++ (by8 (leB ip 8) ++ (by8 (leB a0 8) ++ (by8 (leB a1 8) ++ by8 (leB a2 8)))))) _ (by rw [hl]; simp only [List.append_assoc]; rfl) (by simp [L4, L8]) h3.1 (by rw [p8]; exact h3.2) (by omega)
  have e7 : leval s ((48 : Nat) : Int) 8 = a4 := lev_piece s a4 48 8 (by8 (leB nr 4) ++ (by8 (leB arch 4) ++ (by8 (leB ip 8) ++ (by8 (leB a0 8) ++ (by8 (leB a1 8) ++ (by8 (leB a2 8) ++ by8 (leB a3 8))))))) _ (by rw [hl]; simp only [List.append_assoc]; rfl) (by simp [L4, L8]) h4.1 (by rw [p8]; exact h4.2) (by omega)
  have e8 : leval s ((56 : Nat) : Int) 8 = a5 := lev_piece s a5 56 8 (by8 (leB nr 4) ++ (by8 (leB arch 4) ++ (by8 (leB ip 8) ++ (by8 (leB a0 8) ++ (by8 (leB a1 8) ++ (by8 (leB a2 8) ++ (by8 (leB a3 8) ++ by8 (leB a4 8)))))))) [] (by rw [hl]; simp only [List.append_assoc, List.append_nil]) (by simp [L4, L8]) h5.1 (by rw [p8]; exact h5.2) (by omega)
  unfold unp
  rw [if_pos hz]
  rw [show leval s 0 4 = nr from e0, show leval s 4 4 = arch from e1, show leval s 8 8 = ip from e2, show leval s 16 8 = a0 from e3, show leval s 24 8 = a1 from e4, show leval s 32 8 = a2 from e5, show leval s 40 8 = a3 from e6, show leval s 48 8 = a4 from e7, show leval s 56 8 = a5 from e8, Int.emod_eq_of_lt hnr.1 hnr.2, Int.emod_eq_of_lt har.1 har.2]
end Go.Proofs.Ytoeklekjhaigoaa.QBack
end
section
namespace Go.Proofs.Ytoeklekjhaigoaa.QWalk
open Go.RowKit Go.Proofs.YtoeklekjhaigoaaW.PrintWords Go.Proofs.YtoeklekjhaigoaaW.PrintLast Go.Proofs.YtoeklekjhaigoaaW.PrintMore Go.Proofs.Ytoeklekjhaigoaa.Le Go.Proofs.Ytoeklekjhaigoaa.QLe Go.Proofs.Ytoeklekjhaigoaa.QNum Go.Proofs.Ytoeklekjhaigoaa.W0 Go.Proofs.Ytoeklekjhaigoaa.W1 Go.Proofs.Ytoeklekjhaigoaa.W0
set_option linter.unusedVariables false
set_option linter.unusedSimpArgs false
/-- A word of a record, where there is one. -/
def wdS (s : ByteArray) (k : Int) : Option Int := if 0 ≤ k ∧ k ≤ 60 ∧ k % 4 = 0 then some (num ((s.data.toList.drop k.toNat).take 4)) else none
theorem word_f (s : ByteArray) (hs : s.size = 64) (a : Int) : ∀ k, 20 ≤ k → vm_Word.f k s a = some (match wdS s a with | some w => (w, 0) | none => (0, 51)) := by
  intro k hk
  unfold vm_Word.f wdS
  rw [if_pos (by omega)]
  by_cases h0 : a < 0
  · rw [if_pos h0, if_neg (by omega)]
  · rw [if_neg h0]
    by_cases h1 : a > 60
    · rw [if_pos h1, if_neg (by omega)]
    · rw [if_neg h1, Int.tmod_eq_emod_of_nonneg (by omega)]
      by_cases h2 : a % 4 = 0
      · rw [if_pos h2, if_pos ⟨by omega, by omega, h2⟩]
        obtain ⟨n, rfl⟩ : ∃ n : Nat, a = n := ⟨a.toNat, by omega⟩
        have g := get_ok s (n : Int) 4 (by omega) (by omega) (by omega) (by omega) (by omega) k (by omega)
        have g' : le_Get.f k s (n : Int) 4 = some (leval s n 4, (n : Int) + 4, 0) := g
        rw [g']
        simp only [Option.bind_some, Int.toNat_natCast]
        have hl := leval_num s n 4 (by omega)
        have hr := leval_range s (n : Int) 4
        have p4 : (256 : Int) ^ 4 = 4294967296 := by decide
        rw [Int.emod_eq_of_lt hr.1 (by omega), hl]
      · rw [if_neg h2, if_neg (fun g => h2 g.2.2)]
end Go.Proofs.Ytoeklekjhaigoaa.QWalk
end
section
namespace Go.Proofs.Ytoeklekjhaigoaa.QWords
open Go.RowKit Go.Proofs.YtoeklekjhaigoaaW.PrintWords Go.Proofs.YtoeklekjhaigoaaW.PrintLast Go.Proofs.YtoeklekjhaigoaaW.PrintMore Go.Proofs.Ytoeklekjhaigoaa.W0 Go.Proofs.Ytoeklekjhaigoaa.QLe Go.Proofs.Ytoeklekjhaigoaa.QNum Go.Proofs.Ytoeklekjhaigoaa.HPack Go.Proofs.Ytoeklekjhaigoaa.HUnpack Go.Proofs.Ytoeklekjhaigoaa.QBack Go.Proofs.Ytoeklekjhaigoaa.QWalk
set_option linter.unusedVariables false
set_option linter.unusedSimpArgs false
def sh (x : Int) : Int := x / 4294967296 % 4294967296
theorem sh_div (x : Int) (h0 : 0 ≤ x) (h1 : x < 18446744073709551616) : sh x = x / 4294967296 := by
  unfold sh
  omega
def W16 (nr arch ip a0 a1 a2 a3 a4 a5 : Int) : List Int := [nr, arch, ip % 4294967296, sh ip, a0 % 4294967296, sh a0, a1 % 4294967296, sh a1, a2 % 4294967296, sh a2, a3 % 4294967296, sh a3, a4 % 4294967296, sh a4, a5 % 4294967296, sh a5]
theorem lev_two (s : ByteArray) (p : Nat) (hp : p + 8 ≤ s.size) : leval s (p : Int) 8 = leval s (p : Int) 4 + leval s ((p + 4 : Nat) : Int) 4 * 4294967296 := by
  rw [leval_num s p 8 hp, leval_num s p 4 (by omega), leval_num s (p + 4) 4 (by omega)]
  have hl := len_data s
  generalize s.data.toList = l at hl
  have e : (l.drop p).take 8 = (l.drop p).take 4 ++ (l.drop (p + 4)).take 4 := by
    rw [show (8 : Nat) = 4 + 4 from rfl, List.take_add, List.drop_drop]
  have e2 : ((l.drop p).take 4).length = 4 := by simp; omega
  rw [e, num_append, e2, p4]
theorem lev_low (s : ByteArray) (p : Nat) (x : Int) (hp : p + 8 ≤ s.size) (h : leval s (p : Int) 8 = x) : leval s (p : Int) 4 = x % 4294967296 ∧ leval s ((p + 4 : Nat) : Int) 4 = x / 4294967296 := by
  have e := lev_two s p hp
  have r1 := leval_range s (p : Int) 4
  have r2 := leval_range s ((p + 4 : Nat) : Int) 4
  rw [p4] at r1 r2
  omega
theorem wd_lev (s : ByteArray) (hs : s.size = 64) (j : Nat) (hj : j < 16) : wdS s ((4 * j : Nat) : Int) = some (leval s ((4 * j : Nat) : Int) 4) := by
  unfold wdS
  rw [if_pos ⟨by omega, by omega, by omega⟩, leval_num s (4 * j) 4 (by omega), Int.toNat_natCast]
theorem words (nr arch ip a0 a1 a2 a3 a4 a5 : Int) (hnr : 0 ≤ nr ∧ nr < 4294967296) (har : 0 ≤ arch ∧ arch < 4294967296) (hip : 0 ≤ ip ∧ ip < 18446744073709551616) (h0 : 0 ≤ a0 ∧ a0 < 18446744073709551616) (h1 : 0 ≤ a1 ∧ a1 < 18446744073709551616) (h2 : 0 ≤ a2 ∧ a2 < 18446744073709551616) (h3 : 0 ≤ a3 ∧ a3 < 18446744073709551616) (h4 : 0 ≤ a4 ∧ a4 < 18446744073709551616) (h5 : 0 ≤ a5 ∧ a5 < 18446744073709551616) (j : Nat) (hj : j < 16) :
    leval (packB nr arch ip a0 a1 a2 a3 a4 a5) ((4 * j : Nat) : Int) 4 = (W16 nr arch ip a0 a1 a2 a3 a4 a5).getD j 0 := by
  have hz := pack_size nr arch ip a0 a1 a2 a3 a4 a5
  have hu := unp_pack nr arch ip a0 a1 a2 a3 a4 a5 hnr har hip h0 h1 h2 h3 h4 h5
  generalize packB nr arch ip a0 a1 a2 a3 a4 a5 = s at hz hu
  unfold unp at hu
  rw [if_pos hz] at hu
  simp only [Option.some.injEq, Prod.mk.injEq] at hu
  obtain ⟨e0, e1, e2, e3, e4, e5, e6, e7, e8⟩ := hu
  have r0 := leval_range s 0 4
  have r1 := leval_range s 4 4
  rw [p4] at r0 r1
  rw [Int.emod_eq_of_lt r0.1 r0.2] at e0
  rw [Int.emod_eq_of_lt r1.1 r1.2] at e1
  have k2 := lev_low s 8 ip (by omega) e2
  have k3 := lev_low s 16 a0 (by omega) e3
  have k4 := lev_low s 24 a1 (by omega) e4
  have k5 := lev_low s 32 a2 (by omega) e5
  have k6 := lev_low s 40 a3 (by omega) e6
  have k7 := lev_low s 48 a4 (by omega) e7
  have k8 := lev_low s 56 a5 (by omega) e8
  rw [← sh_div ip hip.1 hip.2] at k2
  rw [← sh_div a0 h0.1 h0.2] at k3
  rw [← sh_div a1 h1.1 h1.2] at k4
  rw [← sh_div a2 h2.1 h2.2] at k5
  rw [← sh_div a3 h3.1 h3.2] at k6
  rw [← sh_div a4 h4.1 h4.2] at k7
  rw [← sh_div a5 h5.1 h5.2] at k8
  match j, hj with
  | 0, _ => exact e0
  | 1, _ => exact e1
  | 2, _ => exact k2.1
  | 3, _ => exact k2.2
  | 4, _ => exact k3.1
  | 5, _ => exact k3.2
  | 6, _ => exact k4.1
  | 7, _ => exact k4.2
  | 8, _ => exact k5.1
  | 9, _ => exact k5.2
  | 10, _ => exact k6.1
  | 11, _ => exact k6.2
  | 12, _ => exact k7.1
  | 13, _ => exact k7.2
  | 14, _ => exact k8.1
  | 15, _ => exact k8.2
  | n + 16, h => omega
theorem word_any (nr arch ip a0 a1 a2 a3 a4 a5 : Int) (hnr : 0 ≤ nr ∧ nr < 4294967296) (har : 0 ≤ arch ∧ arch < 4294967296) (hip : 0 ≤ ip ∧ ip < 18446744073709551616) (h0 : 0 ≤ a0 ∧ a0 < 18446744073709551616) (h1 : 0 ≤ a1 ∧ a1 < 18446744073709551616) (h2 : 0 ≤ a2 ∧ a2 < 18446744073709551616) (h3 : 0 ≤ a3 ∧ a3 < 18446744073709551616) (h4 : 0 ≤ a4 ∧ a4 < 18446744073709551616) (h5 : 0 ≤ a5 ∧ a5 < 18446744073709551616) (j : Nat) (hj : j < 16) (W : World) :
    Calls Try.prog 54 #[.string (packB nr arch ip a0 a1 a2 a3 a4 a5), .int .i64 (4 * (j : Int))] W fun e w' => e = .returned (.tuple #[.int .u32 ((W16 nr arch ip a0 a1 a2 a3 a4 a5).getD j 0), .int .i64 0]) ∧ Drawn0 W w' := by
  have h := word_f (packB nr arch ip a0 a1 a2 a3 a4 a5) (pack_size ..) ((4 * j : Nat) : Int) 20 (by omega)
  rw [wd_lev _ (pack_size ..) j hj, words nr arch ip a0 a1 a2 a3 a4 a5 hnr har hip h0 h1 h2 h3 h4 h5 j hj] at h
  rw [show 4 * (j : Int) = ((4 * j : Nat) : Int) by omega]
  exact vm_Word.calls 20 _ _ _ _ W h
def wantL (L : List Int) (j : Nat) : List Int := L.take (4 + 2 * j)
end Go.Proofs.Ytoeklekjhaigoaa.QWords
end
section
namespace Go.Proofs.Ytoeklekjhaigoaa.HWords
open Go.RowKit Go.Proofs.YtoeklekjhaigoaaW.PrintWords Go.Proofs.YtoeklekjhaigoaaW.PrintLast Go.Proofs.YtoeklekjhaigoaaW.PrintMore Go.Proofs.Ytoeklekjhaigoaa.Le Go.Proofs.Ytoeklekjhaigoaa.C1 Go.Proofs.Ytoeklekjhaigoaa.QCall Go.Proofs.Ytoeklekjhaigoaa.QLe Go.Proofs.Ytoeklekjhaigoaa.HPack Go.Proofs.Ytoeklekjhaigoaa.HUnpack Go.Proofs.Ytoeklekjhaigoaa.HLaw13 Go.Proofs.Ytoeklekjhaigoaa.QBack Go.Proofs.Ytoeklekjhaigoaa.QWords
set_option linter.unusedVariables false
set_option linter.unusedSimpArgs false
set_option maxRecDepth 100000
attribute [local go_sem] max2_int min2_int max_two min_two max_three min_three max_four min_four IntKind.wrap_u32 IntKind.wrap_u8
theorem want_step (nr arch ip a0 a1 a2 a3 a4 a5 : Int) (j : Nat) (hj : j < 6) : wantL (W16 nr arch ip a0 a1 a2 a3 a4 a5) j ++ [ar a0 a1 a2 a3 a4 a5 j % 4294967296, ar a0 a1 a2 a3 a4 a5 j / 4294967296 % 4294967296] = wantL (W16 nr arch ip a0 a1 a2 a3 a4 a5) (j + 1) := by
  match j, hj with
  | 0, _ | 1, _ | 2, _ | 3, _ | 4, _ | 5, _ => rfl
theorem want_len (nr arch ip a0 a1 a2 a3 a4 a5 : Int) (j : Nat) : (wantL (W16 nr arch ip a0 a1 a2 a3 a4 a5) j).length ≤ 16 := by
  unfold wantL; rw [List.length_take]; exact Nat.min_le_right _ _
theorem info22 : (Try.prog.info? 22).map (fun i => (i.zero, i.size, i.bytes)) = some (some (.int .u32 0), 1, 4) := by kernel_rfl
abbrev WordAny (rec : ByteArray) (j : Nat) (x : Int) : Prop := ∀ W : World, Calls Try.prog 54 #[.string rec, .int .i64 (4 * (j : Int))] W fun e w' => e = .returned (.tuple #[.int .u32 x, .int .i64 0]) ∧ Drawn0 W w'
set_option maxHeartbeats 4000000 in
theorem words_any (nr arch ip a0 a1 a2 a3 a4 a5 : Int) (w : World) (rec : ByteArray) (hp1 : PackAny 53 nr arch ip a0 a1 a2 a3 a4 a5 rec) (hwd : ∀ j, j < 16 → WordAny rec j ((W16 nr arch ip a0 a1 a2 a3 a4 a5).getD j 0)) :
  Calls Try.prog 13 #[.agg #[.int .u32 nr, .int .u32 arch, .int .u64 ip, .int .u64 a0, .int .u64 a1, .int .u64 a2, .int .u64 a3, .int .u64 a4, .int .u64 a5]] w fun e w2 => e = .returned (.bool true) ∧ Below w.heap.size w w2 := by
  have hu49 := Try.underlying49
  have hu47 := Try.underlying47
  have q1 := Aside0.mk hp1
  have QW := Aside0.mk hwd
  clear hp1 hwd
  have HST := Aside0.mk (want_step nr arch ip a0 a1 a2 a3 a4 a5)
  have HLN := Aside0.mk (want_len nr arch ip a0 a1 a2 a3 a4 a5)
  have HL0 := Aside0.mk (show wantL (W16 nr arch ip a0 a1 a2 a3 a4 a5) 0 = [nr, arch, ip % 4294967296, ip / 4294967296 % 4294967296] from rfl)
  have HL6 := Aside0.mk (show wantL (W16 nr arch ip a0 a1 a2 a3 a4 a5) 6 = W16 nr arch ip a0 a1 a2 a3 a4 a5 from rfl)
  have HL16 := Aside0.mk (show (W16 nr arch ip a0 a1 a2 a3 a4 a5).length = 16 from rfl)
  generalize W16 nr arch ip a0 a1 a2 a3 a4 a5 = L at QW HST HLN HL0 HL6 HL16
  have hix := ar_index a0 a1 a2 a3 a4 a5
  have HIX := Aside0.mk hix
  clear hix
  have hc0 := Aside0.mk (R9.new w nr arch ip a0 a1 a2 a3 a4 a5)
  have hb0 := Aside0.mk (below_alloc (Below.refl w.heap.size w) (.cells #[.int .u32 nr, .int .u32 arch, .int .u64 ip, .int .u64 a0, .int .u64 a1, .int .u64 a2, .int .u64 a3, .int .u64 a4, .int .u64 a5] 49))
  have hk0 := blk_cell (show _ = _ from hc0.out)
  have HK := Aside0.mk hk0
  clear hk0
  have kc0 := HK.out 0
  have kc1 := HK.out 1
  have kc2 := HK.out 2
  have kc3 := HK.out 3
  have kc4 := HK.out 4
  have kc5 := HK.out 5
  have kc6 := HK.out 6
  have kc7 := HK.out 7
  have kc8 := HK.out 8
  go_enter Try.func13, Try.ntmps13
  go_wp2_with (first | (go_at_call 53; (with_reducible refine (q1.out _).mono ?_); rintro e w1 ⟨rfl, hb1⟩; have HC1 := Aside0.mk (R9.below hc0.out hb1); have HB1 := Aside0.mk (below_step hb0.out hb1); clear hb1 kc0 kc1 kc2 kc3 kc4 kc5 kc6 kc7 kc8; have kd0 := blk_cell (show _ = _ from HC1.out) 0; have kd1 := blk_cell (show _ = _ from HC1.out) 1; have kd2 := blk_cell (show _ = _ from HC1.out) 2) | ((with_reducible refine gate_dst (N := 24) rfl ?_); refine Kd.R_lit (Kd.int .u32) _ 22 ?hg (N := 24) ?hd (xs := ([nr, arch, ip % 4294967296, ip / 4294967296 % 4294967296] : List Int)) (inner := [.int .u32 nr, .int .u32 arch, .int .u32 (ip % 4294967296), .int .u32 (ip / 4294967296 % 4294967296)]) (ok := fun _ => True) (okp := fun _ => True) ?hr ?hp (fun _ hk => hk) trivial (Below.refl _ _) (Nat.le_refl _) (by simp) ?_; (case hd => rfl); (case hg => rfl); (case hr => first | (go_simp; done) | (go_simp; rfl)); (case hp => exact (Reps.one (show Kd.M (Kd.int .u32) _ _ _ nr [.int .u32 nr] from rfl) (Reps.one (show Kd.M (Kd.int .u32) _ _ _ arch [.int .u32 arch] from rfl) (Reps.one (show Kd.M (Kd.int .u32) _ _ _ (ip % 4294967296) [.int .u32 (ip % 4294967296)] from rfl) (Reps.one (show Kd.M (Kd.int .u32) _ _ _ (ip / 4294967296 % 4294967296) [.int .u32 (ip / 4294967296 % 4294967296)] from rfl) (Reps.none _ _)))))); intro v2 w2 ho2 hb2 hg_ hnew_; clear hg_ hnew_; have HO2 := Aside0.mk (Kd.R_lower ho2 (below_size HB1.out)); have HC2 := Aside0.mk (R9.below HC1.out hb2); have HB2 := Aside0.mk (below_step HB1.out hb2); clear hb2 ho2 kd0 kd1 kd2; have ke3 := blk_cell (show _ = _ from HC2.out) 3; have ke4 := blk_cell (show _ = _ from HC2.out) 4; have ke5 := blk_cell (show _ = _ from HC2.out) 5; have ke6 := blk_cell (show _ = _ from HC2.out) 6; have ke7 := blk_cell (show _ = _ from HC2.out) 7; have ke8 := blk_cell (show _ = _ from HC2.out) 8))
  clear ke3 ke4 ke5 ke6 ke7 ke8
  have HO2' := Aside0.mk (show Kd.R (Kd.int .u32) 22 w2 w.heap.size (fun _ => True) v2 (wantL L 0) from by rw [HL0.out]; exact HO2.out)
  go_loopw [4, 27] (fun v i wr => ∃ j : Nat, j ≤ 6 ∧ i = .int .i64 j ∧ Aside0 (Kd.R (Kd.int .u32) 22 wr w.heap.size (fun _ => True) v (wantL L j)) ∧ Aside0 (Below w.heap.size w wr)) (fun _ i _ => 6 - (intOf i).toNat)
  case atStart => exact ⟨0, by omega, rfl, ⟨HO2'.out⟩, ⟨HB2.out⟩⟩
  case round =>
    clear HO2 HO2' HC2 HB2 HC1 HB1 hc0 hb0 HK
    obtain ⟨j, hj, rfl, hR, hB⟩ := hrel
    by_cases hlt : j < 6
    · have hdj : decide ((j : Int) < 6) = true := decide_eq_true (by omega)
      have hix := fun W => HIX.out j hlt W
      have hst := Aside0.mk (HST.out j hlt)
      have hln := Aside0.mk (HLN.out j)
      generalize ar a0 a1 a2 a3 a4 a5 j = n at *
      go_wp2_with (first | ((with_reducible refine gate_dst (N := 36) rfl ?_); refine Kd.R_lit (Kd.int .u32) _ 22 ?hg (N := 36) ?hd (xs := ([n % 4294967296, n / 4294967296 % 4294967296] : List Int)) (inner := [.int .u32 (n % 4294967296), .int .u32 (n / 4294967296 % 4294967296)]) (ok := fun _ => True) (okp := fun _ => True) ?hr ?hp (fun _ hk => hk) trivial (Below.refl _ _) (Nat.le_refl _) (by simp) ?_; (case hd => rfl); (case hg => rfl); (case hr => first | (go_simp; done) | (go_simp; rfl)); (case hp => exact (Reps.one (show Kd.M (Kd.int .u32) _ _ _ (n % 4294967296) [.int .u32 (n % 4294967296)] from rfl) (Reps.one (show Kd.M (Kd.int .u32) _ _ _ (n / 4294967296 % 4294967296) [.int .u32 (n / 4294967296 % 4294967296)] from rfl) (Reps.none _ _)))); intro v3 w3 ho3 hb3 hg_ hnew_; clear hg_ hnew_; obtain ⟨A3, c3, e3⟩ := Kd.R_slice ho3; subst e3; have HO3 := Aside0.mk ho3; have HU3 := Aside0.mk (Kd.R_below hR.out hb3); have HB3 := Aside0.mk (below_step hB.out hb3); clear ho3 hb3) | (at_builtin; refine Kd.R_append_rows (Kd.int .u32) (w0 := w) w.heap.size rfl (.tmp 30) (.tmp 36) 23 22 (.int .u32 0) 4 rfl Try.underlying23 info22 rfl (by decide) (by decide) _ (wantL L j) [n % 4294967296, n / 4294967296 % 4294967296] _ _ _ (fun _ => True) (fun _ => False) rfl rfl HU3.out (Kd.R_reads' HO3.out).2.2 (fun _ _ h => h) (fun _ h => h.elim) (fun _ _ => trivial) HB3.out HB3.out.size (by have := hln.out; simp only [List.length_cons, List.length_nil]; omega) ?_; intro v4 w4 hR4 hB4 hg4 hat4; have HR4 := Aside0.mk hR4; have HB4 := Aside0.mk hB4; clear hR4 hB4 hg4 hat4))
      exact ⟨⟨j + 1, by omega, by go_num, ⟨by rw [← hst.out]; exact HR4.out⟩, ⟨HB4.out⟩⟩, by simp [intOf]; omega⟩
    · obtain rfl : j = 6 := by omega
      have hdj : decide (((6 : Nat) : Int) < 6) = false := rfl
      have hR6 := hR.out
      rw [HL6.out] at hR6
      obtain ⟨A, c, e⟩ := Kd.R_slice hR6
      subst e
      have hC := Aside0.mk (Kd.R_reads' hR6).2.2
      rw [HL16.out] at hC ⊢
      obtain ⟨ad, ea, _⟩ := Kd.at_int hC.out 0 (by omega) (by omega)
      subst ea
      clear hR hR6
      go_wp2
      go_loopw [41] (fun i wr => ∃ j : Nat, j ≤ 16 ∧ i = .int .i64 j ∧ Aside0 (Kd.C (Kd.int .u32) wr (some ad) 16 L) ∧ Aside0 (Below w.heap.size w wr)) (fun i _ => 16 - (intOf i).toNat)
      case atStart => exact ⟨0, by omega, rfl, ⟨hC.out⟩, ⟨hB.out⟩⟩
      case round =>
        clear hC hB
        obtain ⟨j, hj, rfl, hC, hB⟩ := hrel
        by_cases hlt : j < 16
        · have hdj : decide ((j : Int) < 16) = true := decide_eq_true (by omega)
          obtain ⟨ad', ea, hcell⟩ := Kd.at_int hC.out (j : Int) (by omega) (by omega)
          obtain rfl := Option.some.inj ea
          rw [Int.toNat_natCast] at hcell
          have hw := Aside0.mk (QW.out j hlt)
          have hrd : rd L (j : Int) = L.getD j 0 := by unfold rd; rw [Int.toNat_natCast]
          rw [hrd] at hcell
          generalize L.getD j 0 = x at *
          clear hrd ea
          go_wp2_with (go_at_call 54; (with_reducible refine (hw.out _).mono ?_); rintro e w5 ⟨rfl, ⟨n1, rfl⟩⟩; have HC5 := Aside0.mk (Kd.C_drewN hC.out n1); have HB5 := Aside0.mk (pw_below_drewN hB.out n1))
          refine ⟨⟨_, _, _, _, _, _, _, _, _, _, _, _, _, _, _, _, _, _, _, _, _, _, _, _, _, ?rel, rfl⟩, ?measure⟩
          case rel => exact ⟨j + 1, by omega, by go_num, ⟨HC5.out⟩, ⟨HB5.out⟩⟩
          case measure => simp [intOf]; omega
        · obtain rfl : j = 16 := by omega
          have hdj : decide (((16 : Nat) : Int) < 16) = false := rfl
          go_wp2_with (go_at_call 32; (with_reducible refine (alive_any _).mono ?_); rintro e w9 ⟨rfl, hb⟩; have HB9 := Aside0.mk (below_step hB.out hb); clear hb)
          go_ret
          exact ⟨rfl, HB9.out⟩
end Go.Proofs.Ytoeklekjhaigoaa.HWords
end
section
namespace Go.Proofs.Ytoeklekjhaigoaa.PCallWords
open Go.RowKit Go.Proofs.YtoeklekjhaigoaaW.PrintWords Go.Proofs.YtoeklekjhaigoaaW.PrintLast Go.Proofs.YtoeklekjhaigoaaW.PrintMore Go.Proofs.Ytoeklekjhaigoaa.HLaw13 Go.Proofs.Ytoeklekjhaigoaa.HPack Go.Proofs.Ytoeklekjhaigoaa.HWords Go.Proofs.Ytoeklekjhaigoaa.QWords
set_option linter.unusedVariables false
def U32 (x : Int) : Prop := 0 ≤ x ∧ x < 4294967296
def U64 (x : Int) : Prop := 0 ≤ x ∧ x < 18446744073709551616
instance (x : Int) : Decidable (U32 x) := inferInstanceAs (Decidable (_ ∧ _))
instance (x : Int) : Decidable (U64 x) := inferInstanceAs (Decidable (_ ∧ _))
def doorwardlaw13_CallWords.f (a0_0 a0_1 a0_2 a0_3 a0_4 a0_5 a0_6 a0_7 a0_8 : Int) : Option Bool :=
  if U32 a0_0 ∧ U32 a0_1 ∧ U64 a0_2 ∧ U64 a0_3 ∧ U64 a0_4 ∧ U64 a0_5 ∧ U64 a0_6 ∧ U64 a0_7 ∧ U64 a0_8 then some true else none
theorem doorwardlaw13_CallWords.calls (a0_0 : Int) (a0_1 : Int) (a0_2 : Int) (a0_3 : Int) (a0_4 : Int) (a0_5 : Int) (a0_6 : Int) (a0_7 : Int) (a0_8 : Int) (r : Bool) (w : World) (h : doorwardlaw13_CallWords.f a0_0 a0_1 a0_2 a0_3 a0_4 a0_5 a0_6 a0_7 a0_8 = some r) :
    Calls Try.prog 13 #[.agg #[.int .u32 a0_0, .int .u32 a0_1, .int .u64 a0_2, .int .u64 a0_3, .int .u64 a0_4, .int .u64 a0_5, .int .u64 a0_6, .int .u64 a0_7, .int .u64 a0_8]] w fun e w' => e = .returned (.bool r) ∧ Below w.heap.size w w' := by
  unfold doorwardlaw13_CallWords.f at h
  split at h
  · rename_i hc
    obtain ⟨h0, h1, h2, h3, h4, h5, h6, h7, h8⟩ := hc
    obtain rfl := Option.some.inj h
    exact words_any a0_0 a0_1 a0_2 a0_3 a0_4 a0_5 a0_6 a0_7 a0_8 w _ (fun W => pack_any _ _ _ _ _ _ _ _ _ W h0 h1 h2.1 h3.1 h4.1 h5.1 h6.1 h7.1 h8.1) (fun j hj W => word_any a0_0 a0_1 a0_2 a0_3 a0_4 a0_5 a0_6 a0_7 a0_8 h0 h1 h2 h3 h4 h5 h6 h7 h8 j hj W)
  · cases h
end Go.Proofs.Ytoeklekjhaigoaa.PCallWords
end
section
namespace Go.Proofs.Ytoeklekjhaigoaa.Open
open Go.RowKit Go.Proofs.YtoeklekjhaigoaaW.PrintWords
set_option linter.unusedVariables false
set_option linter.unusedSimpArgs false
variable {α β : Type}
/-- A reading (of so much fuel at most) of cells at type t tells a value of kind d, of which Q. -/
def OpensN (P : Program) (fuel : Nat) (d : Kd α) (t : TypeId) (Q : α → Prop) : Prop :=
  P.cellsOf t = d.sz ∧ ∀ (H : Type) (enc : TypeId × Value → H) (W : World) (cs : List Value) (x : DataW H × List MemPlace),
    DataW.trod enc P W 0 (fun _ => true) true fuel t cs = some x → ∃ y, d.K W y cs ∧ Q y
def Opens (P : Program) (d : Kd α) (t : TypeId) (Q : α → Prop) : Prop := ∀ fuel, OpensN P fuel d t Q
section
variable {P : Program} {t e : TypeId} {d : Kd α} {Q : α → Prop} {fuel : Nat}
theorem OpensN.none (h : P.cellsOf t = d.sz) : OpensN P 0 d t Q := ⟨h, fun H enc W cs x hx => by simp [DataW.trod] at hx⟩
theorem one_cell {H : Type} {enc : TypeId × Value → H} {W : World} {cs : List Value} {x : DataW H × List MemPlace} {u : TypeDesc} (hu : P.underlying t = some u) (h1 : (match u with | .struct _ | .array _ _ => true | _ => false) = false)
    (hx : DataW.trod enc P W 0 (fun _ => true) true (fuel + 1) t cs = some x) : ∃ c, cs = [c] := by
  unfold DataW.trod at hx
  rcases cs with _ | ⟨c, _ | ⟨c2, r⟩⟩
  · cases u <;> simp [hu] at hx h1
  · exact ⟨c, rfl⟩
  · cases u <;> simp [hu] at hx h1
theorem Opens.int (k : IntKind) (hu : P.underlying t = some (.int k)) (hc : P.cellsOf t = 1) : Opens P (Kd.int k) t (fun x => (Lit.int k x).wf = true) := by
  intro fuel
  cases fuel with
  | zero => exact OpensN.none hc
  | succ fuel =>
    refine ⟨hc, fun H enc W cs x hx => ?_⟩
    obtain ⟨c, rfl⟩ := one_cell hu rfl hx
    unfold DataW.trod at hx
    cases c <;> simp [hu] at hx
    rename_i k' n
    obtain ⟨⟨rfl, hw⟩, _⟩ := hx
    exact ⟨n, rfl, hw⟩
theorem Opens.bool (hu : P.underlying t = some .bool) (hc : P.cellsOf t = 1) : Opens P Kd.bool t (fun _ => True) := by
  intro fuel
  cases fuel with
  | zero => exact OpensN.none hc
  | succ fuel =>
    refine ⟨hc, fun H enc W cs x hx => ?_⟩
    obtain ⟨c, rfl⟩ := one_cell hu rfl hx
    unfold DataW.trod at hx
    cases c <;> simp [hu] at hx
    rename_i b
    exact ⟨b, rfl, trivial⟩
theorem Opens.string (hu : P.underlying t = some .string) (hc : P.cellsOf t = 1) : Opens P Kd.string t (fun s => s.size ≤ maxLen) := by
  intro fuel
  cases fuel with
  | zero => exact OpensN.none hc
  | succ fuel =>
    refine ⟨hc, fun H enc W cs x hx => ?_⟩
    obtain ⟨c, rfl⟩ := one_cell hu rfl hx
    unfold DataW.trod at hx
    cases c <;> simp [hu] at hx
    rename_i s
    exact ⟨s, rfl, hx.1⟩
/-- The cells of a slice. -/
theorem slice_cell {H : Type} {enc : TypeId × Value → H} {W : World} {cs : List Value} {x : DataW H × List MemPlace} (hu : P.underlying t = some (.slice e)) (hx : DataW.trod enc P W 0 (fun _ => true) true (fuel + 1) t cs = some x) :
    cs = [.slice none 0 0] ∨ ∃ a len cap, cs = [.slice (some a) len cap] ∧ len ≤ cap ∧ cap ≤ maxLen ∧
      ∃ els rest, (List.range len).mapM (fun i => (W.cells? 0 (a.add (i * P.cellsOf e)) (P.cellsOf e)).bind (DataW.trod enc P W 0 (fun _ => true) true fuel e)) = some els ∧ x.1 = .slice (els.map (·.1)) rest := by
  obtain ⟨c, rfl⟩ := one_cell hu rfl hx
  unfold DataW.trod at hx
  cases c <;> try (simp [hu] at hx; done)
  rename_i A len cap
  cases A with
  | none =>
    by_cases h0 : len = 0 ∧ cap = 0
    · obtain ⟨rfl, rfl⟩ := h0
      exact .inl rfl
    · exfalso
      rcases len with _ | len <;> rcases cap with _ | cap <;> simp [hu] at hx h0
  | some a =>
    right
    simp only [hu] at hx
    split at hx
    · rename_i hcnd
      rw [Option.bind_eq_some_iff] at hx
      obtain ⟨els, hels, hx⟩ := hx
      rw [Option.map_eq_some_iff] at hx
      obtain ⟨rest, _, hx⟩ := hx
      exact ⟨a, len, cap, rfl, hcnd.2.1, hcnd.2.2, els, rest.map (·.1), hels, by rw [← hx]⟩
    · simp at hx
theorem OpensN.slice (hu : P.underlying t = some (.slice e)) (hc : P.cellsOf t = 1) (h : OpensN P fuel d e Q) : OpensN P (fuel + 1) (Kd.slice e d) t (fun xs => xs.length ≤ maxLen ∧ ∀ x ∈ xs, Q x) := by
  obtain ⟨hsz, h⟩ := h
  refine ⟨hc, fun H enc W cs x hx => ?_⟩
  rcases slice_cell hu hx with rfl | ⟨a, len, cap, rfl, hlc, hcm, els, rest, hels, _⟩
  · refine ⟨[], ⟨Option.none, 0, rfl, Nat.le_refl _, ?_⟩, by simp, by simp⟩
    exact ⟨rfl, by simp, fun h => absurd h (by simp)⟩
  · skip
    · skip
      have hlen : els.length = len := by simpa using mapM_some_length hels
      have hget := fun i (hi : i < len) => mapM_some_get hels i i (by simp [hi])
      have hall : ∀ i, i < len → ∃ (y : α) (c : List Value), d.K W y c ∧ Q y ∧ c.length = d.sz ∧ ∀ j u, c[j]? = some u → W.cell? (a.add (i * d.sz + j)) = some u := by
        intro i hi
        have hi2 := hget i hi
        rw [List.getElem?_eq_getElem (by omega : i < els.length), Option.bind_eq_some_iff] at hi2
        obtain ⟨c, hcs, hr⟩ := hi2
        obtain ⟨y, hy, hq⟩ := h H enc W c _ hr
        obtain ⟨_, hcl, hcell⟩ := World.cells?_some hcs
        refine ⟨y, c, hy, hq, d.K_len hy, fun j u hj => ?_⟩
        have hjl : j < P.cellsOf e := by
          have : j < c.length := by
            rcases Nat.lt_or_ge j c.length with hlt | hge
            · exact hlt
            · rw [List.getElem?_eq_none hge] at hj; simp at hj
          omega
        have := hcell j hjl
        rw [hj, hsz, Addr.add_add] at this
        exact this
      obtain ⟨ys, hys⟩ : ∃ ys : List α, ys.length = len ∧ ∀ i (hi : i < ys.length), (∃ c : List Value, d.K W ys[i] c ∧ Q ys[i] ∧ c.length = d.sz ∧ ∀ j u, c[j]? = some u → W.cell? (a.add (i * d.sz + j)) = some u) := by
        clear hels hget hlen hlc hcm hx
        induction len with
        | zero => exact ⟨[], rfl, fun i hi => absurd hi (by simp)⟩
        | succ n ih =>
          obtain ⟨ys, hl, hy⟩ := ih (fun i hi => hall i (by omega))
          obtain ⟨y, c, hk, hq, hcl, hcc⟩ := hall n (by omega)
          refine ⟨ys ++ [y], by simp [hl], fun i hi => ?_⟩
          by_cases hin : i < ys.length
          · have := hy i hin
            rw [List.getElem_append_left hin]
            exact this
          · have hie : i = n := by simp at hi; omega
            subst hie
            rw [List.getElem_append_right (by omega)]
            simp only [hl, Nat.sub_self, List.getElem_cons_zero]
            exact ⟨c, hk, hq, hcl, hcc⟩
      obtain ⟨hyl, hy⟩ := hys
      refine ⟨ys, ⟨some a, cap, by rw [hyl], by omega, ?_⟩, by omega, ?_⟩
      · refine ⟨rfl, by rw [hyl]; exact Nat.le_trans hlc hcm, fun _ => ⟨a, rfl, fun j p hj => ?_⟩⟩
        have hjl : j < ys.length := by
          rcases Nat.lt_or_ge j ys.length with hlt | hge
          · exact hlt
          · rw [List.getElem?_eq_none hge] at hj; simp at hj
        obtain ⟨c, hk, hq, hcl, hcc⟩ := hy j hjl
        rw [List.getElem?_eq_getElem hjl] at hj
        obtain rfl := Option.some.inj hj
        exact ⟨c, hcl, hk, hcc⟩
      · intro x hx
        obtain ⟨i, hi, rfl⟩ := List.getElem_of_mem hx
        obtain ⟨c, hk, hq, _⟩ := hy i hi
        exact hq
theorem Opens.slice (hu : P.underlying t = some (.slice e)) (hc : P.cellsOf t = 1) (h : Opens P d e Q) : Opens P (Kd.slice e d) t (fun xs => xs.length ≤ maxLen ∧ ∀ x ∈ xs, Q x) := by
  intro fuel
  cases fuel with
  | zero => exact OpensN.none hc
  | succ fuel => exact OpensN.slice hu hc (h fuel)
end
/-- The fields from one on, read one by one, tell a value of kind d out of the cells from o on. -/
def OpensF (P : Program) (fuel : Nat) (fs : List Field) (o : Nat) (d : Kd α) (Q : α → Prop) : Prop :=
  ∀ (H : Type) (enc : TypeId × Value → H) (W : World) (cs : List Value) (xs : List (DataW H × List MemPlace)),
    (fs.mapM fun f => DataW.trod enc P W 0 (fun _ => true) true fuel f.type ((cs.drop f.offset).take (P.cellsOf f.type))) = some xs → cs.length = o + d.sz → ∃ y, d.K W y (cs.drop o) ∧ Q y
section
variable {P : Program} {t : TypeId} {a : Kd α} {b : Kd β} {Q : α → Prop} {R : β → Prop} {fuel o : Nat} {f : Field} {fs : List Field}
theorem OpensF.last (ho : f.offset = o) (h : OpensN P fuel a f.type Q) : OpensF P fuel [f] o a Q := by
  intro H enc W cs xs hx hl
  simp only [List.mapM_cons, List.mapM_nil] at hx
  rw [Option.bind_eq_bind, Option.bind_eq_some_iff] at hx
  obtain ⟨y, hy, _⟩ := hx
  rw [ho, h.1, List.take_of_length_le (by rw [List.length_drop]; omega)] at hy
  exact h.2 H enc W _ _ hy
theorem OpensF.cons (ho : f.offset = o) (h : OpensN P fuel a f.type Q) (hs : OpensF P fuel fs (o + a.sz) b R) : OpensF P fuel (f :: fs) o (Kd.pair a b) (fun x => Q x.1 ∧ R x.2) := by
  intro H enc W cs xs hx hl
  simp only [List.mapM_cons] at hx
  rw [Option.bind_eq_bind, Option.bind_eq_some_iff] at hx
  obtain ⟨y, hy, hx⟩ := hx
  rw [Option.bind_eq_bind, Option.bind_eq_some_iff] at hx
  obtain ⟨ys, hys, _⟩ := hx
  rw [ho, h.1] at hy
  obtain ⟨u, hu, hq⟩ := h.2 H enc W _ _ hy
  obtain ⟨v, hv, hr⟩ := hs H enc W cs ys hys (by have : (Kd.pair a b).sz = a.sz + b.sz := rfl; omega)
  refine ⟨(u, v), ⟨(cs.drop o).take a.sz, (cs.drop o).drop a.sz, (List.take_append_drop _ _).symm, hu, ?_⟩, hq, hr⟩
  rw [List.drop_drop]
  exact hv
theorem OpensF.iso {γ : Type} (g : γ → α) (inv : α → γ) (hg : ∀ x, g (inv x) = x) (h : OpensF P fuel fs o a Q) : OpensF P fuel fs o (Kd.iso a g) (fun x => Q (g x)) := by
  intro H enc W cs xs hx hl
  obtain ⟨y, hy, hq⟩ := h H enc W cs xs hx hl
  exact ⟨inv y, by show a.K W (g (inv y)) _; rw [hg]; exact hy, by show Q (g (inv y)); rw [hg]; exact hq⟩
theorem OpensN.struct {gs : Array Field} (hu : P.underlying t = some (.struct gs)) (hc : P.cellsOf t = a.sz) (h : OpensF P fuel gs.toList 0 a Q) : OpensN P (fuel + 1) a t Q := by
  refine ⟨hc, fun H enc W cs x hx => ?_⟩
  have hx2 : (if cs.length = P.cellsOf t then (gs.toList.mapM fun f => DataW.trod enc P W 0 (fun _ => true) true fuel f.type ((cs.drop f.offset).take (P.cellsOf f.type))).map fun xs => (DataW.agg (xs.map (·.1)), xs.flatMap (·.2)) else Option.none) = some x := by
    rw [← hx]
    conv => rhs; unfold DataW.trod
    simp only [hu]
  split at hx2
  · rename_i hl
    rw [Option.map_eq_some_iff] at hx2
    obtain ⟨xs, hxs, _⟩ := hx2
    have := h H enc W cs xs hxs (by omega)
    simpa using this
  · simp at hx2
/-- The places of an array, read one by one. -/
def OpensA (P : Program) (fuel : Nat) (e : TypeId) (is : List Nat) (o : Nat) (d : Kd α) (Q : α → Prop) : Prop :=
  ∀ (H : Type) (enc : TypeId × Value → H) (W : World) (cs : List Value) (xs : List (DataW H × List MemPlace)),
    (is.mapM fun i => DataW.trod enc P W 0 (fun _ => true) true fuel e ((cs.drop (i * P.cellsOf e)).take (P.cellsOf e))) = some xs → cs.length = o + d.sz → ∃ y, d.K W y (cs.drop o) ∧ Q y
theorem OpensA.last {e : TypeId} {i : Nat} (ho : i * P.cellsOf e = o) (h : OpensN P fuel a e Q) : OpensA P fuel e [i] o a Q := by
  intro H enc W cs xs hx hl
  simp only [List.mapM_cons, List.mapM_nil] at hx
  rw [Option.bind_eq_bind, Option.bind_eq_some_iff] at hx
  obtain ⟨y, hy, _⟩ := hx
  rw [ho, h.1, List.take_of_length_le (by rw [List.length_drop]; omega)] at hy
  exact h.2 H enc W _ _ hy
theorem OpensA.cons {e : TypeId} {i : Nat} {is : List Nat} (ho : i * P.cellsOf e = o) (h : OpensN P fuel a e Q) (hs : OpensA P fuel e is (o + a.sz) b R) : OpensA P fuel e (i :: is) o (Kd.pair a b) (fun x => Q x.1 ∧ R x.2) := by
  intro H enc W cs xs hx hl
  simp only [List.mapM_cons] at hx
  rw [Option.bind_eq_bind, Option.bind_eq_some_iff] at hx
  obtain ⟨y, hy, hx⟩ := hx
  rw [Option.bind_eq_bind, Option.bind_eq_some_iff] at hx
  obtain ⟨ys, hys, _⟩ := hx
  rw [ho, h.1] at hy
  obtain ⟨u, hu, hq⟩ := h.2 H enc W _ _ hy
  obtain ⟨v, hv, hr⟩ := hs H enc W cs ys hys (by have : (Kd.pair a b).sz = a.sz + b.sz := rfl; omega)
  refine ⟨(u, v), ⟨(cs.drop o).take a.sz, (cs.drop o).drop a.sz, (List.take_append_drop _ _).symm, hu, ?_⟩, hq, hr⟩
  rw [List.drop_drop]
  exact hv
theorem OpensA.iso {γ : Type} {e : TypeId} {is : List Nat} (g : γ → α) (inv : α → γ) (hg : ∀ x, g (inv x) = x) (h : OpensA P fuel e is o a Q) : OpensA P fuel e is o (Kd.iso a g) (fun x => Q (g x)) := by
  intro H enc W cs xs hx hl
  obtain ⟨y, hy, hq⟩ := h H enc W cs xs hx hl
  exact ⟨inv y, by show a.K W (g (inv y)) _; rw [hg]; exact hy, by show Q (g (inv y)); rw [hg]; exact hq⟩
theorem OpensN.array {n : Nat} {e : TypeId} (hu : P.underlying t = some (.array n e)) (hc : P.cellsOf t = a.sz) (h : OpensA P fuel e (List.range n) 0 a Q) : OpensN P (fuel + 1) a t Q := by
  refine ⟨hc, fun H enc W cs x hx => ?_⟩
  have hx2 : (if cs.length = P.cellsOf t then ((List.range n).mapM fun i => DataW.trod enc P W 0 (fun _ => true) true fuel e ((cs.drop (i * P.cellsOf e)).take (P.cellsOf e))).map fun xs => (DataW.agg (xs.map (·.1)), xs.flatMap (·.2)) else Option.none) = some x := by
    rw [← hx]
    conv => rhs; unfold DataW.trod
    simp only [hu]
  split at hx2
  · rename_i hl
    rw [Option.map_eq_some_iff] at hx2
    obtain ⟨xs, hxs, _⟩ := hx2
    have := h H enc W cs xs hxs (by omega)
    simpa using this
  · simp at hx2
end
section
variable {P : Program} {t e : TypeId} {d : Kd α} {Q : α → Prop} {H : Type} {enc : TypeId × Value → H} {W : World} {D : DataW H} {p : List MemPlace} {v : Value}
/-- A struct that came in by value. -/
theorem agg_of {r : Reach} {base : Nat} {fs : Array Field} (hu : P.underlying t = some (.struct fs)) (hv : Value.okWide P W r base t v) (ho : Opens P d t Q) (h : DataW.Trod enc P W 0 (fun _ => true) true t v D p) : ∃ cs x, v = .agg cs ∧ d.K W x cs.toList ∧ Q x := by
  obtain ⟨cs, rfl, _⟩ := Go.WideShapes.okWide_struct hu hv
  obtain ⟨fuel, hf⟩ := h
  obtain ⟨x, hx, hq⟩ := (ho fuel).2 H enc W _ _ hf
  exact ⟨cs, x, rfl, hx, hq⟩
end
end Go.Proofs.Ytoeklekjhaigoaa.Open
end
section
namespace Go.Proofs.Ytoeklekjhaigoaa.StatCallWords
open Go.RowKit Go.Proofs.YtoeklekjhaigoaaW.PrintWords Go.Proofs.Ytoeklekjhaigoaa.Open Go.Proofs.Ytoeklekjhaigoaa.PCallWords Go.Proofs.Ytoeklekjhaigoaa.Le Go.Proofs.Ytoeklekjhaigoaa.C1 Go.Proofs.Ytoeklekjhaigoaa.C2 Go.Proofs.Ytoeklekjhaigoaa.W0 Go.Proofs.Ytoeklekjhaigoaa.W1 Go.Proofs.Ytoeklekjhaigoaa.R01 Go.Proofs.Ytoeklekjhaigoaa.HPack Go.Proofs.Ytoeklekjhaigoaa.HUnpack Go.Proofs.Ytoeklekjhaigoaa.K49
set_option maxRecDepth 100000
def Q22 (x : Int) : Prop := (Lit.int .u32 x).wf = true
theorem opens22 : Opens Try.prog (Kd.int .u32) 22 Q22 := Opens.int .u32 Try.underlying22 (by kernel_rfl)
def Q30 (x : Int) : Prop := (Lit.int .u64 x).wf = true
theorem opens30 : Opens Try.prog (Kd.int .u64) 30 Q30 := Opens.int .u64 Try.underlying30 (by kernel_rfl)
def Q47 (x : S47) : Prop := Q30 x.f0 ∧ Q30 x.f1 ∧ Q30 x.f2 ∧ Q30 x.f3 ∧ Q30 x.f4 ∧ Q30 x.f5
theorem opens47 : Opens Try.prog k47 47 Q47 := by
  intro fuel
  cases fuel with
  | zero => exact OpensN.none (by kernel_rfl)
  | succ fuel => exact OpensN.array Try.underlying47 (by kernel_rfl) (OpensA.iso (fun x : S47 => (x.f0, x.f1, x.f2, x.f3, x.f4, x.f5)) (fun p => ⟨p.1, p.2.1, p.2.2.1, p.2.2.2.1, p.2.2.2.2.1, p.2.2.2.2.2⟩) (fun _ => rfl) (OpensA.cons (by kernel_rfl) (opens30 fuel) (OpensA.cons (by kernel_rfl) (opens30 fuel) (OpensA.cons (by kernel_rfl) (opens30 fuel) (OpensA.cons (by kernel_rfl) (opens30 fuel) (OpensA.cons (by kernel_rfl) (opens30 fuel) (OpensA.last (by kernel_rfl) (opens30 fuel))))))))
def Q49 (x : S49) : Prop := Q22 x.f0 ∧ Q22 x.f1 ∧ Q30 x.f2 ∧ Q47 x.f3
theorem opens49 : Opens Try.prog k49 49 Q49 := by
  intro fuel
  cases fuel with
  | zero => exact OpensN.none (by kernel_rfl)
  | succ fuel => exact OpensN.struct Try.underlying49 (by kernel_rfl) (OpensF.iso (fun x : S49 => (x.f0, x.f1, x.f2, x.f3)) (fun p => ⟨p.1, p.2.1, p.2.2.1, p.2.2.2⟩) (fun _ => rfl) (OpensF.cons (by kernel_rfl) (opens22 fuel) (OpensF.cons (by kernel_rfl) (opens22 fuel) (OpensF.cons (by kernel_rfl) (opens30 fuel) (OpensF.last (by kernel_rfl) (opens47 fuel))))))
def Stat : Prop := ∀ (a0 : S49), Q49 a0 → doorwardlaw13_CallWords.f a0.f0 a0.f1 a0.f2 a0.f3.f0 a0.f3.f1 a0.f3.f2 a0.f3.f3 a0.f3.f4 a0.f3.f5 = some true
end Go.Proofs.Ytoeklekjhaigoaa.StatCallWords
end
section
namespace Go.Proofs.Ytoeklekjhaigoaa.Pure
open Go.RowKit Go.Proofs.Ytoeklekjhaigoaa.StatCallWords Go.Proofs.YtoeklekjhaigoaaW.PrintWords Go.Proofs.Ytoeklekjhaigoaa.PCallWords Go.Proofs.Ytoeklekjhaigoaa.QNum Go.Proofs.Ytoeklekjhaigoaa.K49
theorem CallWords : StatCallWords.Stat := by
  intro c hc
  obtain ⟨h0, h1, h2, h3, h4, h5, h6, h7, h8⟩ := hc
  unfold doorwardlaw13_CallWords.f
  exact if_pos ⟨wf_u32 h0, wf_u32 h1, wf_u64 h2, wf_u64 h3, wf_u64 h4, wf_u64 h5, wf_u64 h6, wf_u64 h7, wf_u64 h8⟩
end Go.Proofs.Ytoeklekjhaigoaa.Pure
end
section
namespace Go.Proofs.Ytoeklekjhaigoaa.callWords
open Go.ChangeShapes Go.WideShapes Go.ChangeAt Go.RowKit Go.Proofs.Ytoeklekjhaigoaa.Open Go.Proofs.Ytoeklekjhaigoaa.StatCallWords Go.Proofs.YtoeklekjhaigoaaW.PrintWords Go.Proofs.Ytoeklekjhaigoaa.PCallWords Go.Proofs.Ytoeklekjhaigoaa.Le Go.Proofs.Ytoeklekjhaigoaa.C1 Go.Proofs.Ytoeklekjhaigoaa.C2 Go.Proofs.Ytoeklekjhaigoaa.W0 Go.Proofs.Ytoeklekjhaigoaa.W1 Go.Proofs.Ytoeklekjhaigoaa.R01 Go.Proofs.Ytoeklekjhaigoaa.HPack Go.Proofs.Ytoeklekjhaigoaa.HUnpack Go.Proofs.Ytoeklekjhaigoaa.K49
open Go.ChangeMaps (open_string shut_string)
set_option linter.unusedVariables false
open Go.Proofs.Ytoeklekjhaigoaa.Order (own laidOut)
open Go.Proofs.Ytoeklekjhaigoaa
set_option maxRecDepth 100000 in
set_option maxHeartbeats 1000000 in
theorem lifted (os : Os) (started : os.Started) (H : Type) (enc : TypeId × Value → H) :
    ReturnsInHanded {} Try.checked os 13 .any (Rows.callWordsSpec.pre6 enc Try.prog Try.f13 Rows.callWordsRow.domain false) (Rows.callWordsSpec.post enc Try.prog Try.f13 false true false false) := by
  refine returnsInHanded_of_change_sized (C := Try.checked) own started (by kernel_rfl) Try.func13
    (ChangeSpec.witness6 (enc := enc) (C := Try.checked) false ⟨#[], #[.agg #[(.int .u32 0), (.int .u32 0), (.int .u64 0), (.int .u64 0), (.int .u64 0), (.int .u64 0), (.int .u64 0), (.int .u64 0), (.int .u64 0)]], []⟩ 20 (by kernel_rfl) (by kernel_rfl) (by kernel_rfl) (by kernel_rfl)) ?_
  intro W base args ds gs before hval0 hW hcnd hsz0 _
  have hsz : (DataW.weightsEach Try.prog (Try.f13.params.toList ++ Rows.callWordsSpec.plain.varTypes Try.prog) (ds ++ gs)).all (· ≤ reachBytes) = true := hsz0
  have hval : ∀ (j : Nat) t v, Try.f13.params[j]? = some t → args[j]? = some v → Value.okWide Try.prog W .any base t v := hval0
  have hW' := hW
  obtain ⟨p, q, hA0, hV, rfl, hfz, hnd⟩ := hW
  have hA : DataW.TrodAll enc Try.prog W 0 (fun _ => true) true Try.f13.params.toList args.toList ds p := hA0
  rw [Try.params13] at hA hval hsz
  obtain ⟨v0, vs0, d0, ds0, p0, q0, hargs, rfl, rfl, h0, r0⟩ := trodAll_cons hA
  obtain ⟨rfl, rfl, rfl⟩ := trodAll_nil r0
  obtain rfl : args = #[v0] := by cases args; simp_all
  obtain ⟨rfl, rfl⟩ := trodVars_none hV
  have k0_ := h0
  have lt0 : ∀ x ∈ p0, x.block < W.heap.size := by obtain ⟨m, hm⟩ := k0_; exact DataW.trod_lt m _ _ _ hm
  obtain ⟨cs0, x0, rfl, hx0, hq0⟩ := agg_of Try.underlying49 (hval 0 49 v0 rfl rfl) opens49 h0
  obtain ho0 := k49_open hx0
  obtain rfl : cs0 = #[.int .u32 x0.f0, .int .u32 x0.f1, .int .u64 x0.f2, .int .u64 x0.f3.f0, .int .u64 x0.f3.f1, .int .u64 x0.f3.f2, .int .u64 x0.f3.f3, .int .u64 x0.f3.f4, .int .u64 x0.f3.f5] := Array.ext' ho0
  clear hA0 hval0 hsz0 hsz
  have hk := Pure.CallWords x0 hq0
  refine (doorwardlaw13_CallWords.calls (r := true) (w := W) (h := hk)).mono ?_
  rintro e W' ⟨rfl, bel0⟩
  have bel := bel0
  exact ⟨_, rfl, _, _, _, [], _, [], hW', trodAll_mk1 (shut_bool Try.underlying4 _), (trodAll_cons_mk (Below.trod laidOut (by kernel_rfl) (of_decide_eq_true (by kernel_rfl)) k0_ bel lt0) trodAll_mk0), rfl, bel.frame _, fun h => by cases h⟩
set_option maxHeartbeats 4000000 in
theorem facts : joinedFacts Try.prog 13 Try.f13 Rows.callWordsSpec Rows.callWordsRow = true := by
  unfold joinedFacts
  repeat' (with_reducible refine (Bool.and_eq_true_iff).mpr ⟨?_, ?_⟩)
  all_goals first | (with_reducible exact Order.laidOut) | (with_reducible exact Order.mapsRowed) | (with_reducible exact Order.noStops) | (with_reducible exact Order.noKnobs) | (with_reducible exact Order.enter) | (with_reducible exact Order.heard) | (rw [Order.makes]; rfl) | (rw [Order.lifts]; rfl) | (as_aux_lemma => kernel_rfl)
theorem named : Try.prog.funcNamed "doorward/doorwardlaw13.CallWords" = some 13 := by kernel_rfl
theorem inst : Try.f13.isInstance Try.prog Rows.callWordsRow.origin Rows.callWordsRow.targs := of_decide_eq_true (by kernel_rfl)
theorem wrap : Try.f13.isWrapper Try.prog Rows.callWordsRow.wrapper Rows.callWordsRow.mainSum := by unfold Func.isWrapper; first | (rw [if_pos (by decide +kernel)]; kernel_rfl) | (rw [if_neg (by decide +kernel)]; exact ⟨rfl, rfl⟩)
theorem over : Rows.callWordsRow.holds Try.pinned (OpenSpec.ofChange Rows.callWordsSpec) :=
  OpenClaim.holds_of_wide 13 Try.f13 rfl rfl rfl rfl rfl rfl rfl ⟨rfl, rfl, rfl, rfl, rfl⟩ rfl rfl rfl rfl rfl named Try.func13 facts inst wrap
    (fun os started H enc _ => lifted os started H enc)
theorem proved : Rows.CallWordsSaid := over
#print axioms proved
end Go.Proofs.Ytoeklekjhaigoaa.callWords
namespace Go.Proofs.Ytoeklekjhaigoaa
/-- The row, under a short name, for the claim. -/
theorem callWords_holds : Rows.CallWordsSaid := callWords.proved
end Go.Proofs.Ytoeklekjhaigoaa
end
