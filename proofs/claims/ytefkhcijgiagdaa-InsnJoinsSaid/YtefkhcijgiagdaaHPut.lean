/- insn.Put, walked: what each call answers. -/
import Derived.Test.YtefkhcijgiagdaaProg
import Derived.Below
import Derived.Deep.Draws
import Derived.Deep.AppendLies
import Derived.Maps.AppendAt
import Derived.OwnWalk
import Derived.Laws.BytesArg
import Derived.Laws.MakeOwn
import Derived.Laws.OwnMore
import Derived.Deep.OwnRows
import Derived.Tactics
import Derived.Lib.ConvBytes
import Derived.Laws.Slices
import Derived.WalkKit
import Derived.KernelRfl
import Derived.RowKit3
import Derived.Deep.LoopGhost
import Derived.Deep.QuietTactic
import Derived.BigQuiet
import Derived.WideLaws
import Derived.Deep.DeepCutAuto
import Derived.Deep.CutBlock
import Derived.Deep.RegionHeld3
import Derived.Laws.Rows
import Derived.Lib.AppendStr
import Derived.ArgAppend
import Derived.Laws.IdiomCopy
import Derived.OrdersHeld
import Derived.Laws.BitsLemmas
import Derived.RowKit
import Derived.Test.YtefkhcijgiagdaaWWords
import Derived.Test.YtefkhcijgiagdaaWLast
import Derived.Test.YtefkhcijgiagdaaWTab
import Derived.Test.YtefkhcijgiagdaaWFour
import Derived.Test.YtefkhcijgiagdaaWQPut
import Derived.Test.YtefkhcijgiagdaaWApart
import Derived.Test.YtefkhcijgiagdaaWArr
import Derived.Test.YtefkhcijgiagdaaWZeros
import Derived.Test.YtefkhcijgiagdaaWFoot
import Derived.Test.YtefkhcijgiagdaaWKept
import Derived.Test.YtefkhcijgiagdaaWShare
import Derived.Test.YtefkhcijgiagdaaWN
import Derived.Test.YtefkhcijgiagdaaWFootNe
import Derived.Test.YtefkhcijgiagdaaWAt
import Derived.Test.YtefkhcijgiagdaaWEqStruct
import Derived.Test.YtefkhcijgiagdaaWRepsOne
import Derived.Test.YtefkhcijgiagdaaWInv
import Derived.Test.YtefkhcijgiagdaaWInvWords
import Derived.Test.YtefkhcijgiagdaaWGuard
import Derived.Test.YtefkhcijgiagdaaWNEv
import Derived.Test.YtefkhcijgiagdaaWMore
import Derived.Laws.Tables
import Derived.Laws.CopyOwn
import Derived.Deep.WholeRow
import Derived.ChangeKeysEq
import Derived.Shelf.Abstract
import Derived.Test.YtefkhcijgiagdaaLex1
import Derived.Test.YtefkhcijgiagdaaQLe
namespace Go.Proofs.Ytefkhcijgiagdaa.HPut
open Go.RowKit Go.Proofs.YtefkhcijgiagdaaW.PrintWords Go.Proofs.YtefkhcijgiagdaaW.PrintLast Go.Proofs.YtefkhcijgiagdaaW.PrintMore Go.Proofs.Ytefkhcijgiagdaa.Le Go.Proofs.Ytefkhcijgiagdaa.QLe
set_option linter.unusedVariables false
set_option linter.unusedSimpArgs false
/-! ### insn.Put -/
def putN (a b c d : Int) : List Int := leB a 2 ++ leB b 1 ++ leB c 1 ++ leB d 4
def putOk (a b c : Int) : Bool := decide (0 ≤ a ∧ a < 65536 ∧ 0 ≤ b ∧ b < 256 ∧ 0 ≤ c ∧ c < 256)
def putOut (a b c d : Int) : Nat → ByteArray
  | 0 => ⟨#[]⟩
  | 1 => ⟨#[]⟩ ++ strOfNums (leB a 2)
  | 2 => ⟨#[]⟩ ++ strOfNums (leB a 2) ++ strOfNums (leB b 1)
  | 3 => ⟨#[]⟩ ++ strOfNums (leB a 2) ++ strOfNums (leB b 1) ++ strOfNums (leB c 1)
  | _ => ⟨#[]⟩ ++ strOfNums (leB a 2) ++ strOfNums (leB b 1) ++ strOfNums (leB c 1) ++ strOfNums (leB d 4)
def okUpto (a b c : Int) (j : Nat) : Prop := (1 ≤ j → 0 ≤ a ∧ a < 65536) ∧ (2 ≤ j → 0 ≤ b ∧ b < 256) ∧ (3 ≤ j → 0 ≤ c ∧ c < 256)
def PutPost (a b c d : Int) (w : World) (e : Ending) (w' : World) : Prop :=
  e = .returned (.tuple #[if putOk a b c = true then .string (putOut a b c d 4) else .string ⟨#[]⟩, if putOk a b c = true then .int .i64 0 else .int .i64 1]) ∧ Below w.heap.size w w'
theorem le_ok (n : Int) (sz : Nat) (w : World) (h1 : 1 ≤ sz) (h8 : sz ≤ 8) (h0 : 0 ≤ n) (hn : sz = 8 ∨ n < 256 ^ sz) :
    Calls Try.prog 88 #[.int .u64 n, .int .i64 (sz : Int)] w fun e w' => e = .returned (.tuple #[.string (strOfNums (leB n sz)), .int .i64 0]) ∧ Below w.heap.size w w' :=
  le_Put.calls 10 n sz _ _ w (put_ok n sz h1 h8 h0 hn 10 (Nat.le_refl _))
theorem le_bad (n : Int) (sz : Nat) (w : World) (h1 : 1 ≤ sz) (h8 : sz < 8) (h0 : 0 ≤ n) (hn : 256 ^ sz ≤ n) :
    Calls Try.prog 88 #[.int .u64 n, .int .i64 (sz : Int)] w fun e w' => e = .returned (.tuple #[.string ⟨#[]⟩, .int .i64 1]) ∧ Below w.heap.size w w' :=
  le_Put.calls 1 n sz _ _ w (put_bad n sz h1 h8 h0 hn 1 (Nat.le_refl _))
/-- the field that a round writes, and in how many bytes. -/
def fld (a b c d : Int) : Nat → Int
  | 0 => a
  | 1 => b
  | 2 => c
  | _ => d
def wid : Nat → Nat
  | 0 => 2
  | 1 => 1
  | 2 => 1
  | _ => 4
theorem putOut_succ (a b c d : Int) (j : Nat) (h : j < 4) : putOut a b c d j ++ strOfNums (leB (fld a b c d j) (wid j)) = putOut a b c d (j + 1) := by
  match j, h with
  | 0, _ | 1, _ | 2, _ | 3, _ => rfl
theorem putOut_size (a b c d : Int) (j : Nat) : (putOut a b c d j).size ≤ 8 := by
  have e0 : (⟨#[]⟩ : ByteArray).size = 0 := rfl
  match j with
  | 0 => rw [putOut, e0]; omega
  | 1 | 2 | 3 | _ + 4 => simp only [putOut, ByteArray.size_append, sON_size, leB_length, e0]; omega
theorem run_index_agg2 {P : Program} (t e : TypeId) (n : Nat) (d : TypeDesc) (ht : P.underlying t = some (.array n e)) (hu : P.underlying e = some d) (hd : (match d with | .struct _ | .array _ _ => true | _ => false) = true)
    (i : Nat) (inf : TypeInfo) (hi : P.info? e = some inf) (cs : Array Value) (hn : i < n) (w : World) :
    (Instr.index t (.agg cs) (.int .i64 (i : Int))).run P w = .ok (.agg (cs.extract (i * inf.size) (i * inf.size + inf.size))) w := by
  have h1 : (sizeOf e).run P w = .ok inf.size w := by rw [run_sizeOf w hi]; simp [Program.cellsOf, hi]
  have h2 : (isAgg e).run P w = .ok true w := by
    cases d <;> simp at hd <;> simp [isAgg, run_underlying hu, go_sem]
  have h3 : (0 : Int) ≤ (i : Int) ∧ (i : Int) < (n : Int) := by omega
  simp [Instr.index, run_underlying ht, asIntOf, h1, h2, h3, hn, part, go_sem]
theorem size100 : (Try.prog.info? 100).map (·.size) = some 2 := by kernel_rfl
theorem put_fld (a b c d : Int) (j : Nat) (h : j < 4) (w : World) :
    (Instr.index 101 (.agg #[.int .i64 a, .int .i64 2, .int .i64 b, .int .i64 1, .int .i64 c, .int .i64 1, .int .i64 d, .int .i64 4]) (.int .i64 (j : Int))).run Try.prog w = .ok (.agg #[.int .i64 (fld a b c d j), .int .i64 (wid j : Int)]) w := by
  obtain ⟨inf, hi, hs⟩ := Option.map_eq_some_iff.1 size100
  rw [run_index_agg2 101 100 4 _ Try.underlying101 Try.underlying100 rfl j inf hi _ h w, hs]
  match j, h with
  | 0, _ | 1, _ | 2, _ | 3, _ => rfl
set_option maxRecDepth 100000 in
set_option maxHeartbeats 2000000 in
theorem put_any (a b c d : Int) (w : World) (ha : -9223372036854775808 ≤ a) (ha2 : a ≤ 9223372036854775807) (hb : -9223372036854775808 ≤ b) (hb2 : b ≤ 9223372036854775807) (hc : -9223372036854775808 ≤ c) (hc2 : c ≤ 9223372036854775807) (hd : 0 ≤ d) (hd2 : d < 4294967296) :
    Calls Try.prog 32 #[.agg #[.int .i64 a, .int .i64 b, .int .i64 c, .int .u32 d]] w (PutPost a b c d w) := by
  go_enter Try.func32, Try.ntmps32
  go_wp2
  have HB0 : Below w.heap.size w (w.alloc (.cells #[.int .i64 a, .int .i64 b, .int .i64 c, .int .u32 d] 28)) := below_alloc (Below.refl _ _) _
  have hix := put_fld a b c d
  generalize (#[Value.int .i64 a, Value.int .i64 2, Value.int .i64 b, Value.int .i64 1, Value.int .i64 c, Value.int .i64 1, Value.int .i64 d, Value.int .i64 4] : Array Value) = ar at hix ⊢
  go_loopw [4, 23] (fun o i wr => ∃ j : Nat, j ≤ 4 ∧ i = .int .i64 j ∧ o = .string (putOut a b c d j) ∧ okUpto a b c j ∧ Below w.heap.size w wr) (fun _ i _ => 4 - (intOf i).toNat)
  case atStart => exact ⟨0, by omega, rfl, rfl, ⟨fun h => by omega, fun h => by omega, fun h => by omega⟩, HB0⟩
  case round =>
    clear HB0
    obtain ⟨j, hj, rfl, rfl, hok, HB⟩ := hrel
    by_cases hlt : j < 4
    · have hdj : decide ((j : Int) < 4) = true := decide_eq_true (by omega)
      have hx := hix j hlt
      clear hix
      have hsucc := Aside0.mk (putOut_succ a b c d j hlt)
      have hsz := putOut_size a b c d j
      have hrange : -9223372036854775808 ≤ fld a b c d j ∧ fld a b c d j ≤ 9223372036854775807 := by
        match j, hlt with
        | 0, _ => exact ⟨ha, ha2⟩
        | 1, _ => exact ⟨hb, hb2⟩
        | 2, _ => exact ⟨hc, hc2⟩
        | 3, _ => exact ⟨by show _ ≤ d; omega, by show d ≤ _; omega⟩
      have hw : 1 ≤ wid j ∧ wid j ≤ 4 := by
        match j, hlt with
        | 0, _ | 1, _ | 2, _ | 3, _ => simp [wid]
      by_cases hn0 : fld a b c d j < 0
      · have hbad : putOk a b c = false := by
          unfold putOk
          refine decide_eq_false ?_
          match j, hlt with
          | 0, _ | 1, _ | 2, _ => simp only [fld] at hn0; omega
          | 3, _ => simp only [fld] at hn0; omega
        have HP : ∀ w', Below w.heap.size w w' → PutPost a b c d w (.returned (.tuple #[.string ⟨#[]⟩, .int .i64 1])) w' := fun w' h => ⟨by rw [hbad]; rfl, h⟩
        have hdn : decide (fld a b c d j < 0) = true := decide_eq_true hn0
        generalize fld a b c d j = n at *
        generalize wid j = sz at *
        clear hok hbad
        go_wp2
        go_ret2
        exact HP _ (below_alloc HB _)
      · have hdn : decide (fld a b c d j < 0) = false := decide_eq_false hn0
        by_cases hfit : fld a b c d j < 256 ^ wid j
        · have hok2 : okUpto a b c (j + 1) := by
            obtain ⟨k1, k2, k3⟩ := hok
            match j, hlt with
            | 0, _ => simp only [fld, wid] at hn0 hfit; exact ⟨fun _ => by omega, fun h => by omega, fun h => by omega⟩
            | 1, _ => simp only [fld, wid] at hn0 hfit; exact ⟨fun _ => k1 (by omega), fun h => by omega, fun h => by omega⟩
            | 2, _ => simp only [fld, wid] at hn0 hfit; exact ⟨fun _ => k1 (by omega), fun _ => k2 (by omega), fun h => by omega⟩
            | 3, _ => exact ⟨fun _ => k1 (by omega), fun _ => k2 (by omega), fun _ => k3 (by omega)⟩
          have hle := fun W => le_ok (fld a b c d j) (wid j) W hw.1 (by omega) (by omega) (.inr hfit)
          have hsl : (strOfNums (leB (fld a b c d j) (wid j))).size ≤ 4 := by rw [sON_size, leB_length]; exact hw.2
          have hu : IntKind.u64.wrap (fld a b c d j) = fld a b c d j := u64_small _ (by omega) (by omega)
          generalize fld a b c d j = n at *
          generalize wid j = sz at *
          generalize strOfNums (leB n sz) = st at *
          have hok2 := Aside0.mk hok2
          clear hok
          go_wp2_with (go_at_call 88; refine (hle _).mono ?_; rintro e w1 ⟨rfl, hb1⟩)
          go_roundw
          case rel => exact ⟨j + 1, by omega, by go_num, by rw [hsucc.out], hok2.out, below_step (below_alloc HB _) hb1⟩
          case measure => simp [intOf]; omega
        · have hbad : putOk a b c = false := by
            unfold putOk
            refine decide_eq_false ?_
            match j, hlt with
            | 0, _ | 1, _ | 2, _ => simp only [fld, wid] at hn0 hfit; omega
            | 3, _ => simp only [fld, wid] at hn0 hfit; omega
          have HP : ∀ w', Below w.heap.size w w' → PutPost a b c d w (.returned (.tuple #[.string ⟨#[]⟩, .int .i64 1])) w' := fun w' h => ⟨by rw [hbad]; rfl, h⟩
          have hle := fun W => le_bad (fld a b c d j) (wid j) W hw.1 (by omega) (by omega) (by omega)
          have hu : IntKind.u64.wrap (fld a b c d j) = fld a b c d j := u64_small _ (by omega) (by omega)
          generalize fld a b c d j = n at *
          generalize wid j = sz at *
          clear hok hbad hfit
          go_wp2_with (go_at_call 88; refine (hle _).mono ?_; rintro e w1 ⟨rfl, hb1⟩)
          go_ret2
          exact HP _ (below_step (below_alloc HB _) hb1)
    · obtain rfl : j = 4 := by omega
      have hdj : decide (((4 : Nat) : Int) < 4) = false := rfl
      have hgood : putOk a b c = true := by
        obtain ⟨k1, k2, k3⟩ := hok
        unfold putOk
        exact decide_eq_true ⟨(k1 (by omega)).1, (k1 (by omega)).2, (k2 (by omega)).1, (k2 (by omega)).2, (k3 (by omega)).1, (k3 (by omega)).2⟩
      have HP : ∀ w', Below w.heap.size w w' → PutPost a b c d w (.returned (.tuple #[.string (putOut a b c d 4), .int .i64 0])) w' := fun w' h => ⟨by rw [hgood]; rfl, h⟩
      clear hok hgood hix
      go_wp2
      go_ret2
      exact HP _ HB
/-! ### insn_Put: function 32, by hand -/
def insn_Put.f (a b c d : Int) : Option (ByteArray × Int) :=
  if (-9223372036854775808 ≤ a ∧ a ≤ 9223372036854775807 ∧ -9223372036854775808 ≤ b ∧ b ≤ 9223372036854775807) ∧ -9223372036854775808 ≤ c ∧ c ≤ 9223372036854775807 ∧ 0 ≤ d ∧ d < 4294967296 then
    some (if putOk a b c = true then (putOut a b c d 4, 0) else (⟨#[]⟩, 1)) else none
theorem insn_Put.calls (a b c d : Int) (r1 : ByteArray) (r2 : Int) (w : World) (h : insn_Put.f a b c d = some (r1, r2)) :
    Calls Try.prog 32 #[.agg #[.int .i64 a, .int .i64 b, .int .i64 c, .int .u32 d]] w fun e w' => e = .returned (.tuple #[.string r1, .int .i64 r2]) ∧ Below w.heap.size w w' := by
  unfold insn_Put.f at h
  split at h
  · rename_i hc
    refine (put_any a b c d w hc.1.1 hc.1.2.1 hc.1.2.2.1 hc.1.2.2.2 hc.2.1 hc.2.2.1 hc.2.2.2.1 hc.2.2.2.2).mono ?_
    rintro e w' ⟨he, hb⟩
    refine ⟨?_, hb⟩
    have h2 := Option.some.inj h
    rw [he]
    by_cases hp : putOk a b c = true
    · rw [if_pos hp] at h2
      rw [if_pos hp, if_pos hp]
      injection h2 with e1 e2
      rw [e1, e2]
    · rw [if_neg hp] at h2
      rw [if_neg hp, if_neg hp]
      injection h2 with e1 e2
      rw [e1, e2]
  · exact absurd h (by simp)
end Go.Proofs.Ytefkhcijgiagdaa.HPut
