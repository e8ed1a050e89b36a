/- The sum of crc.Of, as the machine reckons it: contracts of its functions. -/
import Derived.Test.YtdiihhddcodabaaProg
import Derived.Below
import Derived.Deep.Draws
import Derived.Deep.AppendLies
import Derived.Maps.AppendAt
import Derived.OwnWalk
import Derived.Laws.BytesArg
import Derived.Laws.MakeOwn
import Derived.Laws.OwnMore
import Derived.Deep.OwnRows
import Derived.Tactics
import Derived.Lib.ConvBytes
import Derived.Laws.Slices
import Derived.WalkKit
import Derived.KernelRfl
import Derived.RowKit3
import Derived.Deep.LoopGhost
import Derived.Deep.QuietTactic
import Derived.BigQuiet
import Derived.WideLaws
import Derived.Deep.DeepCutAuto
import Derived.Deep.CutBlock
import Derived.Deep.RegionHeld3
import Derived.Laws.Rows
import Derived.Lib.AppendStr
import Derived.ArgAppend
import Derived.Laws.IdiomCopy
import Derived.OrdersHeld
import Derived.Laws.BitsLemmas
import Derived.RowKit
import Derived.Laws.Tables
import Derived.Laws.CopyOwn
import Derived.Deep.WholeRow
import Derived.Test.YtdiihhddcodabaaWWords
import Derived.Test.YtdiihhddcodabaaWLast
import Derived.Test.YtdiihhddcodabaaWTab
import Derived.Test.YtdiihhddcodabaaWFour
import Derived.Test.YtdiihhddcodabaaWQPut
import Derived.Test.YtdiihhddcodabaaWApart
import Derived.Test.YtdiihhddcodabaaWArr
import Derived.Test.YtdiihhddcodabaaWZeros
import Derived.Test.YtdiihhddcodabaaWFoot
import Derived.Test.YtdiihhddcodabaaWKept
import Derived.Test.YtdiihhddcodabaaWShare
import Derived.Test.YtdiihhddcodabaaWN
import Derived.Test.YtdiihhddcodabaaWFootNe
import Derived.Test.YtdiihhddcodabaaWAt
import Derived.Test.YtdiihhddcodabaaWEqStruct
import Derived.Test.YtdiihhddcodabaaWRepsOne
import Derived.Test.YtdiihhddcodabaaWInv
import Derived.Test.YtdiihhddcodabaaWInvWords
import Derived.Test.YtdiihhddcodabaaWGuard
import Derived.Test.YtdiihhddcodabaaWNEv
import Derived.Test.YtdiihhddcodabaaWMore
namespace Go.Proofs.Ytdiihhddcodabaa.HCrc
open Go.RowKit Go.Proofs.YtdiihhddcodabaaW.PrintWords Go.Proofs.YtdiihhddcodabaaW.PrintLast Go.Proofs.YtdiihhddcodabaaW.PrintMore
set_option linter.unusedVariables false
set_option linter.unusedSimpArgs false

def stp (r : Int) : Int := if Go.bits .and .u32 r 1 = 1 then Go.bits .xor .u32 (r / 2) 3988292384 else r / 2

theorem stp_any (r : Int) (w : World) : Calls Try.prog 20 #[.int .u32 r] w fun e w' => e = .returned (.int .u32 (stp r)) ∧ w = w' := by
  by_cases h : Go.bits .and .u32 r 1 = 1
  · go_enter Try.func20, Try.ntmps20
    go_wp2
    go_ret
    exact ⟨by simp [stp, h], rfl⟩
  · go_enter Try.func20, Try.ntmps20
    go_wp2
    go_ret
    exact ⟨by simp [stp, h], rfl⟩

def stpN : Nat → Int → Int
  | 0, r => r
  | k + 1, r => stp (stpN k r)

def tabArr (k : Nat) : Array Value := ((List.range 16).map fun i => .int .u32 (if i < k then stpN 4 i else 0)).toArray

theorem tabArr_succ (k : Nat) (h : k < 16) : (tabArr k).setIfInBounds k (.int .u32 (stpN 4 k)) = tabArr (k + 1) := by
  rcases Nat.lt_or_ge k 8 with h8 | h8
  · match k, h8 with
    | 0, _ | 1, _ | 2, _ | 3, _ | 4, _ | 5, _ | 6, _ | 7, _ => rfl
  · obtain ⟨j, rfl⟩ : ∃ j, k = j + 8 := ⟨k - 8, by omega⟩
    have hj : j < 8 := by omega
    match j, hj with
    | 0, _ | 1, _ | 2, _ | 3, _ | 4, _ | 5, _ | 6, _ | 7, _ => rfl
theorem tabArr_size (k : Nat) : (tabArr k).size = 16 := by simp [tabArr]
theorem tabArr_one (k : Nat) : (tabArr k).all (·.oneCell') = true := by simp [tabArr, Value.oneCell']
theorem tabArr_zero : tabArr 0 = #[.int .u32 0, .int .u32 0, .int .u32 0, .int .u32 0, .int .u32 0, .int .u32 0, .int .u32 0, .int .u32 0, .int .u32 0, .int .u32 0, .int .u32 0, .int .u32 0, .int .u32 0, .int .u32 0, .int .u32 0, .int .u32 0] := rfl
theorem tabArr_get (k j : Nat) (h : j < 16) : (tabArr k)[j]? = some (.int .u32 (if j < k then stpN 4 j else 0)) := by simp [tabArr, h]
set_option maxHeartbeats 1000000 in
theorem table_any (w : World) : Calls Try.prog 16 #[] w fun e w' => e = .returned (.agg (tabArr 16)) ∧ Below w.heap.size w w' := by
  go_enter Try.func16, Try.ntmps16
  go_wp2
  go_loopw [5] (fun i wr => ∃ k : Nat, k ≤ 16 ∧ i = .int .i64 k ∧ wr.heap[w.heap.size + 1]? = some (.cells (tabArr k) 34 (0, 0)) ∧ wr.heap[w.heap.size]? = some (.cells (tabArr 0) 34 (0, 0)) ∧ Below w.heap.size w wr) (fun i _ => 16 - (intOf i).toNat)
  case atStart => exact ⟨0, by omega, rfl, heap_alloc2_new _ _ _, heap_alloc2_old _ _ _, by repeat (first | exact Below.refl _ _ | apply below_alloc)⟩
  case round =>
    obtain ⟨k, hk, rfl, hb, hb0, HB⟩ := hrel
    by_cases hlt : k < 16
    · have hd : decide ((k : Int) < 16) = true := decide_eq_true (by omega)
      have hc : wr.cell? ⟨w.heap.size + 1, k, none⟩ = some (.int .u32 0) := by rw [blk_cell hb, tabArr_get k k hlt]; simp
      have hf : wr.frozen? ⟨w.heap.size + 1, k, none⟩ = false := blk_frozen hb k
      go_wp2
      go_loop [4, 10] (fun r j => ∃ m : Nat, m ≤ 4 ∧ j = .int .i64 m ∧ r = .int .u32 (stpN m k)) (fun _ j => 4 - (intOf j).toNat)
      case atStart => exact ⟨0, by omega, rfl, rfl⟩
      case round =>
        obtain ⟨m, hm, rfl, rfl⟩ := hrel
        by_cases hlm : m < 4
        · go_wp2_with (go_at_call 20; refine (stp_any _ _).mono ?_; rintro e w' ⟨rfl, rfl⟩)
          go_round
          case rel => exact ⟨m + 1, by omega, by go_num, rfl⟩
          case measure => simp [intOf]; omega
        · obtain rfl : m = 4 := by omega
          clear hlm hm
          go_wp2
          go_roundw
          case rel => exact ⟨k + 1, by omega, by go_num, by rw [← tabArr_succ k hlt]; exact blk_set hb k _, blk_far hb0 (by simp) _, HB.setCell (by simp) _⟩
          case measure => simp [intOf]; omega
    · obtain rfl : k = 16 := by omega
      have hb2 := setRow_heap wr w.heap.size (tabArr 0) (tabArr 16) 34 (0, 0) hb0
      go_wp2_with (first | (refine wpList_load_row rfl 34 (.tmp 1) rfl (w.heap.size + 1) rfl 34 (tabArr 16) (0, 0) _ hb Try.underlying34 rfl (by kernel_rfl) ?_) | (refine wpList_store_row rfl 34 (.tmp 0) (.tmp 20) rfl w.heap.size (tabArr 16) rfl rfl 34 (tabArr 0) hb0 (by kernel_rfl) (by simp [tabArr_size]) (tabArr_one _) ?_))
      refine bodyPost_ret (v := .agg (tabArr 16)) (results_cell_row (p := 0) (by kernel_rfl) _ _ w.heap.size 34 (tabArr 16) (0, 0) _ rfl hb2 Try.underlying34 rfl (by kernel_rfl)) rfl ⟨rfl, ?_⟩
      exact below_setRow HB (Nat.le_refl _) _

-- the sum: four bits at once
def tab (i : Int) : Int := stpN 4 i
def half (r : Int) : Int := Go.bits .xor .u32 (r / 16) (tab (Go.bits .and .u32 r 15))
def byteStep (r c : Int) : Int := half (half (Go.bits .xor .u32 r c))
def sumN (s : ByteArray) : Nat → Int
  | 0 => 4294967295
  | k + 1 => byteStep (sumN s k) (bt s k)
def crcOf (s : ByteArray) : Int := Go.bits .xor .u32 4294967295 (sumN s s.size)
theorem ret_int {k : IntKind} {a b : Int} (h : a = b) : Ending.returned (.int k a) = .returned (.int k b) := by rw [h]
theorem and15 (r : Int) : 0 ≤ Go.bits .and .u32 r 15 ∧ Go.bits .and .u32 r 15 < 16 := by
  have h2 : Go.bits .and .u32 r 15 = ((BitVec.ofInt 32 r).toNat &&& 15 : Nat) := by
    have h3 : (BitVec.ofInt 32 r).toNat &&& 15 < 16 := Nat.lt_succ_of_le Nat.and_le_right
    have e : Go.bits .and .u32 r 15 = IntKind.u32.wrap ((BitVec.ofInt 32 r &&& BitVec.ofInt 32 15).toNat : Int) := rfl
    rw [e, BitVec.toNat_and, show (BitVec.ofInt 32 15).toNat = 15 by decide, IntKind.wrap_u32]
    omega
  have h3 : (BitVec.ofInt 32 r).toNat &&& 15 < 16 := Nat.lt_succ_of_le Nat.and_le_right
  rw [h2]
  omega
theorem tab_cell {W : World} {B : Nat} (hB : W.heap[B]? = some (.cells (tabArr 16) 34 (0, 0))) (r : Int) : W.cell? ⟨B, (Go.bits .and .u32 r 15).toNat, none⟩ = some (.int .u32 (tab (Go.bits .and .u32 r 15))) := by
  obtain ⟨h0, h1⟩ := and15 r
  have h2 : (Go.bits .and .u32 r 15).toNat < 16 := by omega
  rw [blk_cell hB, tabArr_get _ _ h2, if_pos h2, tab, Int.toNat_of_nonneg h0]
set_option maxHeartbeats 1000000 in
theorem of_any (s : ByteArray) (w : World) (hs : s.size ≤ 9223372036854775807) : Calls Try.prog 8 #[.string s] w fun e w' => e = .returned (.int .u32 (crcOf s)) ∧ Below w.heap.size w w' := by
  go_enter Try.func8, Try.ntmps8
  go_wp2_with (first | (go_at_call 16; refine (table_any _).mono ?_; rintro e w1 ⟨rfl, hb1⟩) | (refine wpList_store_row rfl 34 (.tmp 3) (.tmp 6) rfl _ (tabArr 16) rfl rfl 34 _ (heap_alloc_new _ _) (by kernel_rfl) (by simp [tabArr_size]) (tabArr_one _) ?_; rw [World.setRow_alloc_new]))
  obtain ⟨W, hW⟩ : ∃ W, W = w1.alloc (.cells (tabArr 16) 34) := ⟨_, rfl⟩
  have hB : W.heap[w1.heap.size]? = some (.cells (tabArr 16) 34 (0, 0)) := by rw [hW]; exact heap_alloc_new _ _
  have HB : Below w.heap.size w W := by rw [hW]; exact below_alloc hb1 _
  rw [← hW]
  clear hW
  go_loop [4, 9] (fun r i => ∃ k : Nat, k ≤ s.size ∧ i = .int .i64 k ∧ r = .int .u32 (sumN s k)) (fun _ i => s.size - (intOf i).toNat)
  case atStart => exact ⟨0, by omega, rfl, rfl⟩
  case round =>
    obtain ⟨k, hk, rfl, rfl⟩ := hrel
    by_cases hlt : k < s.size
    · have hd : decide ((k : Int) < s.size) = true := decide_eq_true (by omega)
      have hbt : ((s[k]'hlt).toNat : Int) = bt s k := bt_at s k hlt
      have hbr := bt_range s k
      have hbm : bt s k % 4294967296 = bt s k := by omega
      have h1 := and15 (Go.bits .xor .u32 (sumN s k) (bt s k))
      have h2 := and15 (half (Go.bits .xor .u32 (sumN s k) (bt s k)))
      unfold half at h2
      have c1 := tab_cell hB (Go.bits .xor .u32 (sumN s k) (bt s k))
      have c2 := tab_cell hB (half (Go.bits .xor .u32 (sumN s k) (bt s k)))
      unfold half at c2
      go_wp2
      go_round
      case rel => exact ⟨k + 1, by omega, by go_num, rfl⟩
      case measure => simp [intOf]; omega
    · obtain rfl : k = s.size := by omega
      go_wp2
      go_ret
      exact ⟨ret_int rfl, HB⟩

/-! ### crc_Of: function 8, by hand -/
def crc_Of.f (a0 : ByteArray) : Option Int := if a0.size ≤ 9223372036854775807 then some (crcOf a0) else none
theorem crc_Of.calls (a0 : ByteArray) (r : Int) (w : World) (h : crc_Of.f a0 = some r) :
    Calls Try.prog 8 #[.string a0] w fun e w' => e = .returned (.int .u32 r) ∧ Below w.heap.size w w' := by
  unfold crc_Of.f at h
  by_cases hs : a0.size ≤ 9223372036854775807
  · rw [if_pos hs] at h
    obtain rfl := Option.some.inj h
    exact of_any a0 w hs
  · rw [if_neg hs] at h
    exact absurd h (by simp)
end Go.Proofs.Ytdiihhddcodabaa.HCrc
