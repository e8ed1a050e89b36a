/- doorwardref02.Turned, walked: which bytes it answers. -/
import Derived.Test.YtdiihhddcodabaaProg
import Derived.Below
import Derived.Deep.Draws
import Derived.Deep.AppendLies
import Derived.Maps.AppendAt
import Derived.OwnWalk
import Derived.Laws.BytesArg
import Derived.Laws.MakeOwn
import Derived.Laws.OwnMore
import Derived.Deep.OwnRows
import Derived.Tactics
import Derived.Lib.ConvBytes
import Derived.Laws.Slices
import Derived.WalkKit
import Derived.KernelRfl
import Derived.RowKit3
import Derived.Deep.LoopGhost
import Derived.Deep.QuietTactic
import Derived.BigQuiet
import Derived.WideLaws
import Derived.Deep.DeepCutAuto
import Derived.Deep.CutBlock
import Derived.Deep.RegionHeld3
import Derived.Laws.Rows
import Derived.Lib.AppendStr
import Derived.ArgAppend
import Derived.Laws.IdiomCopy
import Derived.OrdersHeld
import Derived.Laws.BitsLemmas
import Derived.RowKit
import Derived.Test.YtdiihhddcodabaaWWords
import Derived.Test.YtdiihhddcodabaaWLast
import Derived.Test.YtdiihhddcodabaaWTab
import Derived.Test.YtdiihhddcodabaaWFour
import Derived.Test.YtdiihhddcodabaaWQPut
import Derived.Test.YtdiihhddcodabaaWApart
import Derived.Test.YtdiihhddcodabaaWArr
import Derived.Test.YtdiihhddcodabaaWZeros
import Derived.Test.YtdiihhddcodabaaWFoot
import Derived.Test.YtdiihhddcodabaaWKept
import Derived.Test.YtdiihhddcodabaaWShare
import Derived.Test.YtdiihhddcodabaaWN
import Derived.Test.YtdiihhddcodabaaWFootNe
import Derived.Test.YtdiihhddcodabaaWAt
import Derived.Test.YtdiihhddcodabaaWEqStruct
import Derived.Test.YtdiihhddcodabaaWRepsOne
import Derived.Test.YtdiihhddcodabaaWInv
import Derived.Test.YtdiihhddcodabaaWInvWords
import Derived.Test.YtdiihhddcodabaaWGuard
import Derived.Test.YtdiihhddcodabaaWNEv
import Derived.Test.YtdiihhddcodabaaWMore
import Derived.Laws.Tables
import Derived.Deep.WholeRow
namespace Go.Proofs.Ytdiihhddcodabaa.HTurned
open Go.RowKit Go.Proofs.YtdiihhddcodabaaW.PrintWords Go.Proofs.YtdiihhddcodabaaW.PrintLast Go.Proofs.YtdiihhddcodabaaW.PrintMore
set_option linter.unusedVariables false
set_option linter.unusedSimpArgs false
/-- a block whose first cells are these bytes (as '[]byte(s)' lays it). -/
def IsB (W : World) (B : Nat) (xs : List Int) : Prop := ∃ (tl : List Value) (m : Nat), W.heap[B]? = some (.cells (nums .u8 xs ++ tl).toArray 5 (m, m + 1)) ∧ xs.length ≤ m
theorem IsB.cell {W : World} {B : Nat} {xs : List Int} (h : IsB W B xs) (i : Int) (h0 : 0 ≤ i) (h1 : i < xs.length) : W.cell? ⟨B, i.toNat, none⟩ = some (.int .u8 (rd xs i)) := by
  obtain ⟨tl, m, hb, hm⟩ := h
  have hi : i.toNat < xs.length := by omega
  rw [cell_of_row W B i.toNat _ 5 _ hb, List.getElem?_toArray, List.getElem?_append_left (by rw [nums_length]; exact hi)]
  simp [nums, rd, hi]
theorem IsB.frozen {W : World} {B : Nat} {xs : List Int} (h : IsB W B xs) (i : Int) (h0 : 0 ≤ i) (h1 : i < xs.length) : W.frozen? ⟨B, i.toNat, none⟩ = false := by
  obtain ⟨tl, m, hb, hm⟩ := h
  have hi : i.toNat < xs.length := by omega
  simp only [World.frozen?, hb]
  simp
  omega
theorem IsB.set {W : World} {B : Nat} {xs : List Int} (h : IsB W B xs) (i v : Int) (h0 : 0 ≤ i) (h1 : i < xs.length) : IsB (W.setCell ⟨B, i.toNat, none⟩ (.int .u8 v)) B (xs.set i.toNat v) := by
  obtain ⟨tl, m, hb, hm⟩ := h
  have hi : i.toNat < xs.length := by omega
  refine ⟨tl, m, ?_, by simpa using hm⟩
  rw [setCell_eq_setRow W B i.toNat _ 5 _ _ hb, setRow_heap W B _ _ 5 _ hb]
  congr 2
  rw [List.setIfInBounds_toArray, List.set_append_left _ _ (by rw [nums_length]; exact hi)]
  simp [nums, List.map_set]
theorem IsB.string {P : Program} {W : World} {B cap : Nat} {xs : List Int} (h : IsB W B xs) {src dst e : TypeId} (hs : P.underlying src = some (.slice e)) (he : P.underlying e = some (.int .u8)) (hd : P.underlying dst = some .string) :
    (convert src dst (.slice (some ⟨B, 0, none⟩) xs.length cap)).run P W = .ok (.string (strOfNums xs)) W := by
  refine run_convert_bytes_arg W src e hs he B 0 _ cap xs rfl (fun i hi => ?_) dst hd
  have hc := h.cell (i : Int) (by omega) (by omega)
  rw [Int.toNat_natCast] at hc
  simpa [rd] using hc
theorem IsB.lt {W : World} {B : Nat} {xs : List Int} (h : IsB W B xs) : B < W.heap.size := by
  obtain ⟨tl, m, hb, hm⟩ := h
  exact blk_lt hb
def tstep (fr pat : Int) (xs : List Int) (k : Nat) : List Int :=
  if fr + k < 8 * xs.length ∧ pat / 2 ^ k % 2 = 1 then xs.set ((fr + k) / 8).toNat (Go.bits .xor .u8 (rd xs ((fr + k) / 8)) (2 ^ ((fr + k) % 8).toNat % 256)) else xs
def turnN (fr pat : Int) (xs : List Int) : Nat → List Int
  | 0 => xs
  | k + 1 => tstep fr pat (turnN fr pat xs k) k
theorem turnN_length (fr pat : Int) (xs : List Int) (k : Nat) : (turnN fr pat xs k).length = xs.length := by
  induction k with
  | zero => rfl
  | succ k ih => simp only [turnN, tstep]; split <;> simp [ih]
set_option maxHeartbeats 1000000 in
theorem turned_any (s : ByteArray) (fr pat : Int) (w : World) (hs : s.size ≤ 140737488355328) (h0 : 0 ≤ fr) (h1 : fr ≤ 1125899906842624) (hp0 : 0 ≤ pat) (hp1 : pat < 4294967296) :
    Calls Try.prog 15 #[.string s, .int .i64 fr, .int .u32 pat] w fun e w' => e = .returned (.string (strOfNums (turnN fr pat (bytesOf s) 32))) ∧ Below w.heap.size w w' := by
  have kc := fun W : World => print_bytes (P := Try.prog) 9 22 5 Try.underlying9 Try.underlying22 Try.underlying5 s W
  have hbl := bytesOf_length s
  go_enter Try.func15, Try.ntmps15
  go_wp2
  obtain ⟨W, hW⟩ : ∃ W, W = Lib.bytesWorld w 5 s := ⟨_, rfl⟩
  have HI : IsB W w.heap.size (bytesOf s) := by
    refine ⟨List.replicate (grownCap w s.size 0 5 - s.size) (.int .u8 0), (Lib.bytesCells w 5 s).size, ?_, ?_⟩
    · rw [hW, Lib.bytesWorld_at_new]
      congr 2
      apply Array.ext'
      simp [Lib.bytesCells, nums, bytesOf]
    · rw [hbl, Lib.bytesCells, Array.size_append, Array.size_map]
      exact Nat.le_add_right _ _
  have HB : Below w.heap.size w W := by rw [hW]; exact bytes_below (Below.refl _ _) (Nat.le_refl _) 5 s
  rw [← hW]
  generalize grownCap w s.size 0 5 = cp
  clear hW kc
  obtain ⟨xs0, hx0⟩ : ∃ xs0, xs0 = bytesOf s := ⟨_, rfl⟩
  rw [← hx0] at hbl HI
  rw [← hbl] at hs
  rw [← hbl]
  have hx := Aside0.mk hx0
  clear hx0 hbl
  go_loopw [8] (fun i wr => ∃ k : Nat, k ≤ 32 ∧ i = .int .i64 k ∧ IsB wr w.heap.size (turnN fr pat xs0 k) ∧ Below w.heap.size w wr) (fun i _ => 32 - (intOf i).toNat)
  case atStart => exact ⟨0, by omega, rfl, HI, HB⟩
  case round =>
    clear HI HB
    obtain ⟨k, hk, rfl, HI, HB⟩ := hrel
    have hln := turnN_length fr pat xs0 k
    by_cases hlt : k < 32
    · have hd : decide ((k : Int) < 32) = true := decide_eq_true (by omega)
      obtain ⟨q, hq⟩ : ∃ q : Int, fr + (k : Int) = q := ⟨_, rfl⟩
      have hq0 : 0 ≤ q := by omega
      have hq1 : q ≤ 1125899906842700 := by omega
      have hge : decide (0 ≤ q) = true := decide_eq_true hq0
      by_cases hb : q < 8 * xs0.length
      · have hbd : decide (q < 8 * (xs0.length : Int)) = true := decide_eq_true hb
        by_cases hbit : pat / 2 ^ k % 2 = 1
        · have hts : turnN fr pat xs0 (k + 1) = (turnN fr pat xs0 k).set (q / 8).toNat (Go.bits .xor .u8 (rd (turnN fr pat xs0 k) (q / 8)) (2 ^ (q % 8).toNat % 256)) := by
            rw [turnN, tstep, hq, if_pos ⟨by omega, hbit⟩]
          have hc := HI.cell (q / 8) (by omega) (by omega)
          have hf := HI.frozen (q / 8) (by omega) (by omega)
          have hst := HI.set (q / 8) (Go.bits .xor .u8 (rd (turnN fr pat xs0 k) (q / 8)) (2 ^ (q % 8).toNat % 256)) (by omega) (by omega)
          rw [← hts] at hst
          have hst := Aside0.mk hst
          clear hts
          have hq8 : 0 ≤ q / 8 := by omega
          have hq9 : q / 8 < xs0.length := by omega
          have hql := HI.lt
          have HB := Aside0.mk HB
          generalize rd (turnN fr pat xs0 k) (q / 8) = old at *
          have hpos : 0 ≤ pat / 2 ^ k := Int.ediv_nonneg hp0 (Int.pow_nonneg (by decide))
          have hbt : (pat / 2 ^ k % 2 == 1) = true := beq_iff_eq.mpr hbit
          clear hbit HI hk h0 h1 hb hln
          go_wp2
          go_roundw
          case rel => exact ⟨k + 1, by omega, by go_num, hst.out, HB.out.setCell (Nat.le_refl _) _⟩
          case measure => simp [intOf]; omega
        · have hbt : (pat / 2 ^ k % 2 == 1) = false := beq_eq_false_iff_ne.mpr hbit
          have hpos : 0 ≤ pat / 2 ^ k := Int.ediv_nonneg hp0 (Int.pow_nonneg (by decide))
          go_wp2
          go_roundw
          case rel => exact ⟨k + 1, by omega, by go_num, by rw [turnN, tstep, hq, if_neg (fun h => hbit h.2)]; exact HI, HB⟩
          case measure => simp [intOf]; omega
      · have hbd : decide (q < 8 * (xs0.length : Int)) = false := decide_eq_false hb
        go_wp2
        go_roundw
        case rel => exact ⟨k + 1, by omega, by go_num, by rw [turnN, tstep, hq, if_neg (fun h => hb (by have := h.1; omega))]; exact HI, HB⟩
        case measure => simp [intOf]; omega
    · obtain rfl : k = 32 := by omega
      have hcv := HI.string (P := Try.prog) (cap := cp) Try.underlying22 Try.underlying5 Try.underlying9
      rw [hln] at hcv
      go_wp2
      go_ret
      exact ⟨by rw [hx.out]; rfl, HB⟩
/-! ### doorwardref02_Turned: function 15, by hand -/
def doorwardref02_Turned.f (a0 : ByteArray) (a1 a2 : Int) : Option ByteArray :=
  if a0.size ≤ 140737488355328 ∧ 0 ≤ a1 ∧ a1 ≤ 1125899906842624 ∧ 0 ≤ a2 ∧ a2 < 4294967296 then some (strOfNums (turnN a1 a2 (bytesOf a0) 32)) else none
theorem doorwardref02_Turned.calls (a0 : ByteArray) (a1 a2 : Int) (r : ByteArray) (w : World) (h : doorwardref02_Turned.f a0 a1 a2 = some r) :
    Calls Try.prog 15 #[.string a0, .int .i64 a1, .int .u32 a2] w fun e w' => e = .returned (.string r) ∧ Below w.heap.size w w' := by
  unfold doorwardref02_Turned.f at h
  split at h
  · rename_i hc
    obtain rfl := Option.some.inj h
    exact turned_any a0 a1 a2 w hc.1 hc.2.1 hc.2.2.1 hc.2.2.2.1 hc.2.2.2.2
  · exact absurd h (by simp)
end Go.Proofs.Ytdiihhddcodabaa.HTurned
