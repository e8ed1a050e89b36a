/- CheckTells: which filters may be, and where one may not, and which cells are written on each way to each instruction, is as the document says. -/
import Derived.Test.YtefkhcijgiagdaaProg
import Derived.Below
import Derived.Deep.Draws
import Derived.Deep.AppendLies
import Derived.Maps.AppendAt
import Derived.OwnWalk
import Derived.Laws.BytesArg
import Derived.Laws.MakeOwn
import Derived.Laws.OwnMore
import Derived.Deep.OwnRows
import Derived.Tactics
import Derived.Lib.ConvBytes
import Derived.Laws.Slices
import Derived.WalkKit
import Derived.KernelRfl
import Derived.RowKit3
import Derived.Deep.LoopGhost
import Derived.Deep.QuietTactic
import Derived.BigQuiet
import Derived.WideLaws
import Derived.Deep.DeepCutAuto
import Derived.Deep.CutBlock
import Derived.Deep.RegionHeld3
import Derived.Laws.Rows
import Derived.Lib.AppendStr
import Derived.ArgAppend
import Derived.Laws.IdiomCopy
import Derived.OrdersHeld
import Derived.Laws.BitsLemmas
import Derived.RowKit
import Derived.Test.YtefkhcijgiagdaaWWords
import Derived.Test.YtefkhcijgiagdaaWLast
import Derived.Test.YtefkhcijgiagdaaWTab
import Derived.Test.YtefkhcijgiagdaaWFour
import Derived.Test.YtefkhcijgiagdaaWQPut
import Derived.Test.YtefkhcijgiagdaaWApart
import Derived.Test.YtefkhcijgiagdaaWArr
import Derived.Test.YtefkhcijgiagdaaWZeros
import Derived.Test.YtefkhcijgiagdaaWFoot
import Derived.Test.YtefkhcijgiagdaaWKept
import Derived.Test.YtefkhcijgiagdaaWShare
import Derived.Test.YtefkhcijgiagdaaWN
import Derived.Test.YtefkhcijgiagdaaWFootNe
import Derived.Test.YtefkhcijgiagdaaWAt
import Derived.Test.YtefkhcijgiagdaaWEqStruct
import Derived.Test.YtefkhcijgiagdaaWRepsOne
import Derived.Test.YtefkhcijgiagdaaWInv
import Derived.Test.YtefkhcijgiagdaaWInvWords
import Derived.Test.YtefkhcijgiagdaaWGuard
import Derived.Test.YtefkhcijgiagdaaWNEv
import Derived.Test.YtefkhcijgiagdaaWMore
import Derived.Laws.Tables
import Derived.Laws.CopyOwn
import Derived.Deep.WholeRow
import Derived.ChangeKeysEq
import Derived.Shelf.Abstract
import Derived.Deep.RegionLaw
import Derived.Maps.OwnSet
import Derived.Shelf.Strings.BuilderK
import Derived.Laws.Externs
import Derived.Laws.EntriesVeiled
import Derived.WalkSpells
import Derived.Deep.RegionLawGrows
import Derived.StillTailTactics
import Derived.DataReads
import Derived.DataElems
import Derived.SizedLaws
import Derived.ProofKit
import Derived.Test.YtefkhcijgiagdaaRows
import Derived.Test.YtefkhcijgiagdaaOrder
import Derived.OpenShut
import Derived.ShutString
import Derived.ChangeOld
section
namespace Go.Proofs.Ytefkhcijgiagdaa.Le
open Go.RowKit Go.Proofs.YtefkhcijgiagdaaW.PrintWords Go.Proofs.YtefkhcijgiagdaaW.PrintLast Go.Proofs.YtefkhcijgiagdaaW.PrintMore
attribute [local go_sem] max2_int min2_int max_two min_two max_three min_three max_four min_four IntKind.wrap_u32 IntKind.wrap_u8   -- for this text's walks alone
set_option linter.unusedVariables false
set_option linter.unusedSimpArgs false
def errW : Option Int → Value
  | none => .nilIface
  | some c => .iface 0 (.int .i64 c)
theorem errW_none : errW none = .nilIface := rfl
theorem errW_some (c : Int) : errW (some c) = .iface 0 (.int .i64 c) := rfl
end Go.Proofs.Ytefkhcijgiagdaa.Le
end
section
namespace Go.Proofs.Ytefkhcijgiagdaa.QLe
open Go.RowKit Go.Proofs.YtefkhcijgiagdaaW.PrintWords Go.Proofs.YtefkhcijgiagdaaW.PrintLast Go.Proofs.YtefkhcijgiagdaaW.PrintMore Go.Proofs.Ytefkhcijgiagdaa.Le
set_option linter.unusedVariables false
set_option linter.unusedSimpArgs false
theorem w64 (x : Int) (h : -9223372036854775808 ≤ x) (h2 : x ≤ 9223372036854775807) : wrap64 x = x := by unfold wrap64; omega
def leB (n : Int) (sz : Nat) : List Int := (List.range sz).map fun i => n / 256 ^ i % 256
def part (n : Int) (sz i : Nat) : List Int := (List.range sz).map fun j => if j < i then n / 256 ^ j % 256 else 0
end Go.Proofs.Ytefkhcijgiagdaa.QLe
end
section
namespace Go.Proofs.Ytefkhcijgiagdaa.HKnown
open Go.RowKit Go.Proofs.YtefkhcijgiagdaaW.PrintWords Go.Proofs.YtefkhcijgiagdaaW.PrintLast Go.Proofs.YtefkhcijgiagdaaW.PrintMore Go.Proofs.Ytefkhcijgiagdaa.Le Go.Proofs.Ytefkhcijgiagdaa.QLe
set_option linter.unusedVariables false
set_option linter.unusedSimpArgs false
def codes : List Nat := [32, 128, 0, 96, 1, 97, 129, 2, 3, 4, 20, 36, 52, 68, 84, 100, 116, 132, 164, 12, 28, 44, 60, 76, 92, 108, 124, 172, 5, 21, 37, 53, 69, 29, 45, 61, 77, 6, 22, 7, 135]
def arrK (k : Nat) : Array Value := ((List.range 256).map fun i => Value.bool ((codes.take k).contains i)).toArray
theorem arrK_size (k : Nat) : (arrK k).size = 256 := by simp [arrK]
theorem arrK_one (k : Nat) : (arrK k).all (·.oneCell') = true := by simp [arrK, Value.oneCell']
theorem arrK_get (k j : Nat) (h : j < 256) : (arrK k)[j]? = some (.bool ((codes.take k).contains j)) := by simp [arrK, h]
theorem codes_lt (k : Nat) (h : k < 41) : codes.getD k 0 < 256 := by
  have : ∀ k : Fin 41, codes.getD k.1 0 < 256 := by decide
  exact this ⟨k, h⟩
theorem arrK_succ (k : Nat) (h : k < 41) : (arrK k).setIfInBounds (codes.getD k 0) (.bool true) = arrK (k + 1) := by
  apply Array.ext'
  have hl : k < codes.length := h
  rw [Array.toList_setIfInBounds]
  apply List.ext_getElem
  · simp [arrK]
  · intro j h1 h2
    have hj : j < 256 := by simpa [arrK] using h2
    simp only [arrK, List.getElem_set, List.getElem_map, List.getElem_range]
    have e : (List.take (k + 1) codes).contains j = ((List.take k codes).contains j || codes[k] == j) := by
      rw [List.take_succ_eq_append_getElem hl, Bool.eq_iff_iff]
      simp only [List.contains_eq_mem, List.mem_append, List.mem_singleton, decide_eq_true_eq, Bool.or_eq_true, beq_iff_eq]
      exact or_congr_right eq_comm
    rw [e, List.getD_eq_getElem?_getD, List.getElem?_eq_getElem hl, Option.getD_some]
    by_cases hc : codes[k] = j
    · rw [if_pos hc, beq_iff_eq.mpr hc, Bool.or_true]
    · rw [if_neg hc, beq_eq_false_iff_ne.mpr hc, Bool.or_false]
theorem run_index_agg {P : Program} (t e : TypeId) (n : Nat) (d : TypeDesc) (ht : P.underlying t = some (.array n e)) (hu : P.underlying e = some d) (hd : (match d with | .struct _ | .array _ _ => true | _ => false) = false)
    (i : Nat) (inf : TypeInfo) (hi : P.info? e = some inf) (hs : inf.size = 1) (cs : Array Value) (v : Value) (hv : cs[i]? = some v) (hn : i < n) (w : World) :
    (Instr.index t (.agg cs) (.int .i64 (i : Int))).run P w = .ok v w := by
  have h1 : (sizeOf e).run P w = .ok 1 w := by rw [run_sizeOf w hi]; simp [Program.cellsOf, hi, hs]
  have h2 := run_isAgg_plain (P := P) hu hd w
  have h3 : (0 : Int) ≤ (i : Int) ∧ (i : Int) < (n : Int) := by omega
  simp [Instr.index, run_underlying ht, asIntOf, h1, h2, h3, hn, hv, part, go_sem]
set_option maxRecDepth 100000 in
set_option maxHeartbeats 1000000 in
theorem known_any (w : World) : Calls Try.prog 93 #[] w fun e w' => e = .returned (.agg (arrK 41)) ∧ Below w.heap.size w w' := by
  go_enter Try.func93, Try.ntmps93
  go_wp2
  have hix : ∀ k : Nat, k < 41 → ∀ W, (Instr.index 166 (.agg (#[Value.int .i64 32, Value.int .i64 128, Value.int .i64 0, Value.int .i64 96, Value.int .i64 1, Value.int .i64 97, Value.int .i64 129, Value.int .i64 2, Value.int .i64 3, Value.int .i64 4, Value.int .i64 20, Value.int .i64 36, Value.int .i64 52, Value.int .i64 68, Value.int .i64 84, Value.int .i64 100, Value.int .i64 116, Value.int .i64 132, Value.int .i64 164, Value.int .i64 12, Value.int .i64 28, Value.int .i64 44, Value.int .i64 60, Value.int .i64 76, Value.int .i64 92, Value.int .i64 108, Value.int .i64 124, Value.int .i64 172, Value.int .i64 5, Value.int .i64 21, Value.int .i64 37, Value.int .i64 53, Value.int .i64 69, Value.int .i64 29, Value.int .i64 45, Value.int .i64 61, Value.int .i64 77, Value.int .i64 6, Value.int .i64 22, Value.int .i64 7, Value.int .i64 135] : Array Value)) (.int .i64 (k : Int))).run Try.prog W = .ok (.int .i64 (codes.getD k 0)) W := by
    intro k hk W
    obtain ⟨inf, hi, hs⟩ : ∃ inf, Try.prog.info? 3 = some inf ∧ inf.size = 1 := ⟨_, rfl, rfl⟩
    refine run_index_agg 166 3 41 _ Try.underlying166 Try.underlying3 rfl k inf hi hs _ _ ?_ hk W
    have hE : (#[Value.int .i64 32, Value.int .i64 128, Value.int .i64 0, Value.int .i64 96, Value.int .i64 1, Value.int .i64 97, Value.int .i64 129, Value.int .i64 2, Value.int .i64 3, Value.int .i64 4, Value.int .i64 20, Value.int .i64 36, Value.int .i64 52, Value.int .i64 68, Value.int .i64 84, Value.int .i64 100, Value.int .i64 116, Value.int .i64 132, Value.int .i64 164, Value.int .i64 12, Value.int .i64 28, Value.int .i64 44, Value.int .i64 60, Value.int .i64 76, Value.int .i64 92, Value.int .i64 108, Value.int .i64 124, Value.int .i64 172, Value.int .i64 5, Value.int .i64 21, Value.int .i64 37, Value.int .i64 53, Value.int .i64 69, Value.int .i64 29, Value.int .i64 45, Value.int .i64 61, Value.int .i64 77, Value.int .i64 6, Value.int .i64 22, Value.int .i64 7, Value.int .i64 135] : Array Value) = (codes.map fun c : Nat => Value.int .i64 (c : Int)).toArray := rfl
    have hk2 : k < codes.length := hk
    rw [hE, List.getElem?_toArray, List.getElem?_map, List.getElem?_eq_getElem hk2, List.getD_eq_getElem?_getD, List.getElem?_eq_getElem hk2]; rfl
  generalize hA : (#[Value.int .i64 32, Value.int .i64 128, Value.int .i64 0, Value.int .i64 96, Value.int .i64 1, Value.int .i64 97, Value.int .i64 129, Value.int .i64 2, Value.int .i64 3, Value.int .i64 4, Value.int .i64 20, Value.int .i64 36, Value.int .i64 52, Value.int .i64 68, Value.int .i64 84, Value.int .i64 100, Value.int .i64 116, Value.int .i64 132, Value.int .i64 164, Value.int .i64 12, Value.int .i64 28, Value.int .i64 44, Value.int .i64 60, Value.int .i64 76, Value.int .i64 92, Value.int .i64 108, Value.int .i64 124, Value.int .i64 172, Value.int .i64 5, Value.int .i64 21, Value.int .i64 37, Value.int .i64 53, Value.int .i64 69, Value.int .i64 29, Value.int .i64 45, Value.int .i64 61, Value.int .i64 77, Value.int .i64 6, Value.int .i64 22, Value.int .i64 7, Value.int .i64 135] : Array Value) = ar at hix ⊢
  go_loopw [5] (fun i wr => ∃ k : Nat, k ≤ 41 ∧ i = .int .i64 k ∧ wr.heap[w.heap.size + 1]? = some (.cells (arrK k) 114 (0, 0)) ∧ wr.heap[w.heap.size]? = some (.cells (arrK 0) 114 (0, 0)) ∧ Below w.heap.size w wr) (fun i _ => 41 - (intOf i).toNat)
  case atStart => exact ⟨0, by omega, rfl, heap_alloc2_new _ _ _, heap_alloc2_old _ _ _, by repeat (first | exact Below.refl _ _ | apply below_alloc)⟩
  case round =>
    obtain ⟨k, hk, rfl, hb, hb0, HB⟩ := hrel
    by_cases hlt : k < 41
    · have hd : decide ((k : Int) < 41) = true := decide_eq_true (by omega)
      have hc : wr.cell? ⟨w.heap.size + 1, codes.getD k 0, none⟩ = some (.bool ((codes.take k).contains (codes.getD k 0))) := by rw [blk_cell hb, arrK_get k _ (codes_lt k hlt)]
      have hf : wr.frozen? ⟨w.heap.size + 1, codes.getD k 0, none⟩ = false := blk_frozen hb _
      have hx := hix k hlt
      clear hix
      have hcl := codes_lt k hlt
      have hset := arrK_succ k hlt
      generalize codes.getD k 0 = c at hc hf hx hcl hset
      replace hset := Aside0.mk hset
      go_wp2
      go_roundw
      case rel => exact ⟨k + 1, by omega, by go_num, by rw [← hset.out]; exact blk_set hb c _, blk_far hb0 (by simp) _, HB.setCell (by simp) _⟩
      case measure => simp [intOf]; omega
    · obtain rfl : k = 41 := by omega
      clear hix
      have hb2 := setRow_heap wr w.heap.size (arrK 0) (arrK 41) 114 (0, 0) hb0
      have hd : decide (((41 : Nat) : Int) < 41) = false := rfl
      go_wp2_with (first | (refine wpList_load_row rfl 114 (.tmp 1) rfl (w.heap.size + 1) rfl 114 (arrK 41) (0, 0) _ hb Try.underlying114 rfl (by kernel_rfl) ?_) | (refine wpList_store_row rfl 114 (.tmp 0) (.tmp 11) rfl w.heap.size (arrK 41) rfl rfl 114 (arrK 0) hb0 (by kernel_rfl) (by simp [arrK_size]) (arrK_one _) ?_))
      refine bodyPost_ret (v := .agg (arrK 41)) (results_cell_row (p := 0) (by kernel_rfl) _ _ w.heap.size 114 (arrK 41) (0, 0) _ rfl hb2 Try.underlying114 rfl (by kernel_rfl)) rfl ⟨rfl, ?_⟩
      exact below_setRow HB (Nat.le_refl _) _
/-- is there such a code? -/
def knownB (c : Int) : Bool := decide (0 ≤ c ∧ c < 256) && codes.contains c.toNat
set_option maxRecDepth 100000 in
set_option maxHeartbeats 1000000 in
theorem Known_any (c : Int) (w : World) : Calls Try.prog 44 #[.int .i64 c] w fun e w' => e = .returned (.bool (knownB c)) ∧ Below w.heap.size w w' := by
  by_cases h0 : 0 ≤ c
  · have d0 : decide (0 ≤ c) = true := decide_eq_true h0
    by_cases h1 : c < 256
    · have d1 : decide (c < 256) = true := decide_eq_true h1
      have hr : codes.contains c.toNat = knownB c := by simp [knownB, h0, h1]
      have hg : (arrK 41)[c.toNat]? = some (.bool (knownB c)) := by rw [arrK_get 41 _ (by omega), List.take_of_length_le (by decide), hr]
      clear hr
      go_enter Try.func44, Try.ntmps44
      go_wp2_with (first | (go_at_call 93; refine (known_any _).mono ?_; rintro e w1 ⟨rfl, hb1⟩) | (refine wpList_store_row rfl 114 (.tmp 3) (.tmp 4) rfl _ (arrK 41) rfl rfl 114 _ (heap_alloc_new _ _) (by kernel_rfl) (by simp [arrK_size]) (arrK_one _) ?_; rw [World.setRow_alloc_new]))
      go_ret
      exact ⟨rfl, below_alloc hb1 _⟩
    · have d1 : decide (c < 256) = false := decide_eq_false h1
      have hr : knownB c = false := by simp [knownB, h1]
      rw [hr]
      clear hr
      go_enter Try.func44, Try.ntmps44
      go_wp2_with (first | (go_at_call 93; refine (known_any _).mono ?_; rintro e w1 ⟨rfl, hb1⟩) | (refine wpList_store_row rfl 114 (.tmp 3) (.tmp 4) rfl _ (arrK 41) rfl rfl 114 _ (heap_alloc_new _ _) (by kernel_rfl) (by simp [arrK_size]) (arrK_one _) ?_; rw [World.setRow_alloc_new]))
      go_ret
      exact ⟨rfl, below_alloc hb1 _⟩
  · have d0 : decide (0 ≤ c) = false := decide_eq_false h0
    have hr : knownB c = false := by simp [knownB, h0]
    rw [hr]
    clear hr
    go_enter Try.func44, Try.ntmps44
    go_wp2_with (first | (go_at_call 93; refine (known_any _).mono ?_; rintro e w1 ⟨rfl, hb1⟩) | (refine wpList_store_row rfl 114 (.tmp 3) (.tmp 4) rfl _ (arrK 41) rfl rfl 114 _ (heap_alloc_new _ _) (by kernel_rfl) (by simp [arrK_size]) (arrK_one _) ?_; rw [World.setRow_alloc_new]))
    go_ret
    exact ⟨rfl, below_alloc hb1 _⟩
end Go.Proofs.Ytefkhcijgiagdaa.HKnown
end
section
namespace Go.Proofs.Ytefkhcijgiagdaa.HPut
open Go.RowKit Go.Proofs.YtefkhcijgiagdaaW.PrintWords Go.Proofs.YtefkhcijgiagdaaW.PrintLast Go.Proofs.YtefkhcijgiagdaaW.PrintMore Go.Proofs.Ytefkhcijgiagdaa.Le Go.Proofs.Ytefkhcijgiagdaa.QLe
set_option linter.unusedVariables false
set_option linter.unusedSimpArgs false
def putOk (a b c : Int) : Bool := decide (0 ≤ a ∧ a < 65536 ∧ 0 ≤ b ∧ b < 256 ∧ 0 ≤ c ∧ c < 256)
end Go.Proofs.Ytefkhcijgiagdaa.HPut
end
section
namespace Go.Proofs.Ytefkhcijgiagdaa.I1
open Go.RowKit Go.Proofs.YtefkhcijgiagdaaW.PrintWords Go.Proofs.YtefkhcijgiagdaaW.PrintLast Go.Proofs.YtefkhcijgiagdaaW.PrintMore
attribute [local go_sem] max2_int min2_int max_two min_two max_three min_three max_four min_four IntKind.wrap_u32 IntKind.wrap_u8   -- for this text's walks alone
set_option linter.unusedVariables false
open Go.Proofs.Ytefkhcijgiagdaa.Le Go.Proofs.Ytefkhcijgiagdaa.HKnown Go.Proofs.Ytefkhcijgiagdaa.HPut
set_option linter.unusedSimpArgs false
def errW : Option Int → Value
  | none => .nilIface
  | some c => .iface 0 (.int .i64 c)
theorem errW_none : errW none = .nilIface := rfl
theorem errW_some (c : Int) : errW (some c) = .iface 0 (.int .i64 c) := rfl
theorem info28 : (Try.prog.info? 28).map (fun i => (i.zero, i.size, i.bytes)) = some (some (.agg #[(.int .i64 0), (.int .i64 0), (.int .i64 0), (.int .u32 0)]), 4, 32) := by kernel_rfl
structure S28 where
  f0 : Int
  f1 : Int
  f2 : Int
  f3 : Int
def z28 : S28 := ⟨(0 : Int), (0 : Int), (0 : Int), (0 : Int)⟩
def k28 : Kd S28 := Kd.iso (Kd.pair (Kd.int .i64) (Kd.pair (Kd.int .i64) (Kd.pair (Kd.int .i64) (Kd.int .u32)))) (fun x : S28 => (x.f0, x.f1, x.f2, x.f3))
theorem k28_heap : Kd.Heap k28 := Kd.heap_iso _ (Kd.heap_pair (Kd.heap_int .i64) (Kd.heap_pair (Kd.heap_int .i64) (Kd.heap_pair (Kd.heap_int .i64) (Kd.heap_int .u32))))
theorem k28_open {w : World} {x : S28} {cs : List Value} (h : k28.K w x cs) : cs = [.int .i64 x.f0, .int .i64 x.f1, .int .i64 x.f2, .int .u32 x.f3] := by
  obtain ⟨_, _, rfl, rfl, ⟨_, _, rfl, rfl, ⟨_, _, rfl, rfl, rfl⟩⟩⟩ := h
  exact rfl
theorem k28_mkM (w : World) (base : Nat) (ok : Nat → Prop) (x : S28)  : k28.M w base ok x [.int .i64 x.f0, .int .i64 x.f1, .int .i64 x.f2, .int .u32 x.f3] := ⟨[.int .i64 x.f0], [.int .i64 x.f1, .int .i64 x.f2, .int .u32 x.f3], rfl, rfl, ⟨[.int .i64 x.f1], [.int .i64 x.f2, .int .u32 x.f3], rfl, rfl, ⟨[.int .i64 x.f2], [.int .u32 x.f3], rfl, rfl, rfl⟩⟩⟩
def rd_T28 (xs : List S28) (i : Int) : S28 := xs.getD i.toNat z28
theorem at_T28 {w : World} {A : Option Addr} {n : Nat} {xs : List S28} (h : Kd.C k28 w A n xs) (i : Int) (h0 : 0 ≤ i) (h1 : i < n) : ∃ ad , A = some ad ∧ w.cell? (ad.add (i.toNat * 4)) = some (.int .i64 (rd_T28 xs i).f0) ∧ w.cell? ⟨(ad.add (i.toNat * 4)).block, (ad.add (i.toNat * 4)).off + 1, none⟩ = some (.int .i64 (rd_T28 xs i).f1) ∧ w.cell? ⟨(ad.add (i.toNat * 4)).block, (ad.add (i.toNat * 4)).off + 2, none⟩ = some (.int .i64 (rd_T28 xs i).f2) ∧ w.cell? ⟨(ad.add (i.toNat * 4)).block, (ad.add (i.toNat * 4)).off + 3, none⟩ = some (.int .u32 (rd_T28 xs i).f3) := by
  obtain ⟨ad, c, e, _, hK, hc0⟩ := Kd.C_get h z28 i h0 h1
  have hc : ∀ j u, c[j]? = some u → w.cell? (ad.add (i.toNat * 4 + j)) = some u := hc0
  obtain rfl := k28_open hK
  exact ⟨ad, e, hc 0 _ rfl, by rw [← add_field _ _ 1 (by omega)]; exact hc 1 _ rfl, by rw [← add_field _ _ 2 (by omega)]; exact hc 2 _ rfl, by rw [← add_field _ _ 3 (by omega)]; exact hc 3 _ rfl⟩
end Go.Proofs.Ytefkhcijgiagdaa.I1
end
section
namespace Go.Proofs.Ytefkhcijgiagdaa.I1
open Go.RowKit Go.Proofs.YtefkhcijgiagdaaW.PrintWords Go.Proofs.YtefkhcijgiagdaaW.PrintLast Go.Proofs.YtefkhcijgiagdaaW.PrintMore
attribute [local go_sem] max2_int min2_int max_two min_two max_three min_three max_four min_four IntKind.wrap_u32 IntKind.wrap_u8   -- for this text's walks alone
set_option linter.unusedVariables false
open Go.Proofs.Ytefkhcijgiagdaa.Le Go.Proofs.Ytefkhcijgiagdaa.HKnown Go.Proofs.Ytefkhcijgiagdaa.HPut
set_option linter.unusedSimpArgs false
def doorwardref10_Known.j0 : Nat → Int → Bool → Option (Bool)
  | 0, _, _ => none
  | k + 1, x0, x11 => if x11 = true then (some false) else (if (Int.tmod x0 8) = 0 then (if x0 = 32 then (some true) else (if x0 = 128 then (some true) else (if x0 = 0 then (some true) else (some (x0 == 96))))) else (if (Int.tmod x0 8) = 1 then (if x0 = 1 then (some true) else (if x0 = 97 then (some true) else (some (x0 == 129)))) else (if (Int.tmod x0 8) = 2 then (some (x0 == 2)) else (if (Int.tmod x0 8) = 3 then (some (x0 == 3)) else (if (Int.tmod x0 8) = 4 then (if (wrap64 (Int.tdiv (Int.tmod (wrap64 (Int.tdiv x0 8)) 32) 2)) = 8 then (some ((Int.tmod (Int.tmod (wrap64 (Int.tdiv x0 8)) 32) 2) == 0)) else (if (wrap64 (Int.tdiv (Int.tmod (wrap64 (Int.tdiv x0 8)) 32) 2)) ≤ 7 then (some true) else (some ((wrap64 (Int.tdiv (Int.tmod (wrap64 (Int.tdiv x0 8)) 32) 2)) == 10)))) else (if (Int.tmod x0 8) = 5 then (if (wrap64 (Int.tdiv (Int.tmod (wrap64 (Int.tdiv x0 8)) 32) 2)) ≥ 1 then (if (wrap64 (Int.tdiv (Int.tmod (wrap64 (Int.tdiv x0 8)) 32) 2)) ≤ 4 then (some true) else (if (wrap64 (Int.tdiv (Int.tmod (wrap64 (Int.tdiv x0 8)) 32) 2)) = 0 then (some ((Int.tmod (Int.tmod (wrap64 (Int.tdiv x0 8)) 32) 2) == 0)) else (some false))) else (if (wrap64 (Int.tdiv (Int.tmod (wrap64 (Int.tdiv x0 8)) 32) 2)) = 0 then (some ((Int.tmod (Int.tmod (wrap64 (Int.tdiv x0 8)) 32) 2) == 0)) else (some false))) else (if (Int.tmod x0 8) = 6 then (if x0 = 6 then (some true) else (some (x0 == 22))) else (if x0 = 7 then (some true) else (some (x0 == 135))))))))))
def doorwardref10_Known.f (k : Nat) (a0 : Int) : Option (Bool) := if a0 < 0 then (doorwardref10_Known.j0 k a0 true) else (doorwardref10_Known.j0 k a0 (decide (a0 > 255)))
theorem doorwardref10_Known.mono_l : ∀ k, (∀ y0 y1, LeO (doorwardref10_Known.j0 k y0 y1) (doorwardref10_Known.j0 (k + 1) y0 y1))
  | 0 => fun _ _ r h => by simp [doorwardref10_Known.j0] at h
  | k + 1 => by
    have ih0 := doorwardref10_Known.mono_l k
    · intro y0 y1
      unfold doorwardref10_Known.j0
      repeat' first
      | (with_reducible exact ih0 _ _)
      | (with_reducible exact LeO.refl _)
      | (with_reducible exact LeO.none _)
      | (with_reducible refine LeO.ite ?_ ?_)
      | (with_reducible refine LeO.bind ?_ (fun _ => ?_))
      | exact ih0 _ _
      | exact LeO.none _
      | refine LeO.ite ?_ ?_
      | refine LeO.bind ?_ (fun _ => ?_)
theorem doorwardref10_Known.mono : ∀ a0 k, LeO (doorwardref10_Known.f k a0) (doorwardref10_Known.f (k + 1) a0) := by
  intro a0 k
  have ih0 := doorwardref10_Known.mono_l k
  unfold doorwardref10_Known.f
  repeat' first
      | (with_reducible exact ih0 _ _)
      | (with_reducible exact LeO.refl _)
      | (with_reducible exact LeO.none _)
      | (with_reducible refine LeO.ite ?_ ?_)
      | (with_reducible refine LeO.bind ?_ (fun _ => ?_))
      | exact ih0 _ _
      | exact LeO.none _
      | refine LeO.ite ?_ ?_
      | refine LeO.bind ?_ (fun _ => ?_)
set_option maxHeartbeats 8000000 in
set_option maxRecDepth 100000 in
theorem doorwardref10_Known.calls (k : Nat) (a0 : Int) (r : Bool) (w : World) (h : doorwardref10_Known.f k a0 = some r) :
    Calls Try.prog 45 #[.int .i64 a0] w fun e w' => e = .returned (.bool r) ∧ Drawn0 w w' := by
  have H : (if a0 < 0 then (doorwardref10_Known.j0 k a0 true) else (doorwardref10_Known.j0 k a0 (decide (a0 > 255)))) = some r := h
  clear h
  have HC2 := Aside0.mk H
  clear H
  go_enter Try.func45, Try.ntmps45
  go_upto_region 1 with (fail)
  go_cut [11] (fun v11 wc => ∃ (kq : Nat) (x11_1 : Bool), v11 = .bool x11_1 ∧ Aside0 (doorwardref10_Known.j0 kq a0 x11_1 = some r) ∧ Aside0 (kq ≤ k) ∧ Drawn0 w wc)
  case first =>
    have H := HC2.out
    clear HC2
    by_cases c3 : a0 < 0
    · rw [if_pos c3] at H
      have c3b0 : decide (a0 < 0) = true := decide_eq_true c3
      clear c3
      (first | rw [c3b0] | (simp only [i64_w, i32_w]; rw [c3b0]) | skip)
      have H' := Aside0.mk H
      clear H
      go_wp2
      go_meet
      case rel => exact ⟨_, (true), (by first | rfl | (simp; done) | (simp [*]; done)), H', ⟨by first | omega | exact Nat.le_refl _⟩, by repeat (first | exact Drawn0.refl _ | apply Drawn0.step)⟩
    · rw [if_neg c3] at H
      have c3b0 : decide (a0 < 0) = false := decide_eq_false c3
      clear c3
      (first | rw [c3b0] | (simp only [i64_w, i32_w]; rw [c3b0]) | skip)
      have H' := Aside0.mk H
      clear H
      go_wp2
      go_meet
      case rel => exact ⟨_, (decide (a0 > 255)), (by first | rfl | (simp; done) | (simp [*]; done)), H', ⟨by first | omega | exact Nat.le_refl _⟩, by repeat (first | exact Drawn0.refl _ | apply Drawn0.step)⟩
  case rest =>
    clear HC2
    try clear p2
    try clear c3
    try clear c3b0
    obtain ⟨kq, x11_1, rfl, HA, HJ1, ⟨mc1, rfl⟩⟩ := hcut
    cases kq with
    | zero => exact absurd HA.out (by simp [doorwardref10_Known.j0])
    | succ kj1 =>
      have H := HA.out
      clear HA
      simp only [doorwardref10_Known.j0] at H
      by_cases c4 : x11_1 = true
      · subst c4
        have H1 : (some false) = some r := by rw [if_pos rfl] at H; exact H
        clear H
        have H := H1
        clear H1
        obtain rfl := Option.some.inj H
        go_wp2
        go_ret
        exact ⟨by first | rfl | (simp; done) | (simp [*]; done), by repeat (first | exact Drawn0.refl _ | apply Drawn0.step)⟩
      · replace c4 := Bool.eq_false_iff.mpr c4
        subst c4
        have H1 : (if (Int.tmod a0 8) = 0 then (if a0 = 32 then (some true) else (if a0 = 128 then (some true) else (if a0 = 0 then (some true) else (some (a0 == 96))))) else (if (Int.tmod a0 8) = 1 then (if a0 = 1 then (some true) else (if a0 = 97 then (some true) else (some (a0 == 129)))) else (if (Int.tmod a0 8) = 2 then (some (a0 == 2)) else (if (Int.tmod a0 8) = 3 then (some (a0 == 3)) else (if (Int.tmod a0 8) = 4 then (if (wrap64 (Int.tdiv (Int.tmod (wrap64 (Int.tdiv a0 8)) 32) 2)) = 8 then (some ((Int.tmod (Int.tmod (wrap64 (Int.tdiv a0 8)) 32) 2) == 0)) else (if (wrap64 (Int.tdiv (Int.tmod (wrap64 (Int.tdiv a0 8)) 32) 2)) ≤ 7 then (some true) else (some ((wrap64 (Int.tdiv (Int.tmod (wrap64 (Int.tdiv a0 8)) 32) 2)) == 10)))) else (if (Int.tmod a0 8) = 5 then (if (wrap64 (Int.tdiv (Int.tmod (wrap64 (Int.tdiv a0 8)) 32) 2)) ≥ 1 then (if (wrap64 (Int.tdiv (Int.tmod (wrap64 (Int.tdiv a0 8)) 32) 2)) ≤ 4 then (some true) else (if (wrap64 (Int.tdiv (Int.tmod (wrap64 (Int.tdiv a0 8)) 32) 2)) = 0 then (some ((Int.tmod (Int.tmod (wrap64 (Int.tdiv a0 8)) 32) 2) == 0)) else (some false))) else (if (wrap64 (Int.tdiv (Int.tmod (wrap64 (Int.tdiv a0 8)) 32) 2)) = 0 then (some ((Int.tmod (Int.tmod (wrap64 (Int.tdiv a0 8)) 32) 2) == 0)) else (some false))) else (if (Int.tmod a0 8) = 6 then (if a0 = 6 then (some true) else (some (a0 == 22))) else (if a0 = 7 then (some true) else (some (a0 == 135)))))))))) = some r := by rw [if_neg (show ¬ (false = true) by decide)] at H; exact H
        clear H
        have H := H1
        clear H1
        by_cases c5 : (Int.tmod a0 8) = 0
        · rw [if_pos c5] at H
          have c5b0 : ((Int.tmod a0 8) == 0) = true := beq_iff_eq.mpr c5
          have c5b1 : ((Int.tmod a0 8) != 0) = false := bne_eq_false_iff_eq.mpr c5
          clear c5
          by_cases c6 : a0 = 32
          · rw [if_pos c6] at H
            have c6b0 : (a0 == 32) = true := beq_iff_eq.mpr c6
            have c6b1 : (a0 != 32) = false := bne_eq_false_iff_eq.mpr c6
            clear c6
            obtain rfl := Option.some.inj H
            go_wp2
            go_ret
            exact ⟨by first | rfl | (simp; done) | (simp [*]; done), by repeat (first | exact Drawn0.refl _ | apply Drawn0.step)⟩
          · rw [if_neg c6] at H
            have c6b0 : (a0 == 32) = false := beq_eq_false_iff_ne.mpr c6
            have c6b1 : (a0 != 32) = true := bne_iff_ne.mpr c6
            by_cases c7 : a0 = 128
            · rw [if_pos c7] at H
              have c7b0 : (a0 == 128) = true := beq_iff_eq.mpr c7
              have c7b1 : (a0 != 128) = false := bne_eq_false_iff_eq.mpr c7
              clear c7
              obtain rfl := Option.some.inj H
              go_wp2
              go_ret
              exact ⟨by first | rfl | (simp; done) | (simp [*]; done), by repeat (first | exact Drawn0.refl _ | apply Drawn0.step)⟩
            · rw [if_neg c7] at H
              have c7b0 : (a0 == 128) = false := beq_eq_false_iff_ne.mpr c7
              have c7b1 : (a0 != 128) = true := bne_iff_ne.mpr c7
              by_cases c8 : a0 = 0
              · rw [if_pos c8] at H
                have c8b0 : (a0 == 0) = true := beq_iff_eq.mpr c8
                have c8b1 : (a0 != 0) = false := bne_eq_false_iff_eq.mpr c8
                clear c8
                obtain rfl := Option.some.inj H
                go_wp2
                go_ret
                exact ⟨by first | rfl | (simp; done) | (simp [*]; done), by repeat (first | exact Drawn0.refl _ | apply Drawn0.step)⟩
              · rw [if_neg c8] at H
                have c8b0 : (a0 == 0) = false := beq_eq_false_iff_ne.mpr c8
                have c8b1 : (a0 != 0) = true := bne_iff_ne.mpr c8
                obtain rfl := Option.some.inj H
                go_wp2
                go_ret
                exact ⟨by first | rfl | (simp; done) | (simp [*]; done), by repeat (first | exact Drawn0.refl _ | apply Drawn0.step)⟩
        · rw [if_neg c5] at H
          have c5b0 : ((Int.tmod a0 8) == 0) = false := beq_eq_false_iff_ne.mpr c5
          have c5b1 : ((Int.tmod a0 8) != 0) = true := bne_iff_ne.mpr c5
          by_cases c9 : (Int.tmod a0 8) = 1
          · rw [if_pos c9] at H
            have c9b0 : ((Int.tmod a0 8) == 1) = true := beq_iff_eq.mpr c9
            have c9b1 : ((Int.tmod a0 8) != 1) = false := bne_eq_false_iff_eq.mpr c9
            clear c9
            by_cases c10 : a0 = 1
            · rw [if_pos c10] at H
              have c10b0 : (a0 == 1) = true := beq_iff_eq.mpr c10
              have c10b1 : (a0 != 1) = false := bne_eq_false_iff_eq.mpr c10
              clear c10
              obtain rfl := Option.some.inj H
              go_wp2
              go_ret
              exact ⟨by first | rfl | (simp; done) | (simp [*]; done), by repeat (first | exact Drawn0.refl _ | apply Drawn0.step)⟩
            · rw [if_neg c10] at H
              have c10b0 : (a0 == 1) = false := beq_eq_false_iff_ne.mpr c10
              have c10b1 : (a0 != 1) = true := bne_iff_ne.mpr c10
              by_cases c11 : a0 = 97
              · rw [if_pos c11] at H
                have c11b0 : (a0 == 97) = true := beq_iff_eq.mpr c11
                have c11b1 : (a0 != 97) = false := bne_eq_false_iff_eq.mpr c11
                clear c11
                obtain rfl := Option.some.inj H
                go_wp2
                go_ret
                exact ⟨by first | rfl | (simp; done) | (simp [*]; done), by repeat (first | exact Drawn0.refl _ | apply Drawn0.step)⟩
              · rw [if_neg c11] at H
                have c11b0 : (a0 == 97) = false := beq_eq_false_iff_ne.mpr c11
                have c11b1 : (a0 != 97) = true := bne_iff_ne.mpr c11
                obtain rfl := Option.some.inj H
                go_wp2
                go_ret
                exact ⟨by first | rfl | (simp; done) | (simp [*]; done), by repeat (first | exact Drawn0.refl _ | apply Drawn0.step)⟩
          · rw [if_neg c9] at H
            have c9b0 : ((Int.tmod a0 8) == 1) = false := beq_eq_false_iff_ne.mpr c9
            have c9b1 : ((Int.tmod a0 8) != 1) = true := bne_iff_ne.mpr c9
            by_cases c12 : (Int.tmod a0 8) = 2
            · rw [if_pos c12] at H
              have c12b0 : ((Int.tmod a0 8) == 2) = true := beq_iff_eq.mpr c12
              have c12b1 : ((Int.tmod a0 8) != 2) = false := bne_eq_false_iff_eq.mpr c12
              clear c12
              obtain rfl := Option.some.inj H
              go_wp2
              go_ret
              exact ⟨by first | rfl | (simp; done) | (simp [*]; done), by repeat (first | exact Drawn0.refl _ | apply Drawn0.step)⟩
            · rw [if_neg c12] at H
              have c12b0 : ((Int.tmod a0 8) == 2) = false := beq_eq_false_iff_ne.mpr c12
              have c12b1 : ((Int.tmod a0 8) != 2) = true := bne_iff_ne.mpr c12
              by_cases c13 : (Int.tmod a0 8) = 3
              · rw [if_pos c13] at H
                have c13b0 : ((Int.tmod a0 8) == 3) = true := beq_iff_eq.mpr c13
                have c13b1 : ((Int.tmod a0 8) != 3) = false := bne_eq_false_iff_eq.mpr c13
                clear c13
                obtain rfl := Option.some.inj H
                go_wp2
                go_ret
                exact ⟨by first | rfl | (simp; done) | (simp [*]; done), by repeat (first | exact Drawn0.refl _ | apply Drawn0.step)⟩
              · rw [if_neg c13] at H
                have c13b0 : ((Int.tmod a0 8) == 3) = false := beq_eq_false_iff_ne.mpr c13
                have c13b1 : ((Int.tmod a0 8) != 3) = true := bne_iff_ne.mpr c13
                by_cases c14 : (Int.tmod a0 8) = 4
                · rw [if_pos c14] at H
                  have c14b0 : ((Int.tmod a0 8) == 4) = true := beq_iff_eq.mpr c14
                  have c14b1 : ((Int.tmod a0 8) != 4) = false := bne_eq_false_iff_eq.mpr c14
                  clear c14
                  by_cases c15 : (wrap64 (Int.tdiv (Int.tmod (wrap64 (Int.tdiv a0 8)) 32) 2)) = 8
                  · rw [if_pos c15] at H
                    have c15b0 : ((wrap64 (Int.tdiv (Int.tmod (wrap64 (Int.tdiv a0 8)) 32) 2)) == 8) = true := beq_iff_eq.mpr c15
                    have c15b1 : ((wrap64 (Int.tdiv (Int.tmod (wrap64 (Int.tdiv a0 8)) 32) 2)) != 8) = false := bne_eq_false_iff_eq.mpr c15
                    clear c15
                    obtain rfl := Option.some.inj H
                    go_wp2
                    go_ret
                    exact ⟨by first | rfl | (simp; done) | (simp [*]; done), by repeat (first | exact Drawn0.refl _ | apply Drawn0.step)⟩
                  · rw [if_neg c15] at H
                    have c15b0 : ((wrap64 (Int.tdiv (Int.tmod (wrap64 (Int.tdiv a0 8)) 32) 2)) == 8) = false := beq_eq_false_iff_ne.mpr c15
                    have c15b1 : ((wrap64 (Int.tdiv (Int.tmod (wrap64 (Int.tdiv a0 8)) 32) 2)) != 8) = true := bne_iff_ne.mpr c15
                    by_cases c16 : (wrap64 (Int.tdiv (Int.tmod (wrap64 (Int.tdiv a0 8)) 32) 2)) ≤ 7
                    · rw [if_pos c16] at H
                      have c16b0 : decide ((wrap64 (Int.tdiv (Int.tmod (wrap64 (Int.tdiv a0 8)) 32) 2)) ≤ 7) = true := decide_eq_true c16
                      clear c16
                      obtain rfl := Option.some.inj H
                      go_wp2
                      go_ret
                      exact ⟨by first | rfl | (simp; done) | (simp [*]; done), by repeat (first | exact Drawn0.refl _ | apply Drawn0.step)⟩
                    · rw [if_neg c16] at H
                      have c16b0 : decide ((wrap64 (Int.tdiv (Int.tmod (wrap64 (Int.tdiv a0 8)) 32) 2)) ≤ 7) = false := decide_eq_false c16
                      clear c16
                      obtain rfl := Option.some.inj H
                      go_wp2
                      go_ret
                      exact ⟨by first | rfl | (simp; done) | (simp [*]; done), by repeat (first | exact Drawn0.refl _ | apply Drawn0.step)⟩
                · rw [if_neg c14] at H
                  have c14b0 : ((Int.tmod a0 8) == 4) = false := beq_eq_false_iff_ne.mpr c14
                  have c14b1 : ((Int.tmod a0 8) != 4) = true := bne_iff_ne.mpr c14
                  by_cases c17 : (Int.tmod a0 8) = 5
                  · rw [if_pos c17] at H
                    have c17b0 : ((Int.tmod a0 8) == 5) = true := beq_iff_eq.mpr c17
                    have c17b1 : ((Int.tmod a0 8) != 5) = false := bne_eq_false_iff_eq.mpr c17
                    clear c17
                    by_cases c18 : (wrap64 (Int.tdiv (Int.tmod (wrap64 (Int.tdiv a0 8)) 32) 2)) ≥ 1
                    · rw [if_pos c18] at H
                      have c18b0 : decide (1 ≤ (wrap64 (Int.tdiv (Int.tmod (wrap64 (Int.tdiv a0 8)) 32) 2))) = true := decide_eq_true c18
                      clear c18
                      by_cases c19 : (wrap64 (Int.tdiv (Int.tmod (wrap64 (Int.tdiv a0 8)) 32) 2)) ≤ 4
                      · rw [if_pos c19] at H
                        have c19b0 : decide ((wrap64 (Int.tdiv (Int.tmod (wrap64 (Int.tdiv a0 8)) 32) 2)) ≤ 4) = true := decide_eq_true c19
                        clear c19
                        obtain rfl := Option.some.inj H
                        go_wp2
                        go_ret
                        exact ⟨by first | rfl | (simp; done) | (simp [*]; done), by repeat (first | exact Drawn0.refl _ | apply Drawn0.step)⟩
                      · rw [if_neg c19] at H
                        have c19b0 : decide ((wrap64 (Int.tdiv (Int.tmod (wrap64 (Int.tdiv a0 8)) 32) 2)) ≤ 4) = false := decide_eq_false c19
                        clear c19
                        by_cases c20 : (wrap64 (Int.tdiv (Int.tmod (wrap64 (Int.tdiv a0 8)) 32) 2)) = 0
                        · rw [if_pos c20] at H
                          have c20b0 : ((wrap64 (Int.tdiv (Int.tmod (wrap64 (Int.tdiv a0 8)) 32) 2)) == 0) = true := beq_iff_eq.mpr c20
                          have c20b1 : ((wrap64 (Int.tdiv (Int.tmod (wrap64 (Int.tdiv a0 8)) 32) 2)) != 0) = false := bne_eq_false_iff_eq.mpr c20
                          clear c20
                          obtain rfl := Option.some.inj H
                          go_wp2
                          go_ret
                          exact ⟨by first | rfl | (simp; done) | (simp [*]; done), by repeat (first | exact Drawn0.refl _ | apply Drawn0.step)⟩
                        · rw [if_neg c20] at H
                          have c20b0 : ((wrap64 (Int.tdiv (Int.tmod (wrap64 (Int.tdiv a0 8)) 32) 2)) == 0) = false := beq_eq_false_iff_ne.mpr c20
                          have c20b1 : ((wrap64 (Int.tdiv (Int.tmod (wrap64 (Int.tdiv a0 8)) 32) 2)) != 0) = true := bne_iff_ne.mpr c20
                          obtain rfl := Option.some.inj H
                          go_wp2
                          go_ret
                          exact ⟨by first | rfl | (simp; done) | (simp [*]; done), by repeat (first | exact Drawn0.refl _ | apply Drawn0.step)⟩
                    · rw [if_neg c18] at H
                      have c18b0 : decide (1 ≤ (wrap64 (Int.tdiv (Int.tmod (wrap64 (Int.tdiv a0 8)) 32) 2))) = false := decide_eq_false c18
                      clear c18
                      by_cases c21 : (wrap64 (Int.tdiv (Int.tmod (wrap64 (Int.tdiv a0 8)) 32) 2)) = 0
                      · rw [if_pos c21] at H
                        have c21b0 : ((wrap64 (Int.tdiv (Int.tmod (wrap64 (Int.tdiv a0 8)) 32) 2)) == 0) = true := beq_iff_eq.mpr c21
                        have c21b1 : ((wrap64 (Int.tdiv (Int.tmod (wrap64 (Int.tdiv a0 8)) 32) 2)) != 0) = false := bne_eq_false_iff_eq.mpr c21
                        clear c21
                        obtain rfl := Option.some.inj H
                        go_wp2
                        go_ret
                        exact ⟨by first | rfl | (simp; done) | (simp [*]; done), by repeat (first | exact Drawn0.refl _ | apply Drawn0.step)⟩
                      · rw [if_neg c21] at H
                        have c21b0 : ((wrap64 (Int.tdiv (Int.tmod (wrap64 (Int.tdiv a0 8)) 32) 2)) == 0) = false := beq_eq_false_iff_ne.mpr c21
                        have c21b1 : ((wrap64 (Int.tdiv (Int.tmod (wrap64 (Int.tdiv a0 8)) 32) 2)) != 0) = true := bne_iff_ne.mpr c21
                        obtain rfl := Option.some.inj H
                        go_wp2
                        go_ret
                        exact ⟨by first | rfl | (simp; done) | (simp [*]; done), by repeat (first | exact Drawn0.refl _ | apply Drawn0.step)⟩
                  · rw [if_neg c17] at H
                    have c17b0 : ((Int.tmod a0 8) == 5) = false := beq_eq_false_iff_ne.mpr c17
                    have c17b1 : ((Int.tmod a0 8) != 5) = true := bne_iff_ne.mpr c17
                    by_cases c22 : (Int.tmod a0 8) = 6
                    · rw [if_pos c22] at H
                      have c22b0 : ((Int.tmod a0 8) == 6) = true := beq_iff_eq.mpr c22
                      have c22b1 : ((Int.tmod a0 8) != 6) = false := bne_eq_false_iff_eq.mpr c22
                      clear c22
                      by_cases c23 : a0 = 6
                      · rw [if_pos c23] at H
                        have c23b0 : (a0 == 6) = true := beq_iff_eq.mpr c23
                        have c23b1 : (a0 != 6) = false := bne_eq_false_iff_eq.mpr c23
                        clear c23
                        obtain rfl := Option.some.inj H
                        go_wp2
                        go_ret
                        exact ⟨by first | rfl | (simp; done) | (simp [*]; done), by repeat (first | exact Drawn0.refl _ | apply Drawn0.step)⟩
                      · rw [if_neg c23] at H
                        have c23b0 : (a0 == 6) = false := beq_eq_false_iff_ne.mpr c23
                        have c23b1 : (a0 != 6) = true := bne_iff_ne.mpr c23
                        obtain rfl := Option.some.inj H
                        go_wp2
                        go_ret
                        exact ⟨by first | rfl | (simp; done) | (simp [*]; done), by repeat (first | exact Drawn0.refl _ | apply Drawn0.step)⟩
                    · rw [if_neg c22] at H
                      have c22b0 : ((Int.tmod a0 8) == 6) = false := beq_eq_false_iff_ne.mpr c22
                      have c22b1 : ((Int.tmod a0 8) != 6) = true := bne_iff_ne.mpr c22
                      by_cases c24 : a0 = 7
                      · rw [if_pos c24] at H
                        have c24b0 : (a0 == 7) = true := beq_iff_eq.mpr c24
                        have c24b1 : (a0 != 7) = false := bne_eq_false_iff_eq.mpr c24
                        clear c24
                        obtain rfl := Option.some.inj H
                        go_wp2
                        go_ret
                        exact ⟨by first | rfl | (simp; done) | (simp [*]; done), by repeat (first | exact Drawn0.refl _ | apply Drawn0.step)⟩
                      · rw [if_neg c24] at H
                        have c24b0 : (a0 == 7) = false := beq_eq_false_iff_ne.mpr c24
                        have c24b1 : (a0 != 7) = true := bne_iff_ne.mpr c24
                        obtain rfl := Option.some.inj H
                        go_wp2
                        go_ret
                        exact ⟨by first | rfl | (simp; done) | (simp [*]; done), by repeat (first | exact Drawn0.refl _ | apply Drawn0.step)⟩
end Go.Proofs.Ytefkhcijgiagdaa.I1
end
section
namespace Go.Proofs.Ytefkhcijgiagdaa.E1
open Go.RowKit Go.Proofs.YtefkhcijgiagdaaW.PrintWords Go.Proofs.YtefkhcijgiagdaaW.PrintLast Go.Proofs.YtefkhcijgiagdaaW.PrintMore
attribute [local go_sem] max2_int min2_int max_two min_two max_three min_three max_four min_four IntKind.wrap_u32 IntKind.wrap_u8   -- for this text's walks alone
set_option linter.unusedVariables false
open Go.Proofs.Ytefkhcijgiagdaa.Le Go.Proofs.Ytefkhcijgiagdaa.HKnown Go.Proofs.Ytefkhcijgiagdaa.HPut Go.Proofs.Ytefkhcijgiagdaa.I1
set_option linter.unusedSimpArgs false
def errW : Option Int → Value
  | none => .nilIface
  | some c => .iface 0 (.int .i64 c)
theorem errW_none : errW none = .nilIface := rfl
theorem errW_some (c : Int) : errW (some c) = .iface 0 (.int .i64 c) := rfl
end Go.Proofs.Ytefkhcijgiagdaa.E1
end
section
namespace Go.Proofs.Ytefkhcijgiagdaa.HAsm
open Go.RowKit Go.Proofs.YtefkhcijgiagdaaW.PrintWords Go.Proofs.YtefkhcijgiagdaaW.PrintLast Go.Proofs.YtefkhcijgiagdaaW.PrintMore Go.Proofs.Ytefkhcijgiagdaa.I1 Go.Proofs.Ytefkhcijgiagdaa.E1
set_option linter.unusedVariables false
set_option linter.unusedSimpArgs false
set_option maxRecDepth 100000
theorem law3 : Maps.Keyed Try.prog 3 := Maps.int_keyed Try.underlying3
theorem zero3 (w : World) : (zeroValue 3).run Try.prog w = .ok (.int .i64 0) w := by kernel_rfl
def MapIs (w : World) (b n : Nat) (L : Int → Option Int) : Prop :=
  ∃ D : DataW Unit, w.ownsMap Try.prog 3 (plainElem Try.prog 3) b n D ∧ Maps.IsMap D ∧ ∀ (k : Int) (z : DataW Unit), D.atKey (.int .i64 k) z = match L k with | some v => .lit (.int .i64 v) | none => z
theorem MapIs.lt {w : World} {b n : Nat} {L : Int → Option Int} (h : MapIs w b n L) : b < w.heap.size := by obtain ⟨D, h, _⟩ := h; exact h.lt
theorem MapIs.kept {w w' : World} {b n : Nat} {L : Int → Option Int} (h : MapIs w b n L) (he : w'.heap[b]? = w.heap[b]?) : MapIs w' b n L := by
  obtain ⟨D, ⟨es, clock, hb, F, hs, hD⟩, h2⟩ := h
  exact ⟨D, ⟨es, clock, he.trans hb, F, hs, hD⟩, h2⟩
theorem MapIs.made (w : World) : MapIs (w.alloc (.map #[] 0)) w.heap.size 0 (fun _ => none) := ⟨.map [], World.ownsMap_made _ _ _ _, Maps.isMap_empty, fun _ _ => rfl⟩
theorem MapIs.look {w : World} {b n : Nat} {L : Int → Option Int} (h : MapIs w b n L) (k : Int) (hk : (Lit.int .i64 k).wf = true) :
    (Instr.lookup 105 (.map (some b)) (.int .i64 k) true).run Try.prog w = .ok (.tuple #[.int .i64 ((L k).getD 0), .bool (L k).isSome]) w := by
  obtain ⟨D, ho, hm, hat⟩ := h
  obtain ⟨v, ps, hrun, hv⟩ := ho.look_ok (t := 105) (e := 3) law3 Try.underlying105 (zero3 w) (plainElem_int Try.underlying3 (by decide)) (Maps.keyOf_int_mk Try.underlying3 hk)
  rw [hrun]
  have e1 : Maps.has D (.int .i64 k) = (L k).isSome := by
    cases hL : L k with
    | none => exact Maps.has_false_of_atKey (fun z => by rw [hat, hL])
    | some x => exact Maps.has_true_of_atKey (y := .lit (.int .i64 x)) (fun z => by rw [hat, hL])
  have e2 : v = .int .i64 ((L k).getD 0) := by
    obtain ⟨c, rfl, hc, _⟩ := plainElem_int_inv Try.underlying3 hv
    rw [hat] at hc
    cases hL : L k with
    | none => rw [hL] at hc; cases hc; rfl
    | some x => rw [hL] at hc; cases hc; rfl
  rw [e1, e2]
theorem MapIs.store {w : World} {b n : Nat} {L : Int → Option Int} (h : MapIs w b n L) (hn : n < 1000000) (k v : Int) (hk : (Lit.int .i64 k).wf = true) (hv : (Lit.int .i64 v).wf = true) :
    ∃ w', (Instr.mapUpdate 105 (.map (some b)) (.int .i64 k) (.int .i64 v)).run Try.prog w = .ok () w' ∧ MapIs w' b (n + 1) (fun x => if x = k then some v else L x) ∧ w.grownBy w' (some b) := by
  obtain ⟨D, ho, hm, hat⟩ := h
  obtain ⟨w', hrun, ho', hg⟩ := ho.update (t := 105) (e := 3) law3 Try.underlying105 (by unfold maxLen; omega) (Maps.keyOf_int_mk Try.underlying3 hk) (plainElem_int Try.underlying3 hv)
  refine ⟨w', hrun, ⟨_, ho', hm.put _ _, fun x z => ?_⟩, hg⟩
  by_cases hx : x = k
  · subst hx
    show _ = match (if x = x then some v else L x) with | some v => _ | none => _
    rw [if_pos rfl, Maps.atKey_put_same hm (show WideAt.IsKeyLit (.int .i64 x) from trivial)]
  · show _ = match (if x = k then some v else L x) with | some v => _ | none => _
    rw [if_neg hx, Maps.atKey_put_other (fun e => hx (by cases e; rfl)), hat]
structure Fr (B : Nat) (w w' : World) : Prop where
  bel : Below B w w'
  keep : ∀ (g t : Nat) (cs : Array Value), t ≠ 28 → t ≠ 107 → w.heap[g]? = some (Obj.cells cs t (0, 0)) → w'.heap[g]? = some (Obj.cells cs t (0, 0))
theorem Fr.refl (B : Nat) (w : World) : Fr B w w := ⟨Below.refl B w, fun _ _ _ _ _ h => h⟩
theorem Fr.trans {B : Nat} {a b c : World} (h : Fr B a b) (k : Fr B b c) : Fr B a c := ⟨h.bel.trans k.bel, fun g t cs h1 h2 h3 => k.keep g t cs h1 h2 (h.keep g t cs h1 h2 h3)⟩
theorem Fr.alloc {B : Nat} {a w : World} (h : Fr B a w) (hB : B ≤ w.heap.size) (o : Obj) : Fr B a (w.alloc o) :=
  ⟨h.bel.alloc hB o, fun g t cs h1 h2 h3 => (Below.heap_alloc w o g (Array.getElem?_eq_some_iff.1 (h.keep g t cs h1 h2 h3)).1).trans (h.keep g t cs h1 h2 h3)⟩
theorem Fr.drew {B : Nat} {a w : World} (h : Fr B a w) : Fr B a w.drew := ⟨h.bel.drew, h.keep⟩
theorem Fr.setCell {B : Nat} {a w : World} (h : Fr B a w) {g : Nat} (hB : B ≤ g) {cs : Array Value} (hg : w.heap[g]? = some (Obj.cells cs 107 (0, 0))) (j : Nat) (u : Value) : Fr B a (w.setCell ⟨g, j, none⟩ u) :=
  ⟨h.bel.setCell hB u, fun k t cs' h1 h2 h3 => by
    have h4 := h.keep k t cs' h1 h2 h3
    refine (Below.heap_setCell w ⟨g, j, none⟩ u k ?_).trans h4
    rintro rfl
    rw [hg] at h4; injection h4 with h4; injection h4 with _ h4; exact h2 h4.symm⟩
theorem Fr.grown {B : Nat} {a w w' : World} {row : Option Nat} (h : Fr B a w) (hg : w.grownBy w' row) (hB : B ≤ w.heap.size) (hr : ∀ k, row = some k → B ≤ k ∧ ∀ t cs, t ≠ 28 → w.heap[k]? ≠ some (Obj.cells cs t (0, 0))) : Fr B a w' :=
  ⟨h.bel.grown hg hB (fun k hk => (hr k hk).1), fun k t cs h1 h2 h3 => by
    have h4 := h.keep k t cs h1 h2 h3
    refine (hg.block k (Array.getElem?_eq_some_iff.1 h4).1 ?_).trans h4
    intro hk
    exact (hr k hk.symm).2 t cs h1 h4⟩
structure St (w : World) (B Wb Mb : Nat) (A : Option Addr) (cap : Nat) (xs : List S28) (L : Int → Option Int) (n : Nat) (bad : Bool) : Prop where
  hW : w.heap[Wb]? = some (.cells #[.slice A xs.length cap, .map (some Mb), .bool bad] 107 (0, 0))
  hR : Kd.R k28 28 w B (fun _ => True) (.slice A xs.length cap) xs
  hM : MapIs w Mb n L
  bW : B ≤ Wb
  bM : B ≤ Mb
theorem St.lt {w : World} {B Wb Mb : Nat} {A : Option Addr} {cap : Nat} {xs : List S28} {L : Int → Option Int} {n : Nat} {bad : Bool} (h : St w B Wb Mb A cap xs L n bad) : Wb < w.heap.size :=
  (Array.getElem?_eq_some_iff.1 h.hW).1
/-- A world in which all blocks stand as they did. -/
theorem St.below {w w' : World} {B Wb Mb : Nat} {A : Option Addr} {cap : Nat} {xs : List S28} {L : Int → Option Int} {n : Nat} {bad : Bool} (h : St w B Wb Mb A cap xs L n bad) (hb : Below w.heap.size w w') : St w' B Wb Mb A cap xs L n bad :=
  ⟨(hb.block _ h.lt).trans h.hW, Kd.R_below h.hR hb, h.hM.kept (hb.block _ h.hM.lt), h.bW, h.bM⟩
theorem St.ne {w : World} {B Wb Mb : Nat} {A : Option Addr} {cap : Nat} {xs : List S28} {L : Int → Option Int} {n : Nat} {bad : Bool} (h : St w B Wb Mb A cap xs L n bad) : Mb ≠ Wb := by
  rintro rfl
  obtain ⟨D, ⟨es, clock, hb, _⟩, _⟩ := h.hM
  rw [h.hW] at hb; cases hb
theorem St.put {w0 w w1 : World} {B Wb Mb : Nat} {A A1 : Option Addr} {cap c1 : Nat} {xs : List S28} {L : Int → Option Int} {n : Nat} {bad : Bool} {x : S28} (hb0 : Fr B w0 w) (h : St w B Wb Mb A cap xs L n bad)
    (hR1 : Kd.R k28 28 w1 B (fun _ => True) (.slice A1 (xs ++ [x]).length c1) (xs ++ [x])) (hB1 : Below B w w1) (hg1 : w.grownBy w1 (Value.slice A xs.length cap).ownBlock) :
    Fr B w0 (w1.setCell ⟨Wb, 0, none⟩ (.slice A1 (xs.length + 1) c1)) ∧ St (w1.setCell ⟨Wb, 0, none⟩ (.slice A1 (xs.length + 1) c1)) B Wb Mb A1 c1 (xs ++ [x]) L n bad := by
  have e : (xs ++ [x]).length = xs.length + 1 := by simp
  have hWb := (hg1.block Wb h.lt (Kd.R_ne h.hR h.hW (by decide))).trans h.hW
  have hMb : w1.heap[Mb]? = w.heap[Mb]? := by
    refine hg1.block Mb h.hM.lt ?_
    intro hk
    obtain ⟨D, ⟨es, clock, hb, _⟩, _⟩ := h.hM
    obtain ⟨inner, ho⟩ := Kd.R_own h.hR
    obtain ⟨cells, hc⟩ := own_typed ho Mb hk.symm
    rw [hc] at hb; cases hb
  have hrow : ∀ k, (Value.slice A xs.length cap).ownBlock = some k → B ≤ k ∧ ∀ t cs, t ≠ 28 → w.heap[k]? ≠ some (.cells cs t (0, 0)) := by
    intro k hk
    obtain ⟨inner, ho⟩ := Kd.R_own h.hR
    obtain ⟨cells, hc⟩ := own_typed ho k hk
    refine ⟨own_base ho k hk, fun t cs ht hc2 => ?_⟩
    rw [hc] at hc2; injection hc2 with hc2; injection hc2 with _ hc2; exact ht hc2.symm
  have hBw : B ≤ w.heap.size := Nat.le_of_lt (Nat.lt_of_le_of_lt h.bW h.lt)
  refine ⟨(hb0.grown hg1 hBw hrow).setCell h.bW hWb 0 _, ?_, ?_, ?_, h.bW, h.bM⟩
  · have := blk_set hWb 0 (.slice A1 (xs.length + 1) c1)
    rw [e]; exact this
  · exact Kd.R_set hR1 hWb (by decide) 0 _
  · refine MapIs.kept (h.hM.kept hMb) ?_
    exact Below.heap_setCell _ _ _ _ h.ne
theorem St.alloc {w : World} {B Wb Mb : Nat} {A : Option Addr} {cap : Nat} {xs : List S28} {L : Int → Option Int} {n : Nat} {bad : Bool} (h : St w B Wb Mb A cap xs L n bad) (o : Obj) : St (w.alloc o) B Wb Mb A cap xs L n bad := h.below (below_alloc (Below.refl _ _) _)
theorem St.base {w : World} {B Wb Mb : Nat} {A : Option Addr} {cap : Nat} {xs : List S28} {L : Int → Option Int} {n : Nat} {bad : Bool} (h : St w B Wb Mb A cap xs L n bad) : B ≤ w.heap.size := Nat.le_of_lt (Nat.lt_of_le_of_lt h.bW h.lt)
end Go.Proofs.Ytefkhcijgiagdaa.HAsm
end
section
namespace Go.Proofs.Ytefkhcijgiagdaa.HAsm
open Go.RowKit Go.Proofs.YtefkhcijgiagdaaW.PrintWords Go.Proofs.YtefkhcijgiagdaaW.PrintLast Go.Proofs.YtefkhcijgiagdaaW.PrintMore Go.Proofs.Ytefkhcijgiagdaa.I1 Go.Proofs.Ytefkhcijgiagdaa.E1
set_option linter.unusedVariables false
set_option linter.unusedSimpArgs false
set_option maxRecDepth 100000
/-- The writer, as it is told of. -/
structure WS where
  xs : List S28
  L : Int → Option Int
  n : Nat
  bad : Bool
def WS.put (s : WS) (x : S28) : WS := ⟨s.xs ++ [x], s.L, s.n, s.bad⟩
def StW (w : World) (B Wb Mb : Nat) (s : WS) : Prop := ∃ A cap, St w B Wb Mb A cap s.xs s.L s.n s.bad
theorem StW.drew {w : World} {B Wb Mb : Nat} {s : WS} (h : StW w B Wb Mb s) : StW w.drew B Wb Mb s := by
  obtain ⟨A, cap, h⟩ := h
  exact ⟨A, cap, h.below ⟨rfl, rfl, rfl, Nat.le_refl _, fun _ _ => rfl⟩⟩
theorem StW.below {w w' : World} {B Wb Mb : Nat} {s : WS} (h : StW w B Wb Mb s) (hb : Below w.heap.size w w') : StW w' B Wb Mb s := by
  obtain ⟨A, cap, h⟩ := h
  exact ⟨A, cap, h.below hb⟩
theorem StW.base {w : World} {B Wb Mb : Nat} {s : WS} (h : StW w B Wb Mb s) : B ≤ w.heap.size := by
  obtain ⟨A, cap, h⟩ := h
  exact h.base
end Go.Proofs.Ytefkhcijgiagdaa.HAsm
end
section
namespace Go.Proofs.Ytefkhcijgiagdaa.HAsm
open Go.RowKit Go.Proofs.YtefkhcijgiagdaaW.PrintWords Go.Proofs.YtefkhcijgiagdaaW.PrintLast Go.Proofs.YtefkhcijgiagdaaW.PrintMore Go.Proofs.Ytefkhcijgiagdaa.I1 Go.Proofs.Ytefkhcijgiagdaa.E1
set_option linter.unusedVariables false
set_option linter.unusedSimpArgs false
set_option maxRecDepth 100000
theorem St.made (w : World) (o1 : Obj) : StW (((w.alloc o1).alloc (.map #[] 0)).alloc (.cells #[.slice none 0 0, .map (some (w.heap.size + 1)), .bool false] 107)) w.heap.size (w.heap.size + 1 + 1) (w.heap.size + 1) ⟨[], fun _ => none, 0, false⟩ := by
  have e1 : (w.alloc o1).heap.size = w.heap.size + 1 := by simp
  have e2 : ((w.alloc o1).alloc (.map #[] 0)).heap.size = w.heap.size + 1 + 1 := by simp
  refine ⟨none, 0, ?_, Kd.R_nil _ _ _ _ _, ?_, by omega, by omega⟩
  · have := heap_alloc_new ((w.alloc o1).alloc (.map #[] 0)) (.cells #[.slice none 0 0, .map (some (w.heap.size + 1)), .bool false] 107)
    rw [e2] at this; exact this
  · have h := MapIs.made (w.alloc o1)
    rw [e1] at h
    exact h.kept (Below.heap_alloc _ _ _ (by rw [e2]; omega))
end Go.Proofs.Ytefkhcijgiagdaa.HAsm
end
section
namespace Go.Proofs.Ytefkhcijgiagdaa.E2
open Go.RowKit Go.Proofs.YtefkhcijgiagdaaW.PrintWords Go.Proofs.YtefkhcijgiagdaaW.PrintLast Go.Proofs.YtefkhcijgiagdaaW.PrintMore
attribute [local go_sem] max2_int min2_int max_two min_two max_three min_three max_four min_four IntKind.wrap_u32 IntKind.wrap_u8   -- for this text's walks alone
set_option linter.unusedVariables false
open Go.Proofs.Ytefkhcijgiagdaa.Le Go.Proofs.Ytefkhcijgiagdaa.HKnown Go.Proofs.Ytefkhcijgiagdaa.HPut Go.Proofs.Ytefkhcijgiagdaa.I1 Go.Proofs.Ytefkhcijgiagdaa.E1 Go.Proofs.Ytefkhcijgiagdaa.HAsm
set_option linter.unusedSimpArgs false
def errW : Option Int → Value
  | none => .nilIface
  | some c => .iface 0 (.int .i64 c)
theorem errW_none : errW none = .nilIface := rfl
theorem errW_some (c : Int) : errW (some c) = .iface 0 (.int .i64 c) := rfl
end Go.Proofs.Ytefkhcijgiagdaa.E2
end
section
namespace Go.Proofs.Ytefkhcijgiagdaa.QNum
open Go.RowKit Go.Proofs.YtefkhcijgiagdaaW.PrintWords Go.Proofs.YtefkhcijgiagdaaW.PrintLast Go.Proofs.YtefkhcijgiagdaaW.PrintMore Go.Proofs.Ytefkhcijgiagdaa.QLe
set_option linter.unusedVariables false
set_option linter.unusedSimpArgs false
/-- a row of small numbers, as bytes. -/
def by8 (xs : List Int) : List UInt8 := xs.map fun n => UInt8.ofNat n.toNat
theorem wf_i64 {x : Int} (h : (Lit.int .i64 x).wf = true) : -9223372036854775808 ≤ x ∧ x ≤ 9223372036854775807 := by
  simp [Lit.wf, IntKind.min, IntKind.max, IntKind.bits, IntKind.signed] at h; omega
theorem wf_u32 {x : Int} (h : (Lit.int .u32 x).wf = true) : 0 ≤ x ∧ x < 4294967296 := by
  simp [Lit.wf, IntKind.min, IntKind.max, IntKind.bits, IntKind.signed] at h; omega
end Go.Proofs.Ytefkhcijgiagdaa.QNum
end
section
namespace Go.Proofs.Ytefkhcijgiagdaa.QIn
open Go.RowKit Go.Proofs.YtefkhcijgiagdaaW.PrintWords Go.Proofs.YtefkhcijgiagdaaW.PrintLast Go.Proofs.YtefkhcijgiagdaaW.PrintMore Go.Proofs.Ytefkhcijgiagdaa.Le Go.Proofs.Ytefkhcijgiagdaa.QLe Go.Proofs.Ytefkhcijgiagdaa.QNum Go.Proofs.Ytefkhcijgiagdaa.HKnown Go.Proofs.Ytefkhcijgiagdaa.HPut Go.Proofs.Ytefkhcijgiagdaa.I1
set_option linter.unusedVariables false
set_option linter.unusedSimpArgs false
def bytes (a b c d : Int) : List UInt8 := by8 (leB a 2) ++ by8 (leB b 1) ++ by8 (leB c 1) ++ by8 (leB d 4)
end Go.Proofs.Ytefkhcijgiagdaa.QIn
end
section
namespace Go.Proofs.Ytefkhcijgiagdaa.HAll
open Go.RowKit Go.Proofs.YtefkhcijgiagdaaW.PrintWords Go.Proofs.YtefkhcijgiagdaaW.PrintLast Go.Proofs.YtefkhcijgiagdaaW.PrintMore Go.Proofs.Ytefkhcijgiagdaa.I1 Go.Proofs.Ytefkhcijgiagdaa.HPut Go.Proofs.Ytefkhcijgiagdaa.QIn Go.Proofs.Ytefkhcijgiagdaa.QLe Go.Proofs.Ytefkhcijgiagdaa.QNum
set_option linter.unusedVariables false
set_option linter.unusedSimpArgs false
set_option maxRecDepth 100000
def okI (i : S28) : Bool := putOk i.f0 i.f1 i.f2
def byI (i : S28) : List UInt8 := QIn.bytes i.f0 i.f1 i.f2 i.f3
def allB : List S28 → Option (List UInt8)
  | [] => some []
  | i :: l => if okI i = true then (allB l).map (byI i ++ ·) else none
def allR (l : List S28) : ByteArray × Int := if 4096 < l.length then (⟨#[]⟩, 2) else match allB l with | some x => (⟨x.toArray⟩, 0) | none => (⟨#[]⟩, 1)
end Go.Proofs.Ytefkhcijgiagdaa.HAll
end
section
namespace Go.Proofs.Ytefkhcijgiagdaa.V0
open Go.RowKit Go.Proofs.YtefkhcijgiagdaaW.PrintWords Go.Proofs.YtefkhcijgiagdaaW.PrintLast Go.Proofs.YtefkhcijgiagdaaW.PrintMore
attribute [local go_sem] max2_int min2_int max_two min_two max_three min_three max_four min_four IntKind.wrap_u32 IntKind.wrap_u8   -- for this text's walks alone
set_option linter.unusedVariables false
open Go.Proofs.Ytefkhcijgiagdaa.Le Go.Proofs.Ytefkhcijgiagdaa.HKnown Go.Proofs.Ytefkhcijgiagdaa.HPut Go.Proofs.Ytefkhcijgiagdaa.I1 Go.Proofs.Ytefkhcijgiagdaa.E1 Go.Proofs.Ytefkhcijgiagdaa.HAsm Go.Proofs.Ytefkhcijgiagdaa.E2 Go.Proofs.Ytefkhcijgiagdaa.HAll
set_option linter.unusedSimpArgs false
def errW : Option Int → Value
  | none => .nilIface
  | some c => .iface 0 (.int .i64 c)
theorem errW_none : errW none = .nilIface := rfl
theorem errW_some (c : Int) : errW (some c) = .iface 0 (.int .i64 c) := rfl
end Go.Proofs.Ytefkhcijgiagdaa.V0
end
section
namespace Go.Proofs.Ytefkhcijgiagdaa.QVm
open Go.RowKit Go.Proofs.YtefkhcijgiagdaaW.PrintWords Go.Proofs.YtefkhcijgiagdaaW.PrintLast Go.Proofs.YtefkhcijgiagdaaW.PrintMore Go.Proofs.Ytefkhcijgiagdaa.HKnown Go.Proofs.Ytefkhcijgiagdaa.I1
set_option linter.unusedVariables false
set_option linter.unusedSimpArgs false
structure V where
  a : Int
  x : Int
  cs : List Int
end Go.Proofs.Ytefkhcijgiagdaa.QVm
end
section
namespace Go.Proofs.Ytefkhcijgiagdaa.HVm
open Go.RowKit Go.Proofs.YtefkhcijgiagdaaW.PrintWords Go.Proofs.YtefkhcijgiagdaaW.PrintLast Go.Proofs.YtefkhcijgiagdaaW.PrintMore Go.Proofs.Ytefkhcijgiagdaa.I1 Go.Proofs.Ytefkhcijgiagdaa.QVm Go.Proofs.Ytefkhcijgiagdaa.QLe
set_option linter.unusedVariables false
set_option linter.unusedSimpArgs false
set_option maxRecDepth 100000
def vmL (rec : ByteArray) (v : V) (at_ out : Int) (done : Bool) : List Value := .string rec :: .int .u32 v.a :: .int .u32 v.x :: (v.cs.map (Value.int .u32) ++ [.int .i64 at_, .int .u32 out, .bool done])
structure Vm (w : World) (Wb : Nat) (rec : ByteArray) (v : V) (at_ out : Int) (done : Bool) : Prop where
  hW : w.heap[Wb]? = some (.cells (vmL rec v at_ out done).toArray 156 (0, 0))
  hl : v.cs.length = 16
section
variable {w : World} {Wb : Nat} {rec : ByteArray} {v : V} {at_ out : Int} {done : Bool}
theorem Vm.lt (h : Vm w Wb rec v at_ out done) : Wb < w.heap.size := blk_lt h.hW
theorem Vm.cell (h : Vm w Wb rec v at_ out done) (i : Nat) : w.cell? ⟨Wb, i, none⟩ = (vmL rec v at_ out done)[i]? := by rw [blk_cell h.hW i]; simp
theorem Vm.c0 (h : Vm w Wb rec v at_ out done) : w.cell? ⟨Wb, 0, none⟩ = some (.string rec) := h.cell 0
theorem Vm.c1 (h : Vm w Wb rec v at_ out done) : w.cell? ⟨Wb, 1, none⟩ = some (.int .u32 v.a) := h.cell 1
theorem Vm.c2 (h : Vm w Wb rec v at_ out done) : w.cell? ⟨Wb, 2, none⟩ = some (.int .u32 v.x) := h.cell 2
theorem Vm.put (h : Vm w Wb rec v at_ out done) (i : Nat) (u : Value) {v' : V} {at' out' : Int} {done' : Bool} (e : (vmL rec v at_ out done).set i u = vmL rec v' at' out' done') (hl : v'.cs.length = 16) : Vm (w.setCell ⟨Wb, i, none⟩ u) Wb rec v' at' out' done' :=
  ⟨blk_put h.hW i u (by rw [← e]; simp), hl⟩
theorem Vm.below (h : Vm w Wb rec v at_ out done) {w' : World} (hb : Below w.heap.size w w') : Vm w' Wb rec v at_ out done := ⟨(hb.block _ h.lt).trans h.hW, h.hl⟩
theorem Vm.alloc (h : Vm w Wb rec v at_ out done) (o : Obj) : Vm (w.alloc o) Wb rec v at_ out done := h.below (below_alloc (Below.refl _ _) o)
theorem Vm.drew (h : Vm w Wb rec v at_ out done) : Vm w.drew Wb rec v at_ out done := ⟨h.hW, h.hl⟩
theorem Vm.made (w : World) (rec : ByteArray) : Vm (w.alloc (.cells (vmL rec ⟨0, 0, List.replicate 16 0⟩ 0 0 false).toArray 156)) w.heap.size rec ⟨0, 0, List.replicate 16 0⟩ 0 0 false := ⟨heap_alloc_new w _, rfl⟩
end
end Go.Proofs.Ytefkhcijgiagdaa.HVm
end
section
namespace Go.Proofs.Ytefkhcijgiagdaa.HVm
open Go.RowKit Go.Proofs.YtefkhcijgiagdaaW.PrintWords Go.Proofs.YtefkhcijgiagdaaW.PrintLast Go.Proofs.YtefkhcijgiagdaaW.PrintMore Go.Proofs.Ytefkhcijgiagdaa.I1 Go.Proofs.Ytefkhcijgiagdaa.QVm Go.Proofs.Ytefkhcijgiagdaa.QLe
set_option linter.unusedVariables false
set_option linter.unusedSimpArgs false
set_option maxRecDepth 100000
theorem Vm.drewN {w : World} {Wb : Nat} {rec : ByteArray} {v : V} {at_ out : Int} {done : Bool} (h : Vm w Wb rec v at_ out done) (n : Nat) : Vm (w.drewN n) Wb rec v at_ out done := ⟨h.hW, h.hl⟩
section
variable {w w' : World} {B Wb : Nat} {rec : ByteArray} {v' : V} {at_ out : Int} {done : Bool}
end
end Go.Proofs.Ytefkhcijgiagdaa.HVm
end
section
namespace Go.Proofs.Ytefkhcijgiagdaa.HVm
open Go.Proofs.Ytefkhcijgiagdaa.HKnown Go.RowKit Go.Proofs.YtefkhcijgiagdaaW.PrintWords Go.Proofs.YtefkhcijgiagdaaW.PrintLast Go.Proofs.YtefkhcijgiagdaaW.PrintMore Go.Proofs.Ytefkhcijgiagdaa.I1 Go.Proofs.Ytefkhcijgiagdaa.QVm Go.Proofs.Ytefkhcijgiagdaa.QLe
set_option linter.unusedVariables false
set_option linter.unusedSimpArgs false
set_option maxRecDepth 100000
theorem below_on {B : Nat} {w w1 w2 : World} (h : Below B w w1) (hB : B ≤ w.heap.size) (k : Below w1.heap.size w1 w2) : Below B w w2 := below_then h (Nat.le_trans hB h.size) k
/-- The world in which a step looks whether its code is known. -/
structure At0 (w w1 : World) (B Wb ib : Nat) (rec : ByteArray) (v : V) (at_ out : Int) (i : S28) : Prop where
  hv : Vm w1 Wb rec v at_ out false
  hb : Below B w w1
  hi : w1.heap[ib]? = some (.cells #[.int .i64 i.f0, .int .i64 i.f1, .int .i64 i.f2, .int .u32 i.f3] 28 (0, 0))
theorem At0.drew {w w1 : World} {B Wb ib : Nat} {rec : ByteArray} {v : V} {at_ out : Int} {i : S28} (h : At0 w w1 B Wb ib rec v at_ out i) : At0 w w1.drew B Wb ib rec v at_ out i := ⟨h.hv.drew, h.hb.drew, h.hi⟩
theorem At0.step {w w1 w2 : World} {B Wb ib : Nat} {rec : ByteArray} {v : V} {at_ out : Int} {i : S28} (h : At0 w w1 B Wb ib rec v at_ out i) (hB : B ≤ w.heap.size) (hb : Below w1.heap.size w1 w2) : At0 w w2 B Wb ib rec v at_ out i := ⟨h.hv.below hb, below_on h.hb hB hb, blk_below h.hi hb⟩
end Go.Proofs.Ytefkhcijgiagdaa.HVm
end
section
namespace Go.Proofs.Ytefkhcijgiagdaa.HVm
open Go.Proofs.Ytefkhcijgiagdaa.HKnown Go.RowKit Go.Proofs.YtefkhcijgiagdaaW.PrintWords Go.Proofs.YtefkhcijgiagdaaW.PrintLast Go.Proofs.YtefkhcijgiagdaaW.PrintMore Go.Proofs.Ytefkhcijgiagdaa.I1 Go.Proofs.Ytefkhcijgiagdaa.QVm Go.Proofs.Ytefkhcijgiagdaa.QLe
set_option linter.unusedVariables false
set_option linter.unusedSimpArgs false
set_option maxRecDepth 100000
/-- Numbers of 32 bits. -/
abbrev U (x : Int) : Prop := 0 ≤ x ∧ x < 4294967296
/-- What an instruction is: fields that the types allow. -/
def I28 (i : S28) : Prop := i.f1 ≤ 9223372036854775807 ∧ i.f2 ≤ 9223372036854775807 ∧ U i.f3
end Go.Proofs.Ytefkhcijgiagdaa.HVm
end
section
namespace Go.Proofs.Ytefkhcijgiagdaa.HVm
open Go.Proofs.Ytefkhcijgiagdaa.HKnown Go.RowKit Go.Proofs.YtefkhcijgiagdaaW.PrintWords Go.Proofs.YtefkhcijgiagdaaW.PrintLast Go.Proofs.YtefkhcijgiagdaaW.PrintMore Go.Proofs.Ytefkhcijgiagdaa.I1 Go.Proofs.Ytefkhcijgiagdaa.QVm Go.Proofs.Ytefkhcijgiagdaa.QLe
set_option linter.unusedVariables false
set_option linter.unusedSimpArgs false
set_option maxRecDepth 100000
def v0 : V := ⟨0, 0, List.replicate 16 0⟩
end Go.Proofs.Ytefkhcijgiagdaa.HVm
end
section
namespace Go.Proofs.Ytefkhcijgiagdaa.HVm
open Go.Proofs.Ytefkhcijgiagdaa.V0 Go.Proofs.Ytefkhcijgiagdaa.HKnown Go.RowKit Go.Proofs.YtefkhcijgiagdaaW.PrintWords Go.Proofs.YtefkhcijgiagdaaW.PrintLast Go.Proofs.YtefkhcijgiagdaaW.PrintMore Go.Proofs.Ytefkhcijgiagdaa.I1 Go.Proofs.Ytefkhcijgiagdaa.QVm Go.Proofs.Ytefkhcijgiagdaa.QLe
set_option linter.unusedVariables false
set_option linter.unusedSimpArgs false
set_option maxRecDepth 100000
instance (i : S28) : Decidable (I28 i) := inferInstanceAs (Decidable (_ ∧ _ ∧ _))
end Go.Proofs.Ytefkhcijgiagdaa.HVm
end
section
namespace Go.Proofs.Ytefkhcijgiagdaa.K0
open Go.RowKit Go.Proofs.YtefkhcijgiagdaaW.PrintWords Go.Proofs.YtefkhcijgiagdaaW.PrintLast Go.Proofs.YtefkhcijgiagdaaW.PrintMore
attribute [local go_sem] max2_int min2_int max_two min_two max_three min_three max_four min_four IntKind.wrap_u32 IntKind.wrap_u8   -- for this text's walks alone
set_option linter.unusedVariables false
open Go.Proofs.Ytefkhcijgiagdaa.Le Go.Proofs.Ytefkhcijgiagdaa.HKnown Go.Proofs.Ytefkhcijgiagdaa.HPut Go.Proofs.Ytefkhcijgiagdaa.I1 Go.Proofs.Ytefkhcijgiagdaa.E1 Go.Proofs.Ytefkhcijgiagdaa.HAsm Go.Proofs.Ytefkhcijgiagdaa.E2 Go.Proofs.Ytefkhcijgiagdaa.HAll Go.Proofs.Ytefkhcijgiagdaa.V0 Go.Proofs.Ytefkhcijgiagdaa.HVm
set_option linter.unusedSimpArgs false
def errW : Option Int → Value
  | none => .nilIface
  | some c => .iface 0 (.int .i64 c)
theorem errW_none : errW none = .nilIface := rfl
theorem errW_some (c : Int) : errW (some c) = .iface 0 (.int .i64 c) := rfl
end Go.Proofs.Ytefkhcijgiagdaa.K0
end
section
namespace Go.Proofs.Ytefkhcijgiagdaa.K0
open Go.RowKit Go.Proofs.YtefkhcijgiagdaaW.PrintWords Go.Proofs.YtefkhcijgiagdaaW.PrintLast Go.Proofs.YtefkhcijgiagdaaW.PrintMore
attribute [local go_sem] max2_int min2_int max_two min_two max_three min_three max_four min_four IntKind.wrap_u32 IntKind.wrap_u8   -- for this text's walks alone
set_option linter.unusedVariables false
open Go.Proofs.Ytefkhcijgiagdaa.Le Go.Proofs.Ytefkhcijgiagdaa.HKnown Go.Proofs.Ytefkhcijgiagdaa.HPut Go.Proofs.Ytefkhcijgiagdaa.I1 Go.Proofs.Ytefkhcijgiagdaa.E1 Go.Proofs.Ytefkhcijgiagdaa.HAsm Go.Proofs.Ytefkhcijgiagdaa.E2 Go.Proofs.Ytefkhcijgiagdaa.HAll Go.Proofs.Ytefkhcijgiagdaa.V0 Go.Proofs.Ytefkhcijgiagdaa.HVm
set_option linter.unusedSimpArgs false
def doorwardref12_returns.f (a0_0 : Int) (a0_1 : Int) (a0_2 : Int) (a0_3 : Int) : Option (Bool) := if a0_0 = 6 then (some true) else (some (a0_0 == 22))
set_option maxHeartbeats 8000000 in
set_option maxRecDepth 100000 in
theorem doorwardref12_returns.calls (a0_0 : Int) (a0_1 : Int) (a0_2 : Int) (a0_3 : Int) (r : Bool) (w : World) (h : doorwardref12_returns.f a0_0 a0_1 a0_2 a0_3 = some r) :
    Calls Try.prog 156 #[.agg #[.int .i64 a0_0, .int .i64 a0_1, .int .i64 a0_2, .int .u32 a0_3]] w fun e w' => e = .returned (.bool r) ∧ Below w.heap.size w w' := by
  have hu28 := Try.underlying28
  have HB := Aside0.mk (Below.refl w.heap.size w)
  have H : (if a0_0 = 6 then (some true) else (some (a0_0 == 22))) = some r := h
  clear h
  by_cases c2 : a0_0 = 6
  · rw [if_pos c2] at H
    have c2b0 : (a0_0 == 6) = true := beq_iff_eq.mpr c2
    have c2b1 : (a0_0 != 6) = false := bne_eq_false_iff_eq.mpr c2
    clear c2
    obtain rfl := Option.some.inj H
    go_enter Try.func156, Try.ntmps156
    go_wp2_with (first | ((with_reducible refine gate_dst (N := 1) rfl ?_); refine box_event ?hg (N := 1) ?hd (cs := #[.int .i64 a0_0, .int .i64 a0_1, .int .i64 a0_2, .int .u32 a0_3]) (t := 28) ?hr ?_; (case hd => rfl); (case hg => rfl); (case hr => first | (go_simp; done) | (go_simp; rfl)); intro gb101 hg w3 hbox hb; have n0_ := Aside0.mk (below_step (by repeat (first | (with_reducible first | exact HB.out | apply below_alloc | apply pw_below_drewN | apply below_drew1) | exact HB.out)) hb); have n1_ := Aside0.mk (hbox); have n2_ := Aside0.mk ((by rw [hg]; exact (below_size (by repeat (first | (with_reducible first | exact HB.out | apply below_alloc | apply pw_below_drewN | apply below_drew1) | exact HB.out))) : w.heap.size ≤ gb101)); have n3_ := Aside0.mk ((by rw [hg]; exact (below_size (by repeat (first | (with_reducible first | exact HB.out | apply below_alloc | apply pw_below_drewN | apply below_drew1) | exact HB.out))) : w.heap.size ≤ gb101)); clear HB; have HB := n0_; have BK101 := n1_; have GW101 := n2_; have GE101 := n3_; clear n0_ n1_ n2_ n3_; clear hb hbox hg; have hcz4_0 : w3.cell? ⟨gb101, 0, none⟩ = some (.int .i64 a0_0) := (blk_cell BK101.out 0).trans rfl; have hcz4_1 : w3.cell? ⟨gb101, 1, none⟩ = some (.int .i64 a0_1) := (blk_cell BK101.out 1).trans rfl; have hcz4_2 : w3.cell? ⟨gb101, 2, none⟩ = some (.int .i64 a0_2) := (blk_cell BK101.out 2).trans rfl; have hcz4_3 : w3.cell? ⟨gb101, 3, none⟩ = some (.int .u32 a0_3) := (blk_cell BK101.out 3).trans rfl; have hfz4_0 := blk_frozen BK101.out 0; have hfz4_1 := blk_frozen BK101.out 1; have hfz4_2 := blk_frozen BK101.out 2; have hfz4_3 := blk_frozen BK101.out 3))
    go_ret
    exact ⟨by first | rfl | (simp [errW_none, errW_some] <;> rfl) | (simp [*, errW_none, errW_some] <;> rfl), by repeat (first | (with_reducible first | exact HB.out | apply below_alloc | apply pw_below_drewN | apply below_drew1 | refine below_set ?_ GE101.out) | exact HB.out)⟩
  · rw [if_neg c2] at H
    have c2b0 : (a0_0 == 6) = false := beq_eq_false_iff_ne.mpr c2
    have c2b1 : (a0_0 != 6) = true := bne_iff_ne.mpr c2
    obtain rfl := Option.some.inj H
    go_enter Try.func156, Try.ntmps156
    go_wp2_with (first | ((with_reducible refine gate_dst (N := 1) rfl ?_); refine box_event ?hg (N := 1) ?hd (cs := #[.int .i64 a0_0, .int .i64 a0_1, .int .i64 a0_2, .int .u32 a0_3]) (t := 28) ?hr ?_; (case hd => rfl); (case hg => rfl); (case hr => first | (go_simp; done) | (go_simp; rfl)); intro gb101 hg w5 hbox hb; have n0_ := Aside0.mk (below_step (by repeat (first | (with_reducible first | exact HB.out | apply below_alloc | apply pw_below_drewN | apply below_drew1) | exact HB.out)) hb); have n1_ := Aside0.mk (hbox); have n2_ := Aside0.mk ((by rw [hg]; exact (below_size (by repeat (first | (with_reducible first | exact HB.out | apply below_alloc | apply pw_below_drewN | apply below_drew1) | exact HB.out))) : w.heap.size ≤ gb101)); have n3_ := Aside0.mk ((by rw [hg]; exact (below_size (by repeat (first | (with_reducible first | exact HB.out | apply below_alloc | apply pw_below_drewN | apply below_drew1) | exact HB.out))) : w.heap.size ≤ gb101)); clear HB; have HB := n0_; have BK101 := n1_; have GW101 := n2_; have GE101 := n3_; clear n0_ n1_ n2_ n3_; clear hb hbox hg; have hcz6_0 : w5.cell? ⟨gb101, 0, none⟩ = some (.int .i64 a0_0) := (blk_cell BK101.out 0).trans rfl; have hcz6_1 : w5.cell? ⟨gb101, 1, none⟩ = some (.int .i64 a0_1) := (blk_cell BK101.out 1).trans rfl; have hcz6_2 : w5.cell? ⟨gb101, 2, none⟩ = some (.int .i64 a0_2) := (blk_cell BK101.out 2).trans rfl; have hcz6_3 : w5.cell? ⟨gb101, 3, none⟩ = some (.int .u32 a0_3) := (blk_cell BK101.out 3).trans rfl; have hfz6_0 := blk_frozen BK101.out 0; have hfz6_1 := blk_frozen BK101.out 1; have hfz6_2 := blk_frozen BK101.out 2; have hfz6_3 := blk_frozen BK101.out 3))
    go_ret
    exact ⟨by first | rfl | (simp [errW_none, errW_some] <;> rfl) | (simp [*, errW_none, errW_some] <;> rfl), by repeat (first | (with_reducible first | exact HB.out | apply below_alloc | apply pw_below_drewN | apply below_drew1 | refine below_set ?_ GE101.out) | exact HB.out)⟩
def doorwardref12_jumps.f (a0_0 : Int) (a0_1 : Int) (a0_2 : Int) (a0_3 : Int) : Option (Bool) := if (Int.tmod a0_0 8) = 5 then (some (a0_0 != 5)) else (some false)
set_option maxHeartbeats 8000000 in
set_option maxRecDepth 100000 in
theorem doorwardref12_jumps.calls (a0_0 : Int) (a0_1 : Int) (a0_2 : Int) (a0_3 : Int) (r : Bool) (w : World) (h : doorwardref12_jumps.f a0_0 a0_1 a0_2 a0_3 = some r) :
    Calls Try.prog 157 #[.agg #[.int .i64 a0_0, .int .i64 a0_1, .int .i64 a0_2, .int .u32 a0_3]] w fun e w' => e = .returned (.bool r) ∧ Below w.heap.size w w' := by
  have hu28 := Try.underlying28
  have HB := Aside0.mk (Below.refl w.heap.size w)
  have H : (if (Int.tmod a0_0 8) = 5 then (some (a0_0 != 5)) else (some false)) = some r := h
  clear h
  by_cases c2 : (Int.tmod a0_0 8) = 5
  · rw [if_pos c2] at H
    have c2b0 : ((Int.tmod a0_0 8) == 5) = true := beq_iff_eq.mpr c2
    have c2b1 : ((Int.tmod a0_0 8) != 5) = false := bne_eq_false_iff_eq.mpr c2
    clear c2
    obtain rfl := Option.some.inj H
    go_enter Try.func157, Try.ntmps157
    go_wp2_with (first | ((with_reducible refine gate_dst (N := 1) rfl ?_); refine box_event ?hg (N := 1) ?hd (cs := #[.int .i64 a0_0, .int .i64 a0_1, .int .i64 a0_2, .int .u32 a0_3]) (t := 28) ?hr ?_; (case hd => rfl); (case hg => rfl); (case hr => first | (go_simp; done) | (go_simp; rfl)); intro gb102 hg w3 hbox hb; have n0_ := Aside0.mk (below_step (by repeat (first | (with_reducible first | exact HB.out | apply below_alloc | apply pw_below_drewN | apply below_drew1) | exact HB.out)) hb); have n1_ := Aside0.mk (hbox); have n2_ := Aside0.mk ((by rw [hg]; exact (below_size (by repeat (first | (with_reducible first | exact HB.out | apply below_alloc | apply pw_below_drewN | apply below_drew1) | exact HB.out))) : w.heap.size ≤ gb102)); have n3_ := Aside0.mk ((by rw [hg]; exact (below_size (by repeat (first | (with_reducible first | exact HB.out | apply below_alloc | apply pw_below_drewN | apply below_drew1) | exact HB.out))) : w.heap.size ≤ gb102)); clear HB; have HB := n0_; have BK102 := n1_; have GW102 := n2_; have GE102 := n3_; clear n0_ n1_ n2_ n3_; clear hb hbox hg; have hcz4_0 : w3.cell? ⟨gb102, 0, none⟩ = some (.int .i64 a0_0) := (blk_cell BK102.out 0).trans rfl; have hcz4_1 : w3.cell? ⟨gb102, 1, none⟩ = some (.int .i64 a0_1) := (blk_cell BK102.out 1).trans rfl; have hcz4_2 : w3.cell? ⟨gb102, 2, none⟩ = some (.int .i64 a0_2) := (blk_cell BK102.out 2).trans rfl; have hcz4_3 : w3.cell? ⟨gb102, 3, none⟩ = some (.int .u32 a0_3) := (blk_cell BK102.out 3).trans rfl; have hfz4_0 := blk_frozen BK102.out 0; have hfz4_1 := blk_frozen BK102.out 1; have hfz4_2 := blk_frozen BK102.out 2; have hfz4_3 := blk_frozen BK102.out 3))
    go_ret
    exact ⟨by first | rfl | (simp [errW_none, errW_some] <;> rfl) | (simp [*, errW_none, errW_some] <;> rfl), by repeat (first | (with_reducible first | exact HB.out | apply below_alloc | apply pw_below_drewN | apply below_drew1 | refine below_set ?_ GE102.out) | exact HB.out)⟩
  · rw [if_neg c2] at H
    have c2b0 : ((Int.tmod a0_0 8) == 5) = false := beq_eq_false_iff_ne.mpr c2
    have c2b1 : ((Int.tmod a0_0 8) != 5) = true := bne_iff_ne.mpr c2
    obtain rfl := Option.some.inj H
    go_enter Try.func157, Try.ntmps157
    go_wp2_with (first | ((with_reducible refine gate_dst (N := 1) rfl ?_); refine box_event ?hg (N := 1) ?hd (cs := #[.int .i64 a0_0, .int .i64 a0_1, .int .i64 a0_2, .int .u32 a0_3]) (t := 28) ?hr ?_; (case hd => rfl); (case hg => rfl); (case hr => first | (go_simp; done) | (go_simp; rfl)); intro gb102 hg w5 hbox hb; have n0_ := Aside0.mk (below_step (by repeat (first | (with_reducible first | exact HB.out | apply below_alloc | apply pw_below_drewN | apply below_drew1) | exact HB.out)) hb); have n1_ := Aside0.mk (hbox); have n2_ := Aside0.mk ((by rw [hg]; exact (below_size (by repeat (first | (with_reducible first | exact HB.out | apply below_alloc | apply pw_below_drewN | apply below_drew1) | exact HB.out))) : w.heap.size ≤ gb102)); have n3_ := Aside0.mk ((by rw [hg]; exact (below_size (by repeat (first | (with_reducible first | exact HB.out | apply below_alloc | apply pw_below_drewN | apply below_drew1) | exact HB.out))) : w.heap.size ≤ gb102)); clear HB; have HB := n0_; have BK102 := n1_; have GW102 := n2_; have GE102 := n3_; clear n0_ n1_ n2_ n3_; clear hb hbox hg; have hcz6_0 : w5.cell? ⟨gb102, 0, none⟩ = some (.int .i64 a0_0) := (blk_cell BK102.out 0).trans rfl; have hcz6_1 : w5.cell? ⟨gb102, 1, none⟩ = some (.int .i64 a0_1) := (blk_cell BK102.out 1).trans rfl; have hcz6_2 : w5.cell? ⟨gb102, 2, none⟩ = some (.int .i64 a0_2) := (blk_cell BK102.out 2).trans rfl; have hcz6_3 : w5.cell? ⟨gb102, 3, none⟩ = some (.int .u32 a0_3) := (blk_cell BK102.out 3).trans rfl; have hfz6_0 := blk_frozen BK102.out 0; have hfz6_1 := blk_frozen BK102.out 1; have hfz6_2 := blk_frozen BK102.out 2; have hfz6_3 := blk_frozen BK102.out 3))
    go_ret
    exact ⟨by first | rfl | (simp [errW_none, errW_some] <;> rfl) | (simp [*, errW_none, errW_some] <;> rfl), by repeat (first | (with_reducible first | exact HB.out | apply below_alloc | apply pw_below_drewN | apply below_drew1 | refine below_set ?_ GE102.out) | exact HB.out)⟩
end Go.Proofs.Ytefkhcijgiagdaa.K0
end
section
namespace Go.Proofs.Ytefkhcijgiagdaa.K0
open Go.RowKit Go.Proofs.YtefkhcijgiagdaaW.PrintWords Go.Proofs.YtefkhcijgiagdaaW.PrintLast Go.Proofs.YtefkhcijgiagdaaW.PrintMore
attribute [local go_sem] max2_int min2_int max_two min_two max_three min_three max_four min_four IntKind.wrap_u32 IntKind.wrap_u8   -- for this text's walks alone
set_option linter.unusedVariables false
open Go.Proofs.Ytefkhcijgiagdaa.Le Go.Proofs.Ytefkhcijgiagdaa.HKnown Go.Proofs.Ytefkhcijgiagdaa.HPut Go.Proofs.Ytefkhcijgiagdaa.I1 Go.Proofs.Ytefkhcijgiagdaa.E1 Go.Proofs.Ytefkhcijgiagdaa.HAsm Go.Proofs.Ytefkhcijgiagdaa.E2 Go.Proofs.Ytefkhcijgiagdaa.HAll Go.Proofs.Ytefkhcijgiagdaa.V0 Go.Proofs.Ytefkhcijgiagdaa.HVm
set_option linter.unusedSimpArgs false
mutual
def doorwardref12_Well.j0 : Nat → Int → Int → Bool → Int → Int → Int → Int → Option (Bool)
  | 0, _, _, _, _, _, _, _ => none
  | k + 1, x1, x2, x30, x104000, x104001, x104002, x104003 => if x30 = true then (some false) else (if x1 = (wrap64 (x2 - 1)) then ((doorwardref12_returns.f x104000 x104001 x104002 x104003).bind fun t105 => (doorwardref12_Well.j1 k x1 x2 (!t105) x104000 x104001 x104002 x104003)) else (doorwardref12_Well.j1 k x1 x2 false x104000 x104001 x104002 x104003))
def doorwardref12_Well.j1 : Nat → Int → Int → Bool → Int → Int → Int → Int → Option (Bool)
  | 0, _, _, _, _, _, _, _ => none
  | k + 1, x1, x2, x39, x104000, x104001, x104002, x104003 => if x39 = true then (some false) else (if x104000 = 32 then (if (Int.tmod x104003 4) = 0 then (some (decide (x104003 ≤ 60))) else (some false)) else (if x104000 = 96 then (doorwardref12_Well.j2 k x1 x2 x104000 (x104000 == 96) x104000 x104001 x104002 x104003) else (if x104000 = 97 then (doorwardref12_Well.j2 k x1 x2 x104000 (x104000 == 97) x104000 x104001 x104002 x104003) else (if x104000 = 2 then (doorwardref12_Well.j2 k x1 x2 x104000 (x104000 == 2) x104000 x104001 x104002 x104003) else (doorwardref12_Well.j2 k x1 x2 x104000 (x104000 == 3) x104000 x104001 x104002 x104003)))))
def doorwardref12_Well.j2 : Nat → Int → Int → Int → Bool → Int → Int → Int → Int → Option (Bool)
  | 0, _, _, _, _, _, _, _, _ => none
  | k + 1, x1, x2, x41, x53, x104000, x104001, x104002, x104003 => if x53 = true then (some (decide (x104003 ≤ 15))) else (if x41 = 52 then (some (decide (x104003 > 0))) else (if x41 = 100 then (doorwardref12_Well.j3 k x1 x2 x41 (x41 == 100) x104000 x104001 x104002 x104003) else (doorwardref12_Well.j3 k x1 x2 x41 (x41 == 116) x104000 x104001 x104002 x104003)))
def doorwardref12_Well.j3 : Nat → Int → Int → Int → Bool → Int → Int → Int → Int → Option (Bool)
  | 0, _, _, _, _, _, _, _, _ => none
  | k + 1, x1, x2, x41, x66, x104000, x104001, x104002, x104003 => if x66 = true then (some (decide (x104003 ≤ 31))) else (if x41 = 5 then (some (decide ((wrap64 ((wrap64 (x1 + 1)) + (wrap64 (x104003)))) < x2))) else ((doorwardref12_jumps.f x104000 x104001 x104002 x104003).bind fun t106 => (if t106 = true then (if (wrap64 ((wrap64 (x1 + 1)) + x104001)) < x2 then (some (decide ((wrap64 ((wrap64 (x1 + 1)) + x104002)) < x2))) else (some false)) else (some true))))
end
def doorwardref12_Well.f (k : Nat) (a0_0 : Int) (a0_1 : Int) (a0_2 : Int) (a0_3 : Int) (a1 : Int) (a2 : Int) : Option (Bool) := (doorwardref10_Known.f k a0_0).bind fun t104 => (if t104 = true then (if a0_1 < 0 then (doorwardref12_Well.j0 k a1 a2 true a0_0 a0_1 a0_2 a0_3) else (if a0_1 > 255 then (doorwardref12_Well.j0 k a1 a2 true a0_0 a0_1 a0_2 a0_3) else (if a0_2 < 0 then (doorwardref12_Well.j0 k a1 a2 true a0_0 a0_1 a0_2 a0_3) else (doorwardref12_Well.j0 k a1 a2 (decide (a0_2 > 255)) a0_0 a0_1 a0_2 a0_3)))) else (doorwardref12_Well.j0 k a1 a2 true a0_0 a0_1 a0_2 a0_3))
set_option maxHeartbeats 8000000 in
set_option maxRecDepth 100000 in
theorem doorwardref12_Well.calls (k : Nat) (a0_0 : Int) (a0_1 : Int) (a0_2 : Int) (a0_3 : Int) (a1 : Int) (a2 : Int) (r : Bool) (w : World) (h : doorwardref12_Well.f k a0_0 a0_1 a0_2 a0_3 a1 a2 = some r) :
    Calls Try.prog 130 #[.agg #[.int .i64 a0_0, .int .i64 a0_1, .int .i64 a0_2, .int .u32 a0_3], .int .i64 a1, .int .i64 a2] w fun e w' => e = .returned (.bool r) ∧ Below w.heap.size w w' := by
  have hu28 := Try.underlying28
  have HB := Aside0.mk (Below.refl w.heap.size w)
  have H : ((doorwardref10_Known.f k a0_0).bind fun t104 => (if t104 = true then (if a0_1 < 0 then (doorwardref12_Well.j0 k a1 a2 true a0_0 a0_1 a0_2 a0_3) else (if a0_1 > 255 then (doorwardref12_Well.j0 k a1 a2 true a0_0 a0_1 a0_2 a0_3) else (if a0_2 < 0 then (doorwardref12_Well.j0 k a1 a2 true a0_0 a0_1 a0_2 a0_3) else (doorwardref12_Well.j0 k a1 a2 (decide (a0_2 > 255)) a0_0 a0_1 a0_2 a0_3)))) else (doorwardref12_Well.j0 k a1 a2 true a0_0 a0_1 a0_2 a0_3))) = some r := h
  clear h
  have HC4 := Aside0.mk H
  clear H
  go_enter Try.func130, Try.ntmps130
  go_upto_region 1 with (first | ((with_reducible refine gate_dst (N := 3) rfl ?_); refine box_event ?hg (N := 3) ?hd (cs := #[.int .i64 a0_0, .int .i64 a0_1, .int .i64 a0_2, .int .u32 a0_3]) (t := 28) ?hr ?_; (case hd => rfl); (case hg => rfl); (case hr => first | (go_simp; done) | (go_simp; rfl)); intro gb103 hg w5 hbox hb; have n0_ := Aside0.mk (below_step (by repeat (first | (with_reducible first | exact HB.out | apply below_alloc | apply pw_below_drewN | apply below_drew1) | exact HB.out)) hb); have n1_ := Aside0.mk (hbox); have n2_ := Aside0.mk ((by rw [hg]; exact (below_size (by repeat (first | (with_reducible first | exact HB.out | apply below_alloc | apply pw_below_drewN | apply below_drew1) | exact HB.out))) : w.heap.size ≤ gb103)); have n3_ := Aside0.mk ((by rw [hg]; exact (below_size (by repeat (first | (with_reducible first | exact HB.out | apply below_alloc | apply pw_below_drewN | apply below_drew1) | exact HB.out))) : w.heap.size ≤ gb103)); clear HB; have HB := n0_; have BK103 := n1_; have GW103 := n2_; have GE103 := n3_; clear n0_ n1_ n2_ n3_; clear hb hbox hg))
  (try simp only [Act.put, List.setIfInBounds_toArray, List.set_cons_zero, List.set_cons_succ])
  go_cut [30] (fun v30 wc => ∃ (kq : Nat) (x30_3 : Bool), v30 = .bool x30_3 ∧ Aside0 (doorwardref12_Well.j0 kq a1 a2 x30_3 a0_0 a0_1 a0_2 a0_3 = some r) ∧ Aside0 (kq ≤ k) ∧ Aside0 (wc.heap[gb103]? = some (.cells #[.int .i64 a0_0, .int .i64 a0_1, .int .i64 a0_2, .int .u32 a0_3] 28 (0, 0))) ∧ Aside0 (Below w.heap.size w wc))
  case first =>
    have H := HC4.out
    clear HC4
    replace H := Option.bind_eq_some_iff.mp H
    obtain ⟨t104, A60, H⟩ := H
    replace H : (if t104 = true then (if a0_1 < 0 then (doorwardref12_Well.j0 k a1 a2 true a0_0 a0_1 a0_2 a0_3) else (if a0_1 > 255 then (doorwardref12_Well.j0 k a1 a2 true a0_0 a0_1 a0_2 a0_3) else (if a0_2 < 0 then (doorwardref12_Well.j0 k a1 a2 true a0_0 a0_1 a0_2 a0_3) else (doorwardref12_Well.j0 k a1 a2 (decide (a0_2 > 255)) a0_0 a0_1 a0_2 a0_3)))) else (doorwardref12_Well.j0 k a1 a2 true a0_0 a0_1 a0_2 a0_3)) = some r := H
    have A6 := Aside0.mk A60
    clear A60
    by_cases c7 : t104 = true
    · subst c7
      have H1 : (if a0_1 < 0 then (doorwardref12_Well.j0 k a1 a2 true a0_0 a0_1 a0_2 a0_3) else (if a0_1 > 255 then (doorwardref12_Well.j0 k a1 a2 true a0_0 a0_1 a0_2 a0_3) else (if a0_2 < 0 then (doorwardref12_Well.j0 k a1 a2 true a0_0 a0_1 a0_2 a0_3) else (doorwardref12_Well.j0 k a1 a2 (decide (a0_2 > 255)) a0_0 a0_1 a0_2 a0_3)))) = some r := by rw [if_pos rfl] at H; exact H
      clear H
      have H := H1
      clear H1
      by_cases c8 : a0_1 < 0
      · rw [if_pos c8] at H
        have c8b0 : decide (a0_1 < 0) = true := decide_eq_true c8
        clear c8
        (first | rw [c8b0] | (simp only [i64_w, i32_w]; rw [c8b0]) | skip)
        have H' := Aside0.mk H
        clear H
        have hcz9_0 : w5.cell? ⟨gb103, 0, none⟩ = some (.int .i64 a0_0) := (blk_cell BK103.out 0).trans rfl
        have hcz9_1 : w5.cell? ⟨gb103, 1, none⟩ = some (.int .i64 a0_1) := (blk_cell BK103.out 1).trans rfl
        have hcz9_2 : w5.cell? ⟨gb103, 2, none⟩ = some (.int .i64 a0_2) := (blk_cell BK103.out 2).trans rfl
        have hcz9_3 : w5.cell? ⟨gb103, 3, none⟩ = some (.int .u32 a0_3) := (blk_cell BK103.out 3).trans rfl
        have hfz9_0 := blk_frozen BK103.out 0
        have hfz9_1 := blk_frozen BK103.out 1
        have hfz9_2 := blk_frozen BK103.out 2
        have hfz9_3 := blk_frozen BK103.out 3
        go_wp2_with (first | ((with_reducible refine gate_callee (f := 45) rfl ?_); refine goesL_ (some 9) rfl rfl Try.func45 (by kernel_rfl) rfl #[.int .i64 a0_0] rfl (by (try simp only [List.map_toArray, List.map_cons, List.map_nil]); first | done | rfl | (simp only [List.length_drop, List.length_take]; rfl)) ?_; (with_reducible refine (doorwardref10_Known.calls k a0_0 true _ A6.out).mono ?_); rintro e w' ⟨rfl, ⟨nd, rfl⟩⟩; refine ⟨_, rfl, ?_⟩))
        go_meet
        case rel => exact ⟨_, (true), (by first | rfl | (simp; done) | (simp [*]; done)), H', ⟨by first | omega | exact Nat.le_refl _⟩, ⟨by (with_reducible repeat (first | refine blk_drewN ?_ _ | refine blk_drew ?_ | refine blk_alloc ?_ _)); exact BK103.out⟩, ⟨by repeat (first | (with_reducible first | exact HB.out | apply below_alloc | apply pw_below_drewN | apply below_drew1 | refine below_set ?_ GE103.out) | exact HB.out)⟩⟩
      · rw [if_neg c8] at H
        have c8b0 : decide (a0_1 < 0) = false := decide_eq_false c8
        clear c8
        (first | rw [c8b0] | (simp only [i64_w, i32_w]; rw [c8b0]) | skip)
        by_cases c10 : a0_1 > 255
        · rw [if_pos c10] at H
          have c10b0 : decide (255 < a0_1) = true := decide_eq_true c10
          clear c10
          have H' := Aside0.mk H
          clear H
          have hcz11_0 : w5.cell? ⟨gb103, 0, none⟩ = some (.int .i64 a0_0) := (blk_cell BK103.out 0).trans rfl
          have hcz11_1 : w5.cell? ⟨gb103, 1, none⟩ = some (.int .i64 a0_1) := (blk_cell BK103.out 1).trans rfl
          have hcz11_2 : w5.cell? ⟨gb103, 2, none⟩ = some (.int .i64 a0_2) := (blk_cell BK103.out 2).trans rfl
          have hcz11_3 : w5.cell? ⟨gb103, 3, none⟩ = some (.int .u32 a0_3) := (blk_cell BK103.out 3).trans rfl
          have hfz11_0 := blk_frozen BK103.out 0
          have hfz11_1 := blk_frozen BK103.out 1
          have hfz11_2 := blk_frozen BK103.out 2
          have hfz11_3 := blk_frozen BK103.out 3
          go_wp2_with (first | ((with_reducible refine gate_callee (f := 45) rfl ?_); refine goesL_ (some 9) rfl rfl Try.func45 (by kernel_rfl) rfl #[.int .i64 a0_0] rfl (by (try simp only [List.map_toArray, List.map_cons, List.map_nil]); first | done | rfl | (simp only [List.length_drop, List.length_take]; rfl)) ?_; (with_reducible refine (doorwardref10_Known.calls k a0_0 true _ A6.out).mono ?_); rintro e w' ⟨rfl, ⟨nd, rfl⟩⟩; refine ⟨_, rfl, ?_⟩))
          go_meet
          case rel => exact ⟨_, (true), (by first | rfl | (simp; done) | (simp [*]; done)), H', ⟨by first | omega | exact Nat.le_refl _⟩, ⟨by (with_reducible repeat (first | refine blk_drewN ?_ _ | refine blk_drew ?_ | refine blk_alloc ?_ _)); exact BK103.out⟩, ⟨by repeat (first | (with_reducible first | exact HB.out | apply below_alloc | apply pw_below_drewN | apply below_drew1 | refine below_set ?_ GE103.out) | exact HB.out)⟩⟩
        · rw [if_neg c10] at H
          have c10b0 : decide (255 < a0_1) = false := decide_eq_false c10
          clear c10
          by_cases c12 : a0_2 < 0
          · rw [if_pos c12] at H
            have c12b0 : decide (a0_2 < 0) = true := decide_eq_true c12
            clear c12
            have H' := Aside0.mk H
            clear H
            have hcz13_0 : w5.cell? ⟨gb103, 0, none⟩ = some (.int .i64 a0_0) := (blk_cell BK103.out 0).trans rfl
            have hcz13_1 : w5.cell? ⟨gb103, 1, none⟩ = some (.int .i64 a0_1) := (blk_cell BK103.out 1).trans rfl
            have hcz13_2 : w5.cell? ⟨gb103, 2, none⟩ = some (.int .i64 a0_2) := (blk_cell BK103.out 2).trans rfl
            have hcz13_3 : w5.cell? ⟨gb103, 3, none⟩ = some (.int .u32 a0_3) := (blk_cell BK103.out 3).trans rfl
            have hfz13_0 := blk_frozen BK103.out 0
            have hfz13_1 := blk_frozen BK103.out 1
            have hfz13_2 := blk_frozen BK103.out 2
            have hfz13_3 := blk_frozen BK103.out 3
            go_wp2_with (first | ((with_reducible refine gate_callee (f := 45) rfl ?_); refine goesL_ (some 9) rfl rfl Try.func45 (by kernel_rfl) rfl #[.int .i64 a0_0] rfl (by (try simp only [List.map_toArray, List.map_cons, List.map_nil]); first | done | rfl | (simp only [List.length_drop, List.length_take]; rfl)) ?_; (with_reducible refine (doorwardref10_Known.calls k a0_0 true _ A6.out).mono ?_); rintro e w' ⟨rfl, ⟨nd, rfl⟩⟩; refine ⟨_, rfl, ?_⟩))
            go_meet
            case rel => exact ⟨_, (true), (by first | rfl | (simp; done) | (simp [*]; done)), H', ⟨by first | omega | exact Nat.le_refl _⟩, ⟨by (with_reducible repeat (first | refine blk_drewN ?_ _ | refine blk_drew ?_ | refine blk_alloc ?_ _)); exact BK103.out⟩, ⟨by repeat (first | (with_reducible first | exact HB.out | apply below_alloc | apply pw_below_drewN | apply below_drew1 | refine below_set ?_ GE103.out) | exact HB.out)⟩⟩
          · rw [if_neg c12] at H
            have c12b0 : decide (a0_2 < 0) = false := decide_eq_false c12
            clear c12
            have H' := Aside0.mk H
            clear H
            have hcz14_0 : w5.cell? ⟨gb103, 0, none⟩ = some (.int .i64 a0_0) := (blk_cell BK103.out 0).trans rfl
            have hcz14_1 : w5.cell? ⟨gb103, 1, none⟩ = some (.int .i64 a0_1) := (blk_cell BK103.out 1).trans rfl
            have hcz14_2 : w5.cell? ⟨gb103, 2, none⟩ = some (.int .i64 a0_2) := (blk_cell BK103.out 2).trans rfl
            have hcz14_3 : w5.cell? ⟨gb103, 3, none⟩ = some (.int .u32 a0_3) := (blk_cell BK103.out 3).trans rfl
            have hfz14_0 := blk_frozen BK103.out 0
            have hfz14_1 := blk_frozen BK103.out 1
            have hfz14_2 := blk_frozen BK103.out 2
            have hfz14_3 := blk_frozen BK103.out 3
            go_wp2_with (first | ((with_reducible refine gate_callee (f := 45) rfl ?_); refine goesL_ (some 9) rfl rfl Try.func45 (by kernel_rfl) rfl #[.int .i64 a0_0] rfl (by (try simp only [List.map_toArray, List.map_cons, List.map_nil]); first | done | rfl | (simp only [List.length_drop, List.length_take]; rfl)) ?_; (with_reducible refine (doorwardref10_Known.calls k a0_0 true _ A6.out).mono ?_); rintro e w' ⟨rfl, ⟨nd, rfl⟩⟩; refine ⟨_, rfl, ?_⟩))
            go_meet
            case rel => exact ⟨_, (decide (a0_2 > 255)), (by first | rfl | (simp; done) | (simp [*]; done)), H', ⟨by first | omega | exact Nat.le_refl _⟩, ⟨by (with_reducible repeat (first | refine blk_drewN ?_ _ | refine blk_drew ?_ | refine blk_alloc ?_ _)); exact BK103.out⟩, ⟨by repeat (first | (with_reducible first | exact HB.out | apply below_alloc | apply pw_below_drewN | apply below_drew1 | refine below_set ?_ GE103.out) | exact HB.out)⟩⟩
    · replace c7 := Bool.eq_false_iff.mpr c7
      subst c7
      have H1 : (doorwardref12_Well.j0 k a1 a2 true a0_0 a0_1 a0_2 a0_3) = some r := by rw [if_neg (show ¬ (false = true) by decide)] at H; exact H
      clear H
      have H := H1
      clear H1
      have H' := Aside0.mk H
      clear H
      have hcz15_0 : w5.cell? ⟨gb103, 0, none⟩ = some (.int .i64 a0_0) := (blk_cell BK103.out 0).trans rfl
      have hcz15_1 : w5.cell? ⟨gb103, 1, none⟩ = some (.int .i64 a0_1) := (blk_cell BK103.out 1).trans rfl
      have hcz15_2 : w5.cell? ⟨gb103, 2, none⟩ = some (.int .i64 a0_2) := (blk_cell BK103.out 2).trans rfl
      have hcz15_3 : w5.cell? ⟨gb103, 3, none⟩ = some (.int .u32 a0_3) := (blk_cell BK103.out 3).trans rfl
      have hfz15_0 := blk_frozen BK103.out 0
      have hfz15_1 := blk_frozen BK103.out 1
      have hfz15_2 := blk_frozen BK103.out 2
      have hfz15_3 := blk_frozen BK103.out 3
      go_wp2_with (first | ((with_reducible refine gate_callee (f := 45) rfl ?_); refine goesL_ (some 9) rfl rfl Try.func45 (by kernel_rfl) rfl #[.int .i64 a0_0] rfl (by (try simp only [List.map_toArray, List.map_cons, List.map_nil]); first | done | rfl | (simp only [List.length_drop, List.length_take]; rfl)) ?_; (with_reducible refine (doorwardref10_Known.calls k a0_0 false _ A6.out).mono ?_); rintro e w' ⟨rfl, ⟨nd, rfl⟩⟩; refine ⟨_, rfl, ?_⟩))
      go_meet
      case rel => exact ⟨_, (true), (by first | rfl | (simp; done) | (simp [*]; done)), H', ⟨by first | omega | exact Nat.le_refl _⟩, ⟨by (with_reducible repeat (first | refine blk_drewN ?_ _ | refine blk_drew ?_ | refine blk_alloc ?_ _)); exact BK103.out⟩, ⟨by repeat (first | (with_reducible first | exact HB.out | apply below_alloc | apply pw_below_drewN | apply below_drew1 | refine below_set ?_ GE103.out) | exact HB.out)⟩⟩
  case rest =>
    clear HC4
    try clear c1
    try clear p2
    try clear c4
    try clear c7
    try clear c8
    try clear c8b0
    try clear c10
    try clear c10b0
    try clear c12
    try clear c12b0
    try clear c13
    try clear hcz11_0
    try clear hcz11_1
    try clear hcz11_2
    try clear hcz11_3
    try clear hcz13_0
    try clear hcz13_1
    try clear hcz13_2
    try clear hcz13_3
    try clear hcz14_0
    try clear hcz14_1
    try clear hcz14_2
    try clear hcz14_3
    try clear hcz15_0
    try clear hcz15_1
    try clear hcz15_2
    try clear hcz15_3
    try clear hcz9_0
    try clear hcz9_1
    try clear hcz9_2
    try clear hcz9_3
    try clear hfz11_0
    try clear hfz11_1
    try clear hfz11_2
    try clear hfz11_3
    try clear hfz13_0
    try clear hfz13_1
    try clear hfz13_2
    try clear hfz13_3
    try clear hfz14_0
    try clear hfz14_1
    try clear hfz14_2
    try clear hfz14_3
    try clear hfz15_0
    try clear hfz15_1
    try clear hfz15_2
    try clear hfz15_3
    try clear hfz9_0
    try clear hfz9_1
    try clear hfz9_2
    try clear hfz9_3
    obtain ⟨kq, x30_3, rfl, HA, HJ3, BK103, HB⟩ := hcut
    cases kq with
    | zero => exact absurd HA.out (by simp [doorwardref12_Well.j0])
    | succ kj3 =>
      have H := HA.out
      clear HA
      simp only [doorwardref12_Well.j0] at H
      by_cases c16 : x30_3 = true
      · subst c16
        have H1 : (some false) = some r := by rw [if_pos rfl] at H; exact H
        clear H
        have H := H1
        clear H1
        obtain rfl := Option.some.inj H
        go_wp2
        go_ret
        exact ⟨by first | rfl | (simp [errW_none, errW_some] <;> rfl) | (simp [*, errW_none, errW_some] <;> rfl), by repeat (first | (with_reducible first | exact HB.out | apply below_alloc | apply pw_below_drewN | apply below_drew1 | refine below_set ?_ GE103.out) | exact HB.out)⟩
      · replace c16 := Bool.eq_false_iff.mpr c16
        subst c16
        have H1 : (if a1 = (wrap64 (a2 - 1)) then ((doorwardref12_returns.f a0_0 a0_1 a0_2 a0_3).bind fun t105 => (doorwardref12_Well.j1 kj3 a1 a2 (!t105) a0_0 a0_1 a0_2 a0_3)) else (doorwardref12_Well.j1 kj3 a1 a2 false a0_0 a0_1 a0_2 a0_3)) = some r := by rw [if_neg (show ¬ (false = true) by decide)] at H; exact H
        clear H
        have H := H1
        clear H1
        have HC17 := Aside0.mk H
        clear H
        go_upto_region 3 with (fail)
        go_cut [39] (fun v39 wc => ∃ (kq : Nat) (x39_16 : Bool), v39 = .bool x39_16 ∧ Aside0 (doorwardref12_Well.j1 kq a1 a2 x39_16 a0_0 a0_1 a0_2 a0_3 = some r) ∧ Aside0 (kq ≤ kj3) ∧ Aside0 (wc.heap[gb103]? = some (.cells #[.int .i64 a0_0, .int .i64 a0_1, .int .i64 a0_2, .int .u32 a0_3] 28 (0, 0))) ∧ Aside0 (Below w.heap.size w wc))
        case first =>
          have H := HC17.out
          clear HC17
          by_cases c18 : a1 = (wrap64 (a2 - 1))
          · rw [if_pos c18] at H
            have c18b0 : (a1 == (wrap64 (a2 - 1))) = true := beq_iff_eq.mpr c18
            have c18b1 : (a1 != (wrap64 (a2 - 1))) = false := bne_eq_false_iff_eq.mpr c18
            clear c18
            (first | rw [c18b0] | (simp only [i64_w, i32_w]; rw [c18b0]) | skip)
            replace H := Option.bind_eq_some_iff.mp H
            obtain ⟨t105, A190, H⟩ := H
            replace H : (doorwardref12_Well.j1 kj3 a1 a2 (!t105) a0_0 a0_1 a0_2 a0_3) = some r := H
            have A19 := Aside0.mk A190
            clear A190
            have H' := Aside0.mk H
            clear H
            have hcz20_0 : wc.cell? ⟨gb103, 0, none⟩ = some (.int .i64 a0_0) := (blk_cell BK103.out 0).trans rfl
            have hcz20_1 : wc.cell? ⟨gb103, 1, none⟩ = some (.int .i64 a0_1) := (blk_cell BK103.out 1).trans rfl
            have hcz20_2 : wc.cell? ⟨gb103, 2, none⟩ = some (.int .i64 a0_2) := (blk_cell BK103.out 2).trans rfl
            have hcz20_3 : wc.cell? ⟨gb103, 3, none⟩ = some (.int .u32 a0_3) := (blk_cell BK103.out 3).trans rfl
            have hfz20_0 := blk_frozen BK103.out 0
            have hfz20_1 := blk_frozen BK103.out 1
            have hfz20_2 := blk_frozen BK103.out 2
            have hfz20_3 := blk_frozen BK103.out 3
            go_wp2_with (first | (go_at_call 156; (with_reducible refine (doorwardref12_returns.calls a0_0 a0_1 a0_2 a0_3 t105 _ A19.out).mono ?_); rintro e w21 ⟨rfl, hb⟩; have n0_ := Aside0.mk (blk_below (g := gb103) (o := .cells #[.int .i64 a0_0, .int .i64 a0_1, .int .i64 a0_2, .int .u32 a0_3] 28 (0, 0)) (by (with_reducible repeat (first | refine blk_drewN ?_ _ | refine blk_drew ?_ | refine blk_alloc ?_ _)); exact BK103.out) hb); have n1_ := Aside0.mk (below_step (by repeat (first | (with_reducible first | exact HB.out | apply below_alloc | apply pw_below_drewN | apply below_drew1 | refine below_set ?_ GE103.out) | exact HB.out)) hb); clear BK103; clear HB; have BK103 := n0_; have HB := n1_; clear n0_ n1_; (try clear hb); (try clear hb2); (try clear hk); (try clear hi)))
            go_meet
            case rel => exact ⟨_, (!t105), (by first | rfl | (simp; done) | (simp [*]; done)), H', ⟨by have := HJ3.out; first | omega | exact Nat.le_refl _⟩, ⟨by (with_reducible repeat (first | refine blk_drewN ?_ _ | refine blk_drew ?_ | refine blk_alloc ?_ _)); exact BK103.out⟩, ⟨by repeat (first | (with_reducible first | exact HB.out | apply below_alloc | apply pw_below_drewN | apply below_drew1 | refine below_set ?_ GE103.out) | exact HB.out)⟩⟩
          · rw [if_neg c18] at H
            have c18b0 : (a1 == (wrap64 (a2 - 1))) = false := beq_eq_false_iff_ne.mpr c18
            have c18b1 : (a1 != (wrap64 (a2 - 1))) = true := bne_iff_ne.mpr c18
            (first | rw [c18b0] | (simp only [i64_w, i32_w]; rw [c18b0]) | skip)
            have H' := Aside0.mk H
            clear H
            go_wp2
            go_meet
            case rel => exact ⟨_, (false), (by first | rfl | (simp; done) | (simp [*]; done)), H', ⟨by have := HJ3.out; first | omega | exact Nat.le_refl _⟩, ⟨by (with_reducible repeat (first | refine blk_drewN ?_ _ | refine blk_drew ?_ | refine blk_alloc ?_ _)); exact BK103.out⟩, ⟨by repeat (first | (with_reducible first | exact HB.out | apply below_alloc | apply pw_below_drewN | apply below_drew1 | refine below_set ?_ GE103.out) | exact HB.out)⟩⟩
        case rest =>
          clear HC17
          try clear c1
          try clear p2
          try clear c4
          try clear p6
          try clear c7
          try clear c8
          try clear c8b0
          try clear c10
          try clear c10b0
          try clear c12
          try clear c12b0
          try clear c13
          try clear c16
          try clear c18
          try clear c18b0
          try clear c18b1
          try clear hcz11_0
          try clear hcz11_1
          try clear hcz11_2
          try clear hcz11_3
          try clear hcz13_0
          try clear hcz13_1
          try clear hcz13_2
          try clear hcz13_3
          try clear hcz14_0
          try clear hcz14_1
          try clear hcz14_2
          try clear hcz14_3
          try clear hcz15_0
          try clear hcz15_1
          try clear hcz15_2
          try clear hcz15_3
          try clear hcz20_0
          try clear hcz20_1
          try clear hcz20_2
          try clear hcz20_3
          try clear hcz9_0
          try clear hcz9_1
          try clear hcz9_2
          try clear hcz9_3
          try clear hfz11_0
          try clear hfz11_1
          try clear hfz11_2
          try clear hfz11_3
          try clear hfz13_0
          try clear hfz13_1
          try clear hfz13_2
          try clear hfz13_3
          try clear hfz14_0
          try clear hfz14_1
          try clear hfz14_2
          try clear hfz14_3
          try clear hfz15_0
          try clear hfz15_1
          try clear hfz15_2
          try clear hfz15_3
          try clear hfz20_0
          try clear hfz20_1
          try clear hfz20_2
          try clear hfz20_3
          try clear hfz9_0
          try clear hfz9_1
          try clear hfz9_2
          try clear hfz9_3
          try clear p2
          obtain ⟨kq, x39_16, rfl, HA, HJ16, BK103, HB⟩ := hcut
          cases kq with
          | zero => exact absurd HA.out (by simp [doorwardref12_Well.j1])
          | succ kj16 =>
            have H := HA.out
            clear HA
            simp only [doorwardref12_Well.j1] at H
            by_cases c22 : x39_16 = true
            · subst c22
              have H1 : (some false) = some r := by rw [if_pos rfl] at H; exact H
              clear H
              have H := H1
              clear H1
              obtain rfl := Option.some.inj H
              go_wp2
              go_ret
              exact ⟨by first | rfl | (simp [errW_none, errW_some] <;> rfl) | (simp [*, errW_none, errW_some] <;> rfl), by repeat (first | (with_reducible first | exact HB.out | apply below_alloc | apply pw_below_drewN | apply below_drew1 | refine below_set ?_ GE103.out) | exact HB.out)⟩
            · replace c22 := Bool.eq_false_iff.mpr c22
              subst c22
              have H1 : (if a0_0 = 32 then (if (Int.tmod a0_3 4) = 0 then (some (decide (a0_3 ≤ 60))) else (some false)) else (if a0_0 = 96 then (doorwardref12_Well.j2 kj16 a1 a2 a0_0 (a0_0 == 96) a0_0 a0_1 a0_2 a0_3) else (if a0_0 = 97 then (doorwardref12_Well.j2 kj16 a1 a2 a0_0 (a0_0 == 97) a0_0 a0_1 a0_2 a0_3) else (if a0_0 = 2 then (doorwardref12_Well.j2 kj16 a1 a2 a0_0 (a0_0 == 2) a0_0 a0_1 a0_2 a0_3) else (doorwardref12_Well.j2 kj16 a1 a2 a0_0 (a0_0 == 3) a0_0 a0_1 a0_2 a0_3))))) = some r := by rw [if_neg (show ¬ (false = true) by decide)] at H; exact H
              clear H
              have H := H1
              clear H1
              by_cases c23 : a0_0 = 32
              · rw [if_pos c23] at H
                have c23b0 : (a0_0 == 32) = true := beq_iff_eq.mpr c23
                have c23b1 : (a0_0 != 32) = false := bne_eq_false_iff_eq.mpr c23
                clear c23
                by_cases c24 : (Int.tmod a0_3 4) = 0
                · rw [if_pos c24] at H
                  have c24b0 : ((Int.tmod a0_3 4) == 0) = true := beq_iff_eq.mpr c24
                  have c24b1 : ((Int.tmod a0_3 4) != 0) = false := bne_eq_false_iff_eq.mpr c24
                  clear c24
                  obtain rfl := Option.some.inj H
                  have hcz25_0 : wc.cell? ⟨gb103, 0, none⟩ = some (.int .i64 a0_0) := (blk_cell BK103.out 0).trans rfl
                  have hcz25_1 : wc.cell? ⟨gb103, 1, none⟩ = some (.int .i64 a0_1) := (blk_cell BK103.out 1).trans rfl
                  have hcz25_2 : wc.cell? ⟨gb103, 2, none⟩ = some (.int .i64 a0_2) := (blk_cell BK103.out 2).trans rfl
                  have hcz25_3 : wc.cell? ⟨gb103, 3, none⟩ = some (.int .u32 a0_3) := (blk_cell BK103.out 3).trans rfl
                  have hfz25_0 := blk_frozen BK103.out 0
                  have hfz25_1 := blk_frozen BK103.out 1
                  have hfz25_2 := blk_frozen BK103.out 2
                  have hfz25_3 := blk_frozen BK103.out 3
                  go_wp2
                  go_ret
                  exact ⟨by first | rfl | (simp [errW_none, errW_some] <;> rfl) | (simp [*, errW_none, errW_some] <;> rfl), by repeat (first | (with_reducible first | exact HB.out | apply below_alloc | apply pw_below_drewN | apply below_drew1 | refine below_set ?_ GE103.out) | exact HB.out)⟩
                · rw [if_neg c24] at H
                  have c24b0 : ((Int.tmod a0_3 4) == 0) = false := beq_eq_false_iff_ne.mpr c24
                  have c24b1 : ((Int.tmod a0_3 4) != 0) = true := bne_iff_ne.mpr c24
                  obtain rfl := Option.some.inj H
                  have hcz26_0 : wc.cell? ⟨gb103, 0, none⟩ = some (.int .i64 a0_0) := (blk_cell BK103.out 0).trans rfl
                  have hcz26_1 : wc.cell? ⟨gb103, 1, none⟩ = some (.int .i64 a0_1) := (blk_cell BK103.out 1).trans rfl
                  have hcz26_2 : wc.cell? ⟨gb103, 2, none⟩ = some (.int .i64 a0_2) := (blk_cell BK103.out 2).trans rfl
                  have hcz26_3 : wc.cell? ⟨gb103, 3, none⟩ = some (.int .u32 a0_3) := (blk_cell BK103.out 3).trans rfl
                  have hfz26_0 := blk_frozen BK103.out 0
                  have hfz26_1 := blk_frozen BK103.out 1
                  have hfz26_2 := blk_frozen BK103.out 2
                  have hfz26_3 := blk_frozen BK103.out 3
                  go_wp2
                  go_ret
                  exact ⟨by first | rfl | (simp [errW_none, errW_some] <;> rfl) | (simp [*, errW_none, errW_some] <;> rfl), by repeat (first | (with_reducible first | exact HB.out | apply below_alloc | apply pw_below_drewN | apply below_drew1 | refine below_set ?_ GE103.out) | exact HB.out)⟩
              · rw [if_neg c23] at H
                have c23b0 : (a0_0 == 32) = false := beq_eq_false_iff_ne.mpr c23
                have c23b1 : (a0_0 != 32) = true := bne_iff_ne.mpr c23
                have HC27 := Aside0.mk H
                clear H
                have hcz28_0 : wc.cell? ⟨gb103, 0, none⟩ = some (.int .i64 a0_0) := (blk_cell BK103.out 0).trans rfl
                have hcz28_1 : wc.cell? ⟨gb103, 1, none⟩ = some (.int .i64 a0_1) := (blk_cell BK103.out 1).trans rfl
                have hcz28_2 : wc.cell? ⟨gb103, 2, none⟩ = some (.int .i64 a0_2) := (blk_cell BK103.out 2).trans rfl
                have hcz28_3 : wc.cell? ⟨gb103, 3, none⟩ = some (.int .u32 a0_3) := (blk_cell BK103.out 3).trans rfl
                have hfz28_0 := blk_frozen BK103.out 0
                have hfz28_1 := blk_frozen BK103.out 1
                have hfz28_2 := blk_frozen BK103.out 2
                have hfz28_3 := blk_frozen BK103.out 3
                go_upto_if 53 with (fail)
                go_cut [53] (fun v53 wc => ∃ (kq : Nat) (x53_26 : Bool), v53 = .bool x53_26 ∧ Aside0 (doorwardref12_Well.j2 kq a1 a2 a0_0 x53_26 a0_0 a0_1 a0_2 a0_3 = some r) ∧ Aside0 (kq ≤ kj16) ∧ Aside0 (wc.heap[gb103]? = some (.cells #[.int .i64 a0_0, .int .i64 a0_1, .int .i64 a0_2, .int .u32 a0_3] 28 (0, 0))) ∧ Aside0 (Below w.heap.size w wc))
                case first =>
                  have H := HC27.out
                  clear HC27
                  by_cases c29 : a0_0 = 96
                  · rw [if_pos c29] at H
                    have c29b0 : (a0_0 == 96) = true := beq_iff_eq.mpr c29
                    have c29b1 : (a0_0 != 96) = false := bne_eq_false_iff_eq.mpr c29
                    clear c29
                    (first | rw [c29b0] | (simp only [i64_w, i32_w]; rw [c29b0]) | skip)
                    have H' := Aside0.mk H
                    clear H
                    go_wp2
                    go_meet
                    case rel => exact ⟨_, ((a0_0 == 96)), (by first | rfl | (simp; done) | (simp [*]; done)), H', ⟨by have := HJ3.out; have := HJ16.out; first | omega | exact Nat.le_refl _⟩, ⟨by (with_reducible repeat (first | refine blk_drewN ?_ _ | refine blk_drew ?_ | refine blk_alloc ?_ _)); exact BK103.out⟩, ⟨by repeat (first | (with_reducible first | exact HB.out | apply below_alloc | apply pw_below_drewN | apply below_drew1 | refine below_set ?_ GE103.out) | exact HB.out)⟩⟩
                  · rw [if_neg c29] at H
                    have c29b0 : (a0_0 == 96) = false := beq_eq_false_iff_ne.mpr c29
                    have c29b1 : (a0_0 != 96) = true := bne_iff_ne.mpr c29
                    (first | rw [c29b0] | (simp only [i64_w, i32_w]; rw [c29b0]) | skip)
                    by_cases c30 : a0_0 = 97
                    · rw [if_pos c30] at H
                      have c30b0 : (a0_0 == 97) = true := beq_iff_eq.mpr c30
                      have c30b1 : (a0_0 != 97) = false := bne_eq_false_iff_eq.mpr c30
                      clear c30
                      have H' := Aside0.mk H
                      clear H
                      go_wp2
                      go_meet
                      case rel => exact ⟨_, ((a0_0 == 97)), (by first | rfl | (simp; done) | (simp [*]; done)), H', ⟨by have := HJ3.out; have := HJ16.out; first | omega | exact Nat.le_refl _⟩, ⟨by (with_reducible repeat (first | refine blk_drewN ?_ _ | refine blk_drew ?_ | refine blk_alloc ?_ _)); exact BK103.out⟩, ⟨by repeat (first | (with_reducible first | exact HB.out | apply below_alloc | apply pw_below_drewN | apply below_drew1 | refine below_set ?_ GE103.out) | exact HB.out)⟩⟩
                    · rw [if_neg c30] at H
                      have c30b0 : (a0_0 == 97) = false := beq_eq_false_iff_ne.mpr c30
                      have c30b1 : (a0_0 != 97) = true := bne_iff_ne.mpr c30
                      by_cases c31 : a0_0 = 2
                      · rw [if_pos c31] at H
                        have c31b0 : (a0_0 == 2) = true := beq_iff_eq.mpr c31
                        have c31b1 : (a0_0 != 2) = false := bne_eq_false_iff_eq.mpr c31
                        clear c31
                        have H' := Aside0.mk H
                        clear H
                        go_wp2
                        go_meet
                        case rel => exact ⟨_, ((a0_0 == 2)), (by first | rfl | (simp; done) | (simp [*]; done)), H', ⟨by have := HJ3.out; have := HJ16.out; first | omega | exact Nat.le_refl _⟩, ⟨by (with_reducible repeat (first | refine blk_drewN ?_ _ | refine blk_drew ?_ | refine blk_alloc ?_ _)); exact BK103.out⟩, ⟨by repeat (first | (with_reducible first | exact HB.out | apply below_alloc | apply pw_below_drewN | apply below_drew1 | refine below_set ?_ GE103.out) | exact HB.out)⟩⟩
                      · rw [if_neg c31] at H
                        have c31b0 : (a0_0 == 2) = false := beq_eq_false_iff_ne.mpr c31
                        have c31b1 : (a0_0 != 2) = true := bne_iff_ne.mpr c31
                        have H' := Aside0.mk H
                        clear H
                        go_wp2
                        go_meet
                        case rel => exact ⟨_, ((a0_0 == 3)), (by first | rfl | (simp; done) | (simp [*]; done)), H', ⟨by have := HJ3.out; have := HJ16.out; first | omega | exact Nat.le_refl _⟩, ⟨by (with_reducible repeat (first | refine blk_drewN ?_ _ | refine blk_drew ?_ | refine blk_alloc ?_ _)); exact BK103.out⟩, ⟨by repeat (first | (with_reducible first | exact HB.out | apply below_alloc | apply pw_below_drewN | apply below_drew1 | refine below_set ?_ GE103.out) | exact HB.out)⟩⟩
                case rest =>
                  clear HC27
                  try clear c1
                  try clear c2
                  try clear p2
                  try clear c3
                  try clear c4
                  try clear p6
                  try clear c7
                  try clear c8
                  try clear c8b0
                  try clear c10
                  try clear c10b0
                  try clear c12
                  try clear c12b0
                  try clear c13
                  try clear c16
                  try clear c18
                  try clear c18b0
                  try clear c18b1
                  try clear c22
                  try clear c23
                  try clear c23b0
                  try clear c23b1
                  try clear c24
                  try clear c24b0
                  try clear c24b1
                  try clear c29
                  try clear c29b0
                  try clear c29b1
                  try clear c30
                  try clear c30b0
                  try clear c30b1
                  try clear c31
                  try clear c31b0
                  try clear c31b1
                  try clear hcz11_0
                  try clear hcz11_1
                  try clear hcz11_2
                  try clear hcz11_3
                  try clear hcz13_0
                  try clear hcz13_1
                  try clear hcz13_2
                  try clear hcz13_3
                  try clear hcz14_0
                  try clear hcz14_1
                  try clear hcz14_2
                  try clear hcz14_3
                  try clear hcz15_0
                  try clear hcz15_1
                  try clear hcz15_2
                  try clear hcz15_3
                  try clear hcz20_0
                  try clear hcz20_1
                  try clear hcz20_2
                  try clear hcz20_3
                  try clear hcz25_0
                  try clear hcz25_1
                  try clear hcz25_2
                  try clear hcz25_3
                  try clear hcz26_0
                  try clear hcz26_1
                  try clear hcz26_2
                  try clear hcz26_3
                  try clear hcz28_0
                  try clear hcz28_1
                  try clear hcz28_2
                  try clear hcz28_3
                  try clear hcz9_0
                  try clear hcz9_1
                  try clear hcz9_2
                  try clear hcz9_3
                  try clear hfz11_0
                  try clear hfz11_1
                  try clear hfz11_2
                  try clear hfz11_3
                  try clear hfz13_0
                  try clear hfz13_1
                  try clear hfz13_2
                  try clear hfz13_3
                  try clear hfz14_0
                  try clear hfz14_1
                  try clear hfz14_2
                  try clear hfz14_3
                  try clear hfz15_0
                  try clear hfz15_1
                  try clear hfz15_2
                  try clear hfz15_3
                  try clear hfz20_0
                  try clear hfz20_1
                  try clear hfz20_2
                  try clear hfz20_3
                  try clear hfz25_0
                  try clear hfz25_1
                  try clear hfz25_2
                  try clear hfz25_3
                  try clear hfz26_0
                  try clear hfz26_1
                  try clear hfz26_2
                  try clear hfz26_3
                  try clear hfz28_0
                  try clear hfz28_1
                  try clear hfz28_2
                  try clear hfz28_3
                  try clear hfz9_0
                  try clear hfz9_1
                  try clear hfz9_2
                  try clear hfz9_3
                  try clear p2
                  try clear p6
                  obtain ⟨kq, x53_26, rfl, HA, HJ26, BK103, HB⟩ := hcut
                  cases kq with
                  | zero => exact absurd HA.out (by simp [doorwardref12_Well.j2])
                  | succ kj26 =>
                    have H := HA.out
                    clear HA
                    simp only [doorwardref12_Well.j2] at H
                    by_cases c32 : x53_26 = true
                    · subst c32
                      have H1 : (some (decide (a0_3 ≤ 15))) = some r := by rw [if_pos rfl] at H; exact H
                      clear H
                      have H := H1
                      clear H1
                      obtain rfl := Option.some.inj H
                      have hcz33_0 : wc.cell? ⟨gb103, 0, none⟩ = some (.int .i64 a0_0) := (blk_cell BK103.out 0).trans rfl
                      have hcz33_1 : wc.cell? ⟨gb103, 1, none⟩ = some (.int .i64 a0_1) := (blk_cell BK103.out 1).trans rfl
                      have hcz33_2 : wc.cell? ⟨gb103, 2, none⟩ = some (.int .i64 a0_2) := (blk_cell BK103.out 2).trans rfl
                      have hcz33_3 : wc.cell? ⟨gb103, 3, none⟩ = some (.int .u32 a0_3) := (blk_cell BK103.out 3).trans rfl
                      have hfz33_0 := blk_frozen BK103.out 0
                      have hfz33_1 := blk_frozen BK103.out 1
                      have hfz33_2 := blk_frozen BK103.out 2
                      have hfz33_3 := blk_frozen BK103.out 3
                      go_wp2
                      go_ret
                      exact ⟨by first | rfl | (simp [errW_none, errW_some] <;> rfl) | (simp [*, errW_none, errW_some] <;> rfl), by repeat (first | (with_reducible first | exact HB.out | apply below_alloc | apply pw_below_drewN | apply below_drew1 | refine below_set ?_ GE103.out) | exact HB.out)⟩
                    · replace c32 := Bool.eq_false_iff.mpr c32
                      subst c32
                      have H1 : (if a0_0 = 52 then (some (decide (a0_3 > 0))) else (if a0_0 = 100 then (doorwardref12_Well.j3 kj26 a1 a2 a0_0 (a0_0 == 100) a0_0 a0_1 a0_2 a0_3) else (doorwardref12_Well.j3 kj26 a1 a2 a0_0 (a0_0 == 116) a0_0 a0_1 a0_2 a0_3))) = some r := by rw [if_neg (show ¬ (false = true) by decide)] at H; exact H
                      clear H
                      have H := H1
                      clear H1
                      by_cases c34 : a0_0 = 52
                      · rw [if_pos c34] at H
                        have c34b0 : (a0_0 == 52) = true := beq_iff_eq.mpr c34
                        have c34b1 : (a0_0 != 52) = false := bne_eq_false_iff_eq.mpr c34
                        clear c34
                        obtain rfl := Option.some.inj H
                        have hcz35_0 : wc.cell? ⟨gb103, 0, none⟩ = some (.int .i64 a0_0) := (blk_cell BK103.out 0).trans rfl
                        have hcz35_1 : wc.cell? ⟨gb103, 1, none⟩ = some (.int .i64 a0_1) := (blk_cell BK103.out 1).trans rfl
                        have hcz35_2 : wc.cell? ⟨gb103, 2, none⟩ = some (.int .i64 a0_2) := (blk_cell BK103.out 2).trans rfl
                        have hcz35_3 : wc.cell? ⟨gb103, 3, none⟩ = some (.int .u32 a0_3) := (blk_cell BK103.out 3).trans rfl
                        have hfz35_0 := blk_frozen BK103.out 0
                        have hfz35_1 := blk_frozen BK103.out 1
                        have hfz35_2 := blk_frozen BK103.out 2
                        have hfz35_3 := blk_frozen BK103.out 3
                        go_wp2
                        go_ret
                        exact ⟨by first | rfl | (simp [errW_none, errW_some] <;> rfl) | (simp [*, errW_none, errW_some] <;> rfl), by repeat (first | (with_reducible first | exact HB.out | apply below_alloc | apply pw_below_drewN | apply below_drew1 | refine below_set ?_ GE103.out) | exact HB.out)⟩
                      · rw [if_neg c34] at H
                        have c34b0 : (a0_0 == 52) = false := beq_eq_false_iff_ne.mpr c34
                        have c34b1 : (a0_0 != 52) = true := bne_iff_ne.mpr c34
                        have HC36 := Aside0.mk H
                        clear H
                        go_upto_if 66 with (fail)
                        go_cut [66] (fun v66 wc => ∃ (kq : Nat) (x66_35 : Bool), v66 = .bool x66_35 ∧ Aside0 (doorwardref12_Well.j3 kq a1 a2 a0_0 x66_35 a0_0 a0_1 a0_2 a0_3 = some r) ∧ Aside0 (kq ≤ kj26) ∧ Aside0 (wc.heap[gb103]? = some (.cells #[.int .i64 a0_0, .int .i64 a0_1, .int .i64 a0_2, .int .u32 a0_3] 28 (0, 0))) ∧ Aside0 (Below w.heap.size w wc))
                        case first =>
                          have H := HC36.out
                          clear HC36
                          by_cases c37 : a0_0 = 100
                          · rw [if_pos c37] at H
                            have c37b0 : (a0_0 == 100) = true := beq_iff_eq.mpr c37
                            have c37b1 : (a0_0 != 100) = false := bne_eq_false_iff_eq.mpr c37
                            clear c37
                            (first | rw [c37b0] | (simp only [i64_w, i32_w]; rw [c37b0]) | skip)
                            have H' := Aside0.mk H
                            clear H
                            go_wp2
                            go_meet
                            case rel => exact ⟨_, ((a0_0 == 100)), (by first | rfl | (simp; done) | (simp [*]; done)), H', ⟨by have := HJ3.out; have := HJ16.out; have := HJ26.out; first | omega | exact Nat.le_refl _⟩, ⟨by (with_reducible repeat (first | refine blk_drewN ?_ _ | refine blk_drew ?_ | refine blk_alloc ?_ _)); exact BK103.out⟩, ⟨by repeat (first | (with_reducible first | exact HB.out | apply below_alloc | apply pw_below_drewN | apply below_drew1 | refine below_set ?_ GE103.out) | exact HB.out)⟩⟩
                          · rw [if_neg c37] at H
                            have c37b0 : (a0_0 == 100) = false := beq_eq_false_iff_ne.mpr c37
                            have c37b1 : (a0_0 != 100) = true := bne_iff_ne.mpr c37
                            (first | rw [c37b0] | (simp only [i64_w, i32_w]; rw [c37b0]) | skip)
                            have H' := Aside0.mk H
                            clear H
                            go_wp2
                            go_meet
                            case rel => exact ⟨_, ((a0_0 == 116)), (by first | rfl | (simp; done) | (simp [*]; done)), H', ⟨by have := HJ3.out; have := HJ16.out; have := HJ26.out; first | omega | exact Nat.le_refl _⟩, ⟨by (with_reducible repeat (first | refine blk_drewN ?_ _ | refine blk_drew ?_ | refine blk_alloc ?_ _)); exact BK103.out⟩, ⟨by repeat (first | (with_reducible first | exact HB.out | apply below_alloc | apply pw_below_drewN | apply below_drew1 | refine below_set ?_ GE103.out) | exact HB.out)⟩⟩
                        case rest =>
                          clear HC36
                          try clear c1
                          try clear c2
                          try clear p2
                          try clear c3
                          try clear c4
                          try clear p6
                          try clear c7
                          try clear c8
                          try clear c8b0
                          try clear c10
                          try clear c10b0
                          try clear c12
                          try clear c12b0
                          try clear c13
                          try clear c16
                          try clear c18
                          try clear c18b0
                          try clear c18b1
                          try clear c22
                          try clear c23
                          try clear c23b0
                          try clear c23b1
                          try clear c24
                          try clear c24b0
                          try clear c24b1
                          try clear c29
                          try clear c29b0
                          try clear c29b1
                          try clear c30
                          try clear c30b0
                          try clear c30b1
                          try clear c31
                          try clear c31b0
                          try clear c31b1
                          try clear c32
                          try clear c34
                          try clear c34b0
                          try clear c34b1
                          try clear c37
                          try clear c37b0
                          try clear c37b1
                          try clear hcz11_0
                          try clear hcz11_1
                          try clear hcz11_2
                          try clear hcz11_3
                          try clear hcz13_0
                          try clear hcz13_1
                          try clear hcz13_2
                          try clear hcz13_3
                          try clear hcz14_0
                          try clear hcz14_1
                          try clear hcz14_2
                          try clear hcz14_3
                          try clear hcz15_0
                          try clear hcz15_1
                          try clear hcz15_2
                          try clear hcz15_3
                          try clear hcz20_0
                          try clear hcz20_1
                          try clear hcz20_2
                          try clear hcz20_3
                          try clear hcz25_0
                          try clear hcz25_1
                          try clear hcz25_2
                          try clear hcz25_3
                          try clear hcz26_0
                          try clear hcz26_1
                          try clear hcz26_2
                          try clear hcz26_3
                          try clear hcz28_0
                          try clear hcz28_1
                          try clear hcz28_2
                          try clear hcz28_3
                          try clear hcz33_0
                          try clear hcz33_1
                          try clear hcz33_2
                          try clear hcz33_3
                          try clear hcz35_0
                          try clear hcz35_1
                          try clear hcz35_2
                          try clear hcz35_3
                          try clear hcz9_0
                          try clear hcz9_1
                          try clear hcz9_2
                          try clear hcz9_3
                          try clear hfz11_0
                          try clear hfz11_1
                          try clear hfz11_2
                          try clear hfz11_3
                          try clear hfz13_0
                          try clear hfz13_1
                          try clear hfz13_2
                          try clear hfz13_3
                          try clear hfz14_0
                          try clear hfz14_1
                          try clear hfz14_2
                          try clear hfz14_3
                          try clear hfz15_0
                          try clear hfz15_1
                          try clear hfz15_2
                          try clear hfz15_3
                          try clear hfz20_0
                          try clear hfz20_1
                          try clear hfz20_2
                          try clear hfz20_3
                          try clear hfz25_0
                          try clear hfz25_1
                          try clear hfz25_2
                          try clear hfz25_3
                          try clear hfz26_0
                          try clear hfz26_1
                          try clear hfz26_2
                          try clear hfz26_3
                          try clear hfz28_0
                          try clear hfz28_1
                          try clear hfz28_2
                          try clear hfz28_3
                          try clear hfz33_0
                          try clear hfz33_1
                          try clear hfz33_2
                          try clear hfz33_3
                          try clear hfz35_0
                          try clear hfz35_1
                          try clear hfz35_2
                          try clear hfz35_3
                          try clear hfz9_0
                          try clear hfz9_1
                          try clear hfz9_2
                          try clear hfz9_3
                          try clear p2
                          try clear p6
                          obtain ⟨kq, x66_35, rfl, HA, HJ35, BK103, HB⟩ := hcut
                          cases kq with
                          | zero => exact absurd HA.out (by simp [doorwardref12_Well.j3])
                          | succ kj35 =>
                            have H := HA.out
                            clear HA
                            simp only [doorwardref12_Well.j3] at H
                            by_cases c38 : x66_35 = true
                            · subst c38
                              have H1 : (some (decide (a0_3 ≤ 31))) = some r := by rw [if_pos rfl] at H; exact H
                              clear H
                              have H := H1
                              clear H1
                              obtain rfl := Option.some.inj H
                              have hcz39_0 : wc.cell? ⟨gb103, 0, none⟩ = some (.int .i64 a0_0) := (blk_cell BK103.out 0).trans rfl
                              have hcz39_1 : wc.cell? ⟨gb103, 1, none⟩ = some (.int .i64 a0_1) := (blk_cell BK103.out 1).trans rfl
                              have hcz39_2 : wc.cell? ⟨gb103, 2, none⟩ = some (.int .i64 a0_2) := (blk_cell BK103.out 2).trans rfl
                              have hcz39_3 : wc.cell? ⟨gb103, 3, none⟩ = some (.int .u32 a0_3) := (blk_cell BK103.out 3).trans rfl
                              have hfz39_0 := blk_frozen BK103.out 0
                              have hfz39_1 := blk_frozen BK103.out 1
                              have hfz39_2 := blk_frozen BK103.out 2
                              have hfz39_3 := blk_frozen BK103.out 3
                              go_wp2
                              go_ret
                              exact ⟨by first | rfl | (simp [errW_none, errW_some] <;> rfl) | (simp [*, errW_none, errW_some] <;> rfl), by repeat (first | (with_reducible first | exact HB.out | apply below_alloc | apply pw_below_drewN | apply below_drew1 | refine below_set ?_ GE103.out) | exact HB.out)⟩
                            · replace c38 := Bool.eq_false_iff.mpr c38
                              subst c38
                              have H1 : (if a0_0 = 5 then (some (decide ((wrap64 ((wrap64 (a1 + 1)) + (wrap64 (a0_3)))) < a2))) else ((doorwardref12_jumps.f a0_0 a0_1 a0_2 a0_3).bind fun t106 => (if t106 = true then (if (wrap64 ((wrap64 (a1 + 1)) + a0_1)) < a2 then (some (decide ((wrap64 ((wrap64 (a1 + 1)) + a0_2)) < a2))) else (some false)) else (some true)))) = some r := by rw [if_neg (show ¬ (false = true) by decide)] at H; exact H
                              clear H
                              have H := H1
                              clear H1
                              by_cases c40 : a0_0 = 5
                              · rw [if_pos c40] at H
                                have c40b0 : (a0_0 == 5) = true := beq_iff_eq.mpr c40
                                have c40b1 : (a0_0 != 5) = false := bne_eq_false_iff_eq.mpr c40
                                clear c40
                                obtain rfl := Option.some.inj H
                                have hcz41_0 : wc.cell? ⟨gb103, 0, none⟩ = some (.int .i64 a0_0) := (blk_cell BK103.out 0).trans rfl
                                have hcz41_1 : wc.cell? ⟨gb103, 1, none⟩ = some (.int .i64 a0_1) := (blk_cell BK103.out 1).trans rfl
                                have hcz41_2 : wc.cell? ⟨gb103, 2, none⟩ = some (.int .i64 a0_2) := (blk_cell BK103.out 2).trans rfl
                                have hcz41_3 : wc.cell? ⟨gb103, 3, none⟩ = some (.int .u32 a0_3) := (blk_cell BK103.out 3).trans rfl
                                have hfz41_0 := blk_frozen BK103.out 0
                                have hfz41_1 := blk_frozen BK103.out 1
                                have hfz41_2 := blk_frozen BK103.out 2
                                have hfz41_3 := blk_frozen BK103.out 3
                                go_wp2
                                go_ret
                                exact ⟨by first | rfl | (simp [errW_none, errW_some] <;> rfl) | (simp [*, errW_none, errW_some] <;> rfl), by repeat (first | (with_reducible first | exact HB.out | apply below_alloc | apply pw_below_drewN | apply below_drew1 | refine below_set ?_ GE103.out) | exact HB.out)⟩
                              · rw [if_neg c40] at H
                                have c40b0 : (a0_0 == 5) = false := beq_eq_false_iff_ne.mpr c40
                                have c40b1 : (a0_0 != 5) = true := bne_iff_ne.mpr c40
                                replace H := Option.bind_eq_some_iff.mp H
                                obtain ⟨t106, A420, H⟩ := H
                                replace H : (if t106 = true then (if (wrap64 ((wrap64 (a1 + 1)) + a0_1)) < a2 then (some (decide ((wrap64 ((wrap64 (a1 + 1)) + a0_2)) < a2))) else (some false)) else (some true)) = some r := H
                                have A42 := Aside0.mk A420
                                clear A420
                                by_cases c43 : t106 = true
                                · subst c43
                                  have H1 : (if (wrap64 ((wrap64 (a1 + 1)) + a0_1)) < a2 then (some (decide ((wrap64 ((wrap64 (a1 + 1)) + a0_2)) < a2))) else (some false)) = some r := by rw [if_pos rfl] at H; exact H
                                  clear H
                                  have H := H1
                                  clear H1
                                  by_cases c44 : (wrap64 ((wrap64 (a1 + 1)) + a0_1)) < a2
                                  · rw [if_pos c44] at H
                                    have c44b0 : decide ((wrap64 ((wrap64 (a1 + 1)) + a0_1)) < a2) = true := decide_eq_true c44
                                    clear c44
                                    obtain rfl := Option.some.inj H
                                    have hcz45_0 : wc.cell? ⟨gb103, 0, none⟩ = some (.int .i64 a0_0) := (blk_cell BK103.out 0).trans rfl
                                    have hcz45_1 : wc.cell? ⟨gb103, 1, none⟩ = some (.int .i64 a0_1) := (blk_cell BK103.out 1).trans rfl
                                    have hcz45_2 : wc.cell? ⟨gb103, 2, none⟩ = some (.int .i64 a0_2) := (blk_cell BK103.out 2).trans rfl
                                    have hcz45_3 : wc.cell? ⟨gb103, 3, none⟩ = some (.int .u32 a0_3) := (blk_cell BK103.out 3).trans rfl
                                    have hfz45_0 := blk_frozen BK103.out 0
                                    have hfz45_1 := blk_frozen BK103.out 1
                                    have hfz45_2 := blk_frozen BK103.out 2
                                    have hfz45_3 := blk_frozen BK103.out 3
                                    go_wp2_with (first | ((with_reducible refine gate_callee (f := 157) rfl ?_); refine goesL_ (some 83) rfl rfl Try.func157 (by kernel_rfl) rfl #[.agg #[.int .i64 a0_0, .int .i64 a0_1, .int .i64 a0_2, .int .u32 a0_3]] rfl (by (try simp only [List.map_toArray, List.map_cons, List.map_nil]); first | done | rfl | (simp only [List.length_drop, List.length_take]; rfl)) ?_; (with_reducible refine (doorwardref12_jumps.calls a0_0 a0_1 a0_2 a0_3 true _ A42.out).mono ?_); rintro e w46 ⟨rfl, hb⟩; refine ⟨_, rfl, ?_⟩; have n0_ := Aside0.mk (blk_below (g := gb103) (o := .cells #[.int .i64 a0_0, .int .i64 a0_1, .int .i64 a0_2, .int .u32 a0_3] 28 (0, 0)) (by (with_reducible repeat (first | refine blk_drewN ?_ _ | refine blk_drew ?_ | refine blk_alloc ?_ _)); exact BK103.out) hb); have n1_ := Aside0.mk (below_step (by repeat (first | (with_reducible first | exact HB.out | apply below_alloc | apply pw_below_drewN | apply below_drew1 | refine below_set ?_ GE103.out) | exact HB.out)) hb); clear BK103; clear HB; have BK103 := n0_; have HB := n1_; clear n0_ n1_; (try clear hb); (try clear hb2); (try clear hk); (try clear hi); have hcz47_0 : w46.cell? ⟨gb103, 0, none⟩ = some (.int .i64 a0_0) := (blk_cell BK103.out 0).trans rfl; have hcz47_1 : w46.cell? ⟨gb103, 1, none⟩ = some (.int .i64 a0_1) := (blk_cell BK103.out 1).trans rfl; have hcz47_2 : w46.cell? ⟨gb103, 2, none⟩ = some (.int .i64 a0_2) := (blk_cell BK103.out 2).trans rfl; have hcz47_3 : w46.cell? ⟨gb103, 3, none⟩ = some (.int .u32 a0_3) := (blk_cell BK103.out 3).trans rfl; have hfz47_0 := blk_frozen BK103.out 0; have hfz47_1 := blk_frozen BK103.out 1; have hfz47_2 := blk_frozen BK103.out 2; have hfz47_3 := blk_frozen BK103.out 3))
                                    go_ret
                                    exact ⟨by first | rfl | (simp [errW_none, errW_some] <;> rfl) | (simp [*, errW_none, errW_some] <;> rfl), by repeat (first | (with_reducible first | exact HB.out | apply below_alloc | apply pw_below_drewN | apply below_drew1 | refine below_set ?_ GE103.out) | exact HB.out)⟩
                                  · rw [if_neg c44] at H
                                    have c44b0 : decide ((wrap64 ((wrap64 (a1 + 1)) + a0_1)) < a2) = false := decide_eq_false c44
                                    clear c44
                                    obtain rfl := Option.some.inj H
                                    have hcz48_0 : wc.cell? ⟨gb103, 0, none⟩ = some (.int .i64 a0_0) := (blk_cell BK103.out 0).trans rfl
                                    have hcz48_1 : wc.cell? ⟨gb103, 1, none⟩ = some (.int .i64 a0_1) := (blk_cell BK103.out 1).trans rfl
                                    have hcz48_2 : wc.cell? ⟨gb103, 2, none⟩ = some (.int .i64 a0_2) := (blk_cell BK103.out 2).trans rfl
                                    have hcz48_3 : wc.cell? ⟨gb103, 3, none⟩ = some (.int .u32 a0_3) := (blk_cell BK103.out 3).trans rfl
                                    have hfz48_0 := blk_frozen BK103.out 0
                                    have hfz48_1 := blk_frozen BK103.out 1
                                    have hfz48_2 := blk_frozen BK103.out 2
                                    have hfz48_3 := blk_frozen BK103.out 3
                                    go_wp2_with (first | ((with_reducible refine gate_callee (f := 157) rfl ?_); refine goesL_ (some 83) rfl rfl Try.func157 (by kernel_rfl) rfl #[.agg #[.int .i64 a0_0, .int .i64 a0_1, .int .i64 a0_2, .int .u32 a0_3]] rfl (by (try simp only [List.map_toArray, List.map_cons, List.map_nil]); first | done | rfl | (simp only [List.length_drop, List.length_take]; rfl)) ?_; (with_reducible refine (doorwardref12_jumps.calls a0_0 a0_1 a0_2 a0_3 true _ A42.out).mono ?_); rintro e w49 ⟨rfl, hb⟩; refine ⟨_, rfl, ?_⟩; have n0_ := Aside0.mk (blk_below (g := gb103) (o := .cells #[.int .i64 a0_0, .int .i64 a0_1, .int .i64 a0_2, .int .u32 a0_3] 28 (0, 0)) (by (with_reducible repeat (first | refine blk_drewN ?_ _ | refine blk_drew ?_ | refine blk_alloc ?_ _)); exact BK103.out) hb); have n1_ := Aside0.mk (below_step (by repeat (first | (with_reducible first | exact HB.out | apply below_alloc | apply pw_below_drewN | apply below_drew1 | refine below_set ?_ GE103.out) | exact HB.out)) hb); clear BK103; clear HB; have BK103 := n0_; have HB := n1_; clear n0_ n1_; (try clear hb); (try clear hb2); (try clear hk); (try clear hi); have hcz50_0 : w49.cell? ⟨gb103, 0, none⟩ = some (.int .i64 a0_0) := (blk_cell BK103.out 0).trans rfl; have hcz50_1 : w49.cell? ⟨gb103, 1, none⟩ = some (.int .i64 a0_1) := (blk_cell BK103.out 1).trans rfl; have hcz50_2 : w49.cell? ⟨gb103, 2, none⟩ = some (.int .i64 a0_2) := (blk_cell BK103.out 2).trans rfl; have hcz50_3 : w49.cell? ⟨gb103, 3, none⟩ = some (.int .u32 a0_3) := (blk_cell BK103.out 3).trans rfl; have hfz50_0 := blk_frozen BK103.out 0; have hfz50_1 := blk_frozen BK103.out 1; have hfz50_2 := blk_frozen BK103.out 2; have hfz50_3 := blk_frozen BK103.out 3))
                                    go_ret
                                    exact ⟨by first | rfl | (simp [errW_none, errW_some] <;> rfl) | (simp [*, errW_none, errW_some] <;> rfl), by repeat (first | (with_reducible first | exact HB.out | apply below_alloc | apply pw_below_drewN | apply below_drew1 | refine below_set ?_ GE103.out) | exact HB.out)⟩
                                · replace c43 := Bool.eq_false_iff.mpr c43
                                  subst c43
                                  have H1 : (some true) = some r := by rw [if_neg (show ¬ (false = true) by decide)] at H; exact H
                                  clear H
                                  have H := H1
                                  clear H1
                                  obtain rfl := Option.some.inj H
                                  have hcz51_0 : wc.cell? ⟨gb103, 0, none⟩ = some (.int .i64 a0_0) := (blk_cell BK103.out 0).trans rfl
                                  have hcz51_1 : wc.cell? ⟨gb103, 1, none⟩ = some (.int .i64 a0_1) := (blk_cell BK103.out 1).trans rfl
                                  have hcz51_2 : wc.cell? ⟨gb103, 2, none⟩ = some (.int .i64 a0_2) := (blk_cell BK103.out 2).trans rfl
                                  have hcz51_3 : wc.cell? ⟨gb103, 3, none⟩ = some (.int .u32 a0_3) := (blk_cell BK103.out 3).trans rfl
                                  have hfz51_0 := blk_frozen BK103.out 0
                                  have hfz51_1 := blk_frozen BK103.out 1
                                  have hfz51_2 := blk_frozen BK103.out 2
                                  have hfz51_3 := blk_frozen BK103.out 3
                                  go_wp2_with (first | ((with_reducible refine gate_callee (f := 157) rfl ?_); refine goesL_ (some 83) rfl rfl Try.func157 (by kernel_rfl) rfl #[.agg #[.int .i64 a0_0, .int .i64 a0_1, .int .i64 a0_2, .int .u32 a0_3]] rfl (by (try simp only [List.map_toArray, List.map_cons, List.map_nil]); first | done | rfl | (simp only [List.length_drop, List.length_take]; rfl)) ?_; (with_reducible refine (doorwardref12_jumps.calls a0_0 a0_1 a0_2 a0_3 false _ A42.out).mono ?_); rintro e w52 ⟨rfl, hb⟩; refine ⟨_, rfl, ?_⟩; have n0_ := Aside0.mk (blk_below (g := gb103) (o := .cells #[.int .i64 a0_0, .int .i64 a0_1, .int .i64 a0_2, .int .u32 a0_3] 28 (0, 0)) (by (with_reducible repeat (first | refine blk_drewN ?_ _ | refine blk_drew ?_ | refine blk_alloc ?_ _)); exact BK103.out) hb); have n1_ := Aside0.mk (below_step (by repeat (first | (with_reducible first | exact HB.out | apply below_alloc | apply pw_below_drewN | apply below_drew1 | refine below_set ?_ GE103.out) | exact HB.out)) hb); clear BK103; clear HB; have BK103 := n0_; have HB := n1_; clear n0_ n1_; (try clear hb); (try clear hb2); (try clear hk); (try clear hi)))
                                  go_ret
                                  exact ⟨by first | rfl | (simp [errW_none, errW_some] <;> rfl) | (simp [*, errW_none, errW_some] <;> rfl), by repeat (first | (with_reducible first | exact HB.out | apply below_alloc | apply pw_below_drewN | apply below_drew1 | refine below_set ?_ GE103.out) | exact HB.out)⟩
end Go.Proofs.Ytefkhcijgiagdaa.K0
end
section
namespace Go.Proofs.Ytefkhcijgiagdaa.K0
open Go.RowKit Go.Proofs.YtefkhcijgiagdaaW.PrintWords Go.Proofs.YtefkhcijgiagdaaW.PrintLast Go.Proofs.YtefkhcijgiagdaaW.PrintMore
attribute [local go_sem] max2_int min2_int max_two min_two max_three min_three max_four min_four IntKind.wrap_u32 IntKind.wrap_u8   -- for this text's walks alone
set_option linter.unusedVariables false
open Go.Proofs.Ytefkhcijgiagdaa.Le Go.Proofs.Ytefkhcijgiagdaa.HKnown Go.Proofs.Ytefkhcijgiagdaa.HPut Go.Proofs.Ytefkhcijgiagdaa.I1 Go.Proofs.Ytefkhcijgiagdaa.E1 Go.Proofs.Ytefkhcijgiagdaa.HAsm Go.Proofs.Ytefkhcijgiagdaa.E2 Go.Proofs.Ytefkhcijgiagdaa.HAll Go.Proofs.Ytefkhcijgiagdaa.V0 Go.Proofs.Ytefkhcijgiagdaa.HVm
set_option linter.unusedSimpArgs false
def doorwardref12_first.l0 : Nat → List (S28) → List (S28) → Int → Int → Option (Int × Bool)
  | 0, _, _, _, _ => none
  | k + 1, x0, x6, x7, x8 => if x8 < x7 then (if 0 ≤ x8 then (if x8 < (x6.length : Int) then ((doorwardref12_Well.f k ((rd_T28 x6 x8).f0) ((rd_T28 x6 x8).f1) ((rd_T28 x6 x8).f2) ((rd_T28 x6 x8).f3) x8 (x0.length : Int)).bind fun t109 => (if t109 = true then (doorwardref12_first.l0 k x0 x6 x7 (wrap64 (x8 + 1))) else (some (x8, true)))) else (none)) else (none)) else (some (0, false))
def doorwardref12_first.f (k : Nat) (l0 : List (S28)) : Option (Int × Bool) := doorwardref12_first.l0 k l0 l0 (l0.length : Int) 0
set_option maxHeartbeats 8000000 in
set_option maxRecDepth 100000 in
theorem doorwardref12_first.calls (k : Nat) (A0 : Option Addr) (c0 : Nat) (l0 : List (S28)) (r1 : Int) (r2 : Bool) (w : World) (hr0 : Kd.C k28 w A0 l0.length l0) (hc0 : l0.length ≤ c0) (h : doorwardref12_first.f k l0 = some (r1, r2)) :
    Calls Try.prog 100 #[.slice A0 l0.length c0] w fun e w' => e = .returned (.tuple #[.int .i64 r1, .bool r2]) ∧ Below w.heap.size w w' := by
  have hu28 := Try.underlying28
  have HR0 := Aside0.mk hr0
  have HC0 := Aside0.mk hc0
  clear hr0 hc0
  have HB := Aside0.mk (Below.refl w.heap.size w)
  have H : (doorwardref12_first.l0 k l0 l0 (l0.length : Int) 0) = some (r1, r2) := h
  clear h
  have H' := Aside0.mk H
  clear H
  go_enter Try.func100, Try.ntmps100
  go_wp2
  go_loopg [8] k (fun kq v8 w' => ∃ (x8_1 : Int), v8 = .int .i64 x8_1 ∧ Aside0 (doorwardref12_first.l0 kq l0 l0 (l0.length : Int) x8_1 = some (r1, r2)) ∧ Aside0 (kq ≤ k) ∧ Aside0 (Below w.heap.size w w'))
  case atStart => exact ⟨(0), (by first | rfl | (simp; done) | (simp [*]; done)), H', ⟨Nat.le_refl _⟩, ⟨by repeat (first | (with_reducible first | exact HB.out | apply below_alloc | apply pw_below_drewN | apply below_drew1) | exact HB.out)⟩⟩
  case round =>
    clear H'
    try clear c1
    obtain ⟨x8_1, rfl, HA, HK1, HB⟩ := hrel
    cases gk with
    | zero => exact absurd HA.out (by simp [doorwardref12_first.l0])
    | succ k1 =>
      have H := HA.out
      clear HA
      simp only [doorwardref12_first.l0] at H
      by_cases c2 : x8_1 < (l0.length : Int)
      · rw [if_pos c2] at H
        have c2b0 : decide (x8_1 < (l0.length : Int)) = true := decide_eq_true c2
        clear c2
        by_cases c3 : 0 ≤ x8_1
        · rw [if_pos c3] at H
          have c3b0 : decide (0 ≤ x8_1) = true := decide_eq_true c3
          clear c3
          by_cases c4 : x8_1 < (l0.length : Int)
          · rw [if_pos c4] at H
            have c4b0 : decide (x8_1 < (l0.length : Int)) = true := decide_eq_true c4
            clear c4
            replace H := Option.bind_eq_some_iff.mp H
            obtain ⟨t109, A50, H⟩ := H
            replace H : (if t109 = true then (doorwardref12_first.l0 k1 l0 l0 (l0.length : Int) (wrap64 (x8_1 + 1))) else (some (x8_1, true))) = some (r1, r2) := H
            have A5 := Aside0.mk A50
            clear A50
            by_cases c6 : t109 = true
            · subst c6
              have H1 : (doorwardref12_first.l0 k1 l0 l0 (l0.length : Int) (wrap64 (x8_1 + 1))) = some (r1, r2) := by rw [if_pos rfl] at H; exact H
              clear H
              have H := H1
              clear H1
              have H' := Aside0.mk H
              clear H
              have p107 : 0 ≤ (x8_1 : Int) := of_decide_eq_true (by first | (with_reducible assumption) | assumption)
              have q107 : x8_1 < (l0.length : Int) := of_decide_eq_true (by first | (with_reducible assumption) | assumption)
              obtain ⟨ad107, e107, hx107_0, hx107_1, hx107_2, hx107_3⟩ := at_T28 HR0.out x8_1 p107 q107
              cases e107
              replace hx107_0 := (HB.out.cell (World.block_lt_of_cell? w _ hx107_0)).trans hx107_0
              replace hx107_1 := (HB.out.cell (World.block_lt_of_cell? w _ hx107_1)).trans hx107_1
              replace hx107_2 := (HB.out.cell (World.block_lt_of_cell? w _ hx107_2)).trans hx107_2
              replace hx107_3 := (HB.out.cell (World.block_lt_of_cell? w _ hx107_3)).trans hx107_3
              replace p107 := eq_true p107
              replace q107 := eq_true q107
              go_wp2_with (first | ((with_reducible refine gate_dst (N := 5) rfl ?_); refine box_event ?hg (N := 5) ?hd (cs := #[.int .i64 0, .int .i64 0, .int .i64 0, .int .u32 0]) (t := 28) ?hr ?_; (case hd => rfl); (case hg => rfl); (case hr => first | (go_simp; done) | (go_simp; rfl)); intro gb108 hg w7 hbox hb; have n0_ := Aside0.mk (below_step (by repeat (first | (with_reducible first | exact HB.out | apply below_alloc | apply pw_below_drewN | apply below_drew1) | exact HB.out)) hb); have n1_ := Aside0.mk (hbox); have n2_ := Aside0.mk ((by rw [hg]; exact (below_size (by repeat (first | (with_reducible first | exact HB.out | apply below_alloc | apply pw_below_drewN | apply below_drew1) | exact HB.out))) : w.heap.size ≤ gb108)); have n3_ := Aside0.mk ((by rw [hg]; exact (below_size (by repeat (first | (with_reducible first | exact HB.out | apply below_alloc | apply pw_below_drewN | apply below_drew1) | exact HB.out))) : w.heap.size ≤ gb108)); clear HB; have HB := n0_; have BK108 := n1_; have GW108 := n2_; have GE108 := n3_; clear n0_ n1_ n2_ n3_; clear hb hbox hg; have hcz8_0 : w7.cell? ⟨gb108, 0, none⟩ = some (.int .i64 0) := (blk_cell BK108.out 0).trans rfl; have hcz8_1 : w7.cell? ⟨gb108, 1, none⟩ = some (.int .i64 0) := (blk_cell BK108.out 1).trans rfl; have hcz8_2 : w7.cell? ⟨gb108, 2, none⟩ = some (.int .i64 0) := (blk_cell BK108.out 2).trans rfl; have hcz8_3 : w7.cell? ⟨gb108, 3, none⟩ = some (.int .u32 0) := (blk_cell BK108.out 3).trans rfl; have hfz8_0 := blk_frozen BK108.out 0; have hfz8_1 := blk_frozen BK108.out 1; have hfz8_2 := blk_frozen BK108.out 2; have hfz8_3 := blk_frozen BK108.out 3) | ((with_reducible refine gate_callee (f := 130) rfl ?_); refine goesL_ (some 17) rfl rfl Try.func130 (by kernel_rfl) rfl #[.agg #[.int .i64 ((rd_T28 l0 x8_1).f0), .int .i64 ((rd_T28 l0 x8_1).f1), .int .i64 ((rd_T28 l0 x8_1).f2), .int .u32 ((rd_T28 l0 x8_1).f3)], .int .i64 x8_1, .int .i64 (l0.length : Int)] rfl (by (try simp only [List.map_toArray, List.map_cons, List.map_nil]); first | done | rfl | (simp only [List.length_drop, List.length_take]; rfl)) ?_; (with_reducible refine (doorwardref12_Well.calls k1 ((rd_T28 l0 x8_1).f0) ((rd_T28 l0 x8_1).f1) ((rd_T28 l0 x8_1).f2) ((rd_T28 l0 x8_1).f3) x8_1 (l0.length : Int) true _ A5.out).mono ?_); rintro e w9 ⟨rfl, hb⟩; refine ⟨_, rfl, ?_⟩; have n0_ := Aside0.mk (blk_below (g := gb108) (o := .cells #[.int .i64 ((rd_T28 l0 x8_1).f0), .int .i64 ((rd_T28 l0 x8_1).f1), .int .i64 ((rd_T28 l0 x8_1).f2), .int .u32 ((rd_T28 l0 x8_1).f3)] 28 (0, 0)) (by (with_reducible repeat (first | refine blk_drewN ?_ _ | refine blk_drew ?_ | refine blk_alloc ?_ _)); refine blk_put (cs := #[.int .i64 ((rd_T28 l0 x8_1).f0), .int .i64 ((rd_T28 l0 x8_1).f1), .int .i64 ((rd_T28 l0 x8_1).f2), .int .u32 0]) ?_ 3 _ rfl; (with_reducible repeat (first | refine blk_drewN ?_ _ | refine blk_drew ?_ | refine blk_alloc ?_ _)); refine blk_put (cs := #[.int .i64 ((rd_T28 l0 x8_1).f0), .int .i64 ((rd_T28 l0 x8_1).f1), .int .i64 0, .int .u32 0]) ?_ 2 _ rfl; (with_reducible repeat (first | refine blk_drewN ?_ _ | refine blk_drew ?_ | refine blk_alloc ?_ _)); refine blk_put (cs := #[.int .i64 ((rd_T28 l0 x8_1).f0), .int .i64 0, .int .i64 0, .int .u32 0]) ?_ 1 _ rfl; (with_reducible repeat (first | refine blk_drewN ?_ _ | refine blk_drew ?_ | refine blk_alloc ?_ _)); refine blk_put (cs := #[.int .i64 0, .int .i64 0, .int .i64 0, .int .u32 0]) ?_ 0 _ rfl; (with_reducible repeat (first | refine blk_drewN ?_ _ | refine blk_drew ?_ | refine blk_alloc ?_ _)); exact BK108.out) hb); have n1_ := Aside0.mk (below_step (by repeat (first | (with_reducible first | exact HB.out | apply below_alloc | apply pw_below_drewN | apply below_drew1 | refine below_set ?_ GE108.out) | exact HB.out)) hb); clear BK108; clear HB; have BK108 := n0_; have HB := n1_; clear n0_ n1_; (try clear hb); (try clear hb2); (try clear hk); (try clear hi)))
              go_roundg k1
              case measure => have := HK1.out; omega
              case rel => exact ⟨(wrap64 (x8_1 + 1)), (by first | rfl | (simp; done) | (simp [*]; done)), H', ⟨by have := HK1.out; omega⟩, ⟨by repeat (first | (with_reducible first | exact HB.out | apply below_alloc | apply pw_below_drewN | apply below_drew1 | refine below_set ?_ GE108.out) | exact HB.out)⟩⟩
            · replace c6 := Bool.eq_false_iff.mpr c6
              subst c6
              have H1 : (some (x8_1, true)) = some (r1, r2) := by rw [if_neg (show ¬ (false = true) by decide)] at H; exact H
              clear H
              have H := H1
              clear H1
              simp only [Option.some.injEq, Prod.mk.injEq] at H
              obtain ⟨rfl, rfl⟩ := H
              have p107 : 0 ≤ (x8_1 : Int) := of_decide_eq_true (by first | (with_reducible assumption) | assumption)
              have q107 : x8_1 < (l0.length : Int) := of_decide_eq_true (by first | (with_reducible assumption) | assumption)
              obtain ⟨ad107, e107, hx107_0, hx107_1, hx107_2, hx107_3⟩ := at_T28 HR0.out x8_1 p107 q107
              cases e107
              replace hx107_0 := (HB.out.cell (World.block_lt_of_cell? w _ hx107_0)).trans hx107_0
              replace hx107_1 := (HB.out.cell (World.block_lt_of_cell? w _ hx107_1)).trans hx107_1
              replace hx107_2 := (HB.out.cell (World.block_lt_of_cell? w _ hx107_2)).trans hx107_2
              replace hx107_3 := (HB.out.cell (World.block_lt_of_cell? w _ hx107_3)).trans hx107_3
              replace p107 := eq_true p107
              replace q107 := eq_true q107
              go_wp2_with (first | ((with_reducible refine gate_dst (N := 5) rfl ?_); refine box_event ?hg (N := 5) ?hd (cs := #[.int .i64 0, .int .i64 0, .int .i64 0, .int .u32 0]) (t := 28) ?hr ?_; (case hd => rfl); (case hg => rfl); (case hr => first | (go_simp; done) | (go_simp; rfl)); intro gb108 hg w10 hbox hb; have n0_ := Aside0.mk (below_step (by repeat (first | (with_reducible first | exact HB.out | apply below_alloc | apply pw_below_drewN | apply below_drew1) | exact HB.out)) hb); have n1_ := Aside0.mk (hbox); have n2_ := Aside0.mk ((by rw [hg]; exact (below_size (by repeat (first | (with_reducible first | exact HB.out | apply below_alloc | apply pw_below_drewN | apply below_drew1) | exact HB.out))) : w.heap.size ≤ gb108)); have n3_ := Aside0.mk ((by rw [hg]; exact (below_size (by repeat (first | (with_reducible first | exact HB.out | apply below_alloc | apply pw_below_drewN | apply below_drew1) | exact HB.out))) : w.heap.size ≤ gb108)); clear HB; have HB := n0_; have BK108 := n1_; have GW108 := n2_; have GE108 := n3_; clear n0_ n1_ n2_ n3_; clear hb hbox hg; have hcz11_0 : w10.cell? ⟨gb108, 0, none⟩ = some (.int .i64 0) := (blk_cell BK108.out 0).trans rfl; have hcz11_1 : w10.cell? ⟨gb108, 1, none⟩ = some (.int .i64 0) := (blk_cell BK108.out 1).trans rfl; have hcz11_2 : w10.cell? ⟨gb108, 2, none⟩ = some (.int .i64 0) := (blk_cell BK108.out 2).trans rfl; have hcz11_3 : w10.cell? ⟨gb108, 3, none⟩ = some (.int .u32 0) := (blk_cell BK108.out 3).trans rfl; have hfz11_0 := blk_frozen BK108.out 0; have hfz11_1 := blk_frozen BK108.out 1; have hfz11_2 := blk_frozen BK108.out 2; have hfz11_3 := blk_frozen BK108.out 3) | ((with_reducible refine gate_callee (f := 130) rfl ?_); refine goesL_ (some 17) rfl rfl Try.func130 (by kernel_rfl) rfl #[.agg #[.int .i64 ((rd_T28 l0 x8_1).f0), .int .i64 ((rd_T28 l0 x8_1).f1), .int .i64 ((rd_T28 l0 x8_1).f2), .int .u32 ((rd_T28 l0 x8_1).f3)], .int .i64 x8_1, .int .i64 (l0.length : Int)] rfl (by (try simp only [List.map_toArray, List.map_cons, List.map_nil]); first | done | rfl | (simp only [List.length_drop, List.length_take]; rfl)) ?_; (with_reducible refine (doorwardref12_Well.calls k1 ((rd_T28 l0 x8_1).f0) ((rd_T28 l0 x8_1).f1) ((rd_T28 l0 x8_1).f2) ((rd_T28 l0 x8_1).f3) x8_1 (l0.length : Int) false _ A5.out).mono ?_); rintro e w12 ⟨rfl, hb⟩; refine ⟨_, rfl, ?_⟩; have n0_ := Aside0.mk (blk_below (g := gb108) (o := .cells #[.int .i64 ((rd_T28 l0 x8_1).f0), .int .i64 ((rd_T28 l0 x8_1).f1), .int .i64 ((rd_T28 l0 x8_1).f2), .int .u32 ((rd_T28 l0 x8_1).f3)] 28 (0, 0)) (by (with_reducible repeat (first | refine blk_drewN ?_ _ | refine blk_drew ?_ | refine blk_alloc ?_ _)); refine blk_put (cs := #[.int .i64 ((rd_T28 l0 x8_1).f0), .int .i64 ((rd_T28 l0 x8_1).f1), .int .i64 ((rd_T28 l0 x8_1).f2), .int .u32 0]) ?_ 3 _ rfl; (with_reducible repeat (first | refine blk_drewN ?_ _ | refine blk_drew ?_ | refine blk_alloc ?_ _)); refine blk_put (cs := #[.int .i64 ((rd_T28 l0 x8_1).f0), .int .i64 ((rd_T28 l0 x8_1).f1), .int .i64 0, .int .u32 0]) ?_ 2 _ rfl; (with_reducible repeat (first | refine blk_drewN ?_ _ | refine blk_drew ?_ | refine blk_alloc ?_ _)); refine blk_put (cs := #[.int .i64 ((rd_T28 l0 x8_1).f0), .int .i64 0, .int .i64 0, .int .u32 0]) ?_ 1 _ rfl; (with_reducible repeat (first | refine blk_drewN ?_ _ | refine blk_drew ?_ | refine blk_alloc ?_ _)); refine blk_put (cs := #[.int .i64 0, .int .i64 0, .int .i64 0, .int .u32 0]) ?_ 0 _ rfl; (with_reducible repeat (first | refine blk_drewN ?_ _ | refine blk_drew ?_ | refine blk_alloc ?_ _)); exact BK108.out) hb); have n1_ := Aside0.mk (below_step (by repeat (first | (with_reducible first | exact HB.out | apply below_alloc | apply pw_below_drewN | apply below_drew1 | refine below_set ?_ GE108.out) | exact HB.out)) hb); clear BK108; clear HB; have BK108 := n0_; have HB := n1_; clear n0_ n1_; (try clear hb); (try clear hb2); (try clear hk); (try clear hi)))
              go_ret2
              exact ⟨by first | rfl | (simp [errW_none, errW_some] <;> rfl) | (simp [*, errW_none, errW_some] <;> rfl), by repeat (first | (with_reducible first | exact HB.out | apply below_alloc | apply pw_below_drewN | apply below_drew1 | refine below_set ?_ GE108.out) | exact HB.out)⟩
          · rw [if_neg c4] at H
            exact absurd H (by simp)
        · rw [if_neg c3] at H
          exact absurd H (by simp)
      · rw [if_neg c2] at H
        have c2b0 : decide (x8_1 < (l0.length : Int)) = false := decide_eq_false c2
        clear c2
        simp only [Option.some.injEq, Prod.mk.injEq] at H
        obtain ⟨rfl, rfl⟩ := H
        go_wp2
        go_ret2
        exact ⟨by first | rfl | (simp [errW_none, errW_some] <;> rfl) | (simp [*, errW_none, errW_some] <;> rfl), by repeat (first | (with_reducible first | exact HB.out | apply below_alloc | apply pw_below_drewN | apply below_drew1) | exact HB.out)⟩
def doorwardref12_follows.f (a0_0 : Int) (a0_1 : Int) (a0_2 : Int) (a0_3 : Int) (a1 : Int) (a2 : Int) : Option (Bool) := (doorwardref12_returns.f a0_0 a0_1 a0_2 a0_3).bind fun t111 => (if t111 = true then (some false) else (if a0_0 = 5 then (some (a2 == (wrap64 ((wrap64 (a1 + 1)) + (wrap64 (a0_3)))))) else ((doorwardref12_jumps.f a0_0 a0_1 a0_2 a0_3).bind fun t112 => (if t112 = true then (if a2 = (wrap64 ((wrap64 (a1 + 1)) + a0_1)) then (some true) else (some (a2 == (wrap64 ((wrap64 (a1 + 1)) + a0_2))))) else (some (a2 == (wrap64 (a1 + 1))))))))
set_option maxHeartbeats 8000000 in
set_option maxRecDepth 100000 in
theorem doorwardref12_follows.calls (a0_0 : Int) (a0_1 : Int) (a0_2 : Int) (a0_3 : Int) (a1 : Int) (a2 : Int) (r : Bool) (w : World) (h : doorwardref12_follows.f a0_0 a0_1 a0_2 a0_3 a1 a2 = some r) :
    Calls Try.prog 132 #[.agg #[.int .i64 a0_0, .int .i64 a0_1, .int .i64 a0_2, .int .u32 a0_3], .int .i64 a1, .int .i64 a2] w fun e w' => e = .returned (.bool r) ∧ Below w.heap.size w w' := by
  have hu28 := Try.underlying28
  have HB := Aside0.mk (Below.refl w.heap.size w)
  have H : ((doorwardref12_returns.f a0_0 a0_1 a0_2 a0_3).bind fun t111 => (if t111 = true then (some false) else (if a0_0 = 5 then (some (a2 == (wrap64 ((wrap64 (a1 + 1)) + (wrap64 (a0_3)))))) else ((doorwardref12_jumps.f a0_0 a0_1 a0_2 a0_3).bind fun t112 => (if t112 = true then (if a2 = (wrap64 ((wrap64 (a1 + 1)) + a0_1)) then (some true) else (some (a2 == (wrap64 ((wrap64 (a1 + 1)) + a0_2))))) else (some (a2 == (wrap64 (a1 + 1))))))))) = some r := h
  clear h
  replace H := Option.bind_eq_some_iff.mp H
  obtain ⟨t111, A40, H⟩ := H
  replace H : (if t111 = true then (some false) else (if a0_0 = 5 then (some (a2 == (wrap64 ((wrap64 (a1 + 1)) + (wrap64 (a0_3)))))) else ((doorwardref12_jumps.f a0_0 a0_1 a0_2 a0_3).bind fun t112 => (if t112 = true then (if a2 = (wrap64 ((wrap64 (a1 + 1)) + a0_1)) then (some true) else (some (a2 == (wrap64 ((wrap64 (a1 + 1)) + a0_2))))) else (some (a2 == (wrap64 (a1 + 1)))))))) = some r := H
  have A4 := Aside0.mk A40
  clear A40
  by_cases c5 : t111 = true
  · subst c5
    have H1 : (some false) = some r := by rw [if_pos rfl] at H; exact H
    clear H
    have H := H1
    clear H1
    obtain rfl := Option.some.inj H
    go_enter Try.func132, Try.ntmps132
    go_wp2_with (first | ((with_reducible refine gate_dst (N := 3) rfl ?_); refine box_event ?hg (N := 3) ?hd (cs := #[.int .i64 a0_0, .int .i64 a0_1, .int .i64 a0_2, .int .u32 a0_3]) (t := 28) ?hr ?_; (case hd => rfl); (case hg => rfl); (case hr => first | (go_simp; done) | (go_simp; rfl)); intro gb110 hg w6 hbox hb; have n0_ := Aside0.mk (below_step (by repeat (first | (with_reducible first | exact HB.out | apply below_alloc | apply pw_below_drewN | apply below_drew1) | exact HB.out)) hb); have n1_ := Aside0.mk (hbox); have n2_ := Aside0.mk ((by rw [hg]; exact (below_size (by repeat (first | (with_reducible first | exact HB.out | apply below_alloc | apply pw_below_drewN | apply below_drew1) | exact HB.out))) : w.heap.size ≤ gb110)); have n3_ := Aside0.mk ((by rw [hg]; exact (below_size (by repeat (first | (with_reducible first | exact HB.out | apply below_alloc | apply pw_below_drewN | apply below_drew1) | exact HB.out))) : w.heap.size ≤ gb110)); clear HB; have HB := n0_; have BK110 := n1_; have GW110 := n2_; have GE110 := n3_; clear n0_ n1_ n2_ n3_; clear hb hbox hg; have hcz7_0 : w6.cell? ⟨gb110, 0, none⟩ = some (.int .i64 a0_0) := (blk_cell BK110.out 0).trans rfl; have hcz7_1 : w6.cell? ⟨gb110, 1, none⟩ = some (.int .i64 a0_1) := (blk_cell BK110.out 1).trans rfl; have hcz7_2 : w6.cell? ⟨gb110, 2, none⟩ = some (.int .i64 a0_2) := (blk_cell BK110.out 2).trans rfl; have hcz7_3 : w6.cell? ⟨gb110, 3, none⟩ = some (.int .u32 a0_3) := (blk_cell BK110.out 3).trans rfl; have hfz7_0 := blk_frozen BK110.out 0; have hfz7_1 := blk_frozen BK110.out 1; have hfz7_2 := blk_frozen BK110.out 2; have hfz7_3 := blk_frozen BK110.out 3) | ((with_reducible refine gate_callee (f := 156) rfl ?_); refine goesL_ (some 8) rfl rfl Try.func156 (by kernel_rfl) rfl #[.agg #[.int .i64 a0_0, .int .i64 a0_1, .int .i64 a0_2, .int .u32 a0_3]] rfl (by (try simp only [List.map_toArray, List.map_cons, List.map_nil]); first | done | rfl | (simp only [List.length_drop, List.length_take]; rfl)) ?_; (with_reducible refine (doorwardref12_returns.calls a0_0 a0_1 a0_2 a0_3 true _ A4.out).mono ?_); rintro e w8 ⟨rfl, hb⟩; refine ⟨_, rfl, ?_⟩; have n0_ := Aside0.mk (blk_below (g := gb110) (o := .cells #[.int .i64 a0_0, .int .i64 a0_1, .int .i64 a0_2, .int .u32 a0_3] 28 (0, 0)) (by (with_reducible repeat (first | refine blk_drewN ?_ _ | refine blk_drew ?_ | refine blk_alloc ?_ _)); exact BK110.out) hb); have n1_ := Aside0.mk (below_step (by repeat (first | (with_reducible first | exact HB.out | apply below_alloc | apply pw_below_drewN | apply below_drew1 | refine below_set ?_ GE110.out) | exact HB.out)) hb); clear BK110; clear HB; have BK110 := n0_; have HB := n1_; clear n0_ n1_; (try clear hb); (try clear hb2); (try clear hk); (try clear hi)))
    go_ret
    exact ⟨by first | rfl | (simp [errW_none, errW_some] <;> rfl) | (simp [*, errW_none, errW_some] <;> rfl), by repeat (first | (with_reducible first | exact HB.out | apply below_alloc | apply pw_below_drewN | apply below_drew1 | refine below_set ?_ GE110.out) | exact HB.out)⟩
  · replace c5 := Bool.eq_false_iff.mpr c5
    subst c5
    have H1 : (if a0_0 = 5 then (some (a2 == (wrap64 ((wrap64 (a1 + 1)) + (wrap64 (a0_3)))))) else ((doorwardref12_jumps.f a0_0 a0_1 a0_2 a0_3).bind fun t112 => (if t112 = true then (if a2 = (wrap64 ((wrap64 (a1 + 1)) + a0_1)) then (some true) else (some (a2 == (wrap64 ((wrap64 (a1 + 1)) + a0_2))))) else (some (a2 == (wrap64 (a1 + 1))))))) = some r := by rw [if_neg (show ¬ (false = true) by decide)] at H; exact H
    clear H
    have H := H1
    clear H1
    by_cases c9 : a0_0 = 5
    · rw [if_pos c9] at H
      have c9b0 : (a0_0 == 5) = true := beq_iff_eq.mpr c9
      have c9b1 : (a0_0 != 5) = false := bne_eq_false_iff_eq.mpr c9
      clear c9
      obtain rfl := Option.some.inj H
      go_enter Try.func132, Try.ntmps132
      go_wp2_with (first | ((with_reducible refine gate_dst (N := 3) rfl ?_); refine box_event ?hg (N := 3) ?hd (cs := #[.int .i64 a0_0, .int .i64 a0_1, .int .i64 a0_2, .int .u32 a0_3]) (t := 28) ?hr ?_; (case hd => rfl); (case hg => rfl); (case hr => first | (go_simp; done) | (go_simp; rfl)); intro gb110 hg w10 hbox hb; have n0_ := Aside0.mk (below_step (by repeat (first | (with_reducible first | exact HB.out | apply below_alloc | apply pw_below_drewN | apply below_drew1) | exact HB.out)) hb); have n1_ := Aside0.mk (hbox); have n2_ := Aside0.mk ((by rw [hg]; exact (below_size (by repeat (first | (with_reducible first | exact HB.out | apply below_alloc | apply pw_below_drewN | apply below_drew1) | exact HB.out))) : w.heap.size ≤ gb110)); have n3_ := Aside0.mk ((by rw [hg]; exact (below_size (by repeat (first | (with_reducible first | exact HB.out | apply below_alloc | apply pw_below_drewN | apply below_drew1) | exact HB.out))) : w.heap.size ≤ gb110)); clear HB; have HB := n0_; have BK110 := n1_; have GW110 := n2_; have GE110 := n3_; clear n0_ n1_ n2_ n3_; clear hb hbox hg; have hcz11_0 : w10.cell? ⟨gb110, 0, none⟩ = some (.int .i64 a0_0) := (blk_cell BK110.out 0).trans rfl; have hcz11_1 : w10.cell? ⟨gb110, 1, none⟩ = some (.int .i64 a0_1) := (blk_cell BK110.out 1).trans rfl; have hcz11_2 : w10.cell? ⟨gb110, 2, none⟩ = some (.int .i64 a0_2) := (blk_cell BK110.out 2).trans rfl; have hcz11_3 : w10.cell? ⟨gb110, 3, none⟩ = some (.int .u32 a0_3) := (blk_cell BK110.out 3).trans rfl; have hfz11_0 := blk_frozen BK110.out 0; have hfz11_1 := blk_frozen BK110.out 1; have hfz11_2 := blk_frozen BK110.out 2; have hfz11_3 := blk_frozen BK110.out 3) | ((with_reducible refine gate_callee (f := 156) rfl ?_); refine goesL_ (some 8) rfl rfl Try.func156 (by kernel_rfl) rfl #[.agg #[.int .i64 a0_0, .int .i64 a0_1, .int .i64 a0_2, .int .u32 a0_3]] rfl (by (try simp only [List.map_toArray, List.map_cons, List.map_nil]); first | done | rfl | (simp only [List.length_drop, List.length_take]; rfl)) ?_; (with_reducible refine (doorwardref12_returns.calls a0_0 a0_1 a0_2 a0_3 false _ A4.out).mono ?_); rintro e w12 ⟨rfl, hb⟩; refine ⟨_, rfl, ?_⟩; have n0_ := Aside0.mk (blk_below (g := gb110) (o := .cells #[.int .i64 a0_0, .int .i64 a0_1, .int .i64 a0_2, .int .u32 a0_3] 28 (0, 0)) (by (with_reducible repeat (first | refine blk_drewN ?_ _ | refine blk_drew ?_ | refine blk_alloc ?_ _)); exact BK110.out) hb); have n1_ := Aside0.mk (below_step (by repeat (first | (with_reducible first | exact HB.out | apply below_alloc | apply pw_below_drewN | apply below_drew1 | refine below_set ?_ GE110.out) | exact HB.out)) hb); clear BK110; clear HB; have BK110 := n0_; have HB := n1_; clear n0_ n1_; (try clear hb); (try clear hb2); (try clear hk); (try clear hi); have hcz13_0 : w12.cell? ⟨gb110, 0, none⟩ = some (.int .i64 a0_0) := (blk_cell BK110.out 0).trans rfl; have hcz13_1 : w12.cell? ⟨gb110, 1, none⟩ = some (.int .i64 a0_1) := (blk_cell BK110.out 1).trans rfl; have hcz13_2 : w12.cell? ⟨gb110, 2, none⟩ = some (.int .i64 a0_2) := (blk_cell BK110.out 2).trans rfl; have hcz13_3 : w12.cell? ⟨gb110, 3, none⟩ = some (.int .u32 a0_3) := (blk_cell BK110.out 3).trans rfl; have hfz13_0 := blk_frozen BK110.out 0; have hfz13_1 := blk_frozen BK110.out 1; have hfz13_2 := blk_frozen BK110.out 2; have hfz13_3 := blk_frozen BK110.out 3))
      go_ret
      exact ⟨by first | rfl | (simp [errW_none, errW_some] <;> rfl) | (simp [*, errW_none, errW_some] <;> rfl), by repeat (first | (with_reducible first | exact HB.out | apply below_alloc | apply pw_below_drewN | apply below_drew1 | refine below_set ?_ GE110.out) | exact HB.out)⟩
    · rw [if_neg c9] at H
      have c9b0 : (a0_0 == 5) = false := beq_eq_false_iff_ne.mpr c9
      have c9b1 : (a0_0 != 5) = true := bne_iff_ne.mpr c9
      replace H := Option.bind_eq_some_iff.mp H
      obtain ⟨t112, A140, H⟩ := H
      replace H : (if t112 = true then (if a2 = (wrap64 ((wrap64 (a1 + 1)) + a0_1)) then (some true) else (some (a2 == (wrap64 ((wrap64 (a1 + 1)) + a0_2))))) else (some (a2 == (wrap64 (a1 + 1))))) = some r := H
      have A14 := Aside0.mk A140
      clear A140
      by_cases c15 : t112 = true
      · subst c15
        have H1 : (if a2 = (wrap64 ((wrap64 (a1 + 1)) + a0_1)) then (some true) else (some (a2 == (wrap64 ((wrap64 (a1 + 1)) + a0_2))))) = some r := by rw [if_pos rfl] at H; exact H
        clear H
        have H := H1
        clear H1
        by_cases c16 : a2 = (wrap64 ((wrap64 (a1 + 1)) + a0_1))
        · rw [if_pos c16] at H
          have c16b0 : (a2 == (wrap64 ((wrap64 (a1 + 1)) + a0_1))) = true := beq_iff_eq.mpr c16
          have c16b1 : (a2 != (wrap64 ((wrap64 (a1 + 1)) + a0_1))) = false := bne_eq_false_iff_eq.mpr c16
          clear c16
          obtain rfl := Option.some.inj H
          go_enter Try.func132, Try.ntmps132
          go_wp2_with (first | ((with_reducible refine gate_dst (N := 3) rfl ?_); refine box_event ?hg (N := 3) ?hd (cs := #[.int .i64 a0_0, .int .i64 a0_1, .int .i64 a0_2, .int .u32 a0_3]) (t := 28) ?hr ?_; (case hd => rfl); (case hg => rfl); (case hr => first | (go_simp; done) | (go_simp; rfl)); intro gb110 hg w17 hbox hb; have n0_ := Aside0.mk (below_step (by repeat (first | (with_reducible first | exact HB.out | apply below_alloc | apply pw_below_drewN | apply below_drew1) | exact HB.out)) hb); have n1_ := Aside0.mk (hbox); have n2_ := Aside0.mk ((by rw [hg]; exact (below_size (by repeat (first | (with_reducible first | exact HB.out | apply below_alloc | apply pw_below_drewN | apply below_drew1) | exact HB.out))) : w.heap.size ≤ gb110)); have n3_ := Aside0.mk ((by rw [hg]; exact (below_size (by repeat (first | (with_reducible first | exact HB.out | apply below_alloc | apply pw_below_drewN | apply below_drew1) | exact HB.out))) : w.heap.size ≤ gb110)); clear HB; have HB := n0_; have BK110 := n1_; have GW110 := n2_; have GE110 := n3_; clear n0_ n1_ n2_ n3_; clear hb hbox hg; have hcz18_0 : w17.cell? ⟨gb110, 0, none⟩ = some (.int .i64 a0_0) := (blk_cell BK110.out 0).trans rfl; have hcz18_1 : w17.cell? ⟨gb110, 1, none⟩ = some (.int .i64 a0_1) := (blk_cell BK110.out 1).trans rfl; have hcz18_2 : w17.cell? ⟨gb110, 2, none⟩ = some (.int .i64 a0_2) := (blk_cell BK110.out 2).trans rfl; have hcz18_3 : w17.cell? ⟨gb110, 3, none⟩ = some (.int .u32 a0_3) := (blk_cell BK110.out 3).trans rfl; have hfz18_0 := blk_frozen BK110.out 0; have hfz18_1 := blk_frozen BK110.out 1; have hfz18_2 := blk_frozen BK110.out 2; have hfz18_3 := blk_frozen BK110.out 3) | ((with_reducible refine gate_callee (f := 156) rfl ?_); refine goesL_ (some 8) rfl rfl Try.func156 (by kernel_rfl) rfl #[.agg #[.int .i64 a0_0, .int .i64 a0_1, .int .i64 a0_2, .int .u32 a0_3]] rfl (by (try simp only [List.map_toArray, List.map_cons, List.map_nil]); first | done | rfl | (simp only [List.length_drop, List.length_take]; rfl)) ?_; (with_reducible refine (doorwardref12_returns.calls a0_0 a0_1 a0_2 a0_3 false _ A4.out).mono ?_); rintro e w19 ⟨rfl, hb⟩; refine ⟨_, rfl, ?_⟩; have n0_ := Aside0.mk (blk_below (g := gb110) (o := .cells #[.int .i64 a0_0, .int .i64 a0_1, .int .i64 a0_2, .int .u32 a0_3] 28 (0, 0)) (by (with_reducible repeat (first | refine blk_drewN ?_ _ | refine blk_drew ?_ | refine blk_alloc ?_ _)); exact BK110.out) hb); have n1_ := Aside0.mk (below_step (by repeat (first | (with_reducible first | exact HB.out | apply below_alloc | apply pw_below_drewN | apply below_drew1 | refine below_set ?_ GE110.out) | exact HB.out)) hb); clear BK110; clear HB; have BK110 := n0_; have HB := n1_; clear n0_ n1_; (try clear hb); (try clear hb2); (try clear hk); (try clear hi); have hcz20_0 : w19.cell? ⟨gb110, 0, none⟩ = some (.int .i64 a0_0) := (blk_cell BK110.out 0).trans rfl; have hcz20_1 : w19.cell? ⟨gb110, 1, none⟩ = some (.int .i64 a0_1) := (blk_cell BK110.out 1).trans rfl; have hcz20_2 : w19.cell? ⟨gb110, 2, none⟩ = some (.int .i64 a0_2) := (blk_cell BK110.out 2).trans rfl; have hcz20_3 : w19.cell? ⟨gb110, 3, none⟩ = some (.int .u32 a0_3) := (blk_cell BK110.out 3).trans rfl; have hfz20_0 := blk_frozen BK110.out 0; have hfz20_1 := blk_frozen BK110.out 1; have hfz20_2 := blk_frozen BK110.out 2; have hfz20_3 := blk_frozen BK110.out 3) | ((with_reducible refine gate_callee (f := 157) rfl ?_); refine goesL_ (some 21) rfl rfl Try.func157 (by kernel_rfl) rfl #[.agg #[.int .i64 a0_0, .int .i64 a0_1, .int .i64 a0_2, .int .u32 a0_3]] rfl (by (try simp only [List.map_toArray, List.map_cons, List.map_nil]); first | done | rfl | (simp only [List.length_drop, List.length_take]; rfl)) ?_; (with_reducible refine (doorwardref12_jumps.calls a0_0 a0_1 a0_2 a0_3 true _ A14.out).mono ?_); rintro e w21 ⟨rfl, hb⟩; refine ⟨_, rfl, ?_⟩; have n0_ := Aside0.mk (blk_below (g := gb110) (o := .cells #[.int .i64 a0_0, .int .i64 a0_1, .int .i64 a0_2, .int .u32 a0_3] 28 (0, 0)) (by (with_reducible repeat (first | refine blk_drewN ?_ _ | refine blk_drew ?_ | refine blk_alloc ?_ _)); exact BK110.out) hb); have n1_ := Aside0.mk (below_step (by repeat (first | (with_reducible first | exact HB.out | apply below_alloc | apply pw_below_drewN | apply below_drew1 | refine below_set ?_ GE110.out) | exact HB.out)) hb); clear BK110; clear HB; have BK110 := n0_; have HB := n1_; clear n0_ n1_; (try clear hb); (try clear hb2); (try clear hk); (try clear hi); have hcz22_0 : w21.cell? ⟨gb110, 0, none⟩ = some (.int .i64 a0_0) := (blk_cell BK110.out 0).trans rfl; have hcz22_1 : w21.cell? ⟨gb110, 1, none⟩ = some (.int .i64 a0_1) := (blk_cell BK110.out 1).trans rfl; have hcz22_2 : w21.cell? ⟨gb110, 2, none⟩ = some (.int .i64 a0_2) := (blk_cell BK110.out 2).trans rfl; have hcz22_3 : w21.cell? ⟨gb110, 3, none⟩ = some (.int .u32 a0_3) := (blk_cell BK110.out 3).trans rfl; have hfz22_0 := blk_frozen BK110.out 0; have hfz22_1 := blk_frozen BK110.out 1; have hfz22_2 := blk_frozen BK110.out 2; have hfz22_3 := blk_frozen BK110.out 3))
          go_ret
          exact ⟨by first | rfl | (simp [errW_none, errW_some] <;> rfl) | (simp [*, errW_none, errW_some] <;> rfl), by repeat (first | (with_reducible first | exact HB.out | apply below_alloc | apply pw_below_drewN | apply below_drew1 | refine below_set ?_ GE110.out) | exact HB.out)⟩
        · rw [if_neg c16] at H
          have c16b0 : (a2 == (wrap64 ((wrap64 (a1 + 1)) + a0_1))) = false := beq_eq_false_iff_ne.mpr c16
          have c16b1 : (a2 != (wrap64 ((wrap64 (a1 + 1)) + a0_1))) = true := bne_iff_ne.mpr c16
          obtain rfl := Option.some.inj H
          go_enter Try.func132, Try.ntmps132
          go_wp2_with (first | ((with_reducible refine gate_dst (N := 3) rfl ?_); refine box_event ?hg (N := 3) ?hd (cs := #[.int .i64 a0_0, .int .i64 a0_1, .int .i64 a0_2, .int .u32 a0_3]) (t := 28) ?hr ?_; (case hd => rfl); (case hg => rfl); (case hr => first | (go_simp; done) | (go_simp; rfl)); intro gb110 hg w23 hbox hb; have n0_ := Aside0.mk (below_step (by repeat (first | (with_reducible first | exact HB.out | apply below_alloc | apply pw_below_drewN | apply below_drew1) | exact HB.out)) hb); have n1_ := Aside0.mk (hbox); have n2_ := Aside0.mk ((by rw [hg]; exact (below_size (by repeat (first | (with_reducible first | exact HB.out | apply below_alloc | apply pw_below_drewN | apply below_drew1) | exact HB.out))) : w.heap.size ≤ gb110)); have n3_ := Aside0.mk ((by rw [hg]; exact (below_size (by repeat (first | (with_reducible first | exact HB.out | apply below_alloc | apply pw_below_drewN | apply below_drew1) | exact HB.out))) : w.heap.size ≤ gb110)); clear HB; have HB := n0_; have BK110 := n1_; have GW110 := n2_; have GE110 := n3_; clear n0_ n1_ n2_ n3_; clear hb hbox hg; have hcz24_0 : w23.cell? ⟨gb110, 0, none⟩ = some (.int .i64 a0_0) := (blk_cell BK110.out 0).trans rfl; have hcz24_1 : w23.cell? ⟨gb110, 1, none⟩ = some (.int .i64 a0_1) := (blk_cell BK110.out 1).trans rfl; have hcz24_2 : w23.cell? ⟨gb110, 2, none⟩ = some (.int .i64 a0_2) := (blk_cell BK110.out 2).trans rfl; have hcz24_3 : w23.cell? ⟨gb110, 3, none⟩ = some (.int .u32 a0_3) := (blk_cell BK110.out 3).trans rfl; have hfz24_0 := blk_frozen BK110.out 0; have hfz24_1 := blk_frozen BK110.out 1; have hfz24_2 := blk_frozen BK110.out 2; have hfz24_3 := blk_frozen BK110.out 3) | ((with_reducible refine gate_callee (f := 156) rfl ?_); refine goesL_ (some 8) rfl rfl Try.func156 (by kernel_rfl) rfl #[.agg #[.int .i64 a0_0, .int .i64 a0_1, .int .i64 a0_2, .int .u32 a0_3]] rfl (by (try simp only [List.map_toArray, List.map_cons, List.map_nil]); first | done | rfl | (simp only [List.length_drop, List.length_take]; rfl)) ?_; (with_reducible refine (doorwardref12_returns.calls a0_0 a0_1 a0_2 a0_3 false _ A4.out).mono ?_); rintro e w25 ⟨rfl, hb⟩; refine ⟨_, rfl, ?_⟩; have n0_ := Aside0.mk (blk_below (g := gb110) (o := .cells #[.int .i64 a0_0, .int .i64 a0_1, .int .i64 a0_2, .int .u32 a0_3] 28 (0, 0)) (by (with_reducible repeat (first | refine blk_drewN ?_ _ | refine blk_drew ?_ | refine blk_alloc ?_ _)); exact BK110.out) hb); have n1_ := Aside0.mk (below_step (by repeat (first | (with_reducible first | exact HB.out | apply below_alloc | apply pw_below_drewN | apply below_drew1 | refine below_set ?_ GE110.out) | exact HB.out)) hb); clear BK110; clear HB; have BK110 := n0_; have HB := n1_; clear n0_ n1_; (try clear hb); (try clear hb2); (try clear hk); (try clear hi); have hcz26_0 : w25.cell? ⟨gb110, 0, none⟩ = some (.int .i64 a0_0) := (blk_cell BK110.out 0).trans rfl; have hcz26_1 : w25.cell? ⟨gb110, 1, none⟩ = some (.int .i64 a0_1) := (blk_cell BK110.out 1).trans rfl; have hcz26_2 : w25.cell? ⟨gb110, 2, none⟩ = some (.int .i64 a0_2) := (blk_cell BK110.out 2).trans rfl; have hcz26_3 : w25.cell? ⟨gb110, 3, none⟩ = some (.int .u32 a0_3) := (blk_cell BK110.out 3).trans rfl; have hfz26_0 := blk_frozen BK110.out 0; have hfz26_1 := blk_frozen BK110.out 1; have hfz26_2 := blk_frozen BK110.out 2; have hfz26_3 := blk_frozen BK110.out 3) | ((with_reducible refine gate_callee (f := 157) rfl ?_); refine goesL_ (some 21) rfl rfl Try.func157 (by kernel_rfl) rfl #[.agg #[.int .i64 a0_0, .int .i64 a0_1, .int .i64 a0_2, .int .u32 a0_3]] rfl (by (try simp only [List.map_toArray, List.map_cons, List.map_nil]); first | done | rfl | (simp only [List.length_drop, List.length_take]; rfl)) ?_; (with_reducible refine (doorwardref12_jumps.calls a0_0 a0_1 a0_2 a0_3 true _ A14.out).mono ?_); rintro e w27 ⟨rfl, hb⟩; refine ⟨_, rfl, ?_⟩; have n0_ := Aside0.mk (blk_below (g := gb110) (o := .cells #[.int .i64 a0_0, .int .i64 a0_1, .int .i64 a0_2, .int .u32 a0_3] 28 (0, 0)) (by (with_reducible repeat (first | refine blk_drewN ?_ _ | refine blk_drew ?_ | refine blk_alloc ?_ _)); exact BK110.out) hb); have n1_ := Aside0.mk (below_step (by repeat (first | (with_reducible first | exact HB.out | apply below_alloc | apply pw_below_drewN | apply below_drew1 | refine below_set ?_ GE110.out) | exact HB.out)) hb); clear BK110; clear HB; have BK110 := n0_; have HB := n1_; clear n0_ n1_; (try clear hb); (try clear hb2); (try clear hk); (try clear hi); have hcz28_0 : w27.cell? ⟨gb110, 0, none⟩ = some (.int .i64 a0_0) := (blk_cell BK110.out 0).trans rfl; have hcz28_1 : w27.cell? ⟨gb110, 1, none⟩ = some (.int .i64 a0_1) := (blk_cell BK110.out 1).trans rfl; have hcz28_2 : w27.cell? ⟨gb110, 2, none⟩ = some (.int .i64 a0_2) := (blk_cell BK110.out 2).trans rfl; have hcz28_3 : w27.cell? ⟨gb110, 3, none⟩ = some (.int .u32 a0_3) := (blk_cell BK110.out 3).trans rfl; have hfz28_0 := blk_frozen BK110.out 0; have hfz28_1 := blk_frozen BK110.out 1; have hfz28_2 := blk_frozen BK110.out 2; have hfz28_3 := blk_frozen BK110.out 3))
          go_ret
          exact ⟨by first | rfl | (simp [errW_none, errW_some] <;> rfl) | (simp [*, errW_none, errW_some] <;> rfl), by repeat (first | (with_reducible first | exact HB.out | apply below_alloc | apply pw_below_drewN | apply below_drew1 | refine below_set ?_ GE110.out) | exact HB.out)⟩
      · replace c15 := Bool.eq_false_iff.mpr c15
        subst c15
        have H1 : (some (a2 == (wrap64 (a1 + 1)))) = some r := by rw [if_neg (show ¬ (false = true) by decide)] at H; exact H
        clear H
        have H := H1
        clear H1
        obtain rfl := Option.some.inj H
        go_enter Try.func132, Try.ntmps132
        go_wp2_with (first | ((with_reducible refine gate_dst (N := 3) rfl ?_); refine box_event ?hg (N := 3) ?hd (cs := #[.int .i64 a0_0, .int .i64 a0_1, .int .i64 a0_2, .int .u32 a0_3]) (t := 28) ?hr ?_; (case hd => rfl); (case hg => rfl); (case hr => first | (go_simp; done) | (go_simp; rfl)); intro gb110 hg w29 hbox hb; have n0_ := Aside0.mk (below_step (by repeat (first | (with_reducible first | exact HB.out | apply below_alloc | apply pw_below_drewN | apply below_drew1) | exact HB.out)) hb); have n1_ := Aside0.mk (hbox); have n2_ := Aside0.mk ((by rw [hg]; exact (below_size (by repeat (first | (with_reducible first | exact HB.out | apply below_alloc | apply pw_below_drewN | apply below_drew1) | exact HB.out))) : w.heap.size ≤ gb110)); have n3_ := Aside0.mk ((by rw [hg]; exact (below_size (by repeat (first | (with_reducible first | exact HB.out | apply below_alloc | apply pw_below_drewN | apply below_drew1) | exact HB.out))) : w.heap.size ≤ gb110)); clear HB; have HB := n0_; have BK110 := n1_; have GW110 := n2_; have GE110 := n3_; clear n0_ n1_ n2_ n3_; clear hb hbox hg; have hcz30_0 : w29.cell? ⟨gb110, 0, none⟩ = some (.int .i64 a0_0) := (blk_cell BK110.out 0).trans rfl; have hcz30_1 : w29.cell? ⟨gb110, 1, none⟩ = some (.int .i64 a0_1) := (blk_cell BK110.out 1).trans rfl; have hcz30_2 : w29.cell? ⟨gb110, 2, none⟩ = some (.int .i64 a0_2) := (blk_cell BK110.out 2).trans rfl; have hcz30_3 : w29.cell? ⟨gb110, 3, none⟩ = some (.int .u32 a0_3) := (blk_cell BK110.out 3).trans rfl; have hfz30_0 := blk_frozen BK110.out 0; have hfz30_1 := blk_frozen BK110.out 1; have hfz30_2 := blk_frozen BK110.out 2; have hfz30_3 := blk_frozen BK110.out 3) | ((with_reducible refine gate_callee (f := 156) rfl ?_); refine goesL_ (some 8) rfl rfl Try.func156 (by kernel_rfl) rfl #[.agg #[.int .i64 a0_0, .int .i64 a0_1, .int .i64 a0_2, .int .u32 a0_3]] rfl (by (try simp only [List.map_toArray, List.map_cons, List.map_nil]); first | done | rfl | (simp only [List.length_drop, List.length_take]; rfl)) ?_; (with_reducible refine (doorwardref12_returns.calls a0_0 a0_1 a0_2 a0_3 false _ A4.out).mono ?_); rintro e w31 ⟨rfl, hb⟩; refine ⟨_, rfl, ?_⟩; have n0_ := Aside0.mk (blk_below (g := gb110) (o := .cells #[.int .i64 a0_0, .int .i64 a0_1, .int .i64 a0_2, .int .u32 a0_3] 28 (0, 0)) (by (with_reducible repeat (first | refine blk_drewN ?_ _ | refine blk_drew ?_ | refine blk_alloc ?_ _)); exact BK110.out) hb); have n1_ := Aside0.mk (below_step (by repeat (first | (with_reducible first | exact HB.out | apply below_alloc | apply pw_below_drewN | apply below_drew1 | refine below_set ?_ GE110.out) | exact HB.out)) hb); clear BK110; clear HB; have BK110 := n0_; have HB := n1_; clear n0_ n1_; (try clear hb); (try clear hb2); (try clear hk); (try clear hi); have hcz32_0 : w31.cell? ⟨gb110, 0, none⟩ = some (.int .i64 a0_0) := (blk_cell BK110.out 0).trans rfl; have hcz32_1 : w31.cell? ⟨gb110, 1, none⟩ = some (.int .i64 a0_1) := (blk_cell BK110.out 1).trans rfl; have hcz32_2 : w31.cell? ⟨gb110, 2, none⟩ = some (.int .i64 a0_2) := (blk_cell BK110.out 2).trans rfl; have hcz32_3 : w31.cell? ⟨gb110, 3, none⟩ = some (.int .u32 a0_3) := (blk_cell BK110.out 3).trans rfl; have hfz32_0 := blk_frozen BK110.out 0; have hfz32_1 := blk_frozen BK110.out 1; have hfz32_2 := blk_frozen BK110.out 2; have hfz32_3 := blk_frozen BK110.out 3) | ((with_reducible refine gate_callee (f := 157) rfl ?_); refine goesL_ (some 21) rfl rfl Try.func157 (by kernel_rfl) rfl #[.agg #[.int .i64 a0_0, .int .i64 a0_1, .int .i64 a0_2, .int .u32 a0_3]] rfl (by (try simp only [List.map_toArray, List.map_cons, List.map_nil]); first | done | rfl | (simp only [List.length_drop, List.length_take]; rfl)) ?_; (with_reducible refine (doorwardref12_jumps.calls a0_0 a0_1 a0_2 a0_3 false _ A14.out).mono ?_); rintro e w33 ⟨rfl, hb⟩; refine ⟨_, rfl, ?_⟩; have n0_ := Aside0.mk (blk_below (g := gb110) (o := .cells #[.int .i64 a0_0, .int .i64 a0_1, .int .i64 a0_2, .int .u32 a0_3] 28 (0, 0)) (by (with_reducible repeat (first | refine blk_drewN ?_ _ | refine blk_drew ?_ | refine blk_alloc ?_ _)); exact BK110.out) hb); have n1_ := Aside0.mk (below_step (by repeat (first | (with_reducible first | exact HB.out | apply below_alloc | apply pw_below_drewN | apply below_drew1 | refine below_set ?_ GE110.out) | exact HB.out)) hb); clear BK110; clear HB; have BK110 := n0_; have HB := n1_; clear n0_ n1_; (try clear hb); (try clear hb2); (try clear hk); (try clear hi)))
        go_ret
        exact ⟨by first | rfl | (simp [errW_none, errW_some] <;> rfl) | (simp [*, errW_none, errW_some] <;> rfl), by repeat (first | (with_reducible first | exact HB.out | apply below_alloc | apply pw_below_drewN | apply below_drew1 | refine below_set ?_ GE110.out) | exact HB.out)⟩
def check_returns.f (a0_0 : Int) (a0_1 : Int) (a0_2 : Int) (a0_3 : Int) : Option (Bool) := if a0_0 = 6 then (some true) else (some (a0_0 == 22))
set_option maxHeartbeats 8000000 in
set_option maxRecDepth 100000 in
theorem check_returns.calls (a0_0 : Int) (a0_1 : Int) (a0_2 : Int) (a0_3 : Int) (r : Bool) (w : World) (h : check_returns.f a0_0 a0_1 a0_2 a0_3 = some r) :
    Calls Try.prog 131 #[.agg #[.int .i64 a0_0, .int .i64 a0_1, .int .i64 a0_2, .int .u32 a0_3]] w fun e w' => e = .returned (.bool r) ∧ Below w.heap.size w w' := by
  have hu28 := Try.underlying28
  have HB := Aside0.mk (Below.refl w.heap.size w)
  have H : (if a0_0 = 6 then (some true) else (some (a0_0 == 22))) = some r := h
  clear h
  by_cases c2 : a0_0 = 6
  · rw [if_pos c2] at H
    have c2b0 : (a0_0 == 6) = true := beq_iff_eq.mpr c2
    have c2b1 : (a0_0 != 6) = false := bne_eq_false_iff_eq.mpr c2
    clear c2
    obtain rfl := Option.some.inj H
    go_enter Try.func131, Try.ntmps131
    go_wp2_with (first | ((with_reducible refine gate_dst (N := 1) rfl ?_); refine box_event ?hg (N := 1) ?hd (cs := #[.int .i64 a0_0, .int .i64 a0_1, .int .i64 a0_2, .int .u32 a0_3]) (t := 28) ?hr ?_; (case hd => rfl); (case hg => rfl); (case hr => first | (go_simp; done) | (go_simp; rfl)); intro gb113 hg w3 hbox hb; have n0_ := Aside0.mk (below_step (by repeat (first | (with_reducible first | exact HB.out | apply below_alloc | apply pw_below_drewN | apply below_drew1) | exact HB.out)) hb); have n1_ := Aside0.mk (hbox); have n2_ := Aside0.mk ((by rw [hg]; exact (below_size (by repeat (first | (with_reducible first | exact HB.out | apply below_alloc | apply pw_below_drewN | apply below_drew1) | exact HB.out))) : w.heap.size ≤ gb113)); have n3_ := Aside0.mk ((by rw [hg]; exact (below_size (by repeat (first | (with_reducible first | exact HB.out | apply below_alloc | apply pw_below_drewN | apply below_drew1) | exact HB.out))) : w.heap.size ≤ gb113)); clear HB; have HB := n0_; have BK113 := n1_; have GW113 := n2_; have GE113 := n3_; clear n0_ n1_ n2_ n3_; clear hb hbox hg; have hcz4_0 : w3.cell? ⟨gb113, 0, none⟩ = some (.int .i64 a0_0) := (blk_cell BK113.out 0).trans rfl; have hcz4_1 : w3.cell? ⟨gb113, 1, none⟩ = some (.int .i64 a0_1) := (blk_cell BK113.out 1).trans rfl; have hcz4_2 : w3.cell? ⟨gb113, 2, none⟩ = some (.int .i64 a0_2) := (blk_cell BK113.out 2).trans rfl; have hcz4_3 : w3.cell? ⟨gb113, 3, none⟩ = some (.int .u32 a0_3) := (blk_cell BK113.out 3).trans rfl; have hfz4_0 := blk_frozen BK113.out 0; have hfz4_1 := blk_frozen BK113.out 1; have hfz4_2 := blk_frozen BK113.out 2; have hfz4_3 := blk_frozen BK113.out 3))
    go_ret
    exact ⟨by first | rfl | (simp [errW_none, errW_some] <;> rfl) | (simp [*, errW_none, errW_some] <;> rfl), by repeat (first | (with_reducible first | exact HB.out | apply below_alloc | apply pw_below_drewN | apply below_drew1 | refine below_set ?_ GE113.out) | exact HB.out)⟩
  · rw [if_neg c2] at H
    have c2b0 : (a0_0 == 6) = false := beq_eq_false_iff_ne.mpr c2
    have c2b1 : (a0_0 != 6) = true := bne_iff_ne.mpr c2
    obtain rfl := Option.some.inj H
    go_enter Try.func131, Try.ntmps131
    go_wp2_with (first | ((with_reducible refine gate_dst (N := 1) rfl ?_); refine box_event ?hg (N := 1) ?hd (cs := #[.int .i64 a0_0, .int .i64 a0_1, .int .i64 a0_2, .int .u32 a0_3]) (t := 28) ?hr ?_; (case hd => rfl); (case hg => rfl); (case hr => first | (go_simp; done) | (go_simp; rfl)); intro gb113 hg w5 hbox hb; have n0_ := Aside0.mk (below_step (by repeat (first | (with_reducible first | exact HB.out | apply below_alloc | apply pw_below_drewN | apply below_drew1) | exact HB.out)) hb); have n1_ := Aside0.mk (hbox); have n2_ := Aside0.mk ((by rw [hg]; exact (below_size (by repeat (first | (with_reducible first | exact HB.out | apply below_alloc | apply pw_below_drewN | apply below_drew1) | exact HB.out))) : w.heap.size ≤ gb113)); have n3_ := Aside0.mk ((by rw [hg]; exact (below_size (by repeat (first | (with_reducible first | exact HB.out | apply below_alloc | apply pw_below_drewN | apply below_drew1) | exact HB.out))) : w.heap.size ≤ gb113)); clear HB; have HB := n0_; have BK113 := n1_; have GW113 := n2_; have GE113 := n3_; clear n0_ n1_ n2_ n3_; clear hb hbox hg; have hcz6_0 : w5.cell? ⟨gb113, 0, none⟩ = some (.int .i64 a0_0) := (blk_cell BK113.out 0).trans rfl; have hcz6_1 : w5.cell? ⟨gb113, 1, none⟩ = some (.int .i64 a0_1) := (blk_cell BK113.out 1).trans rfl; have hcz6_2 : w5.cell? ⟨gb113, 2, none⟩ = some (.int .i64 a0_2) := (blk_cell BK113.out 2).trans rfl; have hcz6_3 : w5.cell? ⟨gb113, 3, none⟩ = some (.int .u32 a0_3) := (blk_cell BK113.out 3).trans rfl; have hfz6_0 := blk_frozen BK113.out 0; have hfz6_1 := blk_frozen BK113.out 1; have hfz6_2 := blk_frozen BK113.out 2; have hfz6_3 := blk_frozen BK113.out 3))
    go_ret
    exact ⟨by first | rfl | (simp [errW_none, errW_some] <;> rfl) | (simp [*, errW_none, errW_some] <;> rfl), by repeat (first | (with_reducible first | exact HB.out | apply below_alloc | apply pw_below_drewN | apply below_drew1 | refine below_set ?_ GE113.out) | exact HB.out)⟩
def check_behind.f (a0_0 : Int) (a0_1 : Int) (a0_2 : Int) (a0_3 : Int) : Option (List Int) := (check_returns.f a0_0 a0_1 a0_2 a0_3).bind fun t115 => (if t115 = true then (some ([] : List Int)) else (if a0_0 = 5 then (some (([wrap64 ((wrap64 (a0_3)) + 1)] : List Int))) else (if (Go.bits .and .i64 a0_0 7) = 5 then (some (([wrap64 (a0_1 + 1), wrap64 (a0_2 + 1)] : List Int))) else (some (([1] : List Int))))))
set_option maxHeartbeats 8000000 in
set_option maxRecDepth 100000 in
theorem check_behind.calls (a0_0 : Int) (a0_1 : Int) (a0_2 : Int) (a0_3 : Int) (r : List Int) (w : World) (h : check_behind.f a0_0 a0_1 a0_2 a0_3 = some r) :
    Calls Try.prog 101 #[.agg #[.int .i64 a0_0, .int .i64 a0_1, .int .i64 a0_2, .int .u32 a0_3]] w fun e w' => ∃ v0_ : Value, e = .returned (v0_) ∧ Kd.R (Kd.int .i64) 3 w' w.heap.size (fun _ => True) v0_ r ∧ Below w.heap.size w w' := by
  have hu28 := Try.underlying28
  have HB := Aside0.mk (Below.refl w.heap.size w)
  have H : ((check_returns.f a0_0 a0_1 a0_2 a0_3).bind fun t115 => (if t115 = true then (some ([] : List Int)) else (if a0_0 = 5 then (some (([wrap64 ((wrap64 (a0_3)) + 1)] : List Int))) else (if (Go.bits .and .i64 a0_0 7) = 5 then (some (([wrap64 (a0_1 + 1), wrap64 (a0_2 + 1)] : List Int))) else (some (([1] : List Int))))))) = some r := h
  clear h
  replace H := Option.bind_eq_some_iff.mp H
  obtain ⟨t115, A20, H⟩ := H
  replace H : (if t115 = true then (some ([] : List Int)) else (if a0_0 = 5 then (some (([wrap64 ((wrap64 (a0_3)) + 1)] : List Int))) else (if (Go.bits .and .i64 a0_0 7) = 5 then (some (([wrap64 (a0_1 + 1), wrap64 (a0_2 + 1)] : List Int))) else (some (([1] : List Int)))))) = some r := H
  have A2 := Aside0.mk A20
  clear A20
  by_cases c3 : t115 = true
  · subst c3
    have H1 : (some ([] : List Int)) = some r := by rw [if_pos rfl] at H; exact H
    clear H
    have H := H1
    clear H1
    obtain rfl := Option.some.inj H
    go_enter Try.func101, Try.ntmps101
    go_wp2_with (first | ((with_reducible refine gate_dst (N := 1) rfl ?_); refine box_event ?hg (N := 1) ?hd (cs := #[.int .i64 a0_0, .int .i64 a0_1, .int .i64 a0_2, .int .u32 a0_3]) (t := 28) ?hr ?_; (case hd => rfl); (case hg => rfl); (case hr => first | (go_simp; done) | (go_simp; rfl)); intro gb114 hg w4 hbox hb; have n0_ := Aside0.mk (below_step (by repeat (first | (with_reducible first | exact HB.out | apply below_alloc | apply pw_below_drewN | apply below_drew1) | exact HB.out)) hb); have n1_ := Aside0.mk (hbox); have n2_ := Aside0.mk ((by rw [hg]; exact (below_size (by repeat (first | (with_reducible first | exact HB.out | apply below_alloc | apply pw_below_drewN | apply below_drew1) | exact HB.out))) : w.heap.size ≤ gb114)); have n3_ := Aside0.mk ((by rw [hg]; exact (below_size (by repeat (first | (with_reducible first | exact HB.out | apply below_alloc | apply pw_below_drewN | apply below_drew1) | exact HB.out))) : w.heap.size ≤ gb114)); clear HB; have HB := n0_; have BK114 := n1_; have GW114 := n2_; have GE114 := n3_; clear n0_ n1_ n2_ n3_; clear hb hbox hg; have hcz5_0 : w4.cell? ⟨gb114, 0, none⟩ = some (.int .i64 a0_0) := (blk_cell BK114.out 0).trans rfl; have hcz5_1 : w4.cell? ⟨gb114, 1, none⟩ = some (.int .i64 a0_1) := (blk_cell BK114.out 1).trans rfl; have hcz5_2 : w4.cell? ⟨gb114, 2, none⟩ = some (.int .i64 a0_2) := (blk_cell BK114.out 2).trans rfl; have hcz5_3 : w4.cell? ⟨gb114, 3, none⟩ = some (.int .u32 a0_3) := (blk_cell BK114.out 3).trans rfl; have hfz5_0 := blk_frozen BK114.out 0; have hfz5_1 := blk_frozen BK114.out 1; have hfz5_2 := blk_frozen BK114.out 2; have hfz5_3 := blk_frozen BK114.out 3) | ((with_reducible refine gate_callee (f := 131) rfl ?_); refine goesL_ (some 5) rfl rfl Try.func131 (by kernel_rfl) rfl #[.agg #[.int .i64 a0_0, .int .i64 a0_1, .int .i64 a0_2, .int .u32 a0_3]] rfl (by (try simp only [List.map_toArray, List.map_cons, List.map_nil]); first | done | rfl | (simp only [List.length_drop, List.length_take]; rfl)) ?_; (with_reducible refine (check_returns.calls a0_0 a0_1 a0_2 a0_3 true _ A2.out).mono ?_); rintro e w6 ⟨rfl, hb⟩; refine ⟨_, rfl, ?_⟩; have n0_ := Aside0.mk (blk_below (g := gb114) (o := .cells #[.int .i64 a0_0, .int .i64 a0_1, .int .i64 a0_2, .int .u32 a0_3] 28 (0, 0)) (by (with_reducible repeat (first | refine blk_drewN ?_ _ | refine blk_drew ?_ | refine blk_alloc ?_ _)); exact BK114.out) hb); have n1_ := Aside0.mk (below_step (by repeat (first | (with_reducible first | exact HB.out | apply below_alloc | apply pw_below_drewN | apply below_drew1 | refine below_set ?_ GE114.out) | exact HB.out)) hb); clear BK114; clear HB; have BK114 := n0_; have HB := n1_; clear n0_ n1_; (try clear hb); (try clear hb2); (try clear hk); (try clear hi)))
    go_ret
    exact ⟨_, by first | rfl | (simp [errW_none, errW_some] <;> rfl) | (simp [*, errW_none, errW_some] <;> rfl), by first | exact Kd.R_nil _ _ _ _ _ | exact Kd.N_nil _ _ _ _ _ | exact Kd.V_nil _ _ _ _ _ | exact Kd.Q_nil _ _ _ _ _ | exact Kd.S_nil _ _ _ _ _, by repeat (first | (with_reducible first | exact HB.out | apply below_alloc | apply pw_below_drewN | apply below_drew1 | refine below_set ?_ GE114.out) | exact HB.out)⟩
  · replace c3 := Bool.eq_false_iff.mpr c3
    subst c3
    have H1 : (if a0_0 = 5 then (some (([wrap64 ((wrap64 (a0_3)) + 1)] : List Int))) else (if (Go.bits .and .i64 a0_0 7) = 5 then (some (([wrap64 (a0_1 + 1), wrap64 (a0_2 + 1)] : List Int))) else (some (([1] : List Int))))) = some r := by rw [if_neg (show ¬ (false = true) by decide)] at H; exact H
    clear H
    have H := H1
    clear H1
    by_cases c7 : a0_0 = 5
    · rw [if_pos c7] at H
      have c7b0 : (a0_0 == 5) = true := beq_iff_eq.mpr c7
      have c7b1 : (a0_0 != 5) = false := bne_eq_false_iff_eq.mpr c7
      clear c7
      obtain ⟨y116, hy116⟩ : ∃ y_ : List Int, y_ = (([wrap64 ((wrap64 (a0_3)) + 1)] : List Int)) := ⟨_, rfl⟩
      replace H : (some y116) = some r := by first | (rw [hy116]; with_reducible exact H) | (have H2_ := (Option.bind_some _ _).symm.trans H; rw [hy116]; with_reducible exact H2_) | (have H2_ := (Option.bind_some _ _).symm.trans H; with_reducible exact H2_) | with_reducible exact H | (rw [hy116]; exact H) | exact H
      have Ny116 := Aside0.mk hy116
      clear hy116
      obtain rfl := Option.some.inj H
      go_enter Try.func101, Try.ntmps101
      go_wp2_with (first | ((with_reducible refine gate_dst (N := 1) rfl ?_); refine box_event ?hg (N := 1) ?hd (cs := #[.int .i64 a0_0, .int .i64 a0_1, .int .i64 a0_2, .int .u32 a0_3]) (t := 28) ?hr ?_; (case hd => rfl); (case hg => rfl); (case hr => first | (go_simp; done) | (go_simp; rfl)); intro gb114 hg w8 hbox hb; have n0_ := Aside0.mk (below_step (by repeat (first | (with_reducible first | exact HB.out | apply below_alloc | apply pw_below_drewN | apply below_drew1) | exact HB.out)) hb); have n1_ := Aside0.mk (hbox); have n2_ := Aside0.mk ((by rw [hg]; exact (below_size (by repeat (first | (with_reducible first | exact HB.out | apply below_alloc | apply pw_below_drewN | apply below_drew1) | exact HB.out))) : w.heap.size ≤ gb114)); have n3_ := Aside0.mk ((by rw [hg]; exact (below_size (by repeat (first | (with_reducible first | exact HB.out | apply below_alloc | apply pw_below_drewN | apply below_drew1) | exact HB.out))) : w.heap.size ≤ gb114)); clear HB; have HB := n0_; have BK114 := n1_; have GW114 := n2_; have GE114 := n3_; clear n0_ n1_ n2_ n3_; clear hb hbox hg; have hcz9_0 : w8.cell? ⟨gb114, 0, none⟩ = some (.int .i64 a0_0) := (blk_cell BK114.out 0).trans rfl; have hcz9_1 : w8.cell? ⟨gb114, 1, none⟩ = some (.int .i64 a0_1) := (blk_cell BK114.out 1).trans rfl; have hcz9_2 : w8.cell? ⟨gb114, 2, none⟩ = some (.int .i64 a0_2) := (blk_cell BK114.out 2).trans rfl; have hcz9_3 : w8.cell? ⟨gb114, 3, none⟩ = some (.int .u32 a0_3) := (blk_cell BK114.out 3).trans rfl; have hfz9_0 := blk_frozen BK114.out 0; have hfz9_1 := blk_frozen BK114.out 1; have hfz9_2 := blk_frozen BK114.out 2; have hfz9_3 := blk_frozen BK114.out 3) | ((with_reducible refine gate_callee (f := 131) rfl ?_); refine goesL_ (some 5) rfl rfl Try.func131 (by kernel_rfl) rfl #[.agg #[.int .i64 a0_0, .int .i64 a0_1, .int .i64 a0_2, .int .u32 a0_3]] rfl (by (try simp only [List.map_toArray, List.map_cons, List.map_nil]); first | done | rfl | (simp only [List.length_drop, List.length_take]; rfl)) ?_; (with_reducible refine (check_returns.calls a0_0 a0_1 a0_2 a0_3 false _ A2.out).mono ?_); rintro e w10 ⟨rfl, hb⟩; refine ⟨_, rfl, ?_⟩; have n0_ := Aside0.mk (blk_below (g := gb114) (o := .cells #[.int .i64 a0_0, .int .i64 a0_1, .int .i64 a0_2, .int .u32 a0_3] 28 (0, 0)) (by (with_reducible repeat (first | refine blk_drewN ?_ _ | refine blk_drew ?_ | refine blk_alloc ?_ _)); exact BK114.out) hb); have n1_ := Aside0.mk (below_step (by repeat (first | (with_reducible first | exact HB.out | apply below_alloc | apply pw_below_drewN | apply below_drew1 | refine below_set ?_ GE114.out) | exact HB.out)) hb); clear BK114; clear HB; have BK114 := n0_; have HB := n1_; clear n0_ n1_; (try clear hb); (try clear hb2); (try clear hk); (try clear hi); have hcz11_0 : w10.cell? ⟨gb114, 0, none⟩ = some (.int .i64 a0_0) := (blk_cell BK114.out 0).trans rfl; have hcz11_1 : w10.cell? ⟨gb114, 1, none⟩ = some (.int .i64 a0_1) := (blk_cell BK114.out 1).trans rfl; have hcz11_2 : w10.cell? ⟨gb114, 2, none⟩ = some (.int .i64 a0_2) := (blk_cell BK114.out 2).trans rfl; have hcz11_3 : w10.cell? ⟨gb114, 3, none⟩ = some (.int .u32 a0_3) := (blk_cell BK114.out 3).trans rfl; have hfz11_0 := blk_frozen BK114.out 0; have hfz11_1 := blk_frozen BK114.out 1; have hfz11_2 := blk_frozen BK114.out 2; have hfz11_3 := blk_frozen BK114.out 3) | ((with_reducible refine gate_dst (N := 14) rfl ?_); refine Kd.R_lit (Kd.int .i64) _ 3 ?hg (N := 14) ?hd (xs := ([wrap64 ((wrap64 (a0_3)) + 1)] : List Int)) (inner := [.int .i64 (wrap64 ((wrap64 (a0_3)) + 1))]) (ok := fun _ => True) (okp := fun _ => True) ?hr ?hp (fun _ hk => hk) trivial (Below.refl _ _) (Nat.le_refl _) (by simp) ?_; (case hd => rfl); (case hg => rfl); (case hr => first | (go_simp; done) | (go_simp; rfl)); (case hp => exact (Reps.one (show Kd.M (Kd.int .i64) _ _ _ (wrap64 ((wrap64 (a0_3)) + 1)) [.int .i64 (wrap64 ((wrap64 (a0_3)) + 1))] from rfl) (Reps.none _ _))); intro v117 w12 ho13 hb hg_ hnew_; clear hg_ hnew_; (first | rw [← Ny116.out] at ho13 | (simp only [Int.reduceToNat] at ho13; rw [← Ny116.out] at ho13)); have n0_ := Aside0.mk (Kd.R_lower ho13 (below_size (by repeat (first | (with_reducible first | exact HB.out | apply below_alloc | apply pw_below_drewN | apply below_drew1 | refine below_set ?_ GE114.out) | exact HB.out)))); have n1_ := Aside0.mk (blk_below (g := gb114) (o := .cells #[.int .i64 a0_0, .int .i64 a0_1, .int .i64 a0_2, .int .u32 a0_3] 28 (0, 0)) (by (with_reducible repeat (first | refine blk_drewN ?_ _ | refine blk_drew ?_ | refine blk_alloc ?_ _)); exact BK114.out) hb); have n2_ := Aside0.mk (below_step (by repeat (first | (with_reducible first | exact HB.out | apply below_alloc | apply pw_below_drewN | apply below_drew1 | refine below_set ?_ GE114.out) | exact HB.out)) hb); clear BK114; clear HB; have HO118 := n0_; have BK114 := n1_; have HB := n2_; clear n0_ n1_ n2_; clear hb ho13))
      go_ret
      exact ⟨_, by first | rfl | (simp [errW_none, errW_some] <;> rfl) | (simp [*, errW_none, errW_some] <;> rfl), by (with_reducible repeat (first | apply Kd.R_alloc | apply Kd.R_drewN | apply Kd.R_drew)); exact HO118.out, by repeat (first | (with_reducible first | exact HB.out | apply below_alloc | apply pw_below_drewN | apply below_drew1 | refine below_set ?_ GE114.out) | exact HB.out)⟩
    · rw [if_neg c7] at H
      have c7b0 : (a0_0 == 5) = false := beq_eq_false_iff_ne.mpr c7
      have c7b1 : (a0_0 != 5) = true := bne_iff_ne.mpr c7
      by_cases c14 : (Go.bits .and .i64 a0_0 7) = 5
      · rw [if_pos c14] at H
        have c14b0 : ((Go.bits .and .i64 a0_0 7) == 5) = true := beq_iff_eq.mpr c14
        have c14b1 : ((Go.bits .and .i64 a0_0 7) != 5) = false := bne_eq_false_iff_eq.mpr c14
        clear c14
        obtain ⟨y119, hy119⟩ : ∃ y_ : List Int, y_ = (([wrap64 (a0_1 + 1), wrap64 (a0_2 + 1)] : List Int)) := ⟨_, rfl⟩
        replace H : (some y119) = some r := by first | (rw [hy119]; with_reducible exact H) | (have H2_ := (Option.bind_some _ _).symm.trans H; rw [hy119]; with_reducible exact H2_) | (have H2_ := (Option.bind_some _ _).symm.trans H; with_reducible exact H2_) | with_reducible exact H | (rw [hy119]; exact H) | exact H
        have Ny119 := Aside0.mk hy119
        clear hy119
        obtain rfl := Option.some.inj H
        go_enter Try.func101, Try.ntmps101
        go_wp2_with (first | ((with_reducible refine gate_dst (N := 1) rfl ?_); refine box_event ?hg (N := 1) ?hd (cs := #[.int .i64 a0_0, .int .i64 a0_1, .int .i64 a0_2, .int .u32 a0_3]) (t := 28) ?hr ?_; (case hd => rfl); (case hg => rfl); (case hr => first | (go_simp; done) | (go_simp; rfl)); intro gb114 hg w15 hbox hb; have n0_ := Aside0.mk (below_step (by repeat (first | (with_reducible first | exact HB.out | apply below_alloc | apply pw_below_drewN | apply below_drew1) | exact HB.out)) hb); have n1_ := Aside0.mk (hbox); have n2_ := Aside0.mk ((by rw [hg]; exact (below_size (by repeat (first | (with_reducible first | exact HB.out | apply below_alloc | apply pw_below_drewN | apply below_drew1) | exact HB.out))) : w.heap.size ≤ gb114)); have n3_ := Aside0.mk ((by rw [hg]; exact (below_size (by repeat (first | (with_reducible first | exact HB.out | apply below_alloc | apply pw_below_drewN | apply below_drew1) | exact HB.out))) : w.heap.size ≤ gb114)); clear HB; have HB := n0_; have BK114 := n1_; have GW114 := n2_; have GE114 := n3_; clear n0_ n1_ n2_ n3_; clear hb hbox hg; have hcz16_0 : w15.cell? ⟨gb114, 0, none⟩ = some (.int .i64 a0_0) := (blk_cell BK114.out 0).trans rfl; have hcz16_1 : w15.cell? ⟨gb114, 1, none⟩ = some (.int .i64 a0_1) := (blk_cell BK114.out 1).trans rfl; have hcz16_2 : w15.cell? ⟨gb114, 2, none⟩ = some (.int .i64 a0_2) := (blk_cell BK114.out 2).trans rfl; have hcz16_3 : w15.cell? ⟨gb114, 3, none⟩ = some (.int .u32 a0_3) := (blk_cell BK114.out 3).trans rfl; have hfz16_0 := blk_frozen BK114.out 0; have hfz16_1 := blk_frozen BK114.out 1; have hfz16_2 := blk_frozen BK114.out 2; have hfz16_3 := blk_frozen BK114.out 3) | ((with_reducible refine gate_callee (f := 131) rfl ?_); refine goesL_ (some 5) rfl rfl Try.func131 (by kernel_rfl) rfl #[.agg #[.int .i64 a0_0, .int .i64 a0_1, .int .i64 a0_2, .int .u32 a0_3]] rfl (by (try simp only [List.map_toArray, List.map_cons, List.map_nil]); first | done | rfl | (simp only [List.length_drop, List.length_take]; rfl)) ?_; (with_reducible refine (check_returns.calls a0_0 a0_1 a0_2 a0_3 false _ A2.out).mono ?_); rintro e w17 ⟨rfl, hb⟩; refine ⟨_, rfl, ?_⟩; have n0_ := Aside0.mk (blk_below (g := gb114) (o := .cells #[.int .i64 a0_0, .int .i64 a0_1, .int .i64 a0_2, .int .u32 a0_3] 28 (0, 0)) (by (with_reducible repeat (first | refine blk_drewN ?_ _ | refine blk_drew ?_ | refine blk_alloc ?_ _)); exact BK114.out) hb); have n1_ := Aside0.mk (below_step (by repeat (first | (with_reducible first | exact HB.out | apply below_alloc | apply pw_below_drewN | apply below_drew1 | refine below_set ?_ GE114.out) | exact HB.out)) hb); clear BK114; clear HB; have BK114 := n0_; have HB := n1_; clear n0_ n1_; (try clear hb); (try clear hb2); (try clear hk); (try clear hi); have hcz18_0 : w17.cell? ⟨gb114, 0, none⟩ = some (.int .i64 a0_0) := (blk_cell BK114.out 0).trans rfl; have hcz18_1 : w17.cell? ⟨gb114, 1, none⟩ = some (.int .i64 a0_1) := (blk_cell BK114.out 1).trans rfl; have hcz18_2 : w17.cell? ⟨gb114, 2, none⟩ = some (.int .i64 a0_2) := (blk_cell BK114.out 2).trans rfl; have hcz18_3 : w17.cell? ⟨gb114, 3, none⟩ = some (.int .u32 a0_3) := (blk_cell BK114.out 3).trans rfl; have hfz18_0 := blk_frozen BK114.out 0; have hfz18_1 := blk_frozen BK114.out 1; have hfz18_2 := blk_frozen BK114.out 2; have hfz18_3 := blk_frozen BK114.out 3) | ((with_reducible refine gate_dst (N := 26) rfl ?_); refine Kd.R_lit (Kd.int .i64) _ 3 ?hg (N := 26) ?hd (xs := ([wrap64 (a0_1 + 1), wrap64 (a0_2 + 1)] : List Int)) (inner := [.int .i64 (wrap64 (a0_1 + 1)), .int .i64 (wrap64 (a0_2 + 1))]) (ok := fun _ => True) (okp := fun _ => True) ?hr ?hp (fun _ hk => hk) trivial (Below.refl _ _) (Nat.le_refl _) (by simp) ?_; (case hd => rfl); (case hg => rfl); (case hr => first | (go_simp; done) | (go_simp; rfl)); (case hp => exact (Reps.one (show Kd.M (Kd.int .i64) _ _ _ (wrap64 (a0_1 + 1)) [.int .i64 (wrap64 (a0_1 + 1))] from rfl) (Reps.one (show Kd.M (Kd.int .i64) _ _ _ (wrap64 (a0_2 + 1)) [.int .i64 (wrap64 (a0_2 + 1))] from rfl) (Reps.none _ _)))); intro v120 w19 ho20 hb hg_ hnew_; clear hg_ hnew_; (first | rw [← Ny119.out] at ho20 | (simp only [Int.reduceToNat] at ho20; rw [← Ny119.out] at ho20)); have n0_ := Aside0.mk (Kd.R_lower ho20 (below_size (by repeat (first | (with_reducible first | exact HB.out | apply below_alloc | apply pw_below_drewN | apply below_drew1 | refine below_set ?_ GE114.out) | exact HB.out)))); have n1_ := Aside0.mk (blk_below (g := gb114) (o := .cells #[.int .i64 a0_0, .int .i64 a0_1, .int .i64 a0_2, .int .u32 a0_3] 28 (0, 0)) (by (with_reducible repeat (first | refine blk_drewN ?_ _ | refine blk_drew ?_ | refine blk_alloc ?_ _)); exact BK114.out) hb); have n2_ := Aside0.mk (below_step (by repeat (first | (with_reducible first | exact HB.out | apply below_alloc | apply pw_below_drewN | apply below_drew1 | refine below_set ?_ GE114.out) | exact HB.out)) hb); clear BK114; clear HB; have HO121 := n0_; have BK114 := n1_; have HB := n2_; clear n0_ n1_ n2_; clear hb ho20))
        go_ret
        exact ⟨_, by first | rfl | (simp [errW_none, errW_some] <;> rfl) | (simp [*, errW_none, errW_some] <;> rfl), by (with_reducible repeat (first | apply Kd.R_alloc | apply Kd.R_drewN | apply Kd.R_drew)); exact HO121.out, by repeat (first | (with_reducible first | exact HB.out | apply below_alloc | apply pw_below_drewN | apply below_drew1 | refine below_set ?_ GE114.out) | exact HB.out)⟩
      · rw [if_neg c14] at H
        have c14b0 : ((Go.bits .and .i64 a0_0 7) == 5) = false := beq_eq_false_iff_ne.mpr c14
        have c14b1 : ((Go.bits .and .i64 a0_0 7) != 5) = true := bne_iff_ne.mpr c14
        obtain ⟨y122, hy122⟩ : ∃ y_ : List Int, y_ = (([1] : List Int)) := ⟨_, rfl⟩
        replace H : (some y122) = some r := by first | (rw [hy122]; with_reducible exact H) | (have H2_ := (Option.bind_some _ _).symm.trans H; rw [hy122]; with_reducible exact H2_) | (have H2_ := (Option.bind_some _ _).symm.trans H; with_reducible exact H2_) | with_reducible exact H | (rw [hy122]; exact H) | exact H
        have Ny122 := Aside0.mk hy122
        clear hy122
        obtain rfl := Option.some.inj H
        go_enter Try.func101, Try.ntmps101
        go_wp2_with (first | ((with_reducible refine gate_dst (N := 1) rfl ?_); refine box_event ?hg (N := 1) ?hd (cs := #[.int .i64 a0_0, .int .i64 a0_1, .int .i64 a0_2, .int .u32 a0_3]) (t := 28) ?hr ?_; (case hd => rfl); (case hg => rfl); (case hr => first | (go_simp; done) | (go_simp; rfl)); intro gb114 hg w21 hbox hb; have n0_ := Aside0.mk (below_step (by repeat (first | (with_reducible first | exact HB.out | apply below_alloc | apply pw_below_drewN | apply below_drew1) | exact HB.out)) hb); have n1_ := Aside0.mk (hbox); have n2_ := Aside0.mk ((by rw [hg]; exact (below_size (by repeat (first | (with_reducible first | exact HB.out | apply below_alloc | apply pw_below_drewN | apply below_drew1) | exact HB.out))) : w.heap.size ≤ gb114)); have n3_ := Aside0.mk ((by rw [hg]; exact (below_size (by repeat (first | (with_reducible first | exact HB.out | apply below_alloc | apply pw_below_drewN | apply below_drew1) | exact HB.out))) : w.heap.size ≤ gb114)); clear HB; have HB := n0_; have BK114 := n1_; have GW114 := n2_; have GE114 := n3_; clear n0_ n1_ n2_ n3_; clear hb hbox hg; have hcz22_0 : w21.cell? ⟨gb114, 0, none⟩ = some (.int .i64 a0_0) := (blk_cell BK114.out 0).trans rfl; have hcz22_1 : w21.cell? ⟨gb114, 1, none⟩ = some (.int .i64 a0_1) := (blk_cell BK114.out 1).trans rfl; have hcz22_2 : w21.cell? ⟨gb114, 2, none⟩ = some (.int .i64 a0_2) := (blk_cell BK114.out 2).trans rfl; have hcz22_3 : w21.cell? ⟨gb114, 3, none⟩ = some (.int .u32 a0_3) := (blk_cell BK114.out 3).trans rfl; have hfz22_0 := blk_frozen BK114.out 0; have hfz22_1 := blk_frozen BK114.out 1; have hfz22_2 := blk_frozen BK114.out 2; have hfz22_3 := blk_frozen BK114.out 3) | ((with_reducible refine gate_callee (f := 131) rfl ?_); refine goesL_ (some 5) rfl rfl Try.func131 (by kernel_rfl) rfl #[.agg #[.int .i64 a0_0, .int .i64 a0_1, .int .i64 a0_2, .int .u32 a0_3]] rfl (by (try simp only [List.map_toArray, List.map_cons, List.map_nil]); first | done | rfl | (simp only [List.length_drop, List.length_take]; rfl)) ?_; (with_reducible refine (check_returns.calls a0_0 a0_1 a0_2 a0_3 false _ A2.out).mono ?_); rintro e w23 ⟨rfl, hb⟩; refine ⟨_, rfl, ?_⟩; have n0_ := Aside0.mk (blk_below (g := gb114) (o := .cells #[.int .i64 a0_0, .int .i64 a0_1, .int .i64 a0_2, .int .u32 a0_3] 28 (0, 0)) (by (with_reducible repeat (first | refine blk_drewN ?_ _ | refine blk_drew ?_ | refine blk_alloc ?_ _)); exact BK114.out) hb); have n1_ := Aside0.mk (below_step (by repeat (first | (with_reducible first | exact HB.out | apply below_alloc | apply pw_below_drewN | apply below_drew1 | refine below_set ?_ GE114.out) | exact HB.out)) hb); clear BK114; clear HB; have BK114 := n0_; have HB := n1_; clear n0_ n1_; (try clear hb); (try clear hb2); (try clear hk); (try clear hi); have hcz24_0 : w23.cell? ⟨gb114, 0, none⟩ = some (.int .i64 a0_0) := (blk_cell BK114.out 0).trans rfl; have hcz24_1 : w23.cell? ⟨gb114, 1, none⟩ = some (.int .i64 a0_1) := (blk_cell BK114.out 1).trans rfl; have hcz24_2 : w23.cell? ⟨gb114, 2, none⟩ = some (.int .i64 a0_2) := (blk_cell BK114.out 2).trans rfl; have hcz24_3 : w23.cell? ⟨gb114, 3, none⟩ = some (.int .u32 a0_3) := (blk_cell BK114.out 3).trans rfl; have hfz24_0 := blk_frozen BK114.out 0; have hfz24_1 := blk_frozen BK114.out 1; have hfz24_2 := blk_frozen BK114.out 2; have hfz24_3 := blk_frozen BK114.out 3) | ((with_reducible refine gate_dst (N := 27) rfl ?_); refine Kd.R_lit (Kd.int .i64) _ 3 ?hg (N := 27) ?hd (xs := ([1] : List Int)) (inner := [.int .i64 1]) (ok := fun _ => True) (okp := fun _ => True) ?hr ?hp (fun _ hk => hk) trivial (Below.refl _ _) (Nat.le_refl _) (by simp) ?_; (case hd => rfl); (case hg => rfl); (case hr => first | (go_simp; done) | (go_simp; rfl)); (case hp => exact (Reps.one (show Kd.M (Kd.int .i64) _ _ _ 1 [.int .i64 1] from rfl) (Reps.none _ _))); intro v123 w25 ho26 hb hg_ hnew_; clear hg_ hnew_; (first | rw [← Ny122.out] at ho26 | (simp only [Int.reduceToNat] at ho26; rw [← Ny122.out] at ho26)); have n0_ := Aside0.mk (Kd.R_lower ho26 (below_size (by repeat (first | (with_reducible first | exact HB.out | apply below_alloc | apply pw_below_drewN | apply below_drew1 | refine below_set ?_ GE114.out) | exact HB.out)))); have n1_ := Aside0.mk (blk_below (g := gb114) (o := .cells #[.int .i64 a0_0, .int .i64 a0_1, .int .i64 a0_2, .int .u32 a0_3] 28 (0, 0)) (by (with_reducible repeat (first | refine blk_drewN ?_ _ | refine blk_drew ?_ | refine blk_alloc ?_ _)); exact BK114.out) hb); have n2_ := Aside0.mk (below_step (by repeat (first | (with_reducible first | exact HB.out | apply below_alloc | apply pw_below_drewN | apply below_drew1 | refine below_set ?_ GE114.out) | exact HB.out)) hb); clear BK114; clear HB; have HO124 := n0_; have BK114 := n1_; have HB := n2_; clear n0_ n1_ n2_; clear hb ho26))
        go_ret
        exact ⟨_, by first | rfl | (simp [errW_none, errW_some] <;> rfl) | (simp [*, errW_none, errW_some] <;> rfl), by (with_reducible repeat (first | apply Kd.R_alloc | apply Kd.R_drewN | apply Kd.R_drew)); exact HO124.out, by repeat (first | (with_reducible first | exact HB.out | apply below_alloc | apply pw_below_drewN | apply below_drew1 | refine below_set ?_ GE114.out) | exact HB.out)⟩
def doorwardlaw12_few.f (l0 : List (S28)) : Option ((List (S28))) := if (l0.length : Int) > 60 then (if (l0.length : Int) ≤ 4096 then (if 60 ≤ (l0.length : Int) then (some (l0.take 60)) else (none)) else (if 0 ≤ (mn (l0.length : Int) 4100) then (if (mn (l0.length : Int) 4100) ≤ (l0.length : Int) then (some (l0.take ((mn (l0.length : Int) 4100) : Int).toNat)) else (none)) else (none))) else (if 0 ≤ (mn (l0.length : Int) 4100) then (if (mn (l0.length : Int) 4100) ≤ (l0.length : Int) then (some (l0.take ((mn (l0.length : Int) 4100) : Int).toNat)) else (none)) else (none))
set_option maxHeartbeats 8000000 in
set_option maxRecDepth 100000 in
theorem doorwardlaw12_few.calls (P0_ : Nat → Prop) (A0 : Option Addr) (c0 : Nat) (l0 : List (S28)) (r : List (S28)) (w : World) (hs0 : Kd.V k28 28 w w.heap.size (fun k_ => P0_ k_) (.slice A0 l0.length c0) l0) (h : doorwardlaw12_few.f l0 = some r) :
    Calls Try.prog 53 #[.slice A0 l0.length c0] w fun e w' => ∃ v0_ : Value, e = .returned (v0_) ∧ Kd.V k28 28 w' w.heap.size (fun k_ => (P0_ k_ ∨ w.heap.size ≤ k_)) v0_ r ∧ Below w.heap.size w w' := by
  have HO0 := Aside0.mk (show Kd.V k28 28 w w.heap.size (fun k_ => (P0_ k_ ∨ w.heap.size ≤ k_)) (.slice A0 l0.length c0) l0 from Kd.V_mono hs0 (fun k_ hk => .inl hk))
  have HB := Aside0.mk (Below.refl w.heap.size w)
  have H : (if (l0.length : Int) > 60 then (if (l0.length : Int) ≤ 4096 then (if 60 ≤ (l0.length : Int) then (some (l0.take 60)) else (none)) else (if 0 ≤ (mn (l0.length : Int) 4100) then (if (mn (l0.length : Int) 4100) ≤ (l0.length : Int) then (some (l0.take ((mn (l0.length : Int) 4100) : Int).toNat)) else (none)) else (none))) else (if 0 ≤ (mn (l0.length : Int) 4100) then (if (mn (l0.length : Int) 4100) ≤ (l0.length : Int) then (some (l0.take ((mn (l0.length : Int) 4100) : Int).toNat)) else (none)) else (none))) = some r := h
  clear h
  by_cases c2 : (l0.length : Int) > 60
  · rw [if_pos c2] at H
    have c2b0 : decide (60 < (l0.length : Int)) = true := decide_eq_true c2
    have c2b1 : decide (60 < l0.length) = true := decide_eq_true (by omega)
    clear c2
    by_cases c3 : (l0.length : Int) ≤ 4096
    · rw [if_pos c3] at H
      have c3b0 : decide ((l0.length : Int) ≤ 4096) = true := decide_eq_true c3
      have c3b1 : decide (l0.length ≤ 4096) = true := decide_eq_true (by omega)
      clear c3
      by_cases c4 : 60 ≤ (l0.length : Int)
      · rw [if_pos c4] at H
        have c4b0 := eq_true c4
        have c4b1 : decide (60 ≤ (l0.length : Int)) = true := decide_eq_true c4
        clear c4
        obtain ⟨y125, hy125⟩ : ∃ y_ : List (S28), y_ = (l0.take 60) := ⟨_, rfl⟩
        replace H : (some y125) = some r := by first | (rw [hy125]; with_reducible exact H) | (have H2_ := (Option.bind_some _ _).symm.trans H; rw [hy125]; with_reducible exact H2_) | (have H2_ := (Option.bind_some _ _).symm.trans H; with_reducible exact H2_) | with_reducible exact H | (rw [hy125]; exact H) | exact H
        have Ny125 := Aside0.mk hy125
        clear hy125
        obtain rfl := Option.some.inj H
        have q5 : (60 : Int) ≤ ((l0.length : Int) : Int) := of_decide_eq_true (by first | (with_reducible assumption) | assumption)
        obtain ⟨i05, hi05, _, hsz5, _⟩ := info_parts info28
        have hroom5 : l0.length ≤ c0 := (Kd.V_reads' HO0.out).2.1
        have hC5 : Kd.F k28 _ _ A0 l0.length l0 := (Kd.V_at (base := w.heap.size) HO0.out).2.2
        have hcut5 := cut_to (P := Try.prog) 34 28 .i64 Try.underlying34 hi05 A0 l0.length c0 60 (by omega) q5 hroom5
        have hr5 := Kd.F_take (m := 60) hC5 (by omega)
        have hy5 : y125.length = (60 : Int).toNat := (by rw [Ny125.out, List.length_take]; omega)
        rw [← Ny125.out] at hr5
        rw [← hy5] at hcut5
        have HO129 := Aside0.mk (show Kd.V k28 28 _ w.heap.size _ (.slice A0 y125.length c0) y125 from Kd.V_mk (by omega) hr5)
        have HC129 := Aside0.mk (show y125.length ≤ c0 from by omega)
        clear hr5 hC5 hroom5 hi05 hsz5
        have KY5 := Aside0.mk hy5
        clear hy5
        replace q5 := eq_true q5
        go_enter Try.func53, Try.ntmps53
        go_wp2
        go_ret
        exact ⟨_, by first | rfl | (simp [errW_none, errW_some] <;> rfl) | (simp [*, errW_none, errW_some] <;> rfl), by (with_reducible repeat (first | apply Kd.V_alloc | apply Kd.V_drewN | apply Kd.V_drew)); exact HO129.out, by repeat (first | (with_reducible first | exact HB.out | apply below_alloc | apply pw_below_drewN | apply below_drew1) | exact HB.out)⟩
      · rw [if_neg c4] at H
        exact absurd H (by simp)
    · rw [if_neg c3] at H
      have c3b0 : decide ((l0.length : Int) ≤ 4096) = false := decide_eq_false c3
      have c3b1 : decide (l0.length ≤ 4096) = false := decide_eq_false (by omega)
      clear c3
      obtain ⟨ji6, hji6⟩ : ∃ j_ : Int, (mn (l0.length : Int) 4100) = j_ := ⟨_, rfl⟩
      replace H : (if 0 ≤ (ji6) then (if (ji6) ≤ (l0.length : Int) then (some (l0.take ((ji6) : Int).toNat)) else (none)) else (none)) = some r := by first | (rw [hji6] at H; exact H) | (simp only [hji6] at H ⊢; exact H)
      (try (have hji6h : ji6 ≤ 4100 := by (rw [← hji6]; unfold mn; (repeat' split) <;> omega)))
      (try (have hji6g : ji6 ≤ 64 := by omega))
      (try (have hji6l : 0 ≤ ji6 := by (rw [← hji6]; unfold mn; (repeat' split) <;> omega)))
      (try (have hji6m : 0 ≤ ji6 := by omega))
      have hji6_ : (if 4100 < (l0.length : Int) then 4100 else (l0.length : Int)) = ji6 := hji6
      by_cases c7 : 0 ≤ (ji6)
      · rw [if_pos c7] at H
        have c7b0 := eq_true c7
        have c7b1 : decide (0 ≤ (ji6)) = true := decide_eq_true c7
        clear c7
        by_cases c8 : (ji6) ≤ (l0.length : Int)
        · rw [if_pos c8] at H
          have c8b0 := eq_true c8
          have c8b1 : decide ((ji6) ≤ (l0.length : Int)) = true := decide_eq_true c8
          clear c8
          obtain ⟨y130, hy130⟩ : ∃ y_ : List (S28), y_ = (l0.take ((ji6) : Int).toNat) := ⟨_, rfl⟩
          replace H : (some y130) = some r := by first | (rw [hy130]; with_reducible exact H) | (have H2_ := (Option.bind_some _ _).symm.trans H; rw [hy130]; with_reducible exact H2_) | (have H2_ := (Option.bind_some _ _).symm.trans H; with_reducible exact H2_) | with_reducible exact H | (rw [hy130]; exact H) | exact H
          have Ny130 := Aside0.mk hy130
          clear hy130
          obtain rfl := Option.some.inj H
          have q9 : ((ji6) : Int) ≤ ((l0.length : Int) : Int) := of_decide_eq_true (by first | (with_reducible assumption) | assumption)
          obtain ⟨i09, hi09, _, hsz9, _⟩ := info_parts info28
          have hroom9 : l0.length ≤ c0 := (Kd.V_reads' HO0.out).2.1
          have hC9 : Kd.F k28 _ _ A0 l0.length l0 := (Kd.V_at (base := w.heap.size) HO0.out).2.2
          have hcut9 := cut_to (P := Try.prog) 34 28 .i64 Try.underlying34 hi09 A0 l0.length c0 (ji6) (of_decide_eq_true (by first | (with_reducible assumption) | assumption)) q9 hroom9
          have hr9 := Kd.F_take (m := ((ji6) : Int).toNat) hC9 (by omega)
          have hy9 : y130.length = ((ji6) : Int).toNat := (by rw [Ny130.out, List.length_take]; omega)
          rw [← Ny130.out] at hr9
          rw [← hy9] at hcut9
          have HO134 := Aside0.mk (show Kd.V k28 28 _ w.heap.size _ (.slice A0 y130.length c0) y130 from Kd.V_mk (by omega) hr9)
          have HC134 := Aside0.mk (show y130.length ≤ c0 from by omega)
          clear hr9 hC9 hroom9 hi09 hsz9
          have KY9 := Aside0.mk hy9
          clear hy9
          replace q9 := eq_true q9
          go_enter Try.func53, Try.ntmps53
          go_wp2
          go_ret
          exact ⟨_, by first | rfl | (simp [errW_none, errW_some] <;> rfl) | (simp only [← hji6]; first | rfl | (simp [errW_none, errW_some] <;> rfl)) | (simp [*, errW_none, errW_some] <;> rfl), by (with_reducible repeat (first | apply Kd.V_alloc | apply Kd.V_drewN | apply Kd.V_drew)); exact HO134.out, by repeat (first | (with_reducible first | exact HB.out | apply below_alloc | apply pw_below_drewN | apply below_drew1) | exact HB.out)⟩
        · rw [if_neg c8] at H
          exact absurd H (by simp)
      · rw [if_neg c7] at H
        exact absurd H (by simp)
  · rw [if_neg c2] at H
    have c2b0 : decide (60 < (l0.length : Int)) = false := decide_eq_false c2
    have c2b1 : decide (60 < l0.length) = false := decide_eq_false (by omega)
    clear c2
    obtain ⟨ji10, hji10⟩ : ∃ j_ : Int, (mn (l0.length : Int) 4100) = j_ := ⟨_, rfl⟩
    replace H : (if 0 ≤ (ji10) then (if (ji10) ≤ (l0.length : Int) then (some (l0.take ((ji10) : Int).toNat)) else (none)) else (none)) = some r := by first | (rw [hji10] at H; exact H) | (simp only [hji10] at H ⊢; exact H)
    (try (have hji10h : ji10 ≤ 4100 := by (rw [← hji10]; unfold mn; (repeat' split) <;> omega)))
    (try (have hji10g : ji10 ≤ 64 := by omega))
    (try (have hji10l : 0 ≤ ji10 := by (rw [← hji10]; unfold mn; (repeat' split) <;> omega)))
    (try (have hji10m : 0 ≤ ji10 := by omega))
    have hji10_ : (if 4100 < (l0.length : Int) then 4100 else (l0.length : Int)) = ji10 := hji10
    by_cases c11 : 0 ≤ (ji10)
    · rw [if_pos c11] at H
      have c11b0 := eq_true c11
      have c11b1 : decide (0 ≤ (ji10)) = true := decide_eq_true c11
      clear c11
      by_cases c12 : (ji10) ≤ (l0.length : Int)
      · rw [if_pos c12] at H
        have c12b0 := eq_true c12
        have c12b1 : decide ((ji10) ≤ (l0.length : Int)) = true := decide_eq_true c12
        clear c12
        obtain ⟨y135, hy135⟩ : ∃ y_ : List (S28), y_ = (l0.take ((ji10) : Int).toNat) := ⟨_, rfl⟩
        replace H : (some y135) = some r := by first | (rw [hy135]; with_reducible exact H) | (have H2_ := (Option.bind_some _ _).symm.trans H; rw [hy135]; with_reducible exact H2_) | (have H2_ := (Option.bind_some _ _).symm.trans H; with_reducible exact H2_) | with_reducible exact H | (rw [hy135]; exact H) | exact H
        have Ny135 := Aside0.mk hy135
        clear hy135
        obtain rfl := Option.some.inj H
        have q13 : ((ji10) : Int) ≤ ((l0.length : Int) : Int) := of_decide_eq_true (by first | (with_reducible assumption) | assumption)
        obtain ⟨i013, hi013, _, hsz13, _⟩ := info_parts info28
        have hroom13 : l0.length ≤ c0 := (Kd.V_reads' HO0.out).2.1
        have hC13 : Kd.F k28 _ _ A0 l0.length l0 := (Kd.V_at (base := w.heap.size) HO0.out).2.2
        have hcut13 := cut_to (P := Try.prog) 34 28 .i64 Try.underlying34 hi013 A0 l0.length c0 (ji10) (of_decide_eq_true (by first | (with_reducible assumption) | assumption)) q13 hroom13
        have hr13 := Kd.F_take (m := ((ji10) : Int).toNat) hC13 (by omega)
        have hy13 : y135.length = ((ji10) : Int).toNat := (by rw [Ny135.out, List.length_take]; omega)
        rw [← Ny135.out] at hr13
        rw [← hy13] at hcut13
        have HO139 := Aside0.mk (show Kd.V k28 28 _ w.heap.size _ (.slice A0 y135.length c0) y135 from Kd.V_mk (by omega) hr13)
        have HC139 := Aside0.mk (show y135.length ≤ c0 from by omega)
        clear hr13 hC13 hroom13 hi013 hsz13
        have KY13 := Aside0.mk hy13
        clear hy13
        replace q13 := eq_true q13
        go_enter Try.func53, Try.ntmps53
        go_wp2
        go_ret
        exact ⟨_, by first | rfl | (simp [errW_none, errW_some] <;> rfl) | (simp only [← hji10]; first | rfl | (simp [errW_none, errW_some] <;> rfl)) | (simp [*, errW_none, errW_some] <;> rfl), by (with_reducible repeat (first | apply Kd.V_alloc | apply Kd.V_drewN | apply Kd.V_drew)); exact HO139.out, by repeat (first | (with_reducible first | exact HB.out | apply below_alloc | apply pw_below_drewN | apply below_drew1) | exact HB.out)⟩
      · rw [if_neg c12] at H
        exact absurd H (by simp)
    · rw [if_neg c11] at H
      exact absurd H (by simp)
end Go.Proofs.Ytefkhcijgiagdaa.K0
end
section
namespace Go.Proofs.Ytefkhcijgiagdaa.QCheck
open Go.RowKit Go.Proofs.YtefkhcijgiagdaaW.PrintWords Go.Proofs.YtefkhcijgiagdaaW.PrintLast Go.Proofs.YtefkhcijgiagdaaW.PrintMore Go.Proofs.Ytefkhcijgiagdaa.HKnown Go.Proofs.Ytefkhcijgiagdaa.I1 Go.Proofs.Ytefkhcijgiagdaa.QVm
set_option linter.unusedVariables false
set_option linter.unusedSimpArgs false
def retB (c : Int) : Bool := decide (c = 6 ∨ c = 22)
/-- Does an instruction fit, with so many behind it? by its code. -/
def fitB (i : S28) (left : Int) : Bool :=
  if i.f0 = 32 then decide (i.f3 % 4 = 0 ∧ i.f3 ≤ 60)
  else if i.f0 = 96 ∨ i.f0 = 97 ∨ i.f0 = 2 ∨ i.f0 = 3 then decide (i.f3 < 16)
  else if i.f0 = 52 then decide (i.f3 ≠ 0)
  else if i.f0 = 100 ∨ i.f0 = 116 then decide (i.f3 < 32)
  else if i.f0 = 5 then decide (i.f3 < left)
  else if i.f0 = 21 ∨ i.f0 = 37 ∨ i.f0 = 53 ∨ i.f0 = 69 ∨ i.f0 = 29 ∨ i.f0 = 45 ∨ i.f0 = 61 ∨ i.f0 = 77 then decide (i.f1 < left ∧ i.f2 < left)
  else true
def wellB (i : S28) (left : Int) : Bool :=
  knownB i.f0 && decide (0 ≤ i.f1 ∧ i.f1 ≤ 255 ∧ 0 ≤ i.f2 ∧ i.f2 ≤ 255) && (decide (left ≠ 0) || retB i.f0) && fitB i left
/-- The first instruction that is not well. -/
def firstB : List S28 → Option Nat
  | [] => none
  | i :: l => if wellB i (l.length : Int) = true then (firstB l).map (· + 1) else some 0
def allV (l : List S28) : Int × Int :=
  if l.length = 0 then (0, 51) else if 4096 < l.length then (0, 2) else match firstB l with | some k => ((k : Int), 51) | none => (0, 0)
/-- How far on the instructions stand that may come behind one. -/
def folL (i : S28) : List Nat :=
  if retB i.f0 = true then [] else if i.f0 = 5 then [i.f3.toNat + 1] else if i.f0 % 8 = 5 then [i.f1.toNat + 1, i.f2.toNat + 1] else [1]
def stB (i : S28) : Bool := decide (i.f0 = 2 ∨ i.f0 = 3)
def wrB (i : S28) (c : Nat) : Bool := stB i && decide (i.f3.toNat = c)
def folTo (i : S28) (f j : Nat) : Bool := (folL i).any fun d => decide (f + d = j)
def joinL (a b : List Bool) : List Bool := if a = [] then b else List.zipWith (· && ·) a b
def nowL (i : S28) (row : List Bool) : List Bool := if stB i = true then row.set i.f3.toNat true else row
def putL (rows : List (List Bool)) (j : Nat) (now : List Bool) : List (List Bool) := rows.set j (joinL (rows.getD j []) now)
def stepL (rows : List (List Bool)) (k : Nat) (i : S28) : List (List Bool) :=
  if rows.getD k [] = [] then rows else (folL i).foldl (fun o d => putL o (k + d) (nowL i (rows.getD k []))) rows
def z28 : S28 := ⟨0, 0, 0, 0⟩
def at_ (l : List S28) (k : Nat) : S28 := l.getD k z28
def cellsL (l : List S28) : Nat → List (List Bool)
  | 0 => (List.replicate l.length []).set 0 (List.replicate 16 false)
  | k + 1 => stepL (cellsL l k) k (at_ l k)
/-- The first load of a cell that is not written on each way. -/
def loadB (i : S28) (row : List Bool) : Bool := decide (i.f0 = 96 ∨ i.f0 = 97) && (!row.isEmpty && !row.getD i.f3.toNat false)
def findB : List S28 → List (List Bool) → Nat → Option Nat
  | [], _, _ => none
  | i :: l, rows, k => if loadB i (rows.getD k []) = true then some k else findB l rows (k + 1)
def checkV (l : List S28) : Int × Int :=
  if (allV l).2 = 0 then (match findB l (cellsL l l.length) 0 with | some k => ((k : Int), 51) | none => (0, 0)) else allV l
def rchL (l : List S28) (c : Nat) : Nat → List Bool
  | 0 => []
  | n + 1 => rchL l c n ++ [decide (n = 0) || (List.range n).any fun f => (rchL l c n).getD f false && !wrB (at_ l f) c && folTo (at_ l f) f n]
def rch (l : List S28) (c j : Nat) : Bool := (rchL l c (j + 1)).getD j false
theorem rchL_len (l : List S28) (c n : Nat) : (rchL l c n).length = n := by
  induction n with
  | zero => rfl
  | succ n ih => simp [rchL, ih]
theorem getD_append_l {α : Type} (a b : List α) (d : α) (j : Nat) (h : j < a.length) : (a ++ b).getD j d = a.getD j d := by
  rw [List.getD_eq_getElem?_getD, List.getD_eq_getElem?_getD, List.getElem?_append_left h]
theorem rchL_get (l : List S28) (c : Nat) : ∀ n f, f < n → (rchL l c n).getD f false = rch l c f := by
  intro n
  induction n with
  | zero => intro f h; omega
  | succ n ih =>
    intro f h
    by_cases hf : f < n
    · rw [← ih f hf]
      show (rchL l c n ++ _).getD f false = _
      rw [getD_append_l _ _ _ _ (by rw [rchL_len]; exact hf)]
    · obtain rfl : f = n := by omega
      rfl
theorem any_congr {α : Type} {p q : α → Bool} {l : List α} (h : ∀ x ∈ l, p x = q x) : l.any p = l.any q := by
  induction l with
  | nil => rfl
  | cons a l ih => rw [List.any_cons, List.any_cons, h a List.mem_cons_self, ih (fun x hx => h x (List.mem_cons_of_mem _ hx))]
/-- Is a place reached over one of the first k instructions, on a way on which the cell is not written? -/
def qch (l : List S28) (c k j : Nat) : Bool := decide (j = 0) || (List.range k).any fun f => rch l c f && !wrB (at_ l f) c && folTo (at_ l f) f j
theorem rch_eq (l : List S28) (c j : Nat) : rch l c j = qch l c j j := by
  show (rchL l c j ++ [_]).getD j false = _
  rw [List.getD_eq_getElem?_getD, List.getElem?_append_right (by rw [rchL_len]; exact Nat.le_refl _), rchL_len, Nat.sub_self]
  show (decide (j = 0) || _) = (decide (j = 0) || _)
  congr 1
  refine any_congr fun f hf => ?_
  rw [rchL_get l c j f (List.mem_range.1 hf)]
theorem fol_gt {i : S28} {f j : Nat} (h : folTo i f j = true) : f < j := by
  unfold folTo folL at h
  split at h
  · simp at h
  split at h
  · simp at h; omega
  split at h
  · simp at h; omega
  · simp at h; omega
theorem qch_succ (l : List S28) (c k j : Nat) : qch l c (k + 1) j = (qch l c k j || (rch l c k && !wrB (at_ l k) c && folTo (at_ l k) k j)) := by
  unfold qch
  rw [List.range_succ, List.any_append, Bool.or_assoc]
  simp
theorem qch_late (l : List S28) (c k j : Nat) (h : j ≤ k) : qch l c k j = rch l c j := by
  obtain ⟨d, rfl⟩ : ∃ d, k = j + d := ⟨k - j, by omega⟩
  clear h
  induction d with
  | zero => exact (rch_eq l c j).symm
  | succ d ih =>
    rw [show j + (d + 1) = (j + d) + 1 by omega, qch_succ, ih]
    have e : folTo (at_ l (j + d)) (j + d) j = false := by
      cases h : folTo (at_ l (j + d)) (j + d) j with
      | false => rfl
      | true => have := fol_gt h; omega
    rw [e, Bool.and_false, Bool.or_false]
/-- No cell of that number is ever written. -/
theorem rch_mono (l : List S28) (h16 : ∀ f, wrB (at_ l f) 16 = false) (c : Nat) : ∀ n j, j < n → rch l c j = true → rch l 16 j = true := by
  intro n
  induction n with
  | zero => intro j h; omega
  | succ n ih =>
    intro j hj h
    rw [rch_eq] at h ⊢
    unfold qch at h ⊢
    rw [Bool.or_eq_true] at h ⊢
    rcases h with h | h
    · exact .inl h
    · right
      rw [List.any_eq_true] at h ⊢
      obtain ⟨f, hf, hp⟩ := h
      have hlt := List.mem_range.1 hf
      refine ⟨f, hf, ?_⟩
      rw [Bool.and_eq_true, Bool.and_eq_true] at hp
      rw [ih f (by omega) hp.1.1, h16 f, hp.2]
      rfl
theorem qch_mono (l : List S28) (h16 : ∀ f, wrB (at_ l f) 16 = false) (c k j : Nat) (h : qch l c k j = true) : qch l 16 k j = true := by
  unfold qch at h ⊢
  rw [Bool.or_eq_true] at h ⊢
  rcases h with h | h
  · exact .inl h
  · right
    rw [List.any_eq_true] at h ⊢
    obtain ⟨f, hf, hp⟩ := h
    refine ⟨f, hf, ?_⟩
    rw [Bool.and_eq_true, Bool.and_eq_true] at hp
    rw [rch_mono l h16 c (f + 1) f (by omega) hp.1.1, h16 f, hp.2]
    rfl
/-- What stands in the rows when the first k have been gone through. -/
structure Inv (l : List S28) (k : Nat) (rows : List (List Bool)) : Prop where
  len : rows.length = l.length
  nil : ∀ j, j < l.length → (rows.getD j [] = [] ↔ qch l 16 k j = false)
  n16 : ∀ j, j < l.length → rows.getD j [] ≠ [] → (rows.getD j []).length = 16
  val : ∀ j, j < l.length → rows.getD j [] ≠ [] → ∀ c, c < 16 → (rows.getD j []).getD c false = !qch l c k j
theorem getD_set_same {α : Type} (l : List α) (j : Nat) (x d : α) (h : j < l.length) : (l.set j x).getD j d = x := by
  rw [List.getD_eq_getElem?_getD, List.getElem?_set_self h]; rfl
theorem getD_set_other {α : Type} (l : List α) (i j : Nat) (x d : α) (h : i ≠ j) : (l.set i x).getD j d = l.getD j d := by
  rw [List.getD_eq_getElem?_getD, List.getD_eq_getElem?_getD, List.getElem?_set_ne h]
theorem joinL_again (a b : List Bool) (hab : a = [] ∨ a.length = b.length) : joinL (joinL a b) b = joinL a b := by
  have key : ∀ (a b : List Bool), a.length = b.length → List.zipWith (· && ·) (List.zipWith (· && ·) a b) b = List.zipWith (· && ·) a b := by
    intro a
    induction a with
    | nil => intro b _; rfl
    | cons x a ih =>
      intro b h
      cases b with
      | nil => simp at h
      | cons y b =>
        simp only [List.zipWith_cons_cons, List.length_cons] at h ⊢
        rw [ih b (by omega), Bool.and_assoc, Bool.and_self]
  have self : ∀ b : List Bool, List.zipWith (· && ·) b b = b := by
    intro b
    induction b with
    | nil => rfl
    | cons x b ih => rw [List.zipWith_cons_cons, ih, Bool.and_self]
  unfold joinL
  by_cases ha : a = []
  · rw [if_pos ha]
    by_cases hb : b = []
    · rw [if_pos hb]
    · rw [if_neg hb, self]
  · rw [if_neg ha]
    rcases hab with h | h
    · exact absurd h ha
    · by_cases hz : List.zipWith (· && ·) a b = []
      · exfalso
        have : (List.zipWith (· && ·) a b).length = 0 := by rw [hz]; rfl
        rw [List.length_zipWith, h, Nat.min_self] at this
        exact ha (List.eq_nil_of_length_eq_zero (by omega))
      · rw [if_neg hz, key a b h]
theorem put_len (rows : List (List Bool)) (j : Nat) (now : List Bool) : (putL rows j now).length = rows.length := by simp [putL]
theorem fold_put (k : Nat) (now : List Bool) (hn : now.length = 16) : ∀ (ds : List Nat) (rows : List (List Bool)), (∀ d ∈ ds, k + d < rows.length) → (∀ j, j < rows.length → rows.getD j [] = [] ∨ (rows.getD j []).length = 16) →
    (ds.foldl (fun o d => putL o (k + d) now) rows).length = rows.length ∧ ∀ j, j < rows.length → (ds.foldl (fun o d => putL o (k + d) now) rows).getD j [] = if (ds.any fun d => decide (k + d = j)) = true then joinL (rows.getD j []) now else rows.getD j [] := by
  intro ds
  induction ds with
  | nil => intro rows _ _; exact ⟨rfl, fun j hj => by simp⟩
  | cons d ds ih =>
    intro rows hds h16
    have hd := hds d List.mem_cons_self
    have hj16 : (joinL (rows.getD (k + d) []) now).length = 16 := by
      unfold joinL
      rcases h16 (k + d) hd with h | h
      · rw [if_pos h, hn]
      · rw [if_neg (fun e => by rw [e] at h; simp at h), List.length_zipWith, h, hn]; rfl
    have hg : ∀ j, (putL rows (k + d) now).getD j [] = if k + d = j then joinL (rows.getD j []) now else rows.getD j [] := by
      intro j
      unfold putL
      by_cases e : k + d = j
      · subst e; rw [if_pos rfl, getD_set_same _ _ _ _ hd]
      · rw [if_neg e, getD_set_other _ _ _ _ _ e]
    obtain ⟨g1, g2⟩ := ih (putL rows (k + d) now) (fun x hx => by rw [put_len]; exact hds x (List.mem_cons_of_mem _ hx)) (fun j hj => by
      rw [put_len] at hj
      rw [hg]
      by_cases e : k + d = j
      · rw [if_pos e, ← e]; exact .inr hj16
      · rw [if_neg e]; exact h16 j hj)
    rw [List.foldl_cons]
    refine ⟨by rw [g1, put_len], fun j hj => ?_⟩
    rw [g2 j (by rw [put_len]; exact hj), hg j, List.any_cons]
    by_cases e : k + d = j
    · rw [if_pos e, decide_eq_true e, Bool.true_or, if_pos rfl]
      by_cases e2 : (ds.any fun d => decide (k + d = j)) = true
      · rw [if_pos e2, joinL_again]
        rcases h16 j hj with h | h
        · exact .inl h
        · exact .inr (by rw [h, hn])
      · rw [if_neg e2]
    · rw [if_neg e, decide_eq_false e, Bool.false_or]
theorem zip_getD (a b : List Bool) (c : Nat) (h : a.length = b.length) (hc : c < a.length) : (List.zipWith (· && ·) a b).getD c false = (a.getD c false && b.getD c false) := by
  rw [List.getD_eq_getElem?_getD, List.getD_eq_getElem?_getD, List.getD_eq_getElem?_getD, List.getElem?_zipWith, List.getElem?_eq_getElem hc, List.getElem?_eq_getElem (by omega : c < b.length)]
  rfl
/-- All instructions are well: their followers stand within, their cells are few. -/
structure WellL (l : List S28) : Prop where
  fol : ∀ k, k < l.length → ∀ d ∈ folL (at_ l k), k + d < l.length
  st : ∀ k, k < l.length → stB (at_ l k) = true → 0 ≤ (at_ l k).f3 ∧ (at_ l k).f3 < 16
theorem at_out (l : List S28) (k : Nat) (h : l.length ≤ k) : at_ l k = z28 := by unfold at_; rw [List.getD_eq_getElem?_getD, List.getElem?_eq_none h]; rfl
theorem WellL.w16 {l : List S28} (h : WellL l) (f : Nat) : wrB (at_ l f) 16 = false := by
  by_cases hf : f < l.length
  · cases hs : stB (at_ l f) with
    | false => unfold wrB; rw [hs]; rfl
    | true => have := h.st f hf hs; unfold wrB; rw [hs, Bool.true_and]; exact decide_eq_false (by omega)
  · rw [at_out l f (by omega)]; rfl
theorem inv_zero (l : List S28) (h0 : 0 < l.length) : Inv l 0 (cellsL l 0) := by
  have hq : ∀ c j, qch l c 0 j = decide (j = 0) := fun c j => by unfold qch; simp
  have hr : ∀ j, j < l.length → (cellsL l 0).getD j [] = if j = 0 then List.replicate 16 false else [] := by
    intro j hj
    show ((List.replicate l.length []).set 0 (List.replicate 16 false)).getD j [] = _
    by_cases e : j = 0
    · subst e; rw [if_pos rfl, getD_set_same _ _ _ _ (by simpa using h0)]
    · rw [if_neg e, getD_set_other _ _ _ _ _ (fun x => e x.symm), List.getD_eq_getElem?_getD, List.getElem?_replicate, if_pos hj]; rfl
  refine ⟨by simp [cellsL], fun j hj => ?_, fun j hj => ?_, fun j hj => ?_⟩
  · rw [hr j hj, hq]
    by_cases e : j = 0
    · rw [if_pos e, decide_eq_true e]; simp
    · rw [if_neg e, decide_eq_false e]; simp
  · rw [hr j hj]
    by_cases e : j = 0
    · rw [if_pos e]; intro _; simp
    · rw [if_neg e]; intro h; exact absurd rfl h
  · rw [hr j hj]
    by_cases e : j = 0
    · rw [if_pos e]
      intro _ c hc
      rw [hq, decide_eq_true e, List.getD_eq_getElem?_getD, List.getElem?_replicate, if_pos hc]; rfl
    · rw [if_neg e]; intro h; exact absurd rfl h
theorem inv_step {l : List S28} (hw : WellL l) (k : Nat) (hk : k < l.length) (rows : List (List Bool)) (h : Inv l k rows) : Inv l (k + 1) (stepL rows k (at_ l k)) := by
  have e16 := qch_late l 16 k k (Nat.le_refl _)
  have w16 := hw.w16 k
  have hor : ∀ j, j < rows.length → rows.getD j [] = [] ∨ (rows.getD j []).length = 16 := by
    intro j hj
    rw [h.len] at hj
    by_cases e : rows.getD j [] = []
    · exact .inl e
    · exact .inr (h.n16 j hj e)
  unfold stepL
  by_cases hn : rows.getD k [] = []
  · rw [if_pos hn]
    have r16 : rch l 16 k = false := by rw [← e16]; exact (h.nil k hk).1 hn
    have hc : ∀ c j, qch l c (k + 1) j = qch l c k j := by
      intro c j
      rw [qch_succ]
      have : rch l c k = false := by
        cases e : rch l c k with
        | false => rfl
        | true => have := rch_mono l hw.w16 c (k + 1) k (by omega) e; rw [r16] at this; cases this
      rw [this, Bool.false_and, Bool.false_and, Bool.or_false]
    exact ⟨h.len, fun j hj => by rw [hc]; exact h.nil j hj, h.n16, fun j hj g c hcc => by rw [hc]; exact h.val j hj g c hcc⟩
  · rw [if_neg hn]
    have r16 : rch l 16 k = true := by
      rw [← e16]
      cases e : qch l 16 k k with
      | true => rfl
      | false => exact absurd ((h.nil k hk).2 e) hn
    have hrow := h.n16 k hk hn
    have hnl : (nowL (at_ l k) (rows.getD k [])).length = 16 := by
      unfold nowL
      split
      · rw [List.length_set]; exact hrow
      · exact hrow
    have hnow : ∀ c, c < 16 → (nowL (at_ l k) (rows.getD k [])).getD c false = !(rch l c k && !wrB (at_ l k) c) := by
      intro c hc
      have hv := h.val k hk hn c hc
      rw [qch_late l c k k (Nat.le_refl _)] at hv
      unfold nowL wrB
      cases hs : stB (at_ l k) with
      | false => rw [if_neg (by decide), hv, Bool.false_and, Bool.not_false, Bool.and_true]
      | true =>
        rw [if_pos rfl, Bool.true_and]
        by_cases e : (at_ l k).f3.toNat = c
        · rw [e, getD_set_same _ _ _ _ (by omega), decide_eq_true rfl]; simp
        · rw [getD_set_other _ _ _ _ _ e, hv, decide_eq_false e]; simp
    obtain ⟨g1, g2⟩ := fold_put k (nowL (at_ l k) (rows.getD k [])) hnl (folL (at_ l k)) rows (fun d hd => by rw [h.len]; exact hw.fol k hk d hd) hor
    generalize (folL (at_ l k)).foldl (fun o d => putL o (k + d) (nowL (at_ l k) (rows.getD k []))) rows = R at g1 g2
    have hqs : ∀ c j, qch l c (k + 1) j = (qch l c k j || (rch l c k && !wrB (at_ l k) c && folTo (at_ l k) k j)) := fun c j => qch_succ l c k j
    have hft : ∀ j, ((folL (at_ l k)).any fun d => decide (k + d = j)) = folTo (at_ l k) k j := fun _ => rfl
    generalize nowL (at_ l k) (rows.getD k []) = now at *
    have hnn : now ≠ [] := fun e => by rw [e] at hnl; simp at hnl
    refine ⟨by rw [g1, h.len], fun j hj => ?_, fun j hj => ?_, fun j hj => ?_⟩
    · have hj' : j < rows.length := by rw [h.len]; exact hj
      rw [g2 j hj', hft, hqs, r16, w16]
      cases e : folTo (at_ l k) k j with
      | false => rw [if_neg (by decide), h.nil j hj]; simp
      | true =>
        rw [if_pos rfl]
        simp only [Bool.true_and, Bool.not_false, Bool.or_true]
        constructor
        · intro g
          exfalso
          unfold joinL at g
          rcases hor j hj' with a | a
          · rw [if_pos a] at g; exact hnn g
          · rw [if_neg (fun x => by rw [x] at a; simp at a)] at g
            have : (List.zipWith (· && ·) (rows.getD j []) now).length = 16 := by rw [List.length_zipWith, a, hnl]; rfl
            rw [g] at this; simp at this
        · intro g; cases g
    · have hj' : j < rows.length := by rw [h.len]; exact hj
      rw [g2 j hj', hft]
      cases e : folTo (at_ l k) k j with
      | false => rw [if_neg (by decide)]; exact h.n16 j hj
      | true =>
        rw [if_pos rfl]
        intro _
        unfold joinL
        rcases hor j hj' with a | a
        · rw [if_pos a, hnl]
        · rw [if_neg (fun x => by rw [x] at a; simp at a), List.length_zipWith, a, hnl]; rfl
    · have hj' : j < rows.length := by rw [h.len]; exact hj
      rw [g2 j hj', hft]
      intro g c hc
      rw [hqs]
      cases e : folTo (at_ l k) k j with
      | false =>
        rw [e, if_neg (by decide)] at g
        rw [if_neg (by decide), h.val j hj g c hc, Bool.and_false, Bool.or_false]
      | true =>
        rw [if_pos rfl, Bool.and_true]
        unfold joinL
        rcases hor j hj' with a | a
        · rw [if_pos a, hnow c hc]
          have q16 := (h.nil j hj).1 a
          have qc : qch l c k j = false := by
            cases e2 : qch l c k j with
            | false => rfl
            | true => have := qch_mono l hw.w16 c k j e2; rw [q16] at this; cases this
          rw [qc, Bool.false_or]
        · have an : rows.getD j [] ≠ [] := fun x => by rw [x] at a; simp at a
          rw [if_neg an, zip_getD _ _ _ (by rw [a, hnl]) (by omega), h.val j hj an c hc, hnow c hc]
          cases qch l c k j <;> cases rch l c k <;> cases wrB (at_ l k) c <;> rfl
theorem inv_all {l : List S28} (hw : WellL l) (h0 : 0 < l.length) : ∀ k, k ≤ l.length → Inv l k (cellsL l k) := by
  intro k
  induction k with
  | zero => intro _; exact inv_zero l h0
  | succ k ih => intro hk; exact inv_step hw k (by omega) _ (ih (by omega))
def rowR (l : List S28) (j : Nat) : List Bool := if rch l 16 j = true then (List.range 16).map fun c => !rch l c j else []
theorem cells_row {l : List S28} (hw : WellL l) (h0 : 0 < l.length) (j : Nat) (hj : j < l.length) : (cellsL l l.length).getD j [] = rowR l j := by
  have h := inv_all hw h0 l.length (Nat.le_refl _)
  have e := fun c => qch_late l c l.length j (Nat.le_of_lt hj)
  generalize cellsL l l.length = rows at h
  unfold rowR
  cases r : rch l 16 j with
  | false => rw [if_neg (by decide)]; exact (h.nil j hj).2 (by rw [e, r])
  | true =>
    rw [if_pos rfl]
    have hn : rows.getD j [] ≠ [] := fun x => by have := (h.nil j hj).1 x; rw [e, r] at this; cases this
    have hl := h.n16 j hj hn
    apply List.ext_getElem
    · rw [hl]; simp
    · intro c h1 h2
      have hc : c < 16 := by omega
      have hv := h.val j hj hn c hc
      rw [List.getD_eq_getElem?_getD, List.getElem?_eq_getElem h1, Option.getD_some, e] at hv
      rw [hv]; simp
theorem cells_eq {l : List S28} (hw : WellL l) (h0 : 0 < l.length) : cellsL l l.length = (List.range l.length).map (rowR l) := by
  have h := inv_all hw h0 l.length (Nat.le_refl _)
  apply List.ext_getElem
  · rw [h.len]; simp
  · intro j h1 h2
    have hj : j < l.length := by rw [← h.len]; exact h1
    have := cells_row hw h0 j hj
    rw [List.getD_eq_getElem?_getD, List.getElem?_eq_getElem h1, Option.getD_some] at this
    rw [this]; simp
theorem known_codes : ∀ c : Fin 256, knownB (c.val : Int) = true → (c.val : Int) % 8 = 5 → (c.val : Int) = 5 ∨ (c.val : Int) = 21 ∨ (c.val : Int) = 37 ∨ (c.val : Int) = 53 ∨ (c.val : Int) = 69 ∨ (c.val : Int) = 29 ∨ (c.val : Int) = 45 ∨ (c.val : Int) = 61 ∨ (c.val : Int) = 77 := by decide +kernel
theorem known_range {c : Int} (h : knownB c = true) : 0 ≤ c ∧ c < 256 := by
  unfold knownB at h; rw [Bool.and_eq_true, decide_eq_true_eq] at h; exact h.1
theorem known_jump {c : Int} (h : knownB c = true) (h5 : c % 8 = 5) : c = 5 ∨ c = 21 ∨ c = 37 ∨ c = 53 ∨ c = 69 ∨ c = 29 ∨ c = 45 ∨ c = 61 ∨ c = 77 := by
  obtain ⟨a, b⟩ := known_range h
  obtain ⟨n, rfl⟩ : ∃ n : Nat, c = n := ⟨c.toNat, by omega⟩
  exact known_codes ⟨n, by omega⟩ h h5
structure Well (i : S28) (left : Int) : Prop where
  kn : knownB i.f0 = true
  t0 : 0 ≤ i.f1
  t1 : i.f1 ≤ 255
  f0 : 0 ≤ i.f2
  f1 : i.f2 ≤ 255
  lr : left ≠ 0 ∨ retB i.f0 = true
  fit : fitB i left = true
theorem well_iff (i : S28) (left : Int) : wellB i left = true ↔ Well i left := by
  unfold wellB
  simp only [Bool.and_eq_true, Bool.or_eq_true, decide_eq_true_eq]
  constructor
  · rintro ⟨⟨⟨h1, h2, h3, h4, h5⟩, h6⟩, h7⟩; exact ⟨h1, h2, h3, h4, h5, h6, h7⟩
  · rintro ⟨h1, h2, h3, h4, h5, h6, h7⟩; exact ⟨⟨⟨h1, h2, h3, h4, h5⟩, h6⟩, h7⟩
theorem Well.jump {i : S28} {left : Int} (h : Well i left) (h5 : i.f0 % 8 = 5) (hn : i.f0 ≠ 5) : i.f1 < left ∧ i.f2 < left := by
  have hf := h.fit
  have hk := known_jump h.kn h5
  unfold fitB at hf
  rw [if_neg (by omega), if_neg (by omega), if_neg (by omega), if_neg (by omega), if_neg hn, if_pos (by omega)] at hf
  exact of_decide_eq_true hf
theorem Well.ja {i : S28} {left : Int} (h : Well i left) (h5 : i.f0 = 5) : i.f3 < left := by
  have hf := h.fit
  unfold fitB at hf
  rw [if_neg (by omega), if_neg (by omega), if_neg (by omega), if_neg (by omega), if_pos h5] at hf
  exact of_decide_eq_true hf
theorem Well.cell {i : S28} {left : Int} (h : Well i left) (h5 : i.f0 = 96 ∨ i.f0 = 97 ∨ i.f0 = 2 ∨ i.f0 = 3) : i.f3 < 16 := by
  have hf := h.fit
  unfold fitB at hf
  rw [if_neg (by omega), if_pos h5] at hf
  exact of_decide_eq_true hf
theorem first_none : ∀ l : List S28, firstB l = none ↔ ∀ k, k < l.length → wellB (at_ l k) ((l.length - 1 - k : Nat) : Int) = true := by
  intro l
  induction l with
  | nil => exact ⟨fun _ k h => absurd h (by simp), fun _ => rfl⟩
  | cons i l ih =>
    unfold firstB
    by_cases hw : wellB i (l.length : Int) = true
    · rw [if_pos hw, Option.map_eq_none_iff, ih]
      constructor
      · intro h k hk
        cases k with
        | zero => simpa [at_] using hw
        | succ k =>
          have := h k (by simpa using hk)
          rw [List.length_cons, show l.length + 1 - 1 - (k + 1) = l.length - 1 - k by omega]
          exact this
      · intro h k hk
        have := h (k + 1) (by simpa using hk)
        rw [List.length_cons, show l.length + 1 - 1 - (k + 1) = l.length - 1 - k by omega] at this
        exact this
    · rw [if_neg hw]
      constructor
      · intro h; cases h
      · intro h
        have := h 0 (by simp)
        rw [List.length_cons, show l.length + 1 - 1 - 0 = l.length by omega] at this
        exact absurd this hw
def U3 (l : List S28) : Prop := ∀ i ∈ l, 0 ≤ i.f3
theorem at_mem (l : List S28) (k : Nat) (h : k < l.length) : at_ l k ∈ l := by
  unfold at_; rw [List.getD_eq_getElem?_getD, List.getElem?_eq_getElem h]; exact List.getElem_mem _
theorem wellL_of (l : List S28) (h3 : U3 l) (h : firstB l = none) : WellL l := by
  rw [first_none] at h
  refine ⟨fun k hk d hd => ?_, fun k hk hs => ?_⟩
  · have w := (well_iff _ _).1 (h k hk)
    have u3 := h3 _ (at_mem l k hk)
    generalize at_ l k = i at *
    unfold folL at hd
    split at hd
    · simp at hd
    rename_i hr
    have hleft := w.lr.resolve_right (by simpa using hr)
    split at hd
    · rename_i h5
      have := w.ja h5
      simp only [List.mem_singleton] at hd; omega
    split at hd
    · rename_i hn h5
      have := w.jump h5 hn
      have := w.t0
      have := w.f0
      simp only [List.mem_cons, List.not_mem_nil, or_false] at hd
      rcases hd with rfl | rfl <;> omega
    · simp only [List.mem_singleton] at hd; omega
  · have w := (well_iff _ _).1 (h k hk)
    have u3 := h3 _ (at_mem l k hk)
    unfold stB at hs
    have := of_decide_eq_true hs
    exact ⟨u3, w.cell (by omega)⟩
theorem allV_ok (l : List S28) : (allV l).2 = 0 ↔ 0 < l.length ∧ l.length ≤ 4096 ∧ firstB l = none := by
  unfold allV
  by_cases h0 : l.length = 0
  · rw [if_pos h0]; constructor
    · intro h; cases h
    · intro h; omega
  · rw [if_neg h0]
    by_cases h1 : 4096 < l.length
    · rw [if_pos h1]; constructor
      · intro h; cases h
      · intro h; omega
    · rw [if_neg h1]
      cases hf : firstB l with
      | none => exact ⟨fun _ => ⟨by omega, by omega, rfl⟩, fun _ => rfl⟩
      | some k => constructor
                  · intro h; cases h
                  · intro h; cases h.2.2
theorem find_none : ∀ (l : List S28) (rows : List (List Bool)) (k : Nat), findB l rows k = none ↔ ∀ j, j < l.length → loadB (at_ l j) (rows.getD (k + j) []) = false := by
  intro l
  induction l with
  | nil => intro rows k; exact ⟨fun _ j h => absurd h (by simp), fun _ => rfl⟩
  | cons i l ih =>
    intro rows k
    unfold findB
    by_cases h : loadB i (rows.getD k []) = true
    · rw [if_pos h]
      constructor
      · intro g; cases g
      · intro g
        have := g 0 (by simp)
        rw [Nat.add_zero] at this
        exact absurd h (by rw [show at_ (i :: l) 0 = i from rfl] at this; rw [this]; decide)
    · rw [if_neg h, ih]
      constructor
      · intro g j hj
        cases j with
        | zero => rw [Nat.add_zero]; simpa [at_] using h
        | succ j =>
          have := g j (by simpa using hj)
          rw [show k + (j + 1) = k + 1 + j by omega]
          exact this
      · intro g j hj
        have := g (j + 1) (by simpa using hj)
        rw [show k + (j + 1) = k + 1 + j by omega] at this
        exact this
end Go.Proofs.Ytefkhcijgiagdaa.QCheck
end
section
namespace Go.Proofs.Ytefkhcijgiagdaa.HCk
open Go.RowKit Go.Proofs.YtefkhcijgiagdaaW.PrintWords Go.Proofs.YtefkhcijgiagdaaW.PrintLast Go.Proofs.YtefkhcijgiagdaaW.PrintMore Go.Proofs.Ytefkhcijgiagdaa.HKnown Go.Proofs.Ytefkhcijgiagdaa.I1 Go.Proofs.Ytefkhcijgiagdaa.QVm Go.Proofs.Ytefkhcijgiagdaa.QLe Go.Proofs.Ytefkhcijgiagdaa.QCheck Go.Proofs.Ytefkhcijgiagdaa.K0
set_option linter.unusedVariables false
set_option linter.unusedSimpArgs false
set_option maxRecDepth 100000
attribute [local go_sem] max2_int min2_int max_two min_two IntKind.wrap_u32
abbrev U (x : Int) : Prop := 0 ≤ x ∧ x < 4294967296
def fnR : Value → Option (DataW Unit × List MemPlace)
  | .func (.func n) a b => if a = #[] ∧ b = #[] then some (.lit (.int .i64 (n : Int)), []) else none
  | .nilFunc => some (.lit (.int .i64 (-1)), [])
  | _ => none
def fnV : Option Nat → Value
  | some n => .func (.func n) #[] #[]
  | none => .nilFunc
theorem fnR_some (n : Nat) : fnR (.func (.func n) #[] #[]) = some (.lit (.int .i64 (n : Int)), []) := by simp [fnR]
theorem fnR_func {m : Nat} {a b : Array Value} {z : DataW Unit × List MemPlace} (h : fnR (.func (.func m) a b) = some z) : a = #[] ∧ b = #[] ∧ z = (.lit (.int .i64 (m : Int)), []) := by
  unfold fnR at h
  by_cases hab : a = #[] ∧ b = #[]
  · simp only [if_pos hab] at h
    exact ⟨hab.1, hab.2, (Option.some.inj h).symm⟩
  · simp only [if_neg hab] at h
    cases h
theorem fnR_inv {v : Value} {n : Nat} {ps : List MemPlace} (h : fnR v = some (.lit (.int .i64 (n : Int)), ps)) : v = .func (.func n) #[] #[] := by
  cases v with
  | func fn a b =>
    cases fn with
    | func m =>
      obtain ⟨rfl, rfl, hz⟩ := fnR_func h
      simp only [Prod.mk.injEq, DataW.lit.injEq, Lit.int.injEq, true_and, Int.natCast_inj] at hz
      rw [hz.1]
    | _ => simp [fnR] at h
  | nilFunc =>
    simp only [fnR, Option.some.injEq, Prod.mk.injEq, DataW.lit.injEq, Lit.int.injEq, true_and] at h
    omega
  | _ => simp [fnR] at h
theorem fnR_inv_nil {v : Value} {ps : List MemPlace} (h : fnR v = some (.lit (.int .i64 (-1)), ps)) : v = .nilFunc := by
  cases v with
  | func fn a b =>
    cases fn with
    | func m =>
      obtain ⟨rfl, rfl, hz⟩ := fnR_func h
      simp only [Prod.mk.injEq, DataW.lit.injEq, Lit.int.injEq, true_and] at hz
      omega
    | _ => simp [fnR] at h
  | nilFunc => rfl
  | _ => simp [fnR] at h
theorem law3 : Maps.Keyed Try.prog 3 := Maps.int_keyed Try.underlying3
theorem zero171 (w : World) : (zeroValue 171).run Try.prog w = .ok .nilFunc w := by kernel_rfl
def MapF (w : World) (b n : Nat) (L : Int → Option Nat) : Prop :=
  ∃ D : DataW Unit, w.ownsMap Try.prog 3 fnR b n D ∧ Maps.IsMap D ∧ ∀ (k : Int) (z : DataW Unit), D.atKey (.int .i64 k) z = match L k with | some v => .lit (.int .i64 (v : Int)) | none => z
theorem MapF.lt {w : World} {b n : Nat} {L : Int → Option Nat} (h : MapF w b n L) : b < w.heap.size := by obtain ⟨D, h, _⟩ := h; exact h.lt
theorem MapF.kept {w w' : World} {b n : Nat} {L : Int → Option Nat} (h : MapF w b n L) (he : w'.heap[b]? = w.heap[b]?) : MapF w' b n L := by
  obtain ⟨D, ⟨es, clock, hb, F, hs, hD⟩, h2⟩ := h
  exact ⟨D, ⟨es, clock, he.trans hb, F, hs, hD⟩, h2⟩
theorem MapF.below {w w' : World} {b n : Nat} {L : Int → Option Nat} (h : MapF w b n L) (hb : Below w.heap.size w w') : MapF w' b n L := h.kept (hb.block _ h.lt)
theorem MapF.made (w : World) : MapF (w.alloc (.map #[] 0)) w.heap.size 0 (fun _ => none) := ⟨.map [], World.ownsMap_made _ _ _ _, Maps.isMap_empty, fun _ _ => rfl⟩
theorem MapF.look {w : World} {b n : Nat} {L : Int → Option Nat} (h : MapF w b n L) (k : Int) (hk : (Lit.int .i64 k).wf = true) :
    (Instr.lookup 168 (.map (some b)) (.int .i64 k) true).run Try.prog w = .ok (.tuple #[fnV (L k), .bool (L k).isSome]) w := by
  obtain ⟨D, ho, hm, hat⟩ := h
  obtain ⟨v, ps, hrun, hv⟩ := ho.look_ok (t := 168) (e := 171) law3 Try.underlying168 (zero171 w) (zd := .lit (.int .i64 (-1))) (zp := []) rfl (Maps.keyOf_int_mk Try.underlying3 hk)
  rw [hrun]
  have e1 : Maps.has D (.int .i64 k) = (L k).isSome := by
    cases hL : L k with
    | none => exact Maps.has_false_of_atKey (fun z => by rw [hat, hL])
    | some x => exact Maps.has_true_of_atKey (y := .lit (.int .i64 (x : Int))) (fun z => by rw [hat, hL])
  have e2 : v = fnV (L k) := by
    rw [hat] at hv
    cases hL : L k with
    | none => rw [hL] at hv; exact fnR_inv_nil hv
    | some x => rw [hL] at hv; exact fnR_inv hv
  rw [e1, e2]
theorem MapF.store {w : World} {b n : Nat} {L : Int → Option Nat} (h : MapF w b n L) (hn : n < 1000000) (k : Int) (v : Nat) (hk : (Lit.int .i64 k).wf = true) :
    ∃ w', (Instr.mapUpdate 168 (.map (some b)) (.int .i64 k) (.func (.func v) #[] #[])).run Try.prog w = .ok () w' ∧ MapF w' b (n + 1) (fun x => if x = k then some v else L x) ∧ w.grownBy w' (some b) := by
  obtain ⟨D, ho, hm, hat⟩ := h
  obtain ⟨w', hrun, ho', hg⟩ := ho.update (t := 168) (e := 171) law3 Try.underlying168 (by unfold maxLen; omega) (Maps.keyOf_int_mk Try.underlying3 hk) (fnR_some v)
  refine ⟨w', hrun, ⟨_, ho', hm.put _ _, fun x z => ?_⟩, hg⟩
  by_cases hx : x = k
  · subst hx
    show _ = match (if x = x then some v else L x) with | some v => _ | none => _
    rw [if_pos rfl, Maps.atKey_put_same hm (show WideAt.IsKeyLit (.int .i64 x) from trivial)]
  · show _ = match (if x = k then some v else L x) with | some v => _ | none => _
    rw [if_neg hx, Maps.atKey_put_other (fun e => hx (by cases e; rfl)), hat]
def Lc (c : Int) : Option Nat :=
  if c = 32 then some 153
  else if c = 96 ∨ c = 97 ∨ c = 2 ∨ c = 3 then some 150
  else if c = 52 then some 154
  else if c = 100 ∨ c = 116 then some 151
  else if c = 5 then some 155
  else if c = 21 ∨ c = 37 ∨ c = 53 ∨ c = 69 ∨ c = 29 ∨ c = 45 ∨ c = 61 ∨ c = 77 then some 152
  else none
def cloB (t : Nat) (i : S28) (left : Int) : Bool :=
  if t = 153 then decide (i.f3 % 4 = 0 ∧ i.f3 ≤ 60) else if t = 150 then decide (i.f3 < 16) else if t = 154 then decide (i.f3 ≠ 0) else if t = 151 then decide (i.f3 < 32) else if t = 155 then decide (i.f3 < left) else decide (i.f1 < left ∧ i.f2 < left)
theorem fit_eq (i : S28) (left : Int) : fitB i left = match Lc i.f0 with | some t => cloB t i left | none => true := by
  unfold fitB Lc
  split
  · rfl
  split
  · rfl
  split
  · rfl
  split
  · rfl
  split
  · rfl
  split
  · rfl
  · rfl
theorem Lc_cases (c : Int) : Lc c = none ∨ Lc c = some 153 ∨ Lc c = some 150 ∨ Lc c = some 154 ∨ Lc c = some 151 ∨ Lc c = some 155 ∨ Lc c = some 152 := by
  unfold Lc
  repeat' split
  all_goals simp
abbrev CloAny (t : Nat) (i : S28) (left : Int) : Prop := ∀ w : World, Calls Try.prog t #[.agg #[.int .i64 i.f0, .int .i64 i.f1, .int .i64 i.f2, .int .u32 i.f3], .int .i64 left] w fun e w' => e = .returned (.bool (cloB t i left)) ∧ Below w.heap.size w w'
theorem clo150 (i : S28) (left : Int) : CloAny 150 i left := by
  intro w
  obtain ⟨a0, a1, a2, a3⟩ := i
  show Calls _ _ _ _ fun e w' => e = .returned (.bool (decide (a3 < 16))) ∧ _
  go_enter Try.func150, Try.ntmps150
  go_wp2
  go_ret
  exact ⟨rfl, below_alloc (Below.refl _ _) _⟩
theorem clo151 (i : S28) (left : Int) : CloAny 151 i left := by
  intro w
  obtain ⟨a0, a1, a2, a3⟩ := i
  show Calls _ _ _ _ fun e w' => e = .returned (.bool (decide (a3 < 32))) ∧ _
  go_enter Try.func151, Try.ntmps151
  go_wp2
  go_ret
  exact ⟨rfl, below_alloc (Below.refl _ _) _⟩
theorem clo154 (i : S28) (left : Int) : CloAny 154 i left := by
  intro w
  obtain ⟨a0, a1, a2, a3⟩ := i
  show Calls _ _ _ _ fun e w' => e = .returned (.bool (decide (a3 ≠ 0))) ∧ _
  have HR := Aside0.mk (show decide (a3 ≠ 0) = (a3 != 0) by by_cases h : a3 = 0 <;> simp [h])
  go_enter Try.func154, Try.ntmps154
  go_wp2
  go_ret
  exact ⟨by rw [HR.out]; rfl, below_alloc (Below.refl _ _) _⟩
theorem clo155 (i : S28) (left : Int) (hk : U i.f3) : CloAny 155 i left := by
  intro w
  obtain ⟨a0, a1, a2, a3⟩ := i
  show Calls _ _ _ _ fun e w' => e = .returned (.bool (decide (a3 < left))) ∧ _
  simp only at hk
  have e3 : wrap64 a3 = a3 := w64 _ (by omega) (by omega)
  go_enter Try.func155, Try.ntmps155
  go_wp2
  go_ret
  exact ⟨rfl, below_alloc (Below.refl _ _) _⟩
theorem clo153 (i : S28) (left : Int) (hk : U i.f3) : CloAny 153 i left := by
  intro w
  obtain ⟨a0, a1, a2, a3⟩ := i
  show Calls _ _ _ _ fun e w' => e = .returned (.bool (decide (a3 % 4 = 0 ∧ a3 ≤ 60))) ∧ _
  simp only at hk
  obtain ⟨hk0, hk1⟩ := hk
  by_cases h : a3 % 4 = 0
  · have h0 : (a3 % 4 == 0) = true := beq_iff_eq.2 h
    have HR := Aside0.mk (show decide (a3 % 4 = 0 ∧ a3 ≤ 60) = decide (a3 ≤ 60) by simp [h])
    clear h
    go_enter Try.func153, Try.ntmps153
    go_wp2
    go_ret
    exact ⟨by rw [HR.out]; rfl, below_alloc (Below.refl _ _) _⟩
  · have h0 : (a3 % 4 == 0) = false := beq_eq_false_iff_ne.2 h
    have HR := Aside0.mk (show decide (a3 % 4 = 0 ∧ a3 ≤ 60) = false by simp [h])
    clear h
    go_enter Try.func153, Try.ntmps153
    go_wp2
    go_ret
    exact ⟨by rw [HR.out]; rfl, below_alloc (Below.refl _ _) _⟩
theorem clo152 (i : S28) (left : Int) : CloAny 152 i left := by
  intro w
  obtain ⟨a0, a1, a2, a3⟩ := i
  show Calls _ _ _ _ fun e w' => e = .returned (.bool (decide (a1 < left ∧ a2 < left))) ∧ _
  by_cases h : a1 < left
  · have h0 : decide (a1 < left) = true := decide_eq_true h
    have HR := Aside0.mk (show decide (a1 < left ∧ a2 < left) = decide (a2 < left) by simp [h])
    clear h
    go_enter Try.func152, Try.ntmps152
    go_wp2
    go_ret
    exact ⟨by rw [HR.out]; rfl, below_alloc (Below.refl _ _) _⟩
  · have h0 : decide (a1 < left) = false := decide_eq_false h
    have HR := Aside0.mk (show decide (a1 < left ∧ a2 < left) = false by simp [h])
    clear h
    go_enter Try.func152, Try.ntmps152
    go_wp2
    go_ret
    exact ⟨by rw [HR.out]; rfl, below_alloc (Below.refl _ _) _⟩
end Go.Proofs.Ytefkhcijgiagdaa.HCk
end
section
namespace Go.Proofs.Ytefkhcijgiagdaa.HCk
open Go.RowKit Go.Proofs.YtefkhcijgiagdaaW.PrintWords Go.Proofs.YtefkhcijgiagdaaW.PrintLast Go.Proofs.YtefkhcijgiagdaaW.PrintMore Go.Proofs.Ytefkhcijgiagdaa.HKnown Go.Proofs.Ytefkhcijgiagdaa.I1 Go.Proofs.Ytefkhcijgiagdaa.QVm Go.Proofs.Ytefkhcijgiagdaa.QLe Go.Proofs.Ytefkhcijgiagdaa.QCheck Go.Proofs.Ytefkhcijgiagdaa.K0
set_option linter.unusedVariables false
set_option linter.unusedSimpArgs false
set_option maxRecDepth 100000
attribute [local go_sem] max2_int min2_int max_two min_two IntKind.wrap_u32
theorem ret_any (i : S28) (w : World) : Calls Try.prog 131 #[.agg #[.int .i64 i.f0, .int .i64 i.f1, .int .i64 i.f2, .int .u32 i.f3]] w fun e w' => e = .returned (.bool (retB i.f0)) ∧ Below w.heap.size w w' := by
  refine check_returns.calls i.f0 i.f1 i.f2 i.f3 _ w ?_
  unfold check_returns.f retB
  by_cases h : i.f0 = 6
  · rw [if_pos h, h]; rfl
  · rw [if_neg h]
    by_cases h2 : i.f0 = 22
    · rw [h2]; rfl
    · rw [decide_eq_false (by omega)]
      simp [h2]
theorem well_false {i : S28} {left : Int} (h : ¬ Well i left) : wellB i left = false := by
  cases e : wellB i left with
  | false => rfl
  | true => exact absurd ((well_iff i left).1 e) h
theorem well_tail {i : S28} {left : Int} (kn : knownB i.f0 = true) (h1 : ¬ i.f1 < 0) (h2 : ¬ i.f1 > 255) (h3 : ¬ i.f2 < 0) (h4 : ¬ i.f2 > 255) (h5 : left ≠ 0 ∨ retB i.f0 = true) : wellB i left = match Lc i.f0 with | some t => cloB t i left | none => true := by
  have e := fit_eq i left
  rw [show (match Lc i.f0 with | some t => cloB t i left | none => true) = fitB i left from e.symm]
  unfold wellB
  rw [kn, decide_eq_true (show 0 ≤ i.f1 ∧ i.f1 ≤ 255 ∧ 0 ≤ i.f2 ∧ i.f2 ≤ 255 by omega)]
  have : (decide (left ≠ 0) || retB i.f0) = true := by
    rcases h5 with h | h
    · rw [decide_eq_true h]; rfl
    · rw [h, Bool.or_true]
  rw [this]
  rfl
set_option maxHeartbeats 4000000 in
theorem well_bad {w : World} {Mb : Nat} (i : S28) (left : Int) (h : knownB i.f0 = false ∨ i.f1 < 0 ∨ i.f1 > 255 ∨ i.f2 < 0 ∨ i.f2 > 255 ∨ (left = 0 ∧ retB i.f0 = false)) :
    Calls Try.prog 129 #[.agg #[.int .i64 i.f0, .int .i64 i.f1, .int .i64 i.f2, .int .u32 i.f3], .int .i64 left, .map (some Mb)] w fun e w' => e = .returned (.bool false) ∧ Below w.heap.size w w' := by
  have hkn := fun W => Known_any i.f0 W
  have HRT := Aside0.mk (fun W => ret_any i W)
  obtain ⟨a0, a1, a2, a3⟩ := i
  simp only at h hkn HRT ⊢
  have hu28 := Try.underlying28
  have HK := Aside0.mk hkn
  clear hkn
  have HB0 := Aside0.mk (heap_alloc_new w (.cells #[.int .i64 a0, .int .i64 a1, .int .i64 a2, .int .u32 a3] 28))
  by_cases hk : knownB a0 = true
  · rw [hk] at HK h
    by_cases h1 : a1 < 0
    · have d1 : decide (a1 < 0) = true := decide_eq_true h1
      clear h
      go_enter Try.func129, Try.ntmps129
      go_wp2_with (go_at_call 44; refine (HK.out _).mono ?_; rintro e w1 ⟨rfl, hb1⟩; have HB1 := Aside0.mk (below_step (below_alloc (Below.refl _ _) _) hb1); have kx := blk_cell (blk_below HB0.out hb1); have k1 := kx 1; have k2 := kx 2; clear kx hb1)
      go_ret
      exact ⟨rfl, HB1.out⟩
    · have d1 : decide (a1 < 0) = false := decide_eq_false h1
      by_cases h2 : a1 > 255
      · have d2 : decide (255 < a1) = true := decide_eq_true h2
        clear h
        go_enter Try.func129, Try.ntmps129
        go_wp2_with (go_at_call 44; refine (HK.out _).mono ?_; rintro e w1 ⟨rfl, hb1⟩; have HB1 := Aside0.mk (below_step (below_alloc (Below.refl _ _) _) hb1); have kx := blk_cell (blk_below HB0.out hb1); have k1 := kx 1; have k2 := kx 2; clear kx hb1)
        go_ret
        exact ⟨rfl, HB1.out⟩
      · have d2 : decide (255 < a1) = false := decide_eq_false h2
        by_cases h3 : a2 < 0
        · have d3 : decide (a2 < 0) = true := decide_eq_true h3
          clear h
          go_enter Try.func129, Try.ntmps129
          go_wp2_with (go_at_call 44; refine (HK.out _).mono ?_; rintro e w1 ⟨rfl, hb1⟩; have HB1 := Aside0.mk (below_step (below_alloc (Below.refl _ _) _) hb1); have kx := blk_cell (blk_below HB0.out hb1); have k1 := kx 1; have k2 := kx 2; clear kx hb1)
          go_ret
          exact ⟨rfl, HB1.out⟩
        · have d3 : decide (a2 < 0) = false := decide_eq_false h3
          by_cases h4 : a2 > 255
          · have d4 : decide (255 < a2) = true := decide_eq_true h4
            clear h
            go_enter Try.func129, Try.ntmps129
            go_wp2_with (go_at_call 44; refine (HK.out _).mono ?_; rintro e w1 ⟨rfl, hb1⟩; have HB1 := Aside0.mk (below_step (below_alloc (Below.refl _ _) _) hb1); have kx := blk_cell (blk_below HB0.out hb1); have k1 := kx 1; have k2 := kx 2; clear kx hb1)
            go_ret
            exact ⟨rfl, HB1.out⟩
          · have d4 : decide (255 < a2) = false := decide_eq_false h4
            have h5 : left = 0 ∧ retB a0 = false := by
              rcases h with h | h | h | h | h | h
              · cases h
              · exact absurd h h1
              · exact absurd h h2
              · exact absurd h h3
              · exact absurd h h4
              · exact h
            clear h
            obtain ⟨rfl, hr⟩ := h5
            rw [hr] at HRT
            clear hr
            go_enter Try.func129, Try.ntmps129
            go_wp2_with (first | (go_at_call 44; refine (HK.out _).mono ?_; rintro e w1 ⟨rfl, hb1⟩; have HB1 := Aside0.mk (below_step (below_alloc (Below.refl _ _) _) hb1); have kx := blk_cell (blk_below HB0.out hb1); have k0 := kx 0; have k1 := kx 1; have k2 := kx 2; have k3 := kx 3; clear kx hb1) | (go_at_call 131; refine (HRT.out _).mono ?_; rintro e w2 ⟨rfl, hb2⟩; have HB2 := Aside0.mk (below_step HB1.out hb2); clear hb2))
            go_ret
            exact ⟨rfl, HB2.out⟩
  · have hk : knownB a0 = false := by simpa using hk
    rw [hk] at HK
    clear h
    go_enter Try.func129, Try.ntmps129
    go_wp2_with (go_at_call 44; refine (HK.out _).mono ?_; rintro e w1 ⟨rfl, hb1⟩; have HB1 := Aside0.mk (below_step (below_alloc (Below.refl _ _) _) hb1); clear hb1)
    go_ret
    exact ⟨rfl, HB1.out⟩
set_option maxHeartbeats 4000000 in
theorem well_good {w : World} {Mb n : Nat} (hM : MapF w Mb n Lc) (i : S28) (left : Int) (hk3 : U i.f3) (hc : (Lit.int .i64 i.f0).wf = true) (hk : knownB i.f0 = true) (h1 : ¬ i.f1 < 0) (h2 : ¬ i.f1 > 255) (h3 : ¬ i.f2 < 0) (h4 : ¬ i.f2 > 255) (h5 : left ≠ 0 ∨ retB i.f0 = true) :
    Calls Try.prog 129 #[.agg #[.int .i64 i.f0, .int .i64 i.f1, .int .i64 i.f2, .int .u32 i.f3], .int .i64 left, .map (some Mb)] w fun e w' => e = .returned (.bool (match Lc i.f0 with | some t => cloB t i left | none => true)) ∧ Below w.heap.size w w' := by
  have hkn := fun W => Known_any i.f0 W
  rw [hk] at hkn
  have HRT := Aside0.mk (fun W => ret_any i W)
  have C150 := Aside0.mk (clo150 i left)
  have C151 := Aside0.mk (clo151 i left)
  have C152 := Aside0.mk (clo152 i left)
  have C153 := Aside0.mk (clo153 i left hk3)
  have C154 := Aside0.mk (clo154 i left)
  have C155 := Aside0.mk (clo155 i left hk3)
  have hcl := Lc_cases i.f0
  have HM := Aside0.mk hM
  have HL := Aside0.mk (fun (W : World) (hb : Below w.heap.size w W) => (hM.below hb).look i.f0 hc)
  generalize hL : Lc i.f0 = L at *
  generalize hB0 : cloB 150 i left = b150 at *
  generalize hB1 : cloB 151 i left = b151 at *
  generalize hB2 : cloB 152 i left = b152 at *
  generalize hB3 : cloB 153 i left = b153 at *
  generalize hB4 : cloB 154 i left = b154 at *
  generalize hB5 : cloB 155 i left = b155 at *
  have E0 := Aside0.mk hB0
  have E1 := Aside0.mk hB1
  have E2 := Aside0.mk hB2
  have E3 := Aside0.mk hB3
  have E4 := Aside0.mk hB4
  have E5 := Aside0.mk hB5
  clear hB0 hB1 hB2 hB3 hB4 hB5 hL hM
  have HRT' : Aside0 (left = 0 → ∀ W, Calls Try.prog 131 #[.agg #[.int .i64 i.f0, .int .i64 i.f1, .int .i64 i.f2, .int .u32 i.f3]] W fun e w' => e = .returned (.bool true) ∧ Below W.heap.size W w') := ⟨fun h0 => by
    have e : retB i.f0 = true := h5.resolve_left (fun x => x h0)
    have k := HRT.out
    rw [e] at k
    exact k⟩
  clear HRT
  obtain ⟨a0, a1, a2, a3⟩ := i
  simp only at *
  have hu28 := Try.underlying28
  have HK := Aside0.mk hkn
  clear hkn hk hc hk3
  have HB0 := Aside0.mk (heap_alloc_new w (.cells #[.int .i64 a0, .int .i64 a1, .int .i64 a2, .int .u32 a3] 28))
  have d1 : decide (a1 < 0) = false := decide_eq_false h1
  have d2 : decide (255 < a1) = false := decide_eq_false h2
  have d3 : decide (a2 < 0) = false := decide_eq_false h3
  have d4 : decide (255 < a2) = false := decide_eq_false h4
  clear h1 h2 h3 h4
  by_cases h0 : left = 0
  · subst h0
    have HRT := Aside0.mk (HRT'.out rfl)
    clear HRT' h5
    rcases hcl with rfl | rfl | rfl | rfl | rfl | rfl | rfl
    all_goals
      have hl := HL.out
      simp only [fnV, Option.isSome_some, Option.isSome_none] at hl
      clear HL
      have HL := Aside0.mk hl
      clear hl
      go_enter Try.func129, Try.ntmps129
      go_wp2_with (first | (go_at_call 44; refine (HK.out _).mono ?_; rintro e w1 ⟨rfl, hb1⟩; have HB1 := Aside0.mk (below_step (below_alloc (Below.refl _ _) _) hb1); have HX1 := Aside0.mk (blk_below HB0.out hb1); have kx := blk_cell HX1.out; have k0 := kx 0; have k1 := kx 1; have k2 := kx 2; have k3 := kx 3; clear kx hb1) | (go_at_call 131; refine (HRT.out _).mono ?_; rintro e w2 ⟨rfl, hb2⟩; have HB2 := Aside0.mk (below_step HB1.out hb2); have hl2 := HL.out _ HB2.out; have kx := blk_cell (blk_below HX1.out hb2); have j0 := kx 0; have j1 := kx 1; have j2 := kx 2; have j3 := kx 3; clear kx hb2) | (go_at_call 150; refine (C150.out _).mono ?_; rintro e w3 ⟨rfl, hb3⟩; have HB3 := Aside0.mk (below_step HB2.out hb3); clear hb3) | (go_at_call 151; refine (C151.out _).mono ?_; rintro e w3 ⟨rfl, hb3⟩; have HB3 := Aside0.mk (below_step HB2.out hb3); clear hb3) | (go_at_call 152; refine (C152.out _).mono ?_; rintro e w3 ⟨rfl, hb3⟩; have HB3 := Aside0.mk (below_step HB2.out hb3); clear hb3) | (go_at_call 153; refine (C153.out _).mono ?_; rintro e w3 ⟨rfl, hb3⟩; have HB3 := Aside0.mk (below_step HB2.out hb3); clear hb3) | (go_at_call 154; refine (C154.out _).mono ?_; rintro e w3 ⟨rfl, hb3⟩; have HB3 := Aside0.mk (below_step HB2.out hb3); clear hb3) | (go_at_call 155; refine (C155.out _).mono ?_; rintro e w3 ⟨rfl, hb3⟩; have HB3 := Aside0.mk (below_step HB2.out hb3); clear hb3))
      go_ret
      first
        | exact ⟨rfl, HB2.out⟩
        | exact ⟨by first | (rw [E0.out]; rfl) | (rw [E1.out]; rfl) | (rw [E2.out]; rfl) | (rw [E3.out]; rfl) | (rw [E4.out]; rfl) | (rw [E5.out]; rfl), HB3.out⟩
  · have d0 : (left == 0) = false := beq_eq_false_iff_ne.2 h0
    clear HRT' h5 h0
    rcases hcl with rfl | rfl | rfl | rfl | rfl | rfl | rfl
    all_goals
      have hl := HL.out
      simp only [fnV, Option.isSome_some, Option.isSome_none] at hl
      clear HL
      have HL := Aside0.mk hl
      clear hl
      go_enter Try.func129, Try.ntmps129
      go_wp2_with (first | (go_at_call 44; refine (HK.out _).mono ?_; rintro e w1 ⟨rfl, hb1⟩; have HB1 := Aside0.mk (below_step (below_alloc (Below.refl _ _) _) hb1); have hl1 := HL.out _ HB1.out; have kx := blk_cell (blk_below HB0.out hb1); have k0 := kx 0; have k1 := kx 1; have k2 := kx 2; have k3 := kx 3; clear kx hb1) | (go_at_call 150; refine (C150.out _).mono ?_; rintro e w3 ⟨rfl, hb3⟩; have HB3 := Aside0.mk (below_step HB1.out hb3); clear hb3) | (go_at_call 151; refine (C151.out _).mono ?_; rintro e w3 ⟨rfl, hb3⟩; have HB3 := Aside0.mk (below_step HB1.out hb3); clear hb3) | (go_at_call 152; refine (C152.out _).mono ?_; rintro e w3 ⟨rfl, hb3⟩; have HB3 := Aside0.mk (below_step HB1.out hb3); clear hb3) | (go_at_call 153; refine (C153.out _).mono ?_; rintro e w3 ⟨rfl, hb3⟩; have HB3 := Aside0.mk (below_step HB1.out hb3); clear hb3) | (go_at_call 154; refine (C154.out _).mono ?_; rintro e w3 ⟨rfl, hb3⟩; have HB3 := Aside0.mk (below_step HB1.out hb3); clear hb3) | (go_at_call 155; refine (C155.out _).mono ?_; rintro e w3 ⟨rfl, hb3⟩; have HB3 := Aside0.mk (below_step HB1.out hb3); clear hb3))
      go_ret
      first
        | exact ⟨rfl, HB1.out⟩
        | exact ⟨by first | (rw [E0.out]; rfl) | (rw [E1.out]; rfl) | (rw [E2.out]; rfl) | (rw [E3.out]; rfl) | (rw [E4.out]; rfl) | (rw [E5.out]; rfl), HB3.out⟩
theorem well_c {w : World} {Mb n : Nat} (hM : MapF w Mb n Lc) (i : S28) (left : Int) (hk3 : U i.f3) (hc : (Lit.int .i64 i.f0).wf = true) :
    Calls Try.prog 129 #[.agg #[.int .i64 i.f0, .int .i64 i.f1, .int .i64 i.f2, .int .u32 i.f3], .int .i64 left, .map (some Mb)] w fun e w' => e = .returned (.bool (wellB i left)) ∧ Below w.heap.size w w' := by
  by_cases hbad : knownB i.f0 = false ∨ i.f1 < 0 ∨ i.f1 > 255 ∨ i.f2 < 0 ∨ i.f2 > 255 ∨ (left = 0 ∧ retB i.f0 = false)
  · have e : wellB i left = false := well_false (fun h => by
      have := h.t0; have := h.t1; have := h.f0; have := h.f1
      rcases hbad with g | g | g | g | g | ⟨g, g2⟩
      · rw [h.kn] at g; cases g
      · omega
      · omega
      · omega
      · omega
      · rcases h.lr with k | k
        · exact k g
        · rw [k] at g2; cases g2)
    rw [e]
    exact well_bad i left hbad
  · have k1 : knownB i.f0 = true := by
      cases e : knownB i.f0 with
      | true => rfl
      | false => exact absurd (.inl e) hbad
    have k2 : ¬ i.f1 < 0 := fun h => hbad (.inr (.inl h))
    have k3 : ¬ i.f1 > 255 := fun h => hbad (.inr (.inr (.inl h)))
    have k4 : ¬ i.f2 < 0 := fun h => hbad (.inr (.inr (.inr (.inl h))))
    have k5 : ¬ i.f2 > 255 := fun h => hbad (.inr (.inr (.inr (.inr (.inl h)))))
    have k6 : left ≠ 0 ∨ retB i.f0 = true := by
      by_cases h0 : left = 0
      · right
        cases e : retB i.f0 with
        | true => rfl
        | false => exact absurd (.inr (.inr (.inr (.inr (.inr ⟨h0, e⟩))))) hbad
      · exact .inl h0
    rw [well_tail k1 k2 k3 k4 k5 k6]
    exact well_good hM i left hk3 hc k1 k2 k3 k4 k5 k6
def codesT : Nat → List Int
  | 0 => [32]
  | 1 => [96, 97, 2, 3]
  | 2 => [52]
  | 3 => [100, 116]
  | 4 => [5]
  | _ => [21, 37, 53, 69, 29, 45, 61, 77]
def fnT : Nat → Nat
  | 0 => 153
  | 1 => 150
  | 2 => 154
  | 3 => 151
  | 4 => 155
  | _ => 152
structure TestsAt (w : World) (ad : Addr) (ac : Nat → Addr) : Prop where
  sl : ∀ t, t < 6 → w.cell? (ad.add (t * 2)) = some (.slice (some (ac t)) (codesT t).length (codesT t).length)
  fn : ∀ t, t < 6 → w.cell? ⟨(ad.add (t * 2)).block, (ad.add (t * 2)).off + 1, none⟩ = some (.func (.func (fnT t)) #[] #[])
  cd : ∀ t j, t < 6 → j < (codesT t).length → w.cell? ((ac t).add j) = some (.int .i64 ((codesT t).getD j 0))
theorem TestsAt.below {w w' : World} {ad : Addr} {ac : Nat → Addr} (h : TestsAt w ad ac) (hb : Below w.heap.size w w') : TestsAt w' ad ac :=
  ⟨fun t ht => pw_cell_below hb (h.sl t ht), fun t ht => pw_cell_below hb (h.fn t ht), fun t j ht hj => pw_cell_below hb (h.cd t j ht hj)⟩
end Go.Proofs.Ytefkhcijgiagdaa.HCk
end
