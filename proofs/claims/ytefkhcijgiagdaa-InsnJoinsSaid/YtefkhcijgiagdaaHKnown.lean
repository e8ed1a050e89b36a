/- insn.Known, walked: what each call answers. -/
import Derived.Test.YtefkhcijgiagdaaProg
import Derived.Below
import Derived.Deep.Draws
import Derived.Deep.AppendLies
import Derived.Maps.AppendAt
import Derived.OwnWalk
import Derived.Laws.BytesArg
import Derived.Laws.MakeOwn
import Derived.Laws.OwnMore
import Derived.Deep.OwnRows
import Derived.Tactics
import Derived.Lib.ConvBytes
import Derived.Laws.Slices
import Derived.WalkKit
import Derived.KernelRfl
import Derived.RowKit3
import Derived.Deep.LoopGhost
import Derived.Deep.QuietTactic
import Derived.BigQuiet
import Derived.WideLaws
import Derived.Deep.DeepCutAuto
import Derived.Deep.CutBlock
import Derived.Deep.RegionHeld3
import Derived.Laws.Rows
import Derived.Lib.AppendStr
import Derived.ArgAppend
import Derived.Laws.IdiomCopy
import Derived.OrdersHeld
import Derived.Laws.BitsLemmas
import Derived.RowKit
import Derived.Test.YtefkhcijgiagdaaWWords
import Derived.Test.YtefkhcijgiagdaaWLast
import Derived.Test.YtefkhcijgiagdaaWTab
import Derived.Test.YtefkhcijgiagdaaWFour
import Derived.Test.YtefkhcijgiagdaaWQPut
import Derived.Test.YtefkhcijgiagdaaWApart
import Derived.Test.YtefkhcijgiagdaaWArr
import Derived.Test.YtefkhcijgiagdaaWZeros
import Derived.Test.YtefkhcijgiagdaaWFoot
import Derived.Test.YtefkhcijgiagdaaWKept
import Derived.Test.YtefkhcijgiagdaaWShare
import Derived.Test.YtefkhcijgiagdaaWN
import Derived.Test.YtefkhcijgiagdaaWFootNe
import Derived.Test.YtefkhcijgiagdaaWAt
import Derived.Test.YtefkhcijgiagdaaWEqStruct
import Derived.Test.YtefkhcijgiagdaaWRepsOne
import Derived.Test.YtefkhcijgiagdaaWInv
import Derived.Test.YtefkhcijgiagdaaWInvWords
import Derived.Test.YtefkhcijgiagdaaWGuard
import Derived.Test.YtefkhcijgiagdaaWNEv
import Derived.Test.YtefkhcijgiagdaaWMore
import Derived.Laws.Tables
import Derived.Laws.CopyOwn
import Derived.Deep.WholeRow
import Derived.ChangeKeysEq
import Derived.Shelf.Abstract
import Derived.Test.YtefkhcijgiagdaaQLe
namespace Go.Proofs.Ytefkhcijgiagdaa.HKnown
open Go.RowKit Go.Proofs.YtefkhcijgiagdaaW.PrintWords Go.Proofs.YtefkhcijgiagdaaW.PrintLast Go.Proofs.YtefkhcijgiagdaaW.PrintMore Go.Proofs.Ytefkhcijgiagdaa.Le Go.Proofs.Ytefkhcijgiagdaa.QLe
set_option linter.unusedVariables false
set_option linter.unusedSimpArgs false
def codes : List Nat := [32, 128, 0, 96, 1, 97, 129, 2, 3, 4, 20, 36, 52, 68, 84, 100, 116, 132, 164, 12, 28, 44, 60, 76, 92, 108, 124, 172, 5, 21, 37, 53, 69, 29, 45, 61, 77, 6, 22, 7, 135]
def arrK (k : Nat) : Array Value := ((List.range 256).map fun i => Value.bool ((codes.take k).contains i)).toArray
theorem arrK_size (k : Nat) : (arrK k).size = 256 := by simp [arrK]
theorem arrK_one (k : Nat) : (arrK k).all (·.oneCell') = true := by simp [arrK, Value.oneCell']
theorem arrK_get (k j : Nat) (h : j < 256) : (arrK k)[j]? = some (.bool ((codes.take k).contains j)) := by simp [arrK, h]
theorem codes_lt (k : Nat) (h : k < 41) : codes.getD k 0 < 256 := by
  have : ∀ k : Fin 41, codes.getD k.1 0 < 256 := by decide
  exact this ⟨k, h⟩
theorem arrK_succ (k : Nat) (h : k < 41) : (arrK k).setIfInBounds (codes.getD k 0) (.bool true) = arrK (k + 1) := by
  apply Array.ext'
  have hl : k < codes.length := h
  rw [Array.toList_setIfInBounds]
  apply List.ext_getElem
  · simp [arrK]
  · intro j h1 h2
    have hj : j < 256 := by simpa [arrK] using h2
    simp only [arrK, List.getElem_set, List.getElem_map, List.getElem_range]
    have e : (List.take (k + 1) codes).contains j = ((List.take k codes).contains j || codes[k] == j) := by
      rw [List.take_succ_eq_append_getElem hl, Bool.eq_iff_iff]
      simp only [List.contains_eq_mem, List.mem_append, List.mem_singleton, decide_eq_true_eq, Bool.or_eq_true, beq_iff_eq]
      exact or_congr_right eq_comm
    rw [e, List.getD_eq_getElem?_getD, List.getElem?_eq_getElem hl, Option.getD_some]
    by_cases hc : codes[k] = j
    · rw [if_pos hc, beq_iff_eq.mpr hc, Bool.or_true]
    · rw [if_neg hc, beq_eq_false_iff_ne.mpr hc, Bool.or_false]
theorem run_index_agg {P : Program} (t e : TypeId) (n : Nat) (d : TypeDesc) (ht : P.underlying t = some (.array n e)) (hu : P.underlying e = some d) (hd : (match d with | .struct _ | .array _ _ => true | _ => false) = false)
    (i : Nat) (inf : TypeInfo) (hi : P.info? e = some inf) (hs : inf.size = 1) (cs : Array Value) (v : Value) (hv : cs[i]? = some v) (hn : i < n) (w : World) :
    (Instr.index t (.agg cs) (.int .i64 (i : Int))).run P w = .ok v w := by
  have h1 : (sizeOf e).run P w = .ok 1 w := by rw [run_sizeOf w hi]; simp [Program.cellsOf, hi, hs]
  have h2 := run_isAgg_plain (P := P) hu hd w
  have h3 : (0 : Int) ≤ (i : Int) ∧ (i : Int) < (n : Int) := by omega
  simp [Instr.index, run_underlying ht, asIntOf, h1, h2, h3, hn, hv, part, go_sem]
set_option maxRecDepth 100000 in
set_option maxHeartbeats 1000000 in
theorem known_any (w : World) : Calls Try.prog 93 #[] w fun e w' => e = .returned (.agg (arrK 41)) ∧ Below w.heap.size w w' := by
  go_enter Try.func93, Try.ntmps93
  go_wp2
  have hix : ∀ k : Nat, k < 41 → ∀ W, (Instr.index 166 (.agg (#[Value.int .i64 32, Value.int .i64 128, Value.int .i64 0, Value.int .i64 96, Value.int .i64 1, Value.int .i64 97, Value.int .i64 129, Value.int .i64 2, Value.int .i64 3, Value.int .i64 4, Value.int .i64 20, Value.int .i64 36, Value.int .i64 52, Value.int .i64 68, Value.int .i64 84, Value.int .i64 100, Value.int .i64 116, Value.int .i64 132, Value.int .i64 164, Value.int .i64 12, Value.int .i64 28, Value.int .i64 44, Value.int .i64 60, Value.int .i64 76, Value.int .i64 92, Value.int .i64 108, Value.int .i64 124, Value.int .i64 172, Value.int .i64 5, Value.int .i64 21, Value.int .i64 37, Value.int .i64 53, Value.int .i64 69, Value.int .i64 29, Value.int .i64 45, Value.int .i64 61, Value.int .i64 77, Value.int .i64 6, Value.int .i64 22, Value.int .i64 7, Value.int .i64 135] : Array Value)) (.int .i64 (k : Int))).run Try.prog W = .ok (.int .i64 (codes.getD k 0)) W := by
    intro k hk W
    obtain ⟨inf, hi, hs⟩ : ∃ inf, Try.prog.info? 3 = some inf ∧ inf.size = 1 := ⟨_, rfl, rfl⟩
    refine run_index_agg 166 3 41 _ Try.underlying166 Try.underlying3 rfl k inf hi hs _ _ ?_ hk W
    have hE : (#[Value.int .i64 32, Value.int .i64 128, Value.int .i64 0, Value.int .i64 96, Value.int .i64 1, Value.int .i64 97, Value.int .i64 129, Value.int .i64 2, Value.int .i64 3, Value.int .i64 4, Value.int .i64 20, Value.int .i64 36, Value.int .i64 52, Value.int .i64 68, Value.int .i64 84, Value.int .i64 100, Value.int .i64 116, Value.int .i64 132, Value.int .i64 164, Value.int .i64 12, Value.int .i64 28, Value.int .i64 44, Value.int .i64 60, Value.int .i64 76, Value.int .i64 92, Value.int .i64 108, Value.int .i64 124, Value.int .i64 172, Value.int .i64 5, Value.int .i64 21, Value.int .i64 37, Value.int .i64 53, Value.int .i64 69, Value.int .i64 29, Value.int .i64 45, Value.int .i64 61, Value.int .i64 77, Value.int .i64 6, Value.int .i64 22, Value.int .i64 7, Value.int .i64 135] : Array Value) = (codes.map fun c : Nat => Value.int .i64 (c : Int)).toArray := rfl
    have hk2 : k < codes.length := hk
    rw [hE, List.getElem?_toArray, List.getElem?_map, List.getElem?_eq_getElem hk2, List.getD_eq_getElem?_getD, List.getElem?_eq_getElem hk2]; rfl
  generalize hA : (#[Value.int .i64 32, Value.int .i64 128, Value.int .i64 0, Value.int .i64 96, Value.int .i64 1, Value.int .i64 97, Value.int .i64 129, Value.int .i64 2, Value.int .i64 3, Value.int .i64 4, Value.int .i64 20, Value.int .i64 36, Value.int .i64 52, Value.int .i64 68, Value.int .i64 84, Value.int .i64 100, Value.int .i64 116, Value.int .i64 132, Value.int .i64 164, Value.int .i64 12, Value.int .i64 28, Value.int .i64 44, Value.int .i64 60, Value.int .i64 76, Value.int .i64 92, Value.int .i64 108, Value.int .i64 124, Value.int .i64 172, Value.int .i64 5, Value.int .i64 21, Value.int .i64 37, Value.int .i64 53, Value.int .i64 69, Value.int .i64 29, Value.int .i64 45, Value.int .i64 61, Value.int .i64 77, Value.int .i64 6, Value.int .i64 22, Value.int .i64 7, Value.int .i64 135] : Array Value) = ar at hix ⊢
  go_loopw [5] (fun i wr => ∃ k : Nat, k ≤ 41 ∧ i = .int .i64 k ∧ wr.heap[w.heap.size + 1]? = some (.cells (arrK k) 114 (0, 0)) ∧ wr.heap[w.heap.size]? = some (.cells (arrK 0) 114 (0, 0)) ∧ Below w.heap.size w wr) (fun i _ => 41 - (intOf i).toNat)
  case atStart => exact ⟨0, by omega, rfl, heap_alloc2_new _ _ _, heap_alloc2_old _ _ _, by repeat (first | exact Below.refl _ _ | apply below_alloc)⟩
  case round =>
    obtain ⟨k, hk, rfl, hb, hb0, HB⟩ := hrel
    by_cases hlt : k < 41
    · have hd : decide ((k : Int) < 41) = true := decide_eq_true (by omega)
      have hc : wr.cell? ⟨w.heap.size + 1, codes.getD k 0, none⟩ = some (.bool ((codes.take k).contains (codes.getD k 0))) := by rw [blk_cell hb, arrK_get k _ (codes_lt k hlt)]
      have hf : wr.frozen? ⟨w.heap.size + 1, codes.getD k 0, none⟩ = false := blk_frozen hb _
      have hx := hix k hlt
      clear hix
      have hcl := codes_lt k hlt
      have hset := arrK_succ k hlt
      generalize codes.getD k 0 = c at hc hf hx hcl hset
      replace hset := Aside0.mk hset
      go_wp2
      go_roundw
      case rel => exact ⟨k + 1, by omega, by go_num, by rw [← hset.out]; exact blk_set hb c _, blk_far hb0 (by simp) _, HB.setCell (by simp) _⟩
      case measure => simp [intOf]; omega
    · obtain rfl : k = 41 := by omega
      clear hix
      have hb2 := setRow_heap wr w.heap.size (arrK 0) (arrK 41) 114 (0, 0) hb0
      have hd : decide (((41 : Nat) : Int) < 41) = false := rfl
      go_wp2_with (first | (refine wpList_load_row rfl 114 (.tmp 1) rfl (w.heap.size + 1) rfl 114 (arrK 41) (0, 0) _ hb Try.underlying114 rfl (by kernel_rfl) ?_) | (refine wpList_store_row rfl 114 (.tmp 0) (.tmp 11) rfl w.heap.size (arrK 41) rfl rfl 114 (arrK 0) hb0 (by kernel_rfl) (by simp [arrK_size]) (arrK_one _) ?_))
      refine bodyPost_ret (v := .agg (arrK 41)) (results_cell_row (p := 0) (by kernel_rfl) _ _ w.heap.size 114 (arrK 41) (0, 0) _ rfl hb2 Try.underlying114 rfl (by kernel_rfl)) rfl ⟨rfl, ?_⟩
      exact below_setRow HB (Nat.le_refl _) _
/-- is there such a code? -/
def knownB (c : Int) : Bool := decide (0 ≤ c ∧ c < 256) && codes.contains c.toNat
set_option maxRecDepth 100000 in
set_option maxHeartbeats 1000000 in
theorem Known_any (c : Int) (w : World) : Calls Try.prog 44 #[.int .i64 c] w fun e w' => e = .returned (.bool (knownB c)) ∧ Below w.heap.size w w' := by
  by_cases h0 : 0 ≤ c
  · have d0 : decide (0 ≤ c) = true := decide_eq_true h0
    by_cases h1 : c < 256
    · have d1 : decide (c < 256) = true := decide_eq_true h1
      have hr : codes.contains c.toNat = knownB c := by simp [knownB, h0, h1]
      have hg : (arrK 41)[c.toNat]? = some (.bool (knownB c)) := by rw [arrK_get 41 _ (by omega), List.take_of_length_le (by decide), hr]
      clear hr
      go_enter Try.func44, Try.ntmps44
      go_wp2_with (first | (go_at_call 93; refine (known_any _).mono ?_; rintro e w1 ⟨rfl, hb1⟩) | (refine wpList_store_row rfl 114 (.tmp 3) (.tmp 4) rfl _ (arrK 41) rfl rfl 114 _ (heap_alloc_new _ _) (by kernel_rfl) (by simp [arrK_size]) (arrK_one _) ?_; rw [World.setRow_alloc_new]))
      go_ret
      exact ⟨rfl, below_alloc hb1 _⟩
    · have d1 : decide (c < 256) = false := decide_eq_false h1
      have hr : knownB c = false := by simp [knownB, h1]
      rw [hr]
      clear hr
      go_enter Try.func44, Try.ntmps44
      go_wp2_with (first | (go_at_call 93; refine (known_any _).mono ?_; rintro e w1 ⟨rfl, hb1⟩) | (refine wpList_store_row rfl 114 (.tmp 3) (.tmp 4) rfl _ (arrK 41) rfl rfl 114 _ (heap_alloc_new _ _) (by kernel_rfl) (by simp [arrK_size]) (arrK_one _) ?_; rw [World.setRow_alloc_new]))
      go_ret
      exact ⟨rfl, below_alloc hb1 _⟩
  · have d0 : decide (0 ≤ c) = false := decide_eq_false h0
    have hr : knownB c = false := by simp [knownB, h0]
    rw [hr]
    clear hr
    go_enter Try.func44, Try.ntmps44
    go_wp2_with (first | (go_at_call 93; refine (known_any _).mono ?_; rintro e w1 ⟨rfl, hb1⟩) | (refine wpList_store_row rfl 114 (.tmp 3) (.tmp 4) rfl _ (arrK 41) rfl rfl 114 _ (heap_alloc_new _ _) (by kernel_rfl) (by simp [arrK_size]) (arrK_one _) ?_; rw [World.setRow_alloc_new]))
    go_ret
    exact ⟨rfl, below_alloc hb1 _⟩
/-! ### insn_Known: function 44, by hand -/
def insn_Known.f (a0 : Int) : Option Bool := some (knownB a0)
theorem insn_Known.calls (a0 : Int) (r : Bool) (w : World) (h : insn_Known.f a0 = some r) :
    Calls Try.prog 44 #[.int .i64 a0] w fun e w' => e = .returned (.bool r) ∧ Below w.heap.size w w' := by
  obtain rfl := Option.some.inj h
  exact Known_any a0 w
end Go.Proofs.Ytefkhcijgiagdaa.HKnown
