/- CheckStores: with all cells stored ahead of it a filter whose instructions are all well may be. -/
import Derived.Test.YtefkhcijgiagdaaProg
import Derived.Below
import Derived.Deep.Draws
import Derived.Deep.AppendLies
import Derived.Maps.AppendAt
import Derived.OwnWalk
import Derived.Laws.BytesArg
import Derived.Laws.MakeOwn
import Derived.Laws.OwnMore
import Derived.Deep.OwnRows
import Derived.Tactics
import Derived.Lib.ConvBytes
import Derived.Laws.Slices
import Derived.WalkKit
import Derived.KernelRfl
import Derived.RowKit3
import Derived.Deep.LoopGhost
import Derived.Deep.QuietTactic
import Derived.BigQuiet
import Derived.WideLaws
import Derived.Deep.DeepCutAuto
import Derived.Deep.CutBlock
import Derived.Deep.RegionHeld3
import Derived.Laws.Rows
import Derived.Lib.AppendStr
import Derived.ArgAppend
import Derived.Laws.IdiomCopy
import Derived.OrdersHeld
import Derived.Laws.BitsLemmas
import Derived.RowKit
import Derived.Test.YtefkhcijgiagdaaWWords
import Derived.Test.YtefkhcijgiagdaaWLast
import Derived.Test.YtefkhcijgiagdaaWTab
import Derived.Test.YtefkhcijgiagdaaWFour
import Derived.Test.YtefkhcijgiagdaaWQPut
import Derived.Test.YtefkhcijgiagdaaWApart
import Derived.Test.YtefkhcijgiagdaaWArr
import Derived.Test.YtefkhcijgiagdaaWZeros
import Derived.Test.YtefkhcijgiagdaaWFoot
import Derived.Test.YtefkhcijgiagdaaWKept
import Derived.Test.YtefkhcijgiagdaaWShare
import Derived.Test.YtefkhcijgiagdaaWN
import Derived.Test.YtefkhcijgiagdaaWFootNe
import Derived.Test.YtefkhcijgiagdaaWAt
import Derived.Test.YtefkhcijgiagdaaWEqStruct
import Derived.Test.YtefkhcijgiagdaaWRepsOne
import Derived.Test.YtefkhcijgiagdaaWInv
import Derived.Test.YtefkhcijgiagdaaWInvWords
import Derived.Test.YtefkhcijgiagdaaWGuard
import Derived.Test.YtefkhcijgiagdaaWNEv
import Derived.Test.YtefkhcijgiagdaaWMore
import Derived.Laws.Tables
import Derived.Laws.CopyOwn
import Derived.Deep.WholeRow
import Derived.ChangeKeysEq
import Derived.Shelf.Abstract
import Derived.Deep.RegionLaw
import Derived.Maps.OwnSet
import Derived.Shelf.Strings.BuilderK
import Derived.Laws.Externs
import Derived.Laws.EntriesVeiled
import Derived.WalkSpells
import Derived.Deep.RegionLawGrows
import Derived.StillTailTactics
import Derived.DataReads
import Derived.DataElems
import Derived.SizedLaws
import Derived.ProofKit
import Derived.Test.YtefkhcijgiagdaaRows
import Derived.Test.YtefkhcijgiagdaaOrder
import Derived.OpenShut
import Derived.ShutString
import Derived.ChangeOld
section
namespace Go.Proofs.Ytefkhcijgiagdaa.Le
open Go.RowKit Go.Proofs.YtefkhcijgiagdaaW.PrintWords Go.Proofs.YtefkhcijgiagdaaW.PrintLast Go.Proofs.YtefkhcijgiagdaaW.PrintMore
attribute [local go_sem] max2_int min2_int max_two min_two max_three min_three max_four min_four IntKind.wrap_u32 IntKind.wrap_u8   -- for this text's walks alone
set_option linter.unusedVariables false
set_option linter.unusedSimpArgs false
def errW : Option Int → Value
  | none => .nilIface
  | some c => .iface 0 (.int .i64 c)
theorem errW_none : errW none = .nilIface := rfl
theorem errW_some (c : Int) : errW (some c) = .iface 0 (.int .i64 c) := rfl
end Go.Proofs.Ytefkhcijgiagdaa.Le
end
section
namespace Go.Proofs.Ytefkhcijgiagdaa.QLe
open Go.RowKit Go.Proofs.YtefkhcijgiagdaaW.PrintWords Go.Proofs.YtefkhcijgiagdaaW.PrintLast Go.Proofs.YtefkhcijgiagdaaW.PrintMore Go.Proofs.Ytefkhcijgiagdaa.Le
set_option linter.unusedVariables false
set_option linter.unusedSimpArgs false
theorem w64 (x : Int) (h : -9223372036854775808 ≤ x) (h2 : x ≤ 9223372036854775807) : wrap64 x = x := by unfold wrap64; omega
def leB (n : Int) (sz : Nat) : List Int := (List.range sz).map fun i => n / 256 ^ i % 256
def part (n : Int) (sz i : Nat) : List Int := (List.range sz).map fun j => if j < i then n / 256 ^ j % 256 else 0
end Go.Proofs.Ytefkhcijgiagdaa.QLe
end
section
namespace Go.Proofs.Ytefkhcijgiagdaa.HKnown
open Go.RowKit Go.Proofs.YtefkhcijgiagdaaW.PrintWords Go.Proofs.YtefkhcijgiagdaaW.PrintLast Go.Proofs.YtefkhcijgiagdaaW.PrintMore Go.Proofs.Ytefkhcijgiagdaa.Le Go.Proofs.Ytefkhcijgiagdaa.QLe
set_option linter.unusedVariables false
set_option linter.unusedSimpArgs false
def codes : List Nat := [32, 128, 0, 96, 1, 97, 129, 2, 3, 4, 20, 36, 52, 68, 84, 100, 116, 132, 164, 12, 28, 44, 60, 76, 92, 108, 124, 172, 5, 21, 37, 53, 69, 29, 45, 61, 77, 6, 22, 7, 135]
def arrK (k : Nat) : Array Value := ((List.range 256).map fun i => Value.bool ((codes.take k).contains i)).toArray
theorem arrK_size (k : Nat) : (arrK k).size = 256 := by simp [arrK]
theorem arrK_one (k : Nat) : (arrK k).all (·.oneCell') = true := by simp [arrK, Value.oneCell']
theorem arrK_get (k j : Nat) (h : j < 256) : (arrK k)[j]? = some (.bool ((codes.take k).contains j)) := by simp [arrK, h]
theorem codes_lt (k : Nat) (h : k < 41) : codes.getD k 0 < 256 := by
  have : ∀ k : Fin 41, codes.getD k.1 0 < 256 := by decide
  exact this ⟨k, h⟩
theorem arrK_succ (k : Nat) (h : k < 41) : (arrK k).setIfInBounds (codes.getD k 0) (.bool true) = arrK (k + 1) := by
  apply Array.ext'
  have hl : k < codes.length := h
  rw [Array.toList_setIfInBounds]
  apply List.ext_getElem
  · simp [arrK]
  · intro j h1 h2
    have hj : j < 256 := by simpa [arrK] using h2
    simp only [arrK, List.getElem_set, List.getElem_map, List.getElem_range]
    have e : (List.take (k + 1) codes).contains j = ((List.take k codes).contains j || codes[k] == j) := by
      rw [List.take_succ_eq_append_getElem hl, Bool.eq_iff_iff]
      simp only [List.contains_eq_mem, List.mem_append, List.mem_singleton, decide_eq_true_eq, Bool.or_eq_true, beq_iff_eq]
      exact or_congr_right eq_comm
    rw [e, List.getD_eq_getElem?_getD, List.getElem?_eq_getElem hl, Option.getD_some]
    by_cases hc : codes[k] = j
    · rw [if_pos hc, beq_iff_eq.mpr hc, Bool.or_true]
    · rw [if_neg hc, beq_eq_false_iff_ne.mpr hc, Bool.or_false]
theorem run_index_agg {P : Program} (t e : TypeId) (n : Nat) (d : TypeDesc) (ht : P.underlying t = some (.array n e)) (hu : P.underlying e = some d) (hd : (match d with | .struct _ | .array _ _ => true | _ => false) = false)
    (i : Nat) (inf : TypeInfo) (hi : P.info? e = some inf) (hs : inf.size = 1) (cs : Array Value) (v : Value) (hv : cs[i]? = some v) (hn : i < n) (w : World) :
    (Instr.index t (.agg cs) (.int .i64 (i : Int))).run P w = .ok v w := by
  have h1 : (sizeOf e).run P w = .ok 1 w := by rw [run_sizeOf w hi]; simp [Program.cellsOf, hi, hs]
  have h2 := run_isAgg_plain (P := P) hu hd w
  have h3 : (0 : Int) ≤ (i : Int) ∧ (i : Int) < (n : Int) := by omega
  simp [Instr.index, run_underlying ht, asIntOf, h1, h2, h3, hn, hv, part, go_sem]
set_option maxRecDepth 100000 in
set_option maxHeartbeats 1000000 in
theorem known_any (w : World) : Calls Try.prog 93 #[] w fun e w' => e = .returned (.agg (arrK 41)) ∧ Below w.heap.size w w' := by
  go_enter Try.func93, Try.ntmps93
  go_wp2
  have hix : ∀ k : Nat, k < 41 → ∀ W, (Instr.index 166 (.agg (#[Value.int .i64 32, Value.int .i64 128, Value.int .i64 0, Value.int .i64 96, Value.int .i64 1, Value.int .i64 97, Value.int .i64 129, Value.int .i64 2, Value.int .i64 3, Value.int .i64 4, Value.int .i64 20, Value.int .i64 36, Value.int .i64 52, Value.int .i64 68, Value.int .i64 84, Value.int .i64 100, Value.int .i64 116, Value.int .i64 132, Value.int .i64 164, Value.int .i64 12, Value.int .i64 28, Value.int .i64 44, Value.int .i64 60, Value.int .i64 76, Value.int .i64 92, Value.int .i64 108, Value.int .i64 124, Value.int .i64 172, Value.int .i64 5, Value.int .i64 21, Value.int .i64 37, Value.int .i64 53, Value.int .i64 69, Value.int .i64 29, Value.int .i64 45, Value.int .i64 61, Value.int .i64 77, Value.int .i64 6, Value.int .i64 22, Value.int .i64 7, Value.int .i64 135] : Array Value)) (.int .i64 (k : Int))).run Try.prog W = .ok (.int .i64 (codes.getD k 0)) W := by
    intro k hk W
    obtain ⟨inf, hi, hs⟩ : ∃ inf, Try.prog.info? 3 = some inf ∧ inf.size = 1 := ⟨_, rfl, rfl⟩
    refine run_index_agg 166 3 41 _ Try.underlying166 Try.underlying3 rfl k inf hi hs _ _ ?_ hk W
    have hE : (#[Value.int .i64 32, Value.int .i64 128, Value.int .i64 0, Value.int .i64 96, Value.int .i64 1, Value.int .i64 97, Value.int .i64 129, Value.int .i64 2, Value.int .i64 3, Value.int .i64 4, Value.int .i64 20, Value.int .i64 36, Value.int .i64 52, Value.int .i64 68, Value.int .i64 84, Value.int .i64 100, Value.int .i64 116, Value.int .i64 132, Value.int .i64 164, Value.int .i64 12, Value.int .i64 28, Value.int .i64 44, Value.int .i64 60, Value.int .i64 76, Value.int .i64 92, Value.int .i64 108, Value.int .i64 124, Value.int .i64 172, Value.int .i64 5, Value.int .i64 21, Value.int .i64 37, Value.int .i64 53, Value.int .i64 69, Value.int .i64 29, Value.int .i64 45, Value.int .i64 61, Value.int .i64 77, Value.int .i64 6, Value.int .i64 22, Value.int .i64 7, Value.int .i64 135] : Array Value) = (codes.map fun c : Nat => Value.int .i64 (c : Int)).toArray := rfl
    have hk2 : k < codes.length := hk
    rw [hE, List.getElem?_toArray, List.getElem?_map, List.getElem?_eq_getElem hk2, List.getD_eq_getElem?_getD, List.getElem?_eq_getElem hk2]; rfl
  generalize hA : (#[Value.int .i64 32, Value.int .i64 128, Value.int .i64 0, Value.int .i64 96, Value.int .i64 1, Value.int .i64 97, Value.int .i64 129, Value.int .i64 2, Value.int .i64 3, Value.int .i64 4, Value.int .i64 20, Value.int .i64 36, Value.int .i64 52, Value.int .i64 68, Value.int .i64 84, Value.int .i64 100, Value.int .i64 116, Value.int .i64 132, Value.int .i64 164, Value.int .i64 12, Value.int .i64 28, Value.int .i64 44, Value.int .i64 60, Value.int .i64 76, Value.int .i64 92, Value.int .i64 108, Value.int .i64 124, Value.int .i64 172, Value.int .i64 5, Value.int .i64 21, Value.int .i64 37, Value.int .i64 53, Value.int .i64 69, Value.int .i64 29, Value.int .i64 45, Value.int .i64 61, Value.int .i64 77, Value.int .i64 6, Value.int .i64 22, Value.int .i64 7, Value.int .i64 135] : Array Value) = ar at hix ⊢
  go_loopw [5] (fun i wr => ∃ k : Nat, k ≤ 41 ∧ i = .int .i64 k ∧ wr.heap[w.heap.size + 1]? = some (.cells (arrK k) 114 (0, 0)) ∧ wr.heap[w.heap.size]? = some (.cells (arrK 0) 114 (0, 0)) ∧ Below w.heap.size w wr) (fun i _ => 41 - (intOf i).toNat)
  case atStart => exact ⟨0, by omega, rfl, heap_alloc2_new _ _ _, heap_alloc2_old _ _ _, by repeat (first | exact Below.refl _ _ | apply below_alloc)⟩
  case round =>
    obtain ⟨k, hk, rfl, hb, hb0, HB⟩ := hrel
    by_cases hlt : k < 41
    · have hd : decide ((k : Int) < 41) = true := decide_eq_true (by omega)
      have hc : wr.cell? ⟨w.heap.size + 1, codes.getD k 0, none⟩ = some (.bool ((codes.take k).contains (codes.getD k 0))) := by rw [blk_cell hb, arrK_get k _ (codes_lt k hlt)]
      have hf : wr.frozen? ⟨w.heap.size + 1, codes.getD k 0, none⟩ = false := blk_frozen hb _
      have hx := hix k hlt
      clear hix
      have hcl := codes_lt k hlt
      have hset := arrK_succ k hlt
      generalize codes.getD k 0 = c at hc hf hx hcl hset
      replace hset := Aside0.mk hset
      go_wp2
      go_roundw
      case rel => exact ⟨k + 1, by omega, by go_num, by rw [← hset.out]; exact blk_set hb c _, blk_far hb0 (by simp) _, HB.setCell (by simp) _⟩
      case measure => simp [intOf]; omega
    · obtain rfl : k = 41 := by omega
      clear hix
      have hb2 := setRow_heap wr w.heap.size (arrK 0) (arrK 41) 114 (0, 0) hb0
      have hd : decide (((41 : Nat) : Int) < 41) = false := rfl
      go_wp2_with (first | (refine wpList_load_row rfl 114 (.tmp 1) rfl (w.heap.size + 1) rfl 114 (arrK 41) (0, 0) _ hb Try.underlying114 rfl (by kernel_rfl) ?_) | (refine wpList_store_row rfl 114 (.tmp 0) (.tmp 11) rfl w.heap.size (arrK 41) rfl rfl 114 (arrK 0) hb0 (by kernel_rfl) (by simp [arrK_size]) (arrK_one _) ?_))
      refine bodyPost_ret (v := .agg (arrK 41)) (results_cell_row (p := 0) (by kernel_rfl) _ _ w.heap.size 114 (arrK 41) (0, 0) _ rfl hb2 Try.underlying114 rfl (by kernel_rfl)) rfl ⟨rfl, ?_⟩
      exact below_setRow HB (Nat.le_refl _) _
/-- is there such a code? -/
def knownB (c : Int) : Bool := decide (0 ≤ c ∧ c < 256) && codes.contains c.toNat
set_option maxRecDepth 100000 in
set_option maxHeartbeats 1000000 in
theorem Known_any (c : Int) (w : World) : Calls Try.prog 44 #[.int .i64 c] w fun e w' => e = .returned (.bool (knownB c)) ∧ Below w.heap.size w w' := by
  by_cases h0 : 0 ≤ c
  · have d0 : decide (0 ≤ c) = true := decide_eq_true h0
    by_cases h1 : c < 256
    · have d1 : decide (c < 256) = true := decide_eq_true h1
      have hr : codes.contains c.toNat = knownB c := by simp [knownB, h0, h1]
      have hg : (arrK 41)[c.toNat]? = some (.bool (knownB c)) := by rw [arrK_get 41 _ (by omega), List.take_of_length_le (by decide), hr]
      clear hr
      go_enter Try.func44, Try.ntmps44
      go_wp2_with (first | (go_at_call 93; refine (known_any _).mono ?_; rintro e w1 ⟨rfl, hb1⟩) | (refine wpList_store_row rfl 114 (.tmp 3) (.tmp 4) rfl _ (arrK 41) rfl rfl 114 _ (heap_alloc_new _ _) (by kernel_rfl) (by simp [arrK_size]) (arrK_one _) ?_; rw [World.setRow_alloc_new]))
      go_ret
      exact ⟨rfl, below_alloc hb1 _⟩
    · have d1 : decide (c < 256) = false := decide_eq_false h1
      have hr : knownB c = false := by simp [knownB, h1]
      rw [hr]
      clear hr
      go_enter Try.func44, Try.ntmps44
      go_wp2_with (first | (go_at_call 93; refine (known_any _).mono ?_; rintro e w1 ⟨rfl, hb1⟩) | (refine wpList_store_row rfl 114 (.tmp 3) (.tmp 4) rfl _ (arrK 41) rfl rfl 114 _ (heap_alloc_new _ _) (by kernel_rfl) (by simp [arrK_size]) (arrK_one _) ?_; rw [World.setRow_alloc_new]))
      go_ret
      exact ⟨rfl, below_alloc hb1 _⟩
  · have d0 : decide (0 ≤ c) = false := decide_eq_false h0
    have hr : knownB c = false := by simp [knownB, h0]
    rw [hr]
    clear hr
    go_enter Try.func44, Try.ntmps44
    go_wp2_with (first | (go_at_call 93; refine (known_any _).mono ?_; rintro e w1 ⟨rfl, hb1⟩) | (refine wpList_store_row rfl 114 (.tmp 3) (.tmp 4) rfl _ (arrK 41) rfl rfl 114 _ (heap_alloc_new _ _) (by kernel_rfl) (by simp [arrK_size]) (arrK_one _) ?_; rw [World.setRow_alloc_new]))
    go_ret
    exact ⟨rfl, below_alloc hb1 _⟩
end Go.Proofs.Ytefkhcijgiagdaa.HKnown
end
section
namespace Go.Proofs.Ytefkhcijgiagdaa.HPut
open Go.RowKit Go.Proofs.YtefkhcijgiagdaaW.PrintWords Go.Proofs.YtefkhcijgiagdaaW.PrintLast Go.Proofs.YtefkhcijgiagdaaW.PrintMore Go.Proofs.Ytefkhcijgiagdaa.Le Go.Proofs.Ytefkhcijgiagdaa.QLe
set_option linter.unusedVariables false
set_option linter.unusedSimpArgs false
def putOk (a b c : Int) : Bool := decide (0 ≤ a ∧ a < 65536 ∧ 0 ≤ b ∧ b < 256 ∧ 0 ≤ c ∧ c < 256)
end Go.Proofs.Ytefkhcijgiagdaa.HPut
end
section
namespace Go.Proofs.Ytefkhcijgiagdaa.I1
open Go.RowKit Go.Proofs.YtefkhcijgiagdaaW.PrintWords Go.Proofs.YtefkhcijgiagdaaW.PrintLast Go.Proofs.YtefkhcijgiagdaaW.PrintMore
attribute [local go_sem] max2_int min2_int max_two min_two max_three min_three max_four min_four IntKind.wrap_u32 IntKind.wrap_u8   -- for this text's walks alone
set_option linter.unusedVariables false
open Go.Proofs.Ytefkhcijgiagdaa.Le Go.Proofs.Ytefkhcijgiagdaa.HKnown Go.Proofs.Ytefkhcijgiagdaa.HPut
set_option linter.unusedSimpArgs false
def errW : Option Int → Value
  | none => .nilIface
  | some c => .iface 0 (.int .i64 c)
theorem errW_none : errW none = .nilIface := rfl
theorem errW_some (c : Int) : errW (some c) = .iface 0 (.int .i64 c) := rfl
theorem info28 : (Try.prog.info? 28).map (fun i => (i.zero, i.size, i.bytes)) = some (some (.agg #[(.int .i64 0), (.int .i64 0), (.int .i64 0), (.int .u32 0)]), 4, 32) := by kernel_rfl
structure S28 where
  f0 : Int
  f1 : Int
  f2 : Int
  f3 : Int
def z28 : S28 := ⟨(0 : Int), (0 : Int), (0 : Int), (0 : Int)⟩
def k28 : Kd S28 := Kd.iso (Kd.pair (Kd.int .i64) (Kd.pair (Kd.int .i64) (Kd.pair (Kd.int .i64) (Kd.int .u32)))) (fun x : S28 => (x.f0, x.f1, x.f2, x.f3))
theorem k28_open {w : World} {x : S28} {cs : List Value} (h : k28.K w x cs) : cs = [.int .i64 x.f0, .int .i64 x.f1, .int .i64 x.f2, .int .u32 x.f3] := by
  obtain ⟨_, _, rfl, rfl, ⟨_, _, rfl, rfl, ⟨_, _, rfl, rfl, rfl⟩⟩⟩ := h
  exact rfl
theorem k28_mkM (w : World) (base : Nat) (ok : Nat → Prop) (x : S28)  : k28.M w base ok x [.int .i64 x.f0, .int .i64 x.f1, .int .i64 x.f2, .int .u32 x.f3] := ⟨[.int .i64 x.f0], [.int .i64 x.f1, .int .i64 x.f2, .int .u32 x.f3], rfl, rfl, ⟨[.int .i64 x.f1], [.int .i64 x.f2, .int .u32 x.f3], rfl, rfl, ⟨[.int .i64 x.f2], [.int .u32 x.f3], rfl, rfl, rfl⟩⟩⟩
def rd_T28 (xs : List S28) (i : Int) : S28 := xs.getD i.toNat z28
theorem at_T28 {w : World} {A : Option Addr} {n : Nat} {xs : List S28} (h : Kd.C k28 w A n xs) (i : Int) (h0 : 0 ≤ i) (h1 : i < n) : ∃ ad , A = some ad ∧ w.cell? (ad.add (i.toNat * 4)) = some (.int .i64 (rd_T28 xs i).f0) ∧ w.cell? ⟨(ad.add (i.toNat * 4)).block, (ad.add (i.toNat * 4)).off + 1, none⟩ = some (.int .i64 (rd_T28 xs i).f1) ∧ w.cell? ⟨(ad.add (i.toNat * 4)).block, (ad.add (i.toNat * 4)).off + 2, none⟩ = some (.int .i64 (rd_T28 xs i).f2) ∧ w.cell? ⟨(ad.add (i.toNat * 4)).block, (ad.add (i.toNat * 4)).off + 3, none⟩ = some (.int .u32 (rd_T28 xs i).f3) := by
  obtain ⟨ad, c, e, _, hK, hc0⟩ := Kd.C_get h z28 i h0 h1
  have hc : ∀ j u, c[j]? = some u → w.cell? (ad.add (i.toNat * 4 + j)) = some u := hc0
  obtain rfl := k28_open hK
  exact ⟨ad, e, hc 0 _ rfl, by rw [← add_field _ _ 1 (by omega)]; exact hc 1 _ rfl, by rw [← add_field _ _ 2 (by omega)]; exact hc 2 _ rfl, by rw [← add_field _ _ 3 (by omega)]; exact hc 3 _ rfl⟩
end Go.Proofs.Ytefkhcijgiagdaa.I1
end
section
namespace Go.Proofs.Ytefkhcijgiagdaa.E1
open Go.RowKit Go.Proofs.YtefkhcijgiagdaaW.PrintWords Go.Proofs.YtefkhcijgiagdaaW.PrintLast Go.Proofs.YtefkhcijgiagdaaW.PrintMore
attribute [local go_sem] max2_int min2_int max_two min_two max_three min_three max_four min_four IntKind.wrap_u32 IntKind.wrap_u8   -- for this text's walks alone
set_option linter.unusedVariables false
open Go.Proofs.Ytefkhcijgiagdaa.Le Go.Proofs.Ytefkhcijgiagdaa.HKnown Go.Proofs.Ytefkhcijgiagdaa.HPut Go.Proofs.Ytefkhcijgiagdaa.I1
set_option linter.unusedSimpArgs false
def errW : Option Int → Value
  | none => .nilIface
  | some c => .iface 0 (.int .i64 c)
theorem errW_none : errW none = .nilIface := rfl
theorem errW_some (c : Int) : errW (some c) = .iface 0 (.int .i64 c) := rfl
end Go.Proofs.Ytefkhcijgiagdaa.E1
end
section
namespace Go.Proofs.Ytefkhcijgiagdaa.HAsm
open Go.RowKit Go.Proofs.YtefkhcijgiagdaaW.PrintWords Go.Proofs.YtefkhcijgiagdaaW.PrintLast Go.Proofs.YtefkhcijgiagdaaW.PrintMore Go.Proofs.Ytefkhcijgiagdaa.I1 Go.Proofs.Ytefkhcijgiagdaa.E1
set_option linter.unusedVariables false
set_option linter.unusedSimpArgs false
set_option maxRecDepth 100000
theorem law3 : Maps.Keyed Try.prog 3 := Maps.int_keyed Try.underlying3
theorem zero3 (w : World) : (zeroValue 3).run Try.prog w = .ok (.int .i64 0) w := by kernel_rfl
def MapIs (w : World) (b n : Nat) (L : Int → Option Int) : Prop :=
  ∃ D : DataW Unit, w.ownsMap Try.prog 3 (plainElem Try.prog 3) b n D ∧ Maps.IsMap D ∧ ∀ (k : Int) (z : DataW Unit), D.atKey (.int .i64 k) z = match L k with | some v => .lit (.int .i64 v) | none => z
theorem MapIs.lt {w : World} {b n : Nat} {L : Int → Option Int} (h : MapIs w b n L) : b < w.heap.size := by obtain ⟨D, h, _⟩ := h; exact h.lt
theorem MapIs.kept {w w' : World} {b n : Nat} {L : Int → Option Int} (h : MapIs w b n L) (he : w'.heap[b]? = w.heap[b]?) : MapIs w' b n L := by
  obtain ⟨D, ⟨es, clock, hb, F, hs, hD⟩, h2⟩ := h
  exact ⟨D, ⟨es, clock, he.trans hb, F, hs, hD⟩, h2⟩
theorem MapIs.made (w : World) : MapIs (w.alloc (.map #[] 0)) w.heap.size 0 (fun _ => none) := ⟨.map [], World.ownsMap_made _ _ _ _, Maps.isMap_empty, fun _ _ => rfl⟩
theorem MapIs.look {w : World} {b n : Nat} {L : Int → Option Int} (h : MapIs w b n L) (k : Int) (hk : (Lit.int .i64 k).wf = true) :
    (Instr.lookup 105 (.map (some b)) (.int .i64 k) true).run Try.prog w = .ok (.tuple #[.int .i64 ((L k).getD 0), .bool (L k).isSome]) w := by
  obtain ⟨D, ho, hm, hat⟩ := h
  obtain ⟨v, ps, hrun, hv⟩ := ho.look_ok (t := 105) (e := 3) law3 Try.underlying105 (zero3 w) (plainElem_int Try.underlying3 (by decide)) (Maps.keyOf_int_mk Try.underlying3 hk)
  rw [hrun]
  have e1 : Maps.has D (.int .i64 k) = (L k).isSome := by
    cases hL : L k with
    | none => exact Maps.has_false_of_atKey (fun z => by rw [hat, hL])
    | some x => exact Maps.has_true_of_atKey (y := .lit (.int .i64 x)) (fun z => by rw [hat, hL])
  have e2 : v = .int .i64 ((L k).getD 0) := by
    obtain ⟨c, rfl, hc, _⟩ := plainElem_int_inv Try.underlying3 hv
    rw [hat] at hc
    cases hL : L k with
    | none => rw [hL] at hc; cases hc; rfl
    | some x => rw [hL] at hc; cases hc; rfl
  rw [e1, e2]
theorem MapIs.store {w : World} {b n : Nat} {L : Int → Option Int} (h : MapIs w b n L) (hn : n < 1000000) (k v : Int) (hk : (Lit.int .i64 k).wf = true) (hv : (Lit.int .i64 v).wf = true) :
    ∃ w', (Instr.mapUpdate 105 (.map (some b)) (.int .i64 k) (.int .i64 v)).run Try.prog w = .ok () w' ∧ MapIs w' b (n + 1) (fun x => if x = k then some v else L x) ∧ w.grownBy w' (some b) := by
  obtain ⟨D, ho, hm, hat⟩ := h
  obtain ⟨w', hrun, ho', hg⟩ := ho.update (t := 105) (e := 3) law3 Try.underlying105 (by unfold maxLen; omega) (Maps.keyOf_int_mk Try.underlying3 hk) (plainElem_int Try.underlying3 hv)
  refine ⟨w', hrun, ⟨_, ho', hm.put _ _, fun x z => ?_⟩, hg⟩
  by_cases hx : x = k
  · subst hx
    show _ = match (if x = x then some v else L x) with | some v => _ | none => _
    rw [if_pos rfl, Maps.atKey_put_same hm (show WideAt.IsKeyLit (.int .i64 x) from trivial)]
  · show _ = match (if x = k then some v else L x) with | some v => _ | none => _
    rw [if_neg hx, Maps.atKey_put_other (fun e => hx (by cases e; rfl)), hat]
structure Fr (B : Nat) (w w' : World) : Prop where
  bel : Below B w w'
  keep : ∀ (g t : Nat) (cs : Array Value), t ≠ 28 → t ≠ 107 → w.heap[g]? = some (Obj.cells cs t (0, 0)) → w'.heap[g]? = some (Obj.cells cs t (0, 0))
theorem Fr.refl (B : Nat) (w : World) : Fr B w w := ⟨Below.refl B w, fun _ _ _ _ _ h => h⟩
theorem Fr.trans {B : Nat} {a b c : World} (h : Fr B a b) (k : Fr B b c) : Fr B a c := ⟨h.bel.trans k.bel, fun g t cs h1 h2 h3 => k.keep g t cs h1 h2 (h.keep g t cs h1 h2 h3)⟩
theorem Fr.alloc {B : Nat} {a w : World} (h : Fr B a w) (hB : B ≤ w.heap.size) (o : Obj) : Fr B a (w.alloc o) :=
  ⟨h.bel.alloc hB o, fun g t cs h1 h2 h3 => (Below.heap_alloc w o g (Array.getElem?_eq_some_iff.1 (h.keep g t cs h1 h2 h3)).1).trans (h.keep g t cs h1 h2 h3)⟩
theorem Fr.drew {B : Nat} {a w : World} (h : Fr B a w) : Fr B a w.drew := ⟨h.bel.drew, h.keep⟩
theorem Fr.setCell {B : Nat} {a w : World} (h : Fr B a w) {g : Nat} (hB : B ≤ g) {cs : Array Value} (hg : w.heap[g]? = some (Obj.cells cs 107 (0, 0))) (j : Nat) (u : Value) : Fr B a (w.setCell ⟨g, j, none⟩ u) :=
  ⟨h.bel.setCell hB u, fun k t cs' h1 h2 h3 => by
    have h4 := h.keep k t cs' h1 h2 h3
    refine (Below.heap_setCell w ⟨g, j, none⟩ u k ?_).trans h4
    rintro rfl
    rw [hg] at h4; injection h4 with h4; injection h4 with _ h4; exact h2 h4.symm⟩
theorem Fr.grown {B : Nat} {a w w' : World} {row : Option Nat} (h : Fr B a w) (hg : w.grownBy w' row) (hB : B ≤ w.heap.size) (hr : ∀ k, row = some k → B ≤ k ∧ ∀ t cs, t ≠ 28 → w.heap[k]? ≠ some (Obj.cells cs t (0, 0))) : Fr B a w' :=
  ⟨h.bel.grown hg hB (fun k hk => (hr k hk).1), fun k t cs h1 h2 h3 => by
    have h4 := h.keep k t cs h1 h2 h3
    refine (hg.block k (Array.getElem?_eq_some_iff.1 h4).1 ?_).trans h4
    intro hk
    exact (hr k hk.symm).2 t cs h1 h4⟩
structure St (w : World) (B Wb Mb : Nat) (A : Option Addr) (cap : Nat) (xs : List S28) (L : Int → Option Int) (n : Nat) (bad : Bool) : Prop where
  hW : w.heap[Wb]? = some (.cells #[.slice A xs.length cap, .map (some Mb), .bool bad] 107 (0, 0))
  hR : Kd.R k28 28 w B (fun _ => True) (.slice A xs.length cap) xs
  hM : MapIs w Mb n L
  bW : B ≤ Wb
  bM : B ≤ Mb
theorem St.lt {w : World} {B Wb Mb : Nat} {A : Option Addr} {cap : Nat} {xs : List S28} {L : Int → Option Int} {n : Nat} {bad : Bool} (h : St w B Wb Mb A cap xs L n bad) : Wb < w.heap.size :=
  (Array.getElem?_eq_some_iff.1 h.hW).1
/-- A world in which all blocks stand as they did. -/
theorem St.below {w w' : World} {B Wb Mb : Nat} {A : Option Addr} {cap : Nat} {xs : List S28} {L : Int → Option Int} {n : Nat} {bad : Bool} (h : St w B Wb Mb A cap xs L n bad) (hb : Below w.heap.size w w') : St w' B Wb Mb A cap xs L n bad :=
  ⟨(hb.block _ h.lt).trans h.hW, Kd.R_below h.hR hb, h.hM.kept (hb.block _ h.hM.lt), h.bW, h.bM⟩
theorem St.ne {w : World} {B Wb Mb : Nat} {A : Option Addr} {cap : Nat} {xs : List S28} {L : Int → Option Int} {n : Nat} {bad : Bool} (h : St w B Wb Mb A cap xs L n bad) : Mb ≠ Wb := by
  rintro rfl
  obtain ⟨D, ⟨es, clock, hb, _⟩, _⟩ := h.hM
  rw [h.hW] at hb; cases hb
theorem St.put {w0 w w1 : World} {B Wb Mb : Nat} {A A1 : Option Addr} {cap c1 : Nat} {xs : List S28} {L : Int → Option Int} {n : Nat} {bad : Bool} {x : S28} (hb0 : Fr B w0 w) (h : St w B Wb Mb A cap xs L n bad)
    (hR1 : Kd.R k28 28 w1 B (fun _ => True) (.slice A1 (xs ++ [x]).length c1) (xs ++ [x])) (hB1 : Below B w w1) (hg1 : w.grownBy w1 (Value.slice A xs.length cap).ownBlock) :
    Fr B w0 (w1.setCell ⟨Wb, 0, none⟩ (.slice A1 (xs.length + 1) c1)) ∧ St (w1.setCell ⟨Wb, 0, none⟩ (.slice A1 (xs.length + 1) c1)) B Wb Mb A1 c1 (xs ++ [x]) L n bad := by
  have e : (xs ++ [x]).length = xs.length + 1 := by simp
  have hWb := (hg1.block Wb h.lt (Kd.R_ne h.hR h.hW (by decide))).trans h.hW
  have hMb : w1.heap[Mb]? = w.heap[Mb]? := by
    refine hg1.block Mb h.hM.lt ?_
    intro hk
    obtain ⟨D, ⟨es, clock, hb, _⟩, _⟩ := h.hM
    obtain ⟨inner, ho⟩ := Kd.R_own h.hR
    obtain ⟨cells, hc⟩ := own_typed ho Mb hk.symm
    rw [hc] at hb; cases hb
  have hrow : ∀ k, (Value.slice A xs.length cap).ownBlock = some k → B ≤ k ∧ ∀ t cs, t ≠ 28 → w.heap[k]? ≠ some (.cells cs t (0, 0)) := by
    intro k hk
    obtain ⟨inner, ho⟩ := Kd.R_own h.hR
    obtain ⟨cells, hc⟩ := own_typed ho k hk
    refine ⟨own_base ho k hk, fun t cs ht hc2 => ?_⟩
    rw [hc] at hc2; injection hc2 with hc2; injection hc2 with _ hc2; exact ht hc2.symm
  have hBw : B ≤ w.heap.size := Nat.le_of_lt (Nat.lt_of_le_of_lt h.bW h.lt)
  refine ⟨(hb0.grown hg1 hBw hrow).setCell h.bW hWb 0 _, ?_, ?_, ?_, h.bW, h.bM⟩
  · have := blk_set hWb 0 (.slice A1 (xs.length + 1) c1)
    rw [e]; exact this
  · exact Kd.R_set hR1 hWb (by decide) 0 _
  · refine MapIs.kept (h.hM.kept hMb) ?_
    exact Below.heap_setCell _ _ _ _ h.ne
theorem St.alloc {w : World} {B Wb Mb : Nat} {A : Option Addr} {cap : Nat} {xs : List S28} {L : Int → Option Int} {n : Nat} {bad : Bool} (h : St w B Wb Mb A cap xs L n bad) (o : Obj) : St (w.alloc o) B Wb Mb A cap xs L n bad := h.below (below_alloc (Below.refl _ _) _)
theorem St.base {w : World} {B Wb Mb : Nat} {A : Option Addr} {cap : Nat} {xs : List S28} {L : Int → Option Int} {n : Nat} {bad : Bool} (h : St w B Wb Mb A cap xs L n bad) : B ≤ w.heap.size := Nat.le_of_lt (Nat.lt_of_le_of_lt h.bW h.lt)
end Go.Proofs.Ytefkhcijgiagdaa.HAsm
end
section
namespace Go.Proofs.Ytefkhcijgiagdaa.HAsm
open Go.RowKit Go.Proofs.YtefkhcijgiagdaaW.PrintWords Go.Proofs.YtefkhcijgiagdaaW.PrintLast Go.Proofs.YtefkhcijgiagdaaW.PrintMore Go.Proofs.Ytefkhcijgiagdaa.I1 Go.Proofs.Ytefkhcijgiagdaa.E1
set_option linter.unusedVariables false
set_option linter.unusedSimpArgs false
set_option maxRecDepth 100000
/-- The writer, as it is told of. -/
structure WS where
  xs : List S28
  L : Int → Option Int
  n : Nat
  bad : Bool
def WS.put (s : WS) (x : S28) : WS := ⟨s.xs ++ [x], s.L, s.n, s.bad⟩
def StW (w : World) (B Wb Mb : Nat) (s : WS) : Prop := ∃ A cap, St w B Wb Mb A cap s.xs s.L s.n s.bad
theorem StW.drew {w : World} {B Wb Mb : Nat} {s : WS} (h : StW w B Wb Mb s) : StW w.drew B Wb Mb s := by
  obtain ⟨A, cap, h⟩ := h
  exact ⟨A, cap, h.below ⟨rfl, rfl, rfl, Nat.le_refl _, fun _ _ => rfl⟩⟩
theorem StW.below {w w' : World} {B Wb Mb : Nat} {s : WS} (h : StW w B Wb Mb s) (hb : Below w.heap.size w w') : StW w' B Wb Mb s := by
  obtain ⟨A, cap, h⟩ := h
  exact ⟨A, cap, h.below hb⟩
theorem StW.base {w : World} {B Wb Mb : Nat} {s : WS} (h : StW w B Wb Mb s) : B ≤ w.heap.size := by
  obtain ⟨A, cap, h⟩ := h
  exact h.base
end Go.Proofs.Ytefkhcijgiagdaa.HAsm
end
section
namespace Go.Proofs.Ytefkhcijgiagdaa.HAsm
open Go.RowKit Go.Proofs.YtefkhcijgiagdaaW.PrintWords Go.Proofs.YtefkhcijgiagdaaW.PrintLast Go.Proofs.YtefkhcijgiagdaaW.PrintMore Go.Proofs.Ytefkhcijgiagdaa.I1 Go.Proofs.Ytefkhcijgiagdaa.E1
set_option linter.unusedVariables false
set_option linter.unusedSimpArgs false
set_option maxRecDepth 100000
theorem St.made (w : World) (o1 : Obj) : StW (((w.alloc o1).alloc (.map #[] 0)).alloc (.cells #[.slice none 0 0, .map (some (w.heap.size + 1)), .bool false] 107)) w.heap.size (w.heap.size + 1 + 1) (w.heap.size + 1) ⟨[], fun _ => none, 0, false⟩ := by
  have e1 : (w.alloc o1).heap.size = w.heap.size + 1 := by simp
  have e2 : ((w.alloc o1).alloc (.map #[] 0)).heap.size = w.heap.size + 1 + 1 := by simp
  refine ⟨none, 0, ?_, Kd.R_nil _ _ _ _ _, ?_, by omega, by omega⟩
  · have := heap_alloc_new ((w.alloc o1).alloc (.map #[] 0)) (.cells #[.slice none 0 0, .map (some (w.heap.size + 1)), .bool false] 107)
    rw [e2] at this; exact this
  · have h := MapIs.made (w.alloc o1)
    rw [e1] at h
    exact h.kept (Below.heap_alloc _ _ _ (by rw [e2]; omega))
end Go.Proofs.Ytefkhcijgiagdaa.HAsm
end
section
namespace Go.Proofs.Ytefkhcijgiagdaa.E2
open Go.RowKit Go.Proofs.YtefkhcijgiagdaaW.PrintWords Go.Proofs.YtefkhcijgiagdaaW.PrintLast Go.Proofs.YtefkhcijgiagdaaW.PrintMore
attribute [local go_sem] max2_int min2_int max_two min_two max_three min_three max_four min_four IntKind.wrap_u32 IntKind.wrap_u8   -- for this text's walks alone
set_option linter.unusedVariables false
open Go.Proofs.Ytefkhcijgiagdaa.Le Go.Proofs.Ytefkhcijgiagdaa.HKnown Go.Proofs.Ytefkhcijgiagdaa.HPut Go.Proofs.Ytefkhcijgiagdaa.I1 Go.Proofs.Ytefkhcijgiagdaa.E1 Go.Proofs.Ytefkhcijgiagdaa.HAsm
set_option linter.unusedSimpArgs false
def errW : Option Int → Value
  | none => .nilIface
  | some c => .iface 0 (.int .i64 c)
theorem errW_none : errW none = .nilIface := rfl
theorem errW_some (c : Int) : errW (some c) = .iface 0 (.int .i64 c) := rfl
end Go.Proofs.Ytefkhcijgiagdaa.E2
end
section
namespace Go.Proofs.Ytefkhcijgiagdaa.QNum
open Go.RowKit Go.Proofs.YtefkhcijgiagdaaW.PrintWords Go.Proofs.YtefkhcijgiagdaaW.PrintLast Go.Proofs.YtefkhcijgiagdaaW.PrintMore Go.Proofs.Ytefkhcijgiagdaa.QLe
set_option linter.unusedVariables false
set_option linter.unusedSimpArgs false
/-- a row of small numbers, as bytes. -/
def by8 (xs : List Int) : List UInt8 := xs.map fun n => UInt8.ofNat n.toNat
theorem wf_i64 {x : Int} (h : (Lit.int .i64 x).wf = true) : -9223372036854775808 ≤ x ∧ x ≤ 9223372036854775807 := by
  simp [Lit.wf, IntKind.min, IntKind.max, IntKind.bits, IntKind.signed] at h; omega
theorem wf_u32 {x : Int} (h : (Lit.int .u32 x).wf = true) : 0 ≤ x ∧ x < 4294967296 := by
  simp [Lit.wf, IntKind.min, IntKind.max, IntKind.bits, IntKind.signed] at h; omega
end Go.Proofs.Ytefkhcijgiagdaa.QNum
end
section
namespace Go.Proofs.Ytefkhcijgiagdaa.QIn
open Go.RowKit Go.Proofs.YtefkhcijgiagdaaW.PrintWords Go.Proofs.YtefkhcijgiagdaaW.PrintLast Go.Proofs.YtefkhcijgiagdaaW.PrintMore Go.Proofs.Ytefkhcijgiagdaa.Le Go.Proofs.Ytefkhcijgiagdaa.QLe Go.Proofs.Ytefkhcijgiagdaa.QNum Go.Proofs.Ytefkhcijgiagdaa.HKnown Go.Proofs.Ytefkhcijgiagdaa.HPut Go.Proofs.Ytefkhcijgiagdaa.I1
set_option linter.unusedVariables false
set_option linter.unusedSimpArgs false
def bytes (a b c d : Int) : List UInt8 := by8 (leB a 2) ++ by8 (leB b 1) ++ by8 (leB c 1) ++ by8 (leB d 4)
end Go.Proofs.Ytefkhcijgiagdaa.QIn
end
section
namespace Go.Proofs.Ytefkhcijgiagdaa.HAll
open Go.RowKit Go.Proofs.YtefkhcijgiagdaaW.PrintWords Go.Proofs.YtefkhcijgiagdaaW.PrintLast Go.Proofs.YtefkhcijgiagdaaW.PrintMore Go.Proofs.Ytefkhcijgiagdaa.I1 Go.Proofs.Ytefkhcijgiagdaa.HPut Go.Proofs.Ytefkhcijgiagdaa.QIn Go.Proofs.Ytefkhcijgiagdaa.QLe Go.Proofs.Ytefkhcijgiagdaa.QNum
set_option linter.unusedVariables false
set_option linter.unusedSimpArgs false
set_option maxRecDepth 100000
def okI (i : S28) : Bool := putOk i.f0 i.f1 i.f2
def byI (i : S28) : List UInt8 := QIn.bytes i.f0 i.f1 i.f2 i.f3
def allB : List S28 → Option (List UInt8)
  | [] => some []
  | i :: l => if okI i = true then (allB l).map (byI i ++ ·) else none
def allR (l : List S28) : ByteArray × Int := if 4096 < l.length then (⟨#[]⟩, 2) else match allB l with | some x => (⟨x.toArray⟩, 0) | none => (⟨#[]⟩, 1)
end Go.Proofs.Ytefkhcijgiagdaa.HAll
end
section
namespace Go.Proofs.Ytefkhcijgiagdaa.V0
open Go.RowKit Go.Proofs.YtefkhcijgiagdaaW.PrintWords Go.Proofs.YtefkhcijgiagdaaW.PrintLast Go.Proofs.YtefkhcijgiagdaaW.PrintMore
attribute [local go_sem] max2_int min2_int max_two min_two max_three min_three max_four min_four IntKind.wrap_u32 IntKind.wrap_u8   -- for this text's walks alone
set_option linter.unusedVariables false
open Go.Proofs.Ytefkhcijgiagdaa.Le Go.Proofs.Ytefkhcijgiagdaa.HKnown Go.Proofs.Ytefkhcijgiagdaa.HPut Go.Proofs.Ytefkhcijgiagdaa.I1 Go.Proofs.Ytefkhcijgiagdaa.E1 Go.Proofs.Ytefkhcijgiagdaa.HAsm Go.Proofs.Ytefkhcijgiagdaa.E2 Go.Proofs.Ytefkhcijgiagdaa.HAll
set_option linter.unusedSimpArgs false
def errW : Option Int → Value
  | none => .nilIface
  | some c => .iface 0 (.int .i64 c)
theorem errW_none : errW none = .nilIface := rfl
theorem errW_some (c : Int) : errW (some c) = .iface 0 (.int .i64 c) := rfl
end Go.Proofs.Ytefkhcijgiagdaa.V0
end
section
namespace Go.Proofs.Ytefkhcijgiagdaa.QVm
open Go.RowKit Go.Proofs.YtefkhcijgiagdaaW.PrintWords Go.Proofs.YtefkhcijgiagdaaW.PrintLast Go.Proofs.YtefkhcijgiagdaaW.PrintMore Go.Proofs.Ytefkhcijgiagdaa.HKnown Go.Proofs.Ytefkhcijgiagdaa.I1
set_option linter.unusedVariables false
set_option linter.unusedSimpArgs false
structure V where
  a : Int
  x : Int
  cs : List Int
end Go.Proofs.Ytefkhcijgiagdaa.QVm
end
section
namespace Go.Proofs.Ytefkhcijgiagdaa.HVm
open Go.RowKit Go.Proofs.YtefkhcijgiagdaaW.PrintWords Go.Proofs.YtefkhcijgiagdaaW.PrintLast Go.Proofs.YtefkhcijgiagdaaW.PrintMore Go.Proofs.Ytefkhcijgiagdaa.I1 Go.Proofs.Ytefkhcijgiagdaa.QVm Go.Proofs.Ytefkhcijgiagdaa.QLe
set_option linter.unusedVariables false
set_option linter.unusedSimpArgs false
set_option maxRecDepth 100000
def vmL (rec : ByteArray) (v : V) (at_ out : Int) (done : Bool) : List Value := .string rec :: .int .u32 v.a :: .int .u32 v.x :: (v.cs.map (Value.int .u32) ++ [.int .i64 at_, .int .u32 out, .bool done])
structure Vm (w : World) (Wb : Nat) (rec : ByteArray) (v : V) (at_ out : Int) (done : Bool) : Prop where
  hW : w.heap[Wb]? = some (.cells (vmL rec v at_ out done).toArray 156 (0, 0))
  hl : v.cs.length = 16
section
variable {w : World} {Wb : Nat} {rec : ByteArray} {v : V} {at_ out : Int} {done : Bool}
theorem Vm.lt (h : Vm w Wb rec v at_ out done) : Wb < w.heap.size := blk_lt h.hW
theorem Vm.cell (h : Vm w Wb rec v at_ out done) (i : Nat) : w.cell? ⟨Wb, i, none⟩ = (vmL rec v at_ out done)[i]? := by rw [blk_cell h.hW i]; simp
theorem Vm.c0 (h : Vm w Wb rec v at_ out done) : w.cell? ⟨Wb, 0, none⟩ = some (.string rec) := h.cell 0
theorem Vm.c1 (h : Vm w Wb rec v at_ out done) : w.cell? ⟨Wb, 1, none⟩ = some (.int .u32 v.a) := h.cell 1
theorem Vm.c2 (h : Vm w Wb rec v at_ out done) : w.cell? ⟨Wb, 2, none⟩ = some (.int .u32 v.x) := h.cell 2
theorem Vm.put (h : Vm w Wb rec v at_ out done) (i : Nat) (u : Value) {v' : V} {at' out' : Int} {done' : Bool} (e : (vmL rec v at_ out done).set i u = vmL rec v' at' out' done') (hl : v'.cs.length = 16) : Vm (w.setCell ⟨Wb, i, none⟩ u) Wb rec v' at' out' done' :=
  ⟨blk_put h.hW i u (by rw [← e]; simp), hl⟩
theorem Vm.below (h : Vm w Wb rec v at_ out done) {w' : World} (hb : Below w.heap.size w w') : Vm w' Wb rec v at_ out done := ⟨(hb.block _ h.lt).trans h.hW, h.hl⟩
theorem Vm.alloc (h : Vm w Wb rec v at_ out done) (o : Obj) : Vm (w.alloc o) Wb rec v at_ out done := h.below (below_alloc (Below.refl _ _) o)
theorem Vm.drew (h : Vm w Wb rec v at_ out done) : Vm w.drew Wb rec v at_ out done := ⟨h.hW, h.hl⟩
theorem Vm.made (w : World) (rec : ByteArray) : Vm (w.alloc (.cells (vmL rec ⟨0, 0, List.replicate 16 0⟩ 0 0 false).toArray 156)) w.heap.size rec ⟨0, 0, List.replicate 16 0⟩ 0 0 false := ⟨heap_alloc_new w _, rfl⟩
end
end Go.Proofs.Ytefkhcijgiagdaa.HVm
end
section
namespace Go.Proofs.Ytefkhcijgiagdaa.HVm
open Go.RowKit Go.Proofs.YtefkhcijgiagdaaW.PrintWords Go.Proofs.YtefkhcijgiagdaaW.PrintLast Go.Proofs.YtefkhcijgiagdaaW.PrintMore Go.Proofs.Ytefkhcijgiagdaa.I1 Go.Proofs.Ytefkhcijgiagdaa.QVm Go.Proofs.Ytefkhcijgiagdaa.QLe
set_option linter.unusedVariables false
set_option linter.unusedSimpArgs false
set_option maxRecDepth 100000
theorem Vm.drewN {w : World} {Wb : Nat} {rec : ByteArray} {v : V} {at_ out : Int} {done : Bool} (h : Vm w Wb rec v at_ out done) (n : Nat) : Vm (w.drewN n) Wb rec v at_ out done := ⟨h.hW, h.hl⟩
section
variable {w w' : World} {B Wb : Nat} {rec : ByteArray} {v' : V} {at_ out : Int} {done : Bool}
end
end Go.Proofs.Ytefkhcijgiagdaa.HVm
end
section
namespace Go.Proofs.Ytefkhcijgiagdaa.HVm
open Go.Proofs.Ytefkhcijgiagdaa.HKnown Go.RowKit Go.Proofs.YtefkhcijgiagdaaW.PrintWords Go.Proofs.YtefkhcijgiagdaaW.PrintLast Go.Proofs.YtefkhcijgiagdaaW.PrintMore Go.Proofs.Ytefkhcijgiagdaa.I1 Go.Proofs.Ytefkhcijgiagdaa.QVm Go.Proofs.Ytefkhcijgiagdaa.QLe
set_option linter.unusedVariables false
set_option linter.unusedSimpArgs false
set_option maxRecDepth 100000
theorem below_on {B : Nat} {w w1 w2 : World} (h : Below B w w1) (hB : B ≤ w.heap.size) (k : Below w1.heap.size w1 w2) : Below B w w2 := below_then h (Nat.le_trans hB h.size) k
/-- The world in which a step looks whether its code is known. -/
structure At0 (w w1 : World) (B Wb ib : Nat) (rec : ByteArray) (v : V) (at_ out : Int) (i : S28) : Prop where
  hv : Vm w1 Wb rec v at_ out false
  hb : Below B w w1
  hi : w1.heap[ib]? = some (.cells #[.int .i64 i.f0, .int .i64 i.f1, .int .i64 i.f2, .int .u32 i.f3] 28 (0, 0))
theorem At0.drew {w w1 : World} {B Wb ib : Nat} {rec : ByteArray} {v : V} {at_ out : Int} {i : S28} (h : At0 w w1 B Wb ib rec v at_ out i) : At0 w w1.drew B Wb ib rec v at_ out i := ⟨h.hv.drew, h.hb.drew, h.hi⟩
theorem At0.step {w w1 w2 : World} {B Wb ib : Nat} {rec : ByteArray} {v : V} {at_ out : Int} {i : S28} (h : At0 w w1 B Wb ib rec v at_ out i) (hB : B ≤ w.heap.size) (hb : Below w1.heap.size w1 w2) : At0 w w2 B Wb ib rec v at_ out i := ⟨h.hv.below hb, below_on h.hb hB hb, blk_below h.hi hb⟩
end Go.Proofs.Ytefkhcijgiagdaa.HVm
end
section
namespace Go.Proofs.Ytefkhcijgiagdaa.HVm
open Go.Proofs.Ytefkhcijgiagdaa.HKnown Go.RowKit Go.Proofs.YtefkhcijgiagdaaW.PrintWords Go.Proofs.YtefkhcijgiagdaaW.PrintLast Go.Proofs.YtefkhcijgiagdaaW.PrintMore Go.Proofs.Ytefkhcijgiagdaa.I1 Go.Proofs.Ytefkhcijgiagdaa.QVm Go.Proofs.Ytefkhcijgiagdaa.QLe
set_option linter.unusedVariables false
set_option linter.unusedSimpArgs false
set_option maxRecDepth 100000
/-- Numbers of 32 bits. -/
abbrev U (x : Int) : Prop := 0 ≤ x ∧ x < 4294967296
/-- What an instruction is: fields that the types allow. -/
def I28 (i : S28) : Prop := i.f1 ≤ 9223372036854775807 ∧ i.f2 ≤ 9223372036854775807 ∧ U i.f3
end Go.Proofs.Ytefkhcijgiagdaa.HVm
end
section
namespace Go.Proofs.Ytefkhcijgiagdaa.HVm
open Go.Proofs.Ytefkhcijgiagdaa.HKnown Go.RowKit Go.Proofs.YtefkhcijgiagdaaW.PrintWords Go.Proofs.YtefkhcijgiagdaaW.PrintLast Go.Proofs.YtefkhcijgiagdaaW.PrintMore Go.Proofs.Ytefkhcijgiagdaa.I1 Go.Proofs.Ytefkhcijgiagdaa.QVm Go.Proofs.Ytefkhcijgiagdaa.QLe
set_option linter.unusedVariables false
set_option linter.unusedSimpArgs false
set_option maxRecDepth 100000
def v0 : V := ⟨0, 0, List.replicate 16 0⟩
end Go.Proofs.Ytefkhcijgiagdaa.HVm
end
section
namespace Go.Proofs.Ytefkhcijgiagdaa.HVm
open Go.Proofs.Ytefkhcijgiagdaa.V0 Go.Proofs.Ytefkhcijgiagdaa.HKnown Go.RowKit Go.Proofs.YtefkhcijgiagdaaW.PrintWords Go.Proofs.YtefkhcijgiagdaaW.PrintLast Go.Proofs.YtefkhcijgiagdaaW.PrintMore Go.Proofs.Ytefkhcijgiagdaa.I1 Go.Proofs.Ytefkhcijgiagdaa.QVm Go.Proofs.Ytefkhcijgiagdaa.QLe
set_option linter.unusedVariables false
set_option linter.unusedSimpArgs false
set_option maxRecDepth 100000
instance (i : S28) : Decidable (I28 i) := inferInstanceAs (Decidable (_ ∧ _ ∧ _))
end Go.Proofs.Ytefkhcijgiagdaa.HVm
end
section
namespace Go.Proofs.Ytefkhcijgiagdaa.K0
open Go.RowKit Go.Proofs.YtefkhcijgiagdaaW.PrintWords Go.Proofs.YtefkhcijgiagdaaW.PrintLast Go.Proofs.YtefkhcijgiagdaaW.PrintMore
attribute [local go_sem] max2_int min2_int max_two min_two max_three min_three max_four min_four IntKind.wrap_u32 IntKind.wrap_u8   -- for this text's walks alone
set_option linter.unusedVariables false
open Go.Proofs.Ytefkhcijgiagdaa.Le Go.Proofs.Ytefkhcijgiagdaa.HKnown Go.Proofs.Ytefkhcijgiagdaa.HPut Go.Proofs.Ytefkhcijgiagdaa.I1 Go.Proofs.Ytefkhcijgiagdaa.E1 Go.Proofs.Ytefkhcijgiagdaa.HAsm Go.Proofs.Ytefkhcijgiagdaa.E2 Go.Proofs.Ytefkhcijgiagdaa.HAll Go.Proofs.Ytefkhcijgiagdaa.V0 Go.Proofs.Ytefkhcijgiagdaa.HVm
set_option linter.unusedSimpArgs false
def errW : Option Int → Value
  | none => .nilIface
  | some c => .iface 0 (.int .i64 c)
theorem errW_none : errW none = .nilIface := rfl
theorem errW_some (c : Int) : errW (some c) = .iface 0 (.int .i64 c) := rfl
end Go.Proofs.Ytefkhcijgiagdaa.K0
end
section
namespace Go.Proofs.Ytefkhcijgiagdaa.K0
open Go.RowKit Go.Proofs.YtefkhcijgiagdaaW.PrintWords Go.Proofs.YtefkhcijgiagdaaW.PrintLast Go.Proofs.YtefkhcijgiagdaaW.PrintMore
attribute [local go_sem] max2_int min2_int max_two min_two max_three min_three max_four min_four IntKind.wrap_u32 IntKind.wrap_u8   -- for this text's walks alone
set_option linter.unusedVariables false
open Go.Proofs.Ytefkhcijgiagdaa.Le Go.Proofs.Ytefkhcijgiagdaa.HKnown Go.Proofs.Ytefkhcijgiagdaa.HPut Go.Proofs.Ytefkhcijgiagdaa.I1 Go.Proofs.Ytefkhcijgiagdaa.E1 Go.Proofs.Ytefkhcijgiagdaa.HAsm Go.Proofs.Ytefkhcijgiagdaa.E2 Go.Proofs.Ytefkhcijgiagdaa.HAll Go.Proofs.Ytefkhcijgiagdaa.V0 Go.Proofs.Ytefkhcijgiagdaa.HVm
set_option linter.unusedSimpArgs false
def check_returns.f (a0_0 : Int) (a0_1 : Int) (a0_2 : Int) (a0_3 : Int) : Option (Bool) := if a0_0 = 6 then (some true) else (some (a0_0 == 22))
set_option maxHeartbeats 8000000 in
set_option maxRecDepth 100000 in
theorem check_returns.calls (a0_0 : Int) (a0_1 : Int) (a0_2 : Int) (a0_3 : Int) (r : Bool) (w : World) (h : check_returns.f a0_0 a0_1 a0_2 a0_3 = some r) :
    Calls Try.prog 131 #[.agg #[.int .i64 a0_0, .int .i64 a0_1, .int .i64 a0_2, .int .u32 a0_3]] w fun e w' => e = .returned (.bool r) ∧ Below w.heap.size w w' := by
  have hu28 := Try.underlying28
  have HB := Aside0.mk (Below.refl w.heap.size w)
  have H : (if a0_0 = 6 then (some true) else (some (a0_0 == 22))) = some r := h
  clear h
  by_cases c2 : a0_0 = 6
  · rw [if_pos c2] at H
    have c2b0 : (a0_0 == 6) = true := beq_iff_eq.mpr c2
    have c2b1 : (a0_0 != 6) = false := bne_eq_false_iff_eq.mpr c2
    clear c2
    obtain rfl := Option.some.inj H
    go_enter Try.func131, Try.ntmps131
    go_wp2_with (first | ((with_reducible refine gate_dst (N := 1) rfl ?_); refine box_event ?hg (N := 1) ?hd (cs := #[.int .i64 a0_0, .int .i64 a0_1, .int .i64 a0_2, .int .u32 a0_3]) (t := 28) ?hr ?_; (case hd => rfl); (case hg => rfl); (case hr => first | (go_simp; done) | (go_simp; rfl)); intro gb113 hg w3 hbox hb; have n0_ := Aside0.mk (below_step (by repeat (first | (with_reducible first | exact HB.out | apply below_alloc | apply pw_below_drewN | apply below_drew1) | exact HB.out)) hb); have n1_ := Aside0.mk (hbox); have n2_ := Aside0.mk ((by rw [hg]; exact (below_size (by repeat (first | (with_reducible first | exact HB.out | apply below_alloc | apply pw_below_drewN | apply below_drew1) | exact HB.out))) : w.heap.size ≤ gb113)); have n3_ := Aside0.mk ((by rw [hg]; exact (below_size (by repeat (first | (with_reducible first | exact HB.out | apply below_alloc | apply pw_below_drewN | apply below_drew1) | exact HB.out))) : w.heap.size ≤ gb113)); clear HB; have HB := n0_; have BK113 := n1_; have GW113 := n2_; have GE113 := n3_; clear n0_ n1_ n2_ n3_; clear hb hbox hg; have hcz4_0 : w3.cell? ⟨gb113, 0, none⟩ = some (.int .i64 a0_0) := (blk_cell BK113.out 0).trans rfl; have hcz4_1 : w3.cell? ⟨gb113, 1, none⟩ = some (.int .i64 a0_1) := (blk_cell BK113.out 1).trans rfl; have hcz4_2 : w3.cell? ⟨gb113, 2, none⟩ = some (.int .i64 a0_2) := (blk_cell BK113.out 2).trans rfl; have hcz4_3 : w3.cell? ⟨gb113, 3, none⟩ = some (.int .u32 a0_3) := (blk_cell BK113.out 3).trans rfl; have hfz4_0 := blk_frozen BK113.out 0; have hfz4_1 := blk_frozen BK113.out 1; have hfz4_2 := blk_frozen BK113.out 2; have hfz4_3 := blk_frozen BK113.out 3))
    go_ret
    exact ⟨by first | rfl | (simp [errW_none, errW_some] <;> rfl) | (simp [*, errW_none, errW_some] <;> rfl), by repeat (first | (with_reducible first | exact HB.out | apply below_alloc | apply pw_below_drewN | apply below_drew1 | refine below_set ?_ GE113.out) | exact HB.out)⟩
  · rw [if_neg c2] at H
    have c2b0 : (a0_0 == 6) = false := beq_eq_false_iff_ne.mpr c2
    have c2b1 : (a0_0 != 6) = true := bne_iff_ne.mpr c2
    obtain rfl := Option.some.inj H
    go_enter Try.func131, Try.ntmps131
    go_wp2_with (first | ((with_reducible refine gate_dst (N := 1) rfl ?_); refine box_event ?hg (N := 1) ?hd (cs := #[.int .i64 a0_0, .int .i64 a0_1, .int .i64 a0_2, .int .u32 a0_3]) (t := 28) ?hr ?_; (case hd => rfl); (case hg => rfl); (case hr => first | (go_simp; done) | (go_simp; rfl)); intro gb113 hg w5 hbox hb; have n0_ := Aside0.mk (below_step (by repeat (first | (with_reducible first | exact HB.out | apply below_alloc | apply pw_below_drewN | apply below_drew1) | exact HB.out)) hb); have n1_ := Aside0.mk (hbox); have n2_ := Aside0.mk ((by rw [hg]; exact (below_size (by repeat (first | (with_reducible first | exact HB.out | apply below_alloc | apply pw_below_drewN | apply below_drew1) | exact HB.out))) : w.heap.size ≤ gb113)); have n3_ := Aside0.mk ((by rw [hg]; exact (below_size (by repeat (first | (with_reducible first | exact HB.out | apply below_alloc | apply pw_below_drewN | apply below_drew1) | exact HB.out))) : w.heap.size ≤ gb113)); clear HB; have HB := n0_; have BK113 := n1_; have GW113 := n2_; have GE113 := n3_; clear n0_ n1_ n2_ n3_; clear hb hbox hg; have hcz6_0 : w5.cell? ⟨gb113, 0, none⟩ = some (.int .i64 a0_0) := (blk_cell BK113.out 0).trans rfl; have hcz6_1 : w5.cell? ⟨gb113, 1, none⟩ = some (.int .i64 a0_1) := (blk_cell BK113.out 1).trans rfl; have hcz6_2 : w5.cell? ⟨gb113, 2, none⟩ = some (.int .i64 a0_2) := (blk_cell BK113.out 2).trans rfl; have hcz6_3 : w5.cell? ⟨gb113, 3, none⟩ = some (.int .u32 a0_3) := (blk_cell BK113.out 3).trans rfl; have hfz6_0 := blk_frozen BK113.out 0; have hfz6_1 := blk_frozen BK113.out 1; have hfz6_2 := blk_frozen BK113.out 2; have hfz6_3 := blk_frozen BK113.out 3))
    go_ret
    exact ⟨by first | rfl | (simp [errW_none, errW_some] <;> rfl) | (simp [*, errW_none, errW_some] <;> rfl), by repeat (first | (with_reducible first | exact HB.out | apply below_alloc | apply pw_below_drewN | apply below_drew1 | refine below_set ?_ GE113.out) | exact HB.out)⟩
def check_behind.f (a0_0 : Int) (a0_1 : Int) (a0_2 : Int) (a0_3 : Int) : Option (List Int) := (check_returns.f a0_0 a0_1 a0_2 a0_3).bind fun t115 => (if t115 = true then (some ([] : List Int)) else (if a0_0 = 5 then (some (([wrap64 ((wrap64 (a0_3)) + 1)] : List Int))) else (if (Go.bits .and .i64 a0_0 7) = 5 then (some (([wrap64 (a0_1 + 1), wrap64 (a0_2 + 1)] : List Int))) else (some (([1] : List Int))))))
set_option maxHeartbeats 8000000 in
set_option maxRecDepth 100000 in
theorem check_behind.calls (a0_0 : Int) (a0_1 : Int) (a0_2 : Int) (a0_3 : Int) (r : List Int) (w : World) (h : check_behind.f a0_0 a0_1 a0_2 a0_3 = some r) :
    Calls Try.prog 101 #[.agg #[.int .i64 a0_0, .int .i64 a0_1, .int .i64 a0_2, .int .u32 a0_3]] w fun e w' => ∃ v0_ : Value, e = .returned (v0_) ∧ Kd.R (Kd.int .i64) 3 w' w.heap.size (fun _ => True) v0_ r ∧ Below w.heap.size w w' := by
  have hu28 := Try.underlying28
  have HB := Aside0.mk (Below.refl w.heap.size w)
  have H : ((check_returns.f a0_0 a0_1 a0_2 a0_3).bind fun t115 => (if t115 = true then (some ([] : List Int)) else (if a0_0 = 5 then (some (([wrap64 ((wrap64 (a0_3)) + 1)] : List Int))) else (if (Go.bits .and .i64 a0_0 7) = 5 then (some (([wrap64 (a0_1 + 1), wrap64 (a0_2 + 1)] : List Int))) else (some (([1] : List Int))))))) = some r := h
  clear h
  replace H := Option.bind_eq_some_iff.mp H
  obtain ⟨t115, A20, H⟩ := H
  replace H : (if t115 = true then (some ([] : List Int)) else (if a0_0 = 5 then (some (([wrap64 ((wrap64 (a0_3)) + 1)] : List Int))) else (if (Go.bits .and .i64 a0_0 7) = 5 then (some (([wrap64 (a0_1 + 1), wrap64 (a0_2 + 1)] : List Int))) else (some (([1] : List Int)))))) = some r := H
  have A2 := Aside0.mk A20
  clear A20
  by_cases c3 : t115 = true
  · subst c3
    have H1 : (some ([] : List Int)) = some r := by rw [if_pos rfl] at H; exact H
    clear H
    have H := H1
    clear H1
    obtain rfl := Option.some.inj H
    go_enter Try.func101, Try.ntmps101
    go_wp2_with (first | ((with_reducible refine gate_dst (N := 1) rfl ?_); refine box_event ?hg (N := 1) ?hd (cs := #[.int .i64 a0_0, .int .i64 a0_1, .int .i64 a0_2, .int .u32 a0_3]) (t := 28) ?hr ?_; (case hd => rfl); (case hg => rfl); (case hr => first | (go_simp; done) | (go_simp; rfl)); intro gb114 hg w4 hbox hb; have n0_ := Aside0.mk (below_step (by repeat (first | (with_reducible first | exact HB.out | apply below_alloc | apply pw_below_drewN | apply below_drew1) | exact HB.out)) hb); have n1_ := Aside0.mk (hbox); have n2_ := Aside0.mk ((by rw [hg]; exact (below_size (by repeat (first | (with_reducible first | exact HB.out | apply below_alloc | apply pw_below_drewN | apply below_drew1) | exact HB.out))) : w.heap.size ≤ gb114)); have n3_ := Aside0.mk ((by rw [hg]; exact (below_size (by repeat (first | (with_reducible first | exact HB.out | apply below_alloc | apply pw_below_drewN | apply below_drew1) | exact HB.out))) : w.heap.size ≤ gb114)); clear HB; have HB := n0_; have BK114 := n1_; have GW114 := n2_; have GE114 := n3_; clear n0_ n1_ n2_ n3_; clear hb hbox hg; have hcz5_0 : w4.cell? ⟨gb114, 0, none⟩ = some (.int .i64 a0_0) := (blk_cell BK114.out 0).trans rfl; have hcz5_1 : w4.cell? ⟨gb114, 1, none⟩ = some (.int .i64 a0_1) := (blk_cell BK114.out 1).trans rfl; have hcz5_2 : w4.cell? ⟨gb114, 2, none⟩ = some (.int .i64 a0_2) := (blk_cell BK114.out 2).trans rfl; have hcz5_3 : w4.cell? ⟨gb114, 3, none⟩ = some (.int .u32 a0_3) := (blk_cell BK114.out 3).trans rfl; have hfz5_0 := blk_frozen BK114.out 0; have hfz5_1 := blk_frozen BK114.out 1; have hfz5_2 := blk_frozen BK114.out 2; have hfz5_3 := blk_frozen BK114.out 3) | ((with_reducible refine gate_callee (f := 131) rfl ?_); refine goesL_ (some 5) rfl rfl Try.func131 (by kernel_rfl) rfl #[.agg #[.int .i64 a0_0, .int .i64 a0_1, .int .i64 a0_2, .int .u32 a0_3]] rfl (by (try simp only [List.map_toArray, List.map_cons, List.map_nil]); first | done | rfl | (simp only [List.length_drop, List.length_take]; rfl)) ?_; (with_reducible refine (check_returns.calls a0_0 a0_1 a0_2 a0_3 true _ A2.out).mono ?_); rintro e w6 ⟨rfl, hb⟩; refine ⟨_, rfl, ?_⟩; have n0_ := Aside0.mk (blk_below (g := gb114) (o := .cells #[.int .i64 a0_0, .int .i64 a0_1, .int .i64 a0_2, .int .u32 a0_3] 28 (0, 0)) (by (with_reducible repeat (first | refine blk_drewN ?_ _ | refine blk_drew ?_ | refine blk_alloc ?_ _)); exact BK114.out) hb); have n1_ := Aside0.mk (below_step (by repeat (first | (with_reducible first | exact HB.out | apply below_alloc | apply pw_below_drewN | apply below_drew1 | refine below_set ?_ GE114.out) | exact HB.out)) hb); clear BK114; clear HB; have BK114 := n0_; have HB := n1_; clear n0_ n1_; (try clear hb); (try clear hb2); (try clear hk); (try clear hi)))
    go_ret
    exact ⟨_, by first | rfl | (simp [errW_none, errW_some] <;> rfl) | (simp [*, errW_none, errW_some] <;> rfl), by first | exact Kd.R_nil _ _ _ _ _ | exact Kd.N_nil _ _ _ _ _ | exact Kd.V_nil _ _ _ _ _ | exact Kd.Q_nil _ _ _ _ _ | exact Kd.S_nil _ _ _ _ _, by repeat (first | (with_reducible first | exact HB.out | apply below_alloc | apply pw_below_drewN | apply below_drew1 | refine below_set ?_ GE114.out) | exact HB.out)⟩
  · replace c3 := Bool.eq_false_iff.mpr c3
    subst c3
    have H1 : (if a0_0 = 5 then (some (([wrap64 ((wrap64 (a0_3)) + 1)] : List Int))) else (if (Go.bits .and .i64 a0_0 7) = 5 then (some (([wrap64 (a0_1 + 1), wrap64 (a0_2 + 1)] : List Int))) else (some (([1] : List Int))))) = some r := by rw [if_neg (show ¬ (false = true) by decide)] at H; exact H
    clear H
    have H := H1
    clear H1
    by_cases c7 : a0_0 = 5
    · rw [if_pos c7] at H
      have c7b0 : (a0_0 == 5) = true := beq_iff_eq.mpr c7
      have c7b1 : (a0_0 != 5) = false := bne_eq_false_iff_eq.mpr c7
      clear c7
      obtain ⟨y116, hy116⟩ : ∃ y_ : List Int, y_ = (([wrap64 ((wrap64 (a0_3)) + 1)] : List Int)) := ⟨_, rfl⟩
      replace H : (some y116) = some r := by first | (rw [hy116]; with_reducible exact H) | (have H2_ := (Option.bind_some _ _).symm.trans H; rw [hy116]; with_reducible exact H2_) | (have H2_ := (Option.bind_some _ _).symm.trans H; with_reducible exact H2_) | with_reducible exact H | (rw [hy116]; exact H) | exact H
      have Ny116 := Aside0.mk hy116
      clear hy116
      obtain rfl := Option.some.inj H
      go_enter Try.func101, Try.ntmps101
      go_wp2_with (first | ((with_reducible refine gate_dst (N := 1) rfl ?_); refine box_event ?hg (N := 1) ?hd (cs := #[.int .i64 a0_0, .int .i64 a0_1, .int .i64 a0_2, .int .u32 a0_3]) (t := 28) ?hr ?_; (case hd => rfl); (case hg => rfl); (case hr => first | (go_simp; done) | (go_simp; rfl)); intro gb114 hg w8 hbox hb; have n0_ := Aside0.mk (below_step (by repeat (first | (with_reducible first | exact HB.out | apply below_alloc | apply pw_below_drewN | apply below_drew1) | exact HB.out)) hb); have n1_ := Aside0.mk (hbox); have n2_ := Aside0.mk ((by rw [hg]; exact (below_size (by repeat (first | (with_reducible first | exact HB.out | apply below_alloc | apply pw_below_drewN | apply below_drew1) | exact HB.out))) : w.heap.size ≤ gb114)); have n3_ := Aside0.mk ((by rw [hg]; exact (below_size (by repeat (first | (with_reducible first | exact HB.out | apply below_alloc | apply pw_below_drewN | apply below_drew1) | exact HB.out))) : w.heap.size ≤ gb114)); clear HB; have HB := n0_; have BK114 := n1_; have GW114 := n2_; have GE114 := n3_; clear n0_ n1_ n2_ n3_; clear hb hbox hg; have hcz9_0 : w8.cell? ⟨gb114, 0, none⟩ = some (.int .i64 a0_0) := (blk_cell BK114.out 0).trans rfl; have hcz9_1 : w8.cell? ⟨gb114, 1, none⟩ = some (.int .i64 a0_1) := (blk_cell BK114.out 1).trans rfl; have hcz9_2 : w8.cell? ⟨gb114, 2, none⟩ = some (.int .i64 a0_2) := (blk_cell BK114.out 2).trans rfl; have hcz9_3 : w8.cell? ⟨gb114, 3, none⟩ = some (.int .u32 a0_3) := (blk_cell BK114.out 3).trans rfl; have hfz9_0 := blk_frozen BK114.out 0; have hfz9_1 := blk_frozen BK114.out 1; have hfz9_2 := blk_frozen BK114.out 2; have hfz9_3 := blk_frozen BK114.out 3) | ((with_reducible refine gate_callee (f := 131) rfl ?_); refine goesL_ (some 5) rfl rfl Try.func131 (by kernel_rfl) rfl #[.agg #[.int .i64 a0_0, .int .i64 a0_1, .int .i64 a0_2, .int .u32 a0_3]] rfl (by (try simp only [List.map_toArray, List.map_cons, List.map_nil]); first | done | rfl | (simp only [List.length_drop, List.length_take]; rfl)) ?_; (with_reducible refine (check_returns.calls a0_0 a0_1 a0_2 a0_3 false _ A2.out).mono ?_); rintro e w10 ⟨rfl, hb⟩; refine ⟨_, rfl, ?_⟩; have n0_ := Aside0.mk (blk_below (g := gb114) (o := .cells #[.int .i64 a0_0, .int .i64 a0_1, .int .i64 a0_2, .int .u32 a0_3] 28 (0, 0)) (by (with_reducible repeat (first | refine blk_drewN ?_ _ | refine blk_drew ?_ | refine blk_alloc ?_ _)); exact BK114.out) hb); have n1_ := Aside0.mk (below_step (by repeat (first | (with_reducible first | exact HB.out | apply below_alloc | apply pw_below_drewN | apply below_drew1 | refine below_set ?_ GE114.out) | exact HB.out)) hb); clear BK114; clear HB; have BK114 := n0_; have HB := n1_; clear n0_ n1_; (try clear hb); (try clear hb2); (try clear hk); (try clear hi); have hcz11_0 : w10.cell? ⟨gb114, 0, none⟩ = some (.int .i64 a0_0) := (blk_cell BK114.out 0).trans rfl; have hcz11_1 : w10.cell? ⟨gb114, 1, none⟩ = some (.int .i64 a0_1) := (blk_cell BK114.out 1).trans rfl; have hcz11_2 : w10.cell? ⟨gb114, 2, none⟩ = some (.int .i64 a0_2) := (blk_cell BK114.out 2).trans rfl; have hcz11_3 : w10.cell? ⟨gb114, 3, none⟩ = some (.int .u32 a0_3) := (blk_cell BK114.out 3).trans rfl; have hfz11_0 := blk_frozen BK114.out 0; have hfz11_1 := blk_frozen BK114.out 1; have hfz11_2 := blk_frozen BK114.out 2; have hfz11_3 := blk_frozen BK114.out 3) | ((with_reducible refine gate_dst (N := 14) rfl ?_); refine Kd.R_lit (Kd.int .i64) _ 3 ?hg (N := 14) ?hd (xs := ([wrap64 ((wrap64 (a0_3)) + 1)] : List Int)) (inner := [.int .i64 (wrap64 ((wrap64 (a0_3)) + 1))]) (ok := fun _ => True) (okp := fun _ => True) ?hr ?hp (fun _ hk => hk) trivial (Below.refl _ _) (Nat.le_refl _) (by simp) ?_; (case hd => rfl); (case hg => rfl); (case hr => first | (go_simp; done) | (go_simp; rfl)); (case hp => exact (Reps.one (show Kd.M (Kd.int .i64) _ _ _ (wrap64 ((wrap64 (a0_3)) + 1)) [.int .i64 (wrap64 ((wrap64 (a0_3)) + 1))] from rfl) (Reps.none _ _))); intro v117 w12 ho13 hb hg_ hnew_; clear hg_ hnew_; (first | rw [← Ny116.out] at ho13 | (simp only [Int.reduceToNat] at ho13; rw [← Ny116.out] at ho13)); have n0_ := Aside0.mk (Kd.R_lower ho13 (below_size (by repeat (first | (with_reducible first | exact HB.out | apply below_alloc | apply pw_below_drewN | apply below_drew1 | refine below_set ?_ GE114.out) | exact HB.out)))); have n1_ := Aside0.mk (blk_below (g := gb114) (o := .cells #[.int .i64 a0_0, .int .i64 a0_1, .int .i64 a0_2, .int .u32 a0_3] 28 (0, 0)) (by (with_reducible repeat (first | refine blk_drewN ?_ _ | refine blk_drew ?_ | refine blk_alloc ?_ _)); exact BK114.out) hb); have n2_ := Aside0.mk (below_step (by repeat (first | (with_reducible first | exact HB.out | apply below_alloc | apply pw_below_drewN | apply below_drew1 | refine below_set ?_ GE114.out) | exact HB.out)) hb); clear BK114; clear HB; have HO118 := n0_; have BK114 := n1_; have HB := n2_; clear n0_ n1_ n2_; clear hb ho13))
      go_ret
      exact ⟨_, by first | rfl | (simp [errW_none, errW_some] <;> rfl) | (simp [*, errW_none, errW_some] <;> rfl), by (with_reducible repeat (first | apply Kd.R_alloc | apply Kd.R_drewN | apply Kd.R_drew)); exact HO118.out, by repeat (first | (with_reducible first | exact HB.out | apply below_alloc | apply pw_below_drewN | apply below_drew1 | refine below_set ?_ GE114.out) | exact HB.out)⟩
    · rw [if_neg c7] at H
      have c7b0 : (a0_0 == 5) = false := beq_eq_false_iff_ne.mpr c7
      have c7b1 : (a0_0 != 5) = true := bne_iff_ne.mpr c7
      by_cases c14 : (Go.bits .and .i64 a0_0 7) = 5
      · rw [if_pos c14] at H
        have c14b0 : ((Go.bits .and .i64 a0_0 7) == 5) = true := beq_iff_eq.mpr c14
        have c14b1 : ((Go.bits .and .i64 a0_0 7) != 5) = false := bne_eq_false_iff_eq.mpr c14
        clear c14
        obtain ⟨y119, hy119⟩ : ∃ y_ : List Int, y_ = (([wrap64 (a0_1 + 1), wrap64 (a0_2 + 1)] : List Int)) := ⟨_, rfl⟩
        replace H : (some y119) = some r := by first | (rw [hy119]; with_reducible exact H) | (have H2_ := (Option.bind_some _ _).symm.trans H; rw [hy119]; with_reducible exact H2_) | (have H2_ := (Option.bind_some _ _).symm.trans H; with_reducible exact H2_) | with_reducible exact H | (rw [hy119]; exact H) | exact H
        have Ny119 := Aside0.mk hy119
        clear hy119
        obtain rfl := Option.some.inj H
        go_enter Try.func101, Try.ntmps101
        go_wp2_with (first | ((with_reducible refine gate_dst (N := 1) rfl ?_); refine box_event ?hg (N := 1) ?hd (cs := #[.int .i64 a0_0, .int .i64 a0_1, .int .i64 a0_2, .int .u32 a0_3]) (t := 28) ?hr ?_; (case hd => rfl); (case hg => rfl); (case hr => first | (go_simp; done) | (go_simp; rfl)); intro gb114 hg w15 hbox hb; have n0_ := Aside0.mk (below_step (by repeat (first | (with_reducible first | exact HB.out | apply below_alloc | apply pw_below_drewN | apply below_drew1) | exact HB.out)) hb); have n1_ := Aside0.mk (hbox); have n2_ := Aside0.mk ((by rw [hg]; exact (below_size (by repeat (first | (with_reducible first | exact HB.out | apply below_alloc | apply pw_below_drewN | apply below_drew1) | exact HB.out))) : w.heap.size ≤ gb114)); have n3_ := Aside0.mk ((by rw [hg]; exact (below_size (by repeat (first | (with_reducible first | exact HB.out | apply below_alloc | apply pw_below_drewN | apply below_drew1) | exact HB.out))) : w.heap.size ≤ gb114)); clear HB; have HB := n0_; have BK114 := n1_; have GW114 := n2_; have GE114 := n3_; clear n0_ n1_ n2_ n3_; clear hb hbox hg; have hcz16_0 : w15.cell? ⟨gb114, 0, none⟩ = some (.int .i64 a0_0) := (blk_cell BK114.out 0).trans rfl; have hcz16_1 : w15.cell? ⟨gb114, 1, none⟩ = some (.int .i64 a0_1) := (blk_cell BK114.out 1).trans rfl; have hcz16_2 : w15.cell? ⟨gb114, 2, none⟩ = some (.int .i64 a0_2) := (blk_cell BK114.out 2).trans rfl; have hcz16_3 : w15.cell? ⟨gb114, 3, none⟩ = some (.int .u32 a0_3) := (blk_cell BK114.out 3).trans rfl; have hfz16_0 := blk_frozen BK114.out 0; have hfz16_1 := blk_frozen BK114.out 1; have hfz16_2 := blk_frozen BK114.out 2; have hfz16_3 := blk_frozen BK114.out 3) | ((with_reducible refine gate_callee (f := 131) rfl ?_); refine goesL_ (some 5) rfl rfl Try.func131 (by kernel_rfl) rfl #[.agg #[.int .i64 a0_0, .int .i64 a0_1, .int .i64 a0_2, .int .u32 a0_3]] rfl (by (try simp only [List.map_toArray, List.map_cons, List.map_nil]); first | done | rfl | (simp only [List.length_drop, List.length_take]; rfl)) ?_; (with_reducible refine (check_returns.calls a0_0 a0_1 a0_2 a0_3 false _ A2.out).mono ?_); rintro e w17 ⟨rfl, hb⟩; refine ⟨_, rfl, ?_⟩; have n0_ := Aside0.mk (blk_below (g := gb114) (o := .cells #[.int .i64 a0_0, .int .i64 a0_1, .int .i64 a0_2, .int .u32 a0_3] 28 (0, 0)) (by (with_reducible repeat (first | refine blk_drewN ?_ _ | refine blk_drew ?_ | refine blk_alloc ?_ _)); exact BK114.out) hb); have n1_ := Aside0.mk (below_step (by repeat (first | (with_reducible first | exact HB.out | apply below_alloc | apply pw_below_drewN | apply below_drew1 | refine below_set ?_ GE114.out) | exact HB.out)) hb); clear BK114; clear HB; have BK114 := n0_; have HB := n1_; clear n0_ n1_; (try clear hb); (try clear hb2); (try clear hk); (try clear hi); have hcz18_0 : w17.cell? ⟨gb114, 0, none⟩ = some (.int .i64 a0_0) := (blk_cell BK114.out 0).trans rfl; have hcz18_1 : w17.cell? ⟨gb114, 1, none⟩ = some (.int .i64 a0_1) := (blk_cell BK114.out 1).trans rfl; have hcz18_2 : w17.cell? ⟨gb114, 2, none⟩ = some (.int .i64 a0_2) := (blk_cell BK114.out 2).trans rfl; have hcz18_3 : w17.cell? ⟨gb114, 3, none⟩ = some (.int .u32 a0_3) := (blk_cell BK114.out 3).trans rfl; have hfz18_0 := blk_frozen BK114.out 0; have hfz18_1 := blk_frozen BK114.out 1; have hfz18_2 := blk_frozen BK114.out 2; have hfz18_3 := blk_frozen BK114.out 3) | ((with_reducible refine gate_dst (N := 26) rfl ?_); refine Kd.R_lit (Kd.int .i64) _ 3 ?hg (N := 26) ?hd (xs := ([wrap64 (a0_1 + 1), wrap64 (a0_2 + 1)] : List Int)) (inner := [.int .i64 (wrap64 (a0_1 + 1)), .int .i64 (wrap64 (a0_2 + 1))]) (ok := fun _ => True) (okp := fun _ => True) ?hr ?hp (fun _ hk => hk) trivial (Below.refl _ _) (Nat.le_refl _) (by simp) ?_; (case hd => rfl); (case hg => rfl); (case hr => first | (go_simp; done) | (go_simp; rfl)); (case hp => exact (Reps.one (show Kd.M (Kd.int .i64) _ _ _ (wrap64 (a0_1 + 1)) [.int .i64 (wrap64 (a0_1 + 1))] from rfl) (Reps.one (show Kd.M (Kd.int .i64) _ _ _ (wrap64 (a0_2 + 1)) [.int .i64 (wrap64 (a0_2 + 1))] from rfl) (Reps.none _ _)))); intro v120 w19 ho20 hb hg_ hnew_; clear hg_ hnew_; (first | rw [← Ny119.out] at ho20 | (simp only [Int.reduceToNat] at ho20; rw [← Ny119.out] at ho20)); have n0_ := Aside0.mk (Kd.R_lower ho20 (below_size (by repeat (first | (with_reducible first | exact HB.out | apply below_alloc | apply pw_below_drewN | apply below_drew1 | refine below_set ?_ GE114.out) | exact HB.out)))); have n1_ := Aside0.mk (blk_below (g := gb114) (o := .cells #[.int .i64 a0_0, .int .i64 a0_1, .int .i64 a0_2, .int .u32 a0_3] 28 (0, 0)) (by (with_reducible repeat (first | refine blk_drewN ?_ _ | refine blk_drew ?_ | refine blk_alloc ?_ _)); exact BK114.out) hb); have n2_ := Aside0.mk (below_step (by repeat (first | (with_reducible first | exact HB.out | apply below_alloc | apply pw_below_drewN | apply below_drew1 | refine below_set ?_ GE114.out) | exact HB.out)) hb); clear BK114; clear HB; have HO121 := n0_; have BK114 := n1_; have HB := n2_; clear n0_ n1_ n2_; clear hb ho20))
        go_ret
        exact ⟨_, by first | rfl | (simp [errW_none, errW_some] <;> rfl) | (simp [*, errW_none, errW_some] <;> rfl), by (with_reducible repeat (first | apply Kd.R_alloc | apply Kd.R_drewN | apply Kd.R_drew)); exact HO121.out, by repeat (first | (with_reducible first | exact HB.out | apply below_alloc | apply pw_below_drewN | apply below_drew1 | refine below_set ?_ GE114.out) | exact HB.out)⟩
      · rw [if_neg c14] at H
        have c14b0 : ((Go.bits .and .i64 a0_0 7) == 5) = false := beq_eq_false_iff_ne.mpr c14
        have c14b1 : ((Go.bits .and .i64 a0_0 7) != 5) = true := bne_iff_ne.mpr c14
        obtain ⟨y122, hy122⟩ : ∃ y_ : List Int, y_ = (([1] : List Int)) := ⟨_, rfl⟩
        replace H : (some y122) = some r := by first | (rw [hy122]; with_reducible exact H) | (have H2_ := (Option.bind_some _ _).symm.trans H; rw [hy122]; with_reducible exact H2_) | (have H2_ := (Option.bind_some _ _).symm.trans H; with_reducible exact H2_) | with_reducible exact H | (rw [hy122]; exact H) | exact H
        have Ny122 := Aside0.mk hy122
        clear hy122
        obtain rfl := Option.some.inj H
        go_enter Try.func101, Try.ntmps101
        go_wp2_with (first | ((with_reducible refine gate_dst (N := 1) rfl ?_); refine box_event ?hg (N := 1) ?hd (cs := #[.int .i64 a0_0, .int .i64 a0_1, .int .i64 a0_2, .int .u32 a0_3]) (t := 28) ?hr ?_; (case hd => rfl); (case hg => rfl); (case hr => first | (go_simp; done) | (go_simp; rfl)); intro gb114 hg w21 hbox hb; have n0_ := Aside0.mk (below_step (by repeat (first | (with_reducible first | exact HB.out | apply below_alloc | apply pw_below_drewN | apply below_drew1) | exact HB.out)) hb); have n1_ := Aside0.mk (hbox); have n2_ := Aside0.mk ((by rw [hg]; exact (below_size (by repeat (first | (with_reducible first | exact HB.out | apply below_alloc | apply pw_below_drewN | apply below_drew1) | exact HB.out))) : w.heap.size ≤ gb114)); have n3_ := Aside0.mk ((by rw [hg]; exact (below_size (by repeat (first | (with_reducible first | exact HB.out | apply below_alloc | apply pw_below_drewN | apply below_drew1) | exact HB.out))) : w.heap.size ≤ gb114)); clear HB; have HB := n0_; have BK114 := n1_; have GW114 := n2_; have GE114 := n3_; clear n0_ n1_ n2_ n3_; clear hb hbox hg; have hcz22_0 : w21.cell? ⟨gb114, 0, none⟩ = some (.int .i64 a0_0) := (blk_cell BK114.out 0).trans rfl; have hcz22_1 : w21.cell? ⟨gb114, 1, none⟩ = some (.int .i64 a0_1) := (blk_cell BK114.out 1).trans rfl; have hcz22_2 : w21.cell? ⟨gb114, 2, none⟩ = some (.int .i64 a0_2) := (blk_cell BK114.out 2).trans rfl; have hcz22_3 : w21.cell? ⟨gb114, 3, none⟩ = some (.int .u32 a0_3) := (blk_cell BK114.out 3).trans rfl; have hfz22_0 := blk_frozen BK114.out 0; have hfz22_1 := blk_frozen BK114.out 1; have hfz22_2 := blk_frozen BK114.out 2; have hfz22_3 := blk_frozen BK114.out 3) | ((with_reducible refine gate_callee (f := 131) rfl ?_); refine goesL_ (some 5) rfl rfl Try.func131 (by kernel_rfl) rfl #[.agg #[.int .i64 a0_0, .int .i64 a0_1, .int .i64 a0_2, .int .u32 a0_3]] rfl (by (try simp only [List.map_toArray, List.map_cons, List.map_nil]); first | done | rfl | (simp only [List.length_drop, List.length_take]; rfl)) ?_; (with_reducible refine (check_returns.calls a0_0 a0_1 a0_2 a0_3 false _ A2.out).mono ?_); rintro e w23 ⟨rfl, hb⟩; refine ⟨_, rfl, ?_⟩; have n0_ := Aside0.mk (blk_below (g := gb114) (o := .cells #[.int .i64 a0_0, .int .i64 a0_1, .int .i64 a0_2, .int .u32 a0_3] 28 (0, 0)) (by (with_reducible repeat (first | refine blk_drewN ?_ _ | refine blk_drew ?_ | refine blk_alloc ?_ _)); exact BK114.out) hb); have n1_ := Aside0.mk (below_step (by repeat (first | (with_reducible first | exact HB.out | apply below_alloc | apply pw_below_drewN | apply below_drew1 | refine below_set ?_ GE114.out) | exact HB.out)) hb); clear BK114; clear HB; have BK114 := n0_; have HB := n1_; clear n0_ n1_; (try clear hb); (try clear hb2); (try clear hk); (try clear hi); have hcz24_0 : w23.cell? ⟨gb114, 0, none⟩ = some (.int .i64 a0_0) := (blk_cell BK114.out 0).trans rfl; have hcz24_1 : w23.cell? ⟨gb114, 1, none⟩ = some (.int .i64 a0_1) := (blk_cell BK114.out 1).trans rfl; have hcz24_2 : w23.cell? ⟨gb114, 2, none⟩ = some (.int .i64 a0_2) := (blk_cell BK114.out 2).trans rfl; have hcz24_3 : w23.cell? ⟨gb114, 3, none⟩ = some (.int .u32 a0_3) := (blk_cell BK114.out 3).trans rfl; have hfz24_0 := blk_frozen BK114.out 0; have hfz24_1 := blk_frozen BK114.out 1; have hfz24_2 := blk_frozen BK114.out 2; have hfz24_3 := blk_frozen BK114.out 3) | ((with_reducible refine gate_dst (N := 27) rfl ?_); refine Kd.R_lit (Kd.int .i64) _ 3 ?hg (N := 27) ?hd (xs := ([1] : List Int)) (inner := [.int .i64 1]) (ok := fun _ => True) (okp := fun _ => True) ?hr ?hp (fun _ hk => hk) trivial (Below.refl _ _) (Nat.le_refl _) (by simp) ?_; (case hd => rfl); (case hg => rfl); (case hr => first | (go_simp; done) | (go_simp; rfl)); (case hp => exact (Reps.one (show Kd.M (Kd.int .i64) _ _ _ 1 [.int .i64 1] from rfl) (Reps.none _ _))); intro v123 w25 ho26 hb hg_ hnew_; clear hg_ hnew_; (first | rw [← Ny122.out] at ho26 | (simp only [Int.reduceToNat] at ho26; rw [← Ny122.out] at ho26)); have n0_ := Aside0.mk (Kd.R_lower ho26 (below_size (by repeat (first | (with_reducible first | exact HB.out | apply below_alloc | apply pw_below_drewN | apply below_drew1 | refine below_set ?_ GE114.out) | exact HB.out)))); have n1_ := Aside0.mk (blk_below (g := gb114) (o := .cells #[.int .i64 a0_0, .int .i64 a0_1, .int .i64 a0_2, .int .u32 a0_3] 28 (0, 0)) (by (with_reducible repeat (first | refine blk_drewN ?_ _ | refine blk_drew ?_ | refine blk_alloc ?_ _)); exact BK114.out) hb); have n2_ := Aside0.mk (below_step (by repeat (first | (with_reducible first | exact HB.out | apply below_alloc | apply pw_below_drewN | apply below_drew1 | refine below_set ?_ GE114.out) | exact HB.out)) hb); clear BK114; clear HB; have HO124 := n0_; have BK114 := n1_; have HB := n2_; clear n0_ n1_ n2_; clear hb ho26))
        go_ret
        exact ⟨_, by first | rfl | (simp [errW_none, errW_some] <;> rfl) | (simp [*, errW_none, errW_some] <;> rfl), by (with_reducible repeat (first | apply Kd.R_alloc | apply Kd.R_drewN | apply Kd.R_drew)); exact HO124.out, by repeat (first | (with_reducible first | exact HB.out | apply below_alloc | apply pw_below_drewN | apply below_drew1 | refine below_set ?_ GE114.out) | exact HB.out)⟩
end Go.Proofs.Ytefkhcijgiagdaa.K0
end
section
namespace Go.Proofs.Ytefkhcijgiagdaa.QCheck
open Go.RowKit Go.Proofs.YtefkhcijgiagdaaW.PrintWords Go.Proofs.YtefkhcijgiagdaaW.PrintLast Go.Proofs.YtefkhcijgiagdaaW.PrintMore Go.Proofs.Ytefkhcijgiagdaa.HKnown Go.Proofs.Ytefkhcijgiagdaa.I1 Go.Proofs.Ytefkhcijgiagdaa.QVm
set_option linter.unusedVariables false
set_option linter.unusedSimpArgs false
def retB (c : Int) : Bool := decide (c = 6 ∨ c = 22)
/-- Does an instruction fit, with so many behind it? by its code. -/
def fitB (i : S28) (left : Int) : Bool :=
  if i.f0 = 32 then decide (i.f3 % 4 = 0 ∧ i.f3 ≤ 60)
  else if i.f0 = 96 ∨ i.f0 = 97 ∨ i.f0 = 2 ∨ i.f0 = 3 then decide (i.f3 < 16)
  else if i.f0 = 52 then decide (i.f3 ≠ 0)
  else if i.f0 = 100 ∨ i.f0 = 116 then decide (i.f3 < 32)
  else if i.f0 = 5 then decide (i.f3 < left)
  else if i.f0 = 21 ∨ i.f0 = 37 ∨ i.f0 = 53 ∨ i.f0 = 69 ∨ i.f0 = 29 ∨ i.f0 = 45 ∨ i.f0 = 61 ∨ i.f0 = 77 then decide (i.f1 < left ∧ i.f2 < left)
  else true
def wellB (i : S28) (left : Int) : Bool :=
  knownB i.f0 && decide (0 ≤ i.f1 ∧ i.f1 ≤ 255 ∧ 0 ≤ i.f2 ∧ i.f2 ≤ 255) && (decide (left ≠ 0) || retB i.f0) && fitB i left
/-- The first instruction that is not well. -/
def firstB : List S28 → Option Nat
  | [] => none
  | i :: l => if wellB i (l.length : Int) = true then (firstB l).map (· + 1) else some 0
def allV (l : List S28) : Int × Int :=
  if l.length = 0 then (0, 51) else if 4096 < l.length then (0, 2) else match firstB l with | some k => ((k : Int), 51) | none => (0, 0)
/-- How far on the instructions stand that may come behind one. -/
def folL (i : S28) : List Nat :=
  if retB i.f0 = true then [] else if i.f0 = 5 then [i.f3.toNat + 1] else if i.f0 % 8 = 5 then [i.f1.toNat + 1, i.f2.toNat + 1] else [1]
def stB (i : S28) : Bool := decide (i.f0 = 2 ∨ i.f0 = 3)
def wrB (i : S28) (c : Nat) : Bool := stB i && decide (i.f3.toNat = c)
def folTo (i : S28) (f j : Nat) : Bool := (folL i).any fun d => decide (f + d = j)
def joinL (a b : List Bool) : List Bool := if a = [] then b else List.zipWith (· && ·) a b
def nowL (i : S28) (row : List Bool) : List Bool := if stB i = true then row.set i.f3.toNat true else row
def putL (rows : List (List Bool)) (j : Nat) (now : List Bool) : List (List Bool) := rows.set j (joinL (rows.getD j []) now)
def stepL (rows : List (List Bool)) (k : Nat) (i : S28) : List (List Bool) :=
  if rows.getD k [] = [] then rows else (folL i).foldl (fun o d => putL o (k + d) (nowL i (rows.getD k []))) rows
def z28 : S28 := ⟨0, 0, 0, 0⟩
def at_ (l : List S28) (k : Nat) : S28 := l.getD k z28
def cellsL (l : List S28) : Nat → List (List Bool)
  | 0 => (List.replicate l.length []).set 0 (List.replicate 16 false)
  | k + 1 => stepL (cellsL l k) k (at_ l k)
/-- The first load of a cell that is not written on each way. -/
def loadB (i : S28) (row : List Bool) : Bool := decide (i.f0 = 96 ∨ i.f0 = 97) && (!row.isEmpty && !row.getD i.f3.toNat false)
def findB : List S28 → List (List Bool) → Nat → Option Nat
  | [], _, _ => none
  | i :: l, rows, k => if loadB i (rows.getD k []) = true then some k else findB l rows (k + 1)
def checkV (l : List S28) : Int × Int :=
  if (allV l).2 = 0 then (match findB l (cellsL l l.length) 0 with | some k => ((k : Int), 51) | none => (0, 0)) else allV l
def rchL (l : List S28) (c : Nat) : Nat → List Bool
  | 0 => []
  | n + 1 => rchL l c n ++ [decide (n = 0) || (List.range n).any fun f => (rchL l c n).getD f false && !wrB (at_ l f) c && folTo (at_ l f) f n]
def rch (l : List S28) (c j : Nat) : Bool := (rchL l c (j + 1)).getD j false
theorem rchL_len (l : List S28) (c n : Nat) : (rchL l c n).length = n := by
  induction n with
  | zero => rfl
  | succ n ih => simp [rchL, ih]
theorem getD_append_l {α : Type} (a b : List α) (d : α) (j : Nat) (h : j < a.length) : (a ++ b).getD j d = a.getD j d := by
  rw [List.getD_eq_getElem?_getD, List.getD_eq_getElem?_getD, List.getElem?_append_left h]
theorem rchL_get (l : List S28) (c : Nat) : ∀ n f, f < n → (rchL l c n).getD f false = rch l c f := by
  intro n
  induction n with
  | zero => intro f h; omega
  | succ n ih =>
    intro f h
    by_cases hf : f < n
    · rw [← ih f hf]
      show (rchL l c n ++ _).getD f false = _
      rw [getD_append_l _ _ _ _ (by rw [rchL_len]; exact hf)]
    · obtain rfl : f = n := by omega
      rfl
theorem any_congr {α : Type} {p q : α → Bool} {l : List α} (h : ∀ x ∈ l, p x = q x) : l.any p = l.any q := by
  induction l with
  | nil => rfl
  | cons a l ih => rw [List.any_cons, List.any_cons, h a List.mem_cons_self, ih (fun x hx => h x (List.mem_cons_of_mem _ hx))]
/-- Is a place reached over one of the first k instructions, on a way on which the cell is not written? -/
def qch (l : List S28) (c k j : Nat) : Bool := decide (j = 0) || (List.range k).any fun f => rch l c f && !wrB (at_ l f) c && folTo (at_ l f) f j
theorem rch_eq (l : List S28) (c j : Nat) : rch l c j = qch l c j j := by
  show (rchL l c j ++ [_]).getD j false = _
  rw [List.getD_eq_getElem?_getD, List.getElem?_append_right (by rw [rchL_len]; exact Nat.le_refl _), rchL_len, Nat.sub_self]
  show (decide (j = 0) || _) = (decide (j = 0) || _)
  congr 1
  refine any_congr fun f hf => ?_
  rw [rchL_get l c j f (List.mem_range.1 hf)]
theorem fol_gt {i : S28} {f j : Nat} (h : folTo i f j = true) : f < j := by
  unfold folTo folL at h
  split at h
  · simp at h
  split at h
  · simp at h; omega
  split at h
  · simp at h; omega
  · simp at h; omega
theorem qch_succ (l : List S28) (c k j : Nat) : qch l c (k + 1) j = (qch l c k j || (rch l c k && !wrB (at_ l k) c && folTo (at_ l k) k j)) := by
  unfold qch
  rw [List.range_succ, List.any_append, Bool.or_assoc]
  simp
theorem qch_late (l : List S28) (c k j : Nat) (h : j ≤ k) : qch l c k j = rch l c j := by
  obtain ⟨d, rfl⟩ : ∃ d, k = j + d := ⟨k - j, by omega⟩
  clear h
  induction d with
  | zero => exact (rch_eq l c j).symm
  | succ d ih =>
    rw [show j + (d + 1) = (j + d) + 1 by omega, qch_succ, ih]
    have e : folTo (at_ l (j + d)) (j + d) j = false := by
      cases h : folTo (at_ l (j + d)) (j + d) j with
      | false => rfl
      | true => have := fol_gt h; omega
    rw [e, Bool.and_false, Bool.or_false]
/-- No cell of that number is ever written. -/
theorem rch_mono (l : List S28) (h16 : ∀ f, wrB (at_ l f) 16 = false) (c : Nat) : ∀ n j, j < n → rch l c j = true → rch l 16 j = true := by
  intro n
  induction n with
  | zero => intro j h; omega
  | succ n ih =>
    intro j hj h
    rw [rch_eq] at h ⊢
    unfold qch at h ⊢
    rw [Bool.or_eq_true] at h ⊢
    rcases h with h | h
    · exact .inl h
    · right
      rw [List.any_eq_true] at h ⊢
      obtain ⟨f, hf, hp⟩ := h
      have hlt := List.mem_range.1 hf
      refine ⟨f, hf, ?_⟩
      rw [Bool.and_eq_true, Bool.and_eq_true] at hp
      rw [ih f (by omega) hp.1.1, h16 f, hp.2]
      rfl
theorem qch_mono (l : List S28) (h16 : ∀ f, wrB (at_ l f) 16 = false) (c k j : Nat) (h : qch l c k j = true) : qch l 16 k j = true := by
  unfold qch at h ⊢
  rw [Bool.or_eq_true] at h ⊢
  rcases h with h | h
  · exact .inl h
  · right
    rw [List.any_eq_true] at h ⊢
    obtain ⟨f, hf, hp⟩ := h
    refine ⟨f, hf, ?_⟩
    rw [Bool.and_eq_true, Bool.and_eq_true] at hp
    rw [rch_mono l h16 c (f + 1) f (by omega) hp.1.1, h16 f, hp.2]
    rfl
/-- What stands in the rows when the first k have been gone through. -/
structure Inv (l : List S28) (k : Nat) (rows : List (List Bool)) : Prop where
  len : rows.length = l.length
  nil : ∀ j, j < l.length → (rows.getD j [] = [] ↔ qch l 16 k j = false)
  n16 : ∀ j, j < l.length → rows.getD j [] ≠ [] → (rows.getD j []).length = 16
  val : ∀ j, j < l.length → rows.getD j [] ≠ [] → ∀ c, c < 16 → (rows.getD j []).getD c false = !qch l c k j
theorem getD_set_same {α : Type} (l : List α) (j : Nat) (x d : α) (h : j < l.length) : (l.set j x).getD j d = x := by
  rw [List.getD_eq_getElem?_getD, List.getElem?_set_self h]; rfl
theorem getD_set_other {α : Type} (l : List α) (i j : Nat) (x d : α) (h : i ≠ j) : (l.set i x).getD j d = l.getD j d := by
  rw [List.getD_eq_getElem?_getD, List.getD_eq_getElem?_getD, List.getElem?_set_ne h]
theorem joinL_again (a b : List Bool) (hab : a = [] ∨ a.length = b.length) : joinL (joinL a b) b = joinL a b := by
  have key : ∀ (a b : List Bool), a.length = b.length → List.zipWith (· && ·) (List.zipWith (· && ·) a b) b = List.zipWith (· && ·) a b := by
    intro a
    induction a with
    | nil => intro b _; rfl
    | cons x a ih =>
      intro b h
      cases b with
      | nil => simp at h
      | cons y b =>
        simp only [List.zipWith_cons_cons, List.length_cons] at h ⊢
        rw [ih b (by omega), Bool.and_assoc, Bool.and_self]
  have self : ∀ b : List Bool, List.zipWith (· && ·) b b = b := by
    intro b
    induction b with
    | nil => rfl
    | cons x b ih => rw [List.zipWith_cons_cons, ih, Bool.and_self]
  unfold joinL
  by_cases ha : a = []
  · rw [if_pos ha]
    by_cases hb : b = []
    · rw [if_pos hb]
    · rw [if_neg hb, self]
  · rw [if_neg ha]
    rcases hab with h | h
    · exact absurd h ha
    · by_cases hz : List.zipWith (· && ·) a b = []
      · exfalso
        have : (List.zipWith (· && ·) a b).length = 0 := by rw [hz]; rfl
        rw [List.length_zipWith, h, Nat.min_self] at this
        exact ha (List.eq_nil_of_length_eq_zero (by omega))
      · rw [if_neg hz, key a b h]
theorem put_len (rows : List (List Bool)) (j : Nat) (now : List Bool) : (putL rows j now).length = rows.length := by simp [putL]
theorem fold_put (k : Nat) (now : List Bool) (hn : now.length = 16) : ∀ (ds : List Nat) (rows : List (List Bool)), (∀ d ∈ ds, k + d < rows.length) → (∀ j, j < rows.length → rows.getD j [] = [] ∨ (rows.getD j []).length = 16) →
    (ds.foldl (fun o d => putL o (k + d) now) rows).length = rows.length ∧ ∀ j, j < rows.length → (ds.foldl (fun o d => putL o (k + d) now) rows).getD j [] = if (ds.any fun d => decide (k + d = j)) = true then joinL (rows.getD j []) now else rows.getD j [] := by
  intro ds
  induction ds with
  | nil => intro rows _ _; exact ⟨rfl, fun j hj => by simp⟩
  | cons d ds ih =>
    intro rows hds h16
    have hd := hds d List.mem_cons_self
    have hj16 : (joinL (rows.getD (k + d) []) now).length = 16 := by
      unfold joinL
      rcases h16 (k + d) hd with h | h
      · rw [if_pos h, hn]
      · rw [if_neg (fun e => by rw [e] at h; simp at h), List.length_zipWith, h, hn]; rfl
    have hg : ∀ j, (putL rows (k + d) now).getD j [] = if k + d = j then joinL (rows.getD j []) now else rows.getD j [] := by
      intro j
      unfold putL
      by_cases e : k + d = j
      · subst e; rw [if_pos rfl, getD_set_same _ _ _ _ hd]
      · rw [if_neg e, getD_set_other _ _ _ _ _ e]
    obtain ⟨g1, g2⟩ := ih (putL rows (k + d) now) (fun x hx => by rw [put_len]; exact hds x (List.mem_cons_of_mem _ hx)) (fun j hj => by
      rw [put_len] at hj
      rw [hg]
      by_cases e : k + d = j
      · rw [if_pos e, ← e]; exact .inr hj16
      · rw [if_neg e]; exact h16 j hj)
    rw [List.foldl_cons]
    refine ⟨by rw [g1, put_len], fun j hj => ?_⟩
    rw [g2 j (by rw [put_len]; exact hj), hg j, List.any_cons]
    by_cases e : k + d = j
    · rw [if_pos e, decide_eq_true e, Bool.true_or, if_pos rfl]
      by_cases e2 : (ds.any fun d => decide (k + d = j)) = true
      · rw [if_pos e2, joinL_again]
        rcases h16 j hj with h | h
        · exact .inl h
        · exact .inr (by rw [h, hn])
      · rw [if_neg e2]
    · rw [if_neg e, decide_eq_false e, Bool.false_or]
theorem zip_getD (a b : List Bool) (c : Nat) (h : a.length = b.length) (hc : c < a.length) : (List.zipWith (· && ·) a b).getD c false = (a.getD c false && b.getD c false) := by
  rw [List.getD_eq_getElem?_getD, List.getD_eq_getElem?_getD, List.getD_eq_getElem?_getD, List.getElem?_zipWith, List.getElem?_eq_getElem hc, List.getElem?_eq_getElem (by omega : c < b.length)]
  rfl
/-- All instructions are well: their followers stand within, their cells are few. -/
structure WellL (l : List S28) : Prop where
  fol : ∀ k, k < l.length → ∀ d ∈ folL (at_ l k), k + d < l.length
  st : ∀ k, k < l.length → stB (at_ l k) = true → 0 ≤ (at_ l k).f3 ∧ (at_ l k).f3 < 16
theorem at_out (l : List S28) (k : Nat) (h : l.length ≤ k) : at_ l k = z28 := by unfold at_; rw [List.getD_eq_getElem?_getD, List.getElem?_eq_none h]; rfl
theorem WellL.w16 {l : List S28} (h : WellL l) (f : Nat) : wrB (at_ l f) 16 = false := by
  by_cases hf : f < l.length
  · cases hs : stB (at_ l f) with
    | false => unfold wrB; rw [hs]; rfl
    | true => have := h.st f hf hs; unfold wrB; rw [hs, Bool.true_and]; exact decide_eq_false (by omega)
  · rw [at_out l f (by omega)]; rfl
theorem inv_zero (l : List S28) (h0 : 0 < l.length) : Inv l 0 (cellsL l 0) := by
  have hq : ∀ c j, qch l c 0 j = decide (j = 0) := fun c j => by unfold qch; simp
  have hr : ∀ j, j < l.length → (cellsL l 0).getD j [] = if j = 0 then List.replicate 16 false else [] := by
    intro j hj
    show ((List.replicate l.length []).set 0 (List.replicate 16 false)).getD j [] = _
    by_cases e : j = 0
    · subst e; rw [if_pos rfl, getD_set_same _ _ _ _ (by simpa using h0)]
    · rw [if_neg e, getD_set_other _ _ _ _ _ (fun x => e x.symm), List.getD_eq_getElem?_getD, List.getElem?_replicate, if_pos hj]; rfl
  refine ⟨by simp [cellsL], fun j hj => ?_, fun j hj => ?_, fun j hj => ?_⟩
  · rw [hr j hj, hq]
    by_cases e : j = 0
    · rw [if_pos e, decide_eq_true e]; simp
    · rw [if_neg e, decide_eq_false e]; simp
  · rw [hr j hj]
    by_cases e : j = 0
    · rw [if_pos e]; intro _; simp
    · rw [if_neg e]; intro h; exact absurd rfl h
  · rw [hr j hj]
    by_cases e : j = 0
    · rw [if_pos e]
      intro _ c hc
      rw [hq, decide_eq_true e, List.getD_eq_getElem?_getD, List.getElem?_replicate, if_pos hc]; rfl
    · rw [if_neg e]; intro h; exact absurd rfl h
theorem inv_step {l : List S28} (hw : WellL l) (k : Nat) (hk : k < l.length) (rows : List (List Bool)) (h : Inv l k rows) : Inv l (k + 1) (stepL rows k (at_ l k)) := by
  have e16 := qch_late l 16 k k (Nat.le_refl _)
  have w16 := hw.w16 k
  have hor : ∀ j, j < rows.length → rows.getD j [] = [] ∨ (rows.getD j []).length = 16 := by
    intro j hj
    rw [h.len] at hj
    by_cases e : rows.getD j [] = []
    · exact .inl e
    · exact .inr (h.n16 j hj e)
  unfold stepL
  by_cases hn : rows.getD k [] = []
  · rw [if_pos hn]
    have r16 : rch l 16 k = false := by rw [← e16]; exact (h.nil k hk).1 hn
    have hc : ∀ c j, qch l c (k + 1) j = qch l c k j := by
      intro c j
      rw [qch_succ]
      have : rch l c k = false := by
        cases e : rch l c k with
        | false => rfl
        | true => have := rch_mono l hw.w16 c (k + 1) k (by omega) e; rw [r16] at this; cases this
      rw [this, Bool.false_and, Bool.false_and, Bool.or_false]
    exact ⟨h.len, fun j hj => by rw [hc]; exact h.nil j hj, h.n16, fun j hj g c hcc => by rw [hc]; exact h.val j hj g c hcc⟩
  · rw [if_neg hn]
    have r16 : rch l 16 k = true := by
      rw [← e16]
      cases e : qch l 16 k k with
      | true => rfl
      | false => exact absurd ((h.nil k hk).2 e) hn
    have hrow := h.n16 k hk hn
    have hnl : (nowL (at_ l k) (rows.getD k [])).length = 16 := by
      unfold nowL
      split
      · rw [List.length_set]; exact hrow
      · exact hrow
    have hnow : ∀ c, c < 16 → (nowL (at_ l k) (rows.getD k [])).getD c false = !(rch l c k && !wrB (at_ l k) c) := by
      intro c hc
      have hv := h.val k hk hn c hc
      rw [qch_late l c k k (Nat.le_refl _)] at hv
      unfold nowL wrB
      cases hs : stB (at_ l k) with
      | false => rw [if_neg (by decide), hv, Bool.false_and, Bool.not_false, Bool.and_true]
      | true =>
        rw [if_pos rfl, Bool.true_and]
        by_cases e : (at_ l k).f3.toNat = c
        · rw [e, getD_set_same _ _ _ _ (by omega), decide_eq_true rfl]; simp
        · rw [getD_set_other _ _ _ _ _ e, hv, decide_eq_false e]; simp
    obtain ⟨g1, g2⟩ := fold_put k (nowL (at_ l k) (rows.getD k [])) hnl (folL (at_ l k)) rows (fun d hd => by rw [h.len]; exact hw.fol k hk d hd) hor
    generalize (folL (at_ l k)).foldl (fun o d => putL o (k + d) (nowL (at_ l k) (rows.getD k []))) rows = R at g1 g2
    have hqs : ∀ c j, qch l c (k + 1) j = (qch l c k j || (rch l c k && !wrB (at_ l k) c && folTo (at_ l k) k j)) := fun c j => qch_succ l c k j
    have hft : ∀ j, ((folL (at_ l k)).any fun d => decide (k + d = j)) = folTo (at_ l k) k j := fun _ => rfl
    generalize nowL (at_ l k) (rows.getD k []) = now at *
    have hnn : now ≠ [] := fun e => by rw [e] at hnl; simp at hnl
    refine ⟨by rw [g1, h.len], fun j hj => ?_, fun j hj => ?_, fun j hj => ?_⟩
    · have hj' : j < rows.length := by rw [h.len]; exact hj
      rw [g2 j hj', hft, hqs, r16, w16]
      cases e : folTo (at_ l k) k j with
      | false => rw [if_neg (by decide), h.nil j hj]; simp
      | true =>
        rw [if_pos rfl]
        simp only [Bool.true_and, Bool.not_false, Bool.or_true]
        constructor
        · intro g
          exfalso
          unfold joinL at g
          rcases hor j hj' with a | a
          · rw [if_pos a] at g; exact hnn g
          · rw [if_neg (fun x => by rw [x] at a; simp at a)] at g
            have : (List.zipWith (· && ·) (rows.getD j []) now).length = 16 := by rw [List.length_zipWith, a, hnl]; rfl
            rw [g] at this; simp at this
        · intro g; cases g
    · have hj' : j < rows.length := by rw [h.len]; exact hj
      rw [g2 j hj', hft]
      cases e : folTo (at_ l k) k j with
      | false => rw [if_neg (by decide)]; exact h.n16 j hj
      | true =>
        rw [if_pos rfl]
        intro _
        unfold joinL
        rcases hor j hj' with a | a
        · rw [if_pos a, hnl]
        · rw [if_neg (fun x => by rw [x] at a; simp at a), List.length_zipWith, a, hnl]; rfl
    · have hj' : j < rows.length := by rw [h.len]; exact hj
      rw [g2 j hj', hft]
      intro g c hc
      rw [hqs]
      cases e : folTo (at_ l k) k j with
      | false =>
        rw [e, if_neg (by decide)] at g
        rw [if_neg (by decide), h.val j hj g c hc, Bool.and_false, Bool.or_false]
      | true =>
        rw [if_pos rfl, Bool.and_true]
        unfold joinL
        rcases hor j hj' with a | a
        · rw [if_pos a, hnow c hc]
          have q16 := (h.nil j hj).1 a
          have qc : qch l c k j = false := by
            cases e2 : qch l c k j with
            | false => rfl
            | true => have := qch_mono l hw.w16 c k j e2; rw [q16] at this; cases this
          rw [qc, Bool.false_or]
        · have an : rows.getD j [] ≠ [] := fun x => by rw [x] at a; simp at a
          rw [if_neg an, zip_getD _ _ _ (by rw [a, hnl]) (by omega), h.val j hj an c hc, hnow c hc]
          cases qch l c k j <;> cases rch l c k <;> cases wrB (at_ l k) c <;> rfl
theorem inv_all {l : List S28} (hw : WellL l) (h0 : 0 < l.length) : ∀ k, k ≤ l.length → Inv l k (cellsL l k) := by
  intro k
  induction k with
  | zero => intro _; exact inv_zero l h0
  | succ k ih => intro hk; exact inv_step hw k (by omega) _ (ih (by omega))
def rowR (l : List S28) (j : Nat) : List Bool := if rch l 16 j = true then (List.range 16).map fun c => !rch l c j else []
theorem cells_row {l : List S28} (hw : WellL l) (h0 : 0 < l.length) (j : Nat) (hj : j < l.length) : (cellsL l l.length).getD j [] = rowR l j := by
  have h := inv_all hw h0 l.length (Nat.le_refl _)
  have e := fun c => qch_late l c l.length j (Nat.le_of_lt hj)
  generalize cellsL l l.length = rows at h
  unfold rowR
  cases r : rch l 16 j with
  | false => rw [if_neg (by decide)]; exact (h.nil j hj).2 (by rw [e, r])
  | true =>
    rw [if_pos rfl]
    have hn : rows.getD j [] ≠ [] := fun x => by have := (h.nil j hj).1 x; rw [e, r] at this; cases this
    have hl := h.n16 j hj hn
    apply List.ext_getElem
    · rw [hl]; simp
    · intro c h1 h2
      have hc : c < 16 := by omega
      have hv := h.val j hj hn c hc
      rw [List.getD_eq_getElem?_getD, List.getElem?_eq_getElem h1, Option.getD_some, e] at hv
      rw [hv]; simp
theorem known_codes : ∀ c : Fin 256, knownB (c.val : Int) = true → (c.val : Int) % 8 = 5 → (c.val : Int) = 5 ∨ (c.val : Int) = 21 ∨ (c.val : Int) = 37 ∨ (c.val : Int) = 53 ∨ (c.val : Int) = 69 ∨ (c.val : Int) = 29 ∨ (c.val : Int) = 45 ∨ (c.val : Int) = 61 ∨ (c.val : Int) = 77 := by decide +kernel
theorem known_range {c : Int} (h : knownB c = true) : 0 ≤ c ∧ c < 256 := by
  unfold knownB at h; rw [Bool.and_eq_true, decide_eq_true_eq] at h; exact h.1
theorem known_jump {c : Int} (h : knownB c = true) (h5 : c % 8 = 5) : c = 5 ∨ c = 21 ∨ c = 37 ∨ c = 53 ∨ c = 69 ∨ c = 29 ∨ c = 45 ∨ c = 61 ∨ c = 77 := by
  obtain ⟨a, b⟩ := known_range h
  obtain ⟨n, rfl⟩ : ∃ n : Nat, c = n := ⟨c.toNat, by omega⟩
  exact known_codes ⟨n, by omega⟩ h h5
structure Well (i : S28) (left : Int) : Prop where
  kn : knownB i.f0 = true
  t0 : 0 ≤ i.f1
  t1 : i.f1 ≤ 255
  f0 : 0 ≤ i.f2
  f1 : i.f2 ≤ 255
  lr : left ≠ 0 ∨ retB i.f0 = true
  fit : fitB i left = true
theorem well_iff (i : S28) (left : Int) : wellB i left = true ↔ Well i left := by
  unfold wellB
  simp only [Bool.and_eq_true, Bool.or_eq_true, decide_eq_true_eq]
  constructor
  · rintro ⟨⟨⟨h1, h2, h3, h4, h5⟩, h6⟩, h7⟩; exact ⟨h1, h2, h3, h4, h5, h6, h7⟩
  · rintro ⟨h1, h2, h3, h4, h5, h6, h7⟩; exact ⟨⟨⟨h1, h2, h3, h4, h5⟩, h6⟩, h7⟩
theorem Well.jump {i : S28} {left : Int} (h : Well i left) (h5 : i.f0 % 8 = 5) (hn : i.f0 ≠ 5) : i.f1 < left ∧ i.f2 < left := by
  have hf := h.fit
  have hk := known_jump h.kn h5
  unfold fitB at hf
  rw [if_neg (by omega), if_neg (by omega), if_neg (by omega), if_neg (by omega), if_neg hn, if_pos (by omega)] at hf
  exact of_decide_eq_true hf
theorem Well.ja {i : S28} {left : Int} (h : Well i left) (h5 : i.f0 = 5) : i.f3 < left := by
  have hf := h.fit
  unfold fitB at hf
  rw [if_neg (by omega), if_neg (by omega), if_neg (by omega), if_neg (by omega), if_pos h5] at hf
  exact of_decide_eq_true hf
theorem Well.cell {i : S28} {left : Int} (h : Well i left) (h5 : i.f0 = 96 ∨ i.f0 = 97 ∨ i.f0 = 2 ∨ i.f0 = 3) : i.f3 < 16 := by
  have hf := h.fit
  unfold fitB at hf
  rw [if_neg (by omega), if_pos h5] at hf
  exact of_decide_eq_true hf
theorem first_none : ∀ l : List S28, firstB l = none ↔ ∀ k, k < l.length → wellB (at_ l k) ((l.length - 1 - k : Nat) : Int) = true := by
  intro l
  induction l with
  | nil => exact ⟨fun _ k h => absurd h (by simp), fun _ => rfl⟩
  | cons i l ih =>
    unfold firstB
    by_cases hw : wellB i (l.length : Int) = true
    · rw [if_pos hw, Option.map_eq_none_iff, ih]
      constructor
      · intro h k hk
        cases k with
        | zero => simpa [at_] using hw
        | succ k =>
          have := h k (by simpa using hk)
          rw [List.length_cons, show l.length + 1 - 1 - (k + 1) = l.length - 1 - k by omega]
          exact this
      · intro h k hk
        have := h (k + 1) (by simpa using hk)
        rw [List.length_cons, show l.length + 1 - 1 - (k + 1) = l.length - 1 - k by omega] at this
        exact this
    · rw [if_neg hw]
      constructor
      · intro h; cases h
      · intro h
        have := h 0 (by simp)
        rw [List.length_cons, show l.length + 1 - 1 - 0 = l.length by omega] at this
        exact absurd this hw
def U3 (l : List S28) : Prop := ∀ i ∈ l, 0 ≤ i.f3
theorem at_mem (l : List S28) (k : Nat) (h : k < l.length) : at_ l k ∈ l := by
  unfold at_; rw [List.getD_eq_getElem?_getD, List.getElem?_eq_getElem h]; exact List.getElem_mem _
theorem wellL_of (l : List S28) (h3 : U3 l) (h : firstB l = none) : WellL l := by
  rw [first_none] at h
  refine ⟨fun k hk d hd => ?_, fun k hk hs => ?_⟩
  · have w := (well_iff _ _).1 (h k hk)
    have u3 := h3 _ (at_mem l k hk)
    generalize at_ l k = i at *
    unfold folL at hd
    split at hd
    · simp at hd
    rename_i hr
    have hleft := w.lr.resolve_right (by simpa using hr)
    split at hd
    · rename_i h5
      have := w.ja h5
      simp only [List.mem_singleton] at hd; omega
    split at hd
    · rename_i hn h5
      have := w.jump h5 hn
      have := w.t0
      have := w.f0
      simp only [List.mem_cons, List.not_mem_nil, or_false] at hd
      rcases hd with rfl | rfl <;> omega
    · simp only [List.mem_singleton] at hd; omega
  · have w := (well_iff _ _).1 (h k hk)
    have u3 := h3 _ (at_mem l k hk)
    unfold stB at hs
    have := of_decide_eq_true hs
    exact ⟨u3, w.cell (by omega)⟩
theorem allV_ok (l : List S28) : (allV l).2 = 0 ↔ 0 < l.length ∧ l.length ≤ 4096 ∧ firstB l = none := by
  unfold allV
  by_cases h0 : l.length = 0
  · rw [if_pos h0]; constructor
    · intro h; cases h
    · intro h; omega
  · rw [if_neg h0]
    by_cases h1 : 4096 < l.length
    · rw [if_pos h1]; constructor
      · intro h; cases h
      · intro h; omega
    · rw [if_neg h1]
      cases hf : firstB l with
      | none => exact ⟨fun _ => ⟨by omega, by omega, rfl⟩, fun _ => rfl⟩
      | some k => constructor
                  · intro h; cases h
                  · intro h; cases h.2.2
theorem find_none : ∀ (l : List S28) (rows : List (List Bool)) (k : Nat), findB l rows k = none ↔ ∀ j, j < l.length → loadB (at_ l j) (rows.getD (k + j) []) = false := by
  intro l
  induction l with
  | nil => intro rows k; exact ⟨fun _ j h => absurd h (by simp), fun _ => rfl⟩
  | cons i l ih =>
    intro rows k
    unfold findB
    by_cases h : loadB i (rows.getD k []) = true
    · rw [if_pos h]
      constructor
      · intro g; cases g
      · intro g
        have := g 0 (by simp)
        rw [Nat.add_zero] at this
        exact absurd h (by rw [show at_ (i :: l) 0 = i from rfl] at this; rw [this]; decide)
    · rw [if_neg h, ih]
      constructor
      · intro g j hj
        cases j with
        | zero => rw [Nat.add_zero]; simpa [at_] using h
        | succ j =>
          have := g j (by simpa using hj)
          rw [show k + (j + 1) = k + 1 + j by omega]
          exact this
      · intro g j hj
        have := g (j + 1) (by simpa using hj)
        rw [show k + (j + 1) = k + 1 + j by omega] at this
        exact this
theorem checkV_ok (l : List S28) (h3 : U3 l) : (checkV l).2 = 0 ↔ 0 < l.length ∧ l.length ≤ 4096 ∧ firstB l = none ∧ ∀ j, j < l.length → loadB (at_ l j) (rowR l j) = false := by
  unfold checkV
  by_cases h : (allV l).2 = 0
  · rw [if_pos h]
    obtain ⟨h0, h1, h2⟩ := (allV_ok l).1 h
    have hw := wellL_of l h3 h2
    have hf := find_none l (cellsL l l.length) 0
    cases e : findB l (cellsL l l.length) 0 with
    | none =>
      refine ⟨fun _ => ⟨h0, h1, h2, fun j hj => ?_⟩, fun _ => rfl⟩
      have := hf.1 e j hj
      rw [Nat.zero_add, cells_row hw h0 j hj] at this
      exact this
    | some k =>
      constructor
      · intro g; cases g
      · intro g
        exfalso
        have := hf.2 (fun j hj => by rw [Nat.zero_add, cells_row hw h0 j hj]; exact g.2.2.2 j hj)
        rw [this] at e; cases e
  · rw [if_neg h]
    constructor
    · intro g; exact absurd g h
    · intro g; exact absurd ((allV_ok l).2 ⟨g.1, g.2.1, g.2.2.1⟩) h
theorem at_app (l m : List S28) (k : Nat) (h : k < l.length) : at_ (l ++ m) k = at_ l k := by unfold at_; exact getD_append_l _ _ _ _ h
theorem at_app_r (l m : List S28) (k : Nat) : at_ (l ++ m) (l.length + k) = at_ m k := by
  unfold at_; rw [List.getD_eq_getElem?_getD, List.getElem?_append_right (by omega), List.getD_eq_getElem?_getD]; congr 2; omega
def stores : List S28 := (List.range 16).map fun k : Nat => (⟨2, 0, 0, (k : Int)⟩ : S28)
theorem stores_len : stores.length = 16 := rfl
theorem at_stores (k : Nat) (h : k < 16) : at_ stores k = ⟨2, 0, 0, (k : Int)⟩ := by
  unfold at_ stores
  rw [List.getD_eq_getElem?_getD, List.getElem?_map, List.getElem?_range h]; rfl
theorem st_well (k n : Int) (hn : n ≠ 0) (hk : k < 16) : Well ⟨2, 0, 0, k⟩ n := by
  refine ⟨show knownB 2 = true by decide, show (0 : Int) ≤ 0 by decide, show (0 : Int) ≤ 255 by decide, show (0 : Int) ≤ 0 by decide, show (0 : Int) ≤ 255 by decide, .inl hn, ?_⟩
  unfold fitB
  rw [if_neg (show ¬ (2 : Int) = 32 by decide), if_pos (show (2 : Int) = 96 ∨ (2 : Int) = 97 ∨ (2 : Int) = 2 ∨ (2 : Int) = 3 by decide)]
  exact decide_eq_true hk
theorem stores_rch (l : List S28) (K : Nat) (hK : K < 16) : ∀ n j, j < n → K < j → rch (stores ++ l) K j = false := by
  intro n
  induction n with
  | zero => intro j h; omega
  | succ n ih =>
    intro j hj hKj
    rw [rch_eq]
    unfold qch
    rw [decide_eq_false (by omega), Bool.false_or, List.any_eq_false]
    intro f hf
    have hlt := List.mem_range.1 hf
    by_cases h1 : K < f
    · rw [ih f (by omega) h1]; simp
    · have hf16 : f < 16 := by omega
      rw [at_app stores l f (by rw [stores_len]; exact hf16), at_stores f hf16]
      by_cases h2 : f = K
      · subst h2
        have : wrB (⟨2, 0, 0, (f : Int)⟩ : S28) f = true := by unfold wrB stB; simp
        rw [this]; simp
      · have : folTo (⟨2, 0, 0, (f : Int)⟩ : S28) f j = false := by
          have e : folL (⟨2, 0, 0, (f : Int)⟩ : S28) = [1] := by unfold folL retB; simp
          unfold folTo; rw [e]
          simp only [List.any_cons, List.any_nil, Bool.or_false]
          exact decide_eq_false (by omega)
        rw [this]; simp
theorem rowR_get (l : List S28) (j c : Nat) (hc : c < 16) (h : rowR l j ≠ []) : (rowR l j).getD c false = !rch l c j := by
  unfold rowR at h ⊢
  cases e : rch l 16 j with
  | false => rw [e, if_neg (by decide)] at h; exact absurd rfl h
  | true => rw [if_pos rfl, List.getD_eq_getElem?_getD, List.getElem?_map, List.getElem?_range hc]; rfl
theorem stores_ok (l : List S28) (h3 : U3 l) (hlen : l.length ≤ 4000) : (checkV (stores ++ l)).2 = 0 ↔ (allV l).2 = 0 := by
  have h3' : U3 (stores ++ l) := by
    intro i hi
    rcases List.mem_append.1 hi with g | g
    · unfold stores at g
      obtain ⟨k, _, rfl⟩ := List.mem_map.1 g
      exact Int.natCast_nonneg _
    · exact h3 i g
  rw [checkV_ok _ h3', allV_ok]
  have hL : (stores ++ l).length = 16 + l.length := by rw [List.length_append, stores_len]
  rw [hL, first_none, first_none, hL]
  constructor
  · rintro ⟨_, _, h2, _⟩
    have h0 : 0 < l.length := by
      rcases Nat.eq_zero_or_pos l.length with e | e
      · exfalso
        have := h2 15 (by omega)
        rw [at_app stores l 15 (by rw [stores_len]; omega), at_stores 15 (by omega), e] at this
        exact absurd this (by decide)
      · exact e
    refine ⟨h0, by omega, fun k hk => ?_⟩
    have := h2 (16 + k) (by omega)
    rw [show at_ (stores ++ l) (16 + k) = at_ l k from at_app_r stores l k, show 16 + l.length - 1 - (16 + k) = l.length - 1 - k by omega] at this
    exact this
  · rintro ⟨h0, h1, h2⟩
    have hwell : ∀ k, k < 16 + l.length → wellB (at_ (stores ++ l) k) ((16 + l.length - 1 - k : Nat) : Int) = true := by
      intro k hk
      by_cases hk2 : k < 16
      · rw [at_app stores l k (by rw [stores_len]; exact hk2), at_stores k hk2]
        exact (well_iff _ _).2 (st_well _ _ (by omega) (by omega))
      · obtain ⟨d, rfl⟩ : ∃ d, k = 16 + d := ⟨k - 16, by omega⟩
        have := h2 d (by omega)
        rw [show at_ (stores ++ l) (16 + d) = at_ l d from at_app_r stores l d, show 16 + l.length - 1 - (16 + d) = l.length - 1 - d by omega]
        exact this
    refine ⟨by omega, by omega, hwell, fun j hj => ?_⟩
    unfold loadB
    by_cases hc : (at_ (stores ++ l) j).f0 = 96 ∨ (at_ (stores ++ l) j).f0 = 97
    · rw [decide_eq_true hc, Bool.true_and]
      have hj16 : 16 ≤ j := by
        rcases Nat.lt_or_ge j 16 with g | g
        · rw [at_app stores l j (by rw [stores_len]; exact g), at_stores j g] at hc
          simp at hc
        · exact g
      have w := (well_iff _ _).1 (hwell j hj)
      have hK := w.cell (by omega)
      have hK0 := h3' _ (at_mem (stores ++ l) j (by rw [hL]; exact hj))
      by_cases he : rowR (stores ++ l) j = []
      · rw [he]; rfl
      · rw [rowR_get _ _ _ (by omega) he, stores_rch l _ (by omega) (j + 1) j (by omega) (by omega)]
        simp
    · rw [decide_eq_false hc]; rfl
end Go.Proofs.Ytefkhcijgiagdaa.QCheck
end
section
namespace Go.Proofs.Ytefkhcijgiagdaa.HCk
open Go.RowKit Go.Proofs.YtefkhcijgiagdaaW.PrintWords Go.Proofs.YtefkhcijgiagdaaW.PrintLast Go.Proofs.YtefkhcijgiagdaaW.PrintMore Go.Proofs.Ytefkhcijgiagdaa.HKnown Go.Proofs.Ytefkhcijgiagdaa.I1 Go.Proofs.Ytefkhcijgiagdaa.QVm Go.Proofs.Ytefkhcijgiagdaa.QLe Go.Proofs.Ytefkhcijgiagdaa.QCheck Go.Proofs.Ytefkhcijgiagdaa.K0
set_option linter.unusedVariables false
set_option linter.unusedSimpArgs false
set_option maxRecDepth 100000
attribute [local go_sem] max2_int min2_int max_two min_two IntKind.wrap_u32
abbrev U (x : Int) : Prop := 0 ≤ x ∧ x < 4294967296
def fnR : Value → Option (DataW Unit × List MemPlace)
  | .func (.func n) a b => if a = #[] ∧ b = #[] then some (.lit (.int .i64 (n : Int)), []) else none
  | .nilFunc => some (.lit (.int .i64 (-1)), [])
  | _ => none
def fnV : Option Nat → Value
  | some n => .func (.func n) #[] #[]
  | none => .nilFunc
theorem fnR_some (n : Nat) : fnR (.func (.func n) #[] #[]) = some (.lit (.int .i64 (n : Int)), []) := by simp [fnR]
theorem fnR_func {m : Nat} {a b : Array Value} {z : DataW Unit × List MemPlace} (h : fnR (.func (.func m) a b) = some z) : a = #[] ∧ b = #[] ∧ z = (.lit (.int .i64 (m : Int)), []) := by
  unfold fnR at h
  by_cases hab : a = #[] ∧ b = #[]
  · simp only [if_pos hab] at h
    exact ⟨hab.1, hab.2, (Option.some.inj h).symm⟩
  · simp only [if_neg hab] at h
    cases h
theorem fnR_inv {v : Value} {n : Nat} {ps : List MemPlace} (h : fnR v = some (.lit (.int .i64 (n : Int)), ps)) : v = .func (.func n) #[] #[] := by
  cases v with
  | func fn a b =>
    cases fn with
    | func m =>
      obtain ⟨rfl, rfl, hz⟩ := fnR_func h
      simp only [Prod.mk.injEq, DataW.lit.injEq, Lit.int.injEq, true_and, Int.natCast_inj] at hz
      rw [hz.1]
    | _ => simp [fnR] at h
  | nilFunc =>
    simp only [fnR, Option.some.injEq, Prod.mk.injEq, DataW.lit.injEq, Lit.int.injEq, true_and] at h
    omega
  | _ => simp [fnR] at h
theorem fnR_inv_nil {v : Value} {ps : List MemPlace} (h : fnR v = some (.lit (.int .i64 (-1)), ps)) : v = .nilFunc := by
  cases v with
  | func fn a b =>
    cases fn with
    | func m =>
      obtain ⟨rfl, rfl, hz⟩ := fnR_func h
      simp only [Prod.mk.injEq, DataW.lit.injEq, Lit.int.injEq, true_and] at hz
      omega
    | _ => simp [fnR] at h
  | nilFunc => rfl
  | _ => simp [fnR] at h
theorem law3 : Maps.Keyed Try.prog 3 := Maps.int_keyed Try.underlying3
theorem zero171 (w : World) : (zeroValue 171).run Try.prog w = .ok .nilFunc w := by kernel_rfl
def MapF (w : World) (b n : Nat) (L : Int → Option Nat) : Prop :=
  ∃ D : DataW Unit, w.ownsMap Try.prog 3 fnR b n D ∧ Maps.IsMap D ∧ ∀ (k : Int) (z : DataW Unit), D.atKey (.int .i64 k) z = match L k with | some v => .lit (.int .i64 (v : Int)) | none => z
theorem MapF.lt {w : World} {b n : Nat} {L : Int → Option Nat} (h : MapF w b n L) : b < w.heap.size := by obtain ⟨D, h, _⟩ := h; exact h.lt
theorem MapF.kept {w w' : World} {b n : Nat} {L : Int → Option Nat} (h : MapF w b n L) (he : w'.heap[b]? = w.heap[b]?) : MapF w' b n L := by
  obtain ⟨D, ⟨es, clock, hb, F, hs, hD⟩, h2⟩ := h
  exact ⟨D, ⟨es, clock, he.trans hb, F, hs, hD⟩, h2⟩
theorem MapF.below {w w' : World} {b n : Nat} {L : Int → Option Nat} (h : MapF w b n L) (hb : Below w.heap.size w w') : MapF w' b n L := h.kept (hb.block _ h.lt)
theorem MapF.made (w : World) : MapF (w.alloc (.map #[] 0)) w.heap.size 0 (fun _ => none) := ⟨.map [], World.ownsMap_made _ _ _ _, Maps.isMap_empty, fun _ _ => rfl⟩
theorem MapF.look {w : World} {b n : Nat} {L : Int → Option Nat} (h : MapF w b n L) (k : Int) (hk : (Lit.int .i64 k).wf = true) :
    (Instr.lookup 168 (.map (some b)) (.int .i64 k) true).run Try.prog w = .ok (.tuple #[fnV (L k), .bool (L k).isSome]) w := by
  obtain ⟨D, ho, hm, hat⟩ := h
  obtain ⟨v, ps, hrun, hv⟩ := ho.look_ok (t := 168) (e := 171) law3 Try.underlying168 (zero171 w) (zd := .lit (.int .i64 (-1))) (zp := []) rfl (Maps.keyOf_int_mk Try.underlying3 hk)
  rw [hrun]
  have e1 : Maps.has D (.int .i64 k) = (L k).isSome := by
    cases hL : L k with
    | none => exact Maps.has_false_of_atKey (fun z => by rw [hat, hL])
    | some x => exact Maps.has_true_of_atKey (y := .lit (.int .i64 (x : Int))) (fun z => by rw [hat, hL])
  have e2 : v = fnV (L k) := by
    rw [hat] at hv
    cases hL : L k with
    | none => rw [hL] at hv; exact fnR_inv_nil hv
    | some x => rw [hL] at hv; exact fnR_inv hv
  rw [e1, e2]
theorem MapF.store {w : World} {b n : Nat} {L : Int → Option Nat} (h : MapF w b n L) (hn : n < 1000000) (k : Int) (v : Nat) (hk : (Lit.int .i64 k).wf = true) :
    ∃ w', (Instr.mapUpdate 168 (.map (some b)) (.int .i64 k) (.func (.func v) #[] #[])).run Try.prog w = .ok () w' ∧ MapF w' b (n + 1) (fun x => if x = k then some v else L x) ∧ w.grownBy w' (some b) := by
  obtain ⟨D, ho, hm, hat⟩ := h
  obtain ⟨w', hrun, ho', hg⟩ := ho.update (t := 168) (e := 171) law3 Try.underlying168 (by unfold maxLen; omega) (Maps.keyOf_int_mk Try.underlying3 hk) (fnR_some v)
  refine ⟨w', hrun, ⟨_, ho', hm.put _ _, fun x z => ?_⟩, hg⟩
  by_cases hx : x = k
  · subst hx
    show _ = match (if x = x then some v else L x) with | some v => _ | none => _
    rw [if_pos rfl, Maps.atKey_put_same hm (show WideAt.IsKeyLit (.int .i64 x) from trivial)]
  · show _ = match (if x = k then some v else L x) with | some v => _ | none => _
    rw [if_neg hx, Maps.atKey_put_other (fun e => hx (by cases e; rfl)), hat]
def Lc (c : Int) : Option Nat :=
  if c = 32 then some 153
  else if c = 96 ∨ c = 97 ∨ c = 2 ∨ c = 3 then some 150
  else if c = 52 then some 154
  else if c = 100 ∨ c = 116 then some 151
  else if c = 5 then some 155
  else if c = 21 ∨ c = 37 ∨ c = 53 ∨ c = 69 ∨ c = 29 ∨ c = 45 ∨ c = 61 ∨ c = 77 then some 152
  else none
def cloB (t : Nat) (i : S28) (left : Int) : Bool :=
  if t = 153 then decide (i.f3 % 4 = 0 ∧ i.f3 ≤ 60) else if t = 150 then decide (i.f3 < 16) else if t = 154 then decide (i.f3 ≠ 0) else if t = 151 then decide (i.f3 < 32) else if t = 155 then decide (i.f3 < left) else decide (i.f1 < left ∧ i.f2 < left)
theorem fit_eq (i : S28) (left : Int) : fitB i left = match Lc i.f0 with | some t => cloB t i left | none => true := by
  unfold fitB Lc
  split
  · rfl
  split
  · rfl
  split
  · rfl
  split
  · rfl
  split
  · rfl
  split
  · rfl
  · rfl
theorem Lc_cases (c : Int) : Lc c = none ∨ Lc c = some 153 ∨ Lc c = some 150 ∨ Lc c = some 154 ∨ Lc c = some 151 ∨ Lc c = some 155 ∨ Lc c = some 152 := by
  unfold Lc
  repeat' split
  all_goals simp
abbrev CloAny (t : Nat) (i : S28) (left : Int) : Prop := ∀ w : World, Calls Try.prog t #[.agg #[.int .i64 i.f0, .int .i64 i.f1, .int .i64 i.f2, .int .u32 i.f3], .int .i64 left] w fun e w' => e = .returned (.bool (cloB t i left)) ∧ Below w.heap.size w w'
theorem clo150 (i : S28) (left : Int) : CloAny 150 i left := by
  intro w
  obtain ⟨a0, a1, a2, a3⟩ := i
  show Calls _ _ _ _ fun e w' => e = .returned (.bool (decide (a3 < 16))) ∧ _
  go_enter Try.func150, Try.ntmps150
  go_wp2
  go_ret
  exact ⟨rfl, below_alloc (Below.refl _ _) _⟩
theorem clo151 (i : S28) (left : Int) : CloAny 151 i left := by
  intro w
  obtain ⟨a0, a1, a2, a3⟩ := i
  show Calls _ _ _ _ fun e w' => e = .returned (.bool (decide (a3 < 32))) ∧ _
  go_enter Try.func151, Try.ntmps151
  go_wp2
  go_ret
  exact ⟨rfl, below_alloc (Below.refl _ _) _⟩
theorem clo154 (i : S28) (left : Int) : CloAny 154 i left := by
  intro w
  obtain ⟨a0, a1, a2, a3⟩ := i
  show Calls _ _ _ _ fun e w' => e = .returned (.bool (decide (a3 ≠ 0))) ∧ _
  have HR := Aside0.mk (show decide (a3 ≠ 0) = (a3 != 0) by by_cases h : a3 = 0 <;> simp [h])
  go_enter Try.func154, Try.ntmps154
  go_wp2
  go_ret
  exact ⟨by rw [HR.out]; rfl, below_alloc (Below.refl _ _) _⟩
theorem clo155 (i : S28) (left : Int) (hk : U i.f3) : CloAny 155 i left := by
  intro w
  obtain ⟨a0, a1, a2, a3⟩ := i
  show Calls _ _ _ _ fun e w' => e = .returned (.bool (decide (a3 < left))) ∧ _
  simp only at hk
  have e3 : wrap64 a3 = a3 := w64 _ (by omega) (by omega)
  go_enter Try.func155, Try.ntmps155
  go_wp2
  go_ret
  exact ⟨rfl, below_alloc (Below.refl _ _) _⟩
theorem clo153 (i : S28) (left : Int) (hk : U i.f3) : CloAny 153 i left := by
  intro w
  obtain ⟨a0, a1, a2, a3⟩ := i
  show Calls _ _ _ _ fun e w' => e = .returned (.bool (decide (a3 % 4 = 0 ∧ a3 ≤ 60))) ∧ _
  simp only at hk
  obtain ⟨hk0, hk1⟩ := hk
  by_cases h : a3 % 4 = 0
  · have h0 : (a3 % 4 == 0) = true := beq_iff_eq.2 h
    have HR := Aside0.mk (show decide (a3 % 4 = 0 ∧ a3 ≤ 60) = decide (a3 ≤ 60) by simp [h])
    clear h
    go_enter Try.func153, Try.ntmps153
    go_wp2
    go_ret
    exact ⟨by rw [HR.out]; rfl, below_alloc (Below.refl _ _) _⟩
  · have h0 : (a3 % 4 == 0) = false := beq_eq_false_iff_ne.2 h
    have HR := Aside0.mk (show decide (a3 % 4 = 0 ∧ a3 ≤ 60) = false by simp [h])
    clear h
    go_enter Try.func153, Try.ntmps153
    go_wp2
    go_ret
    exact ⟨by rw [HR.out]; rfl, below_alloc (Below.refl _ _) _⟩
theorem clo152 (i : S28) (left : Int) : CloAny 152 i left := by
  intro w
  obtain ⟨a0, a1, a2, a3⟩ := i
  show Calls _ _ _ _ fun e w' => e = .returned (.bool (decide (a1 < left ∧ a2 < left))) ∧ _
  by_cases h : a1 < left
  · have h0 : decide (a1 < left) = true := decide_eq_true h
    have HR := Aside0.mk (show decide (a1 < left ∧ a2 < left) = decide (a2 < left) by simp [h])
    clear h
    go_enter Try.func152, Try.ntmps152
    go_wp2
    go_ret
    exact ⟨by rw [HR.out]; rfl, below_alloc (Below.refl _ _) _⟩
  · have h0 : decide (a1 < left) = false := decide_eq_false h
    have HR := Aside0.mk (show decide (a1 < left ∧ a2 < left) = false by simp [h])
    clear h
    go_enter Try.func152, Try.ntmps152
    go_wp2
    go_ret
    exact ⟨by rw [HR.out]; rfl, below_alloc (Below.refl _ _) _⟩
end Go.Proofs.Ytefkhcijgiagdaa.HCk
end
section
namespace Go.Proofs.Ytefkhcijgiagdaa.HCk
open Go.RowKit Go.Proofs.YtefkhcijgiagdaaW.PrintWords Go.Proofs.YtefkhcijgiagdaaW.PrintLast Go.Proofs.YtefkhcijgiagdaaW.PrintMore Go.Proofs.Ytefkhcijgiagdaa.HKnown Go.Proofs.Ytefkhcijgiagdaa.I1 Go.Proofs.Ytefkhcijgiagdaa.QVm Go.Proofs.Ytefkhcijgiagdaa.QLe Go.Proofs.Ytefkhcijgiagdaa.QCheck Go.Proofs.Ytefkhcijgiagdaa.K0
set_option linter.unusedVariables false
set_option linter.unusedSimpArgs false
set_option maxRecDepth 100000
attribute [local go_sem] max2_int min2_int max_two min_two IntKind.wrap_u32
theorem ret_any (i : S28) (w : World) : Calls Try.prog 131 #[.agg #[.int .i64 i.f0, .int .i64 i.f1, .int .i64 i.f2, .int .u32 i.f3]] w fun e w' => e = .returned (.bool (retB i.f0)) ∧ Below w.heap.size w w' := by
  refine check_returns.calls i.f0 i.f1 i.f2 i.f3 _ w ?_
  unfold check_returns.f retB
  by_cases h : i.f0 = 6
  · rw [if_pos h, h]; rfl
  · rw [if_neg h]
    by_cases h2 : i.f0 = 22
    · rw [h2]; rfl
    · rw [decide_eq_false (by omega)]
      simp [h2]
theorem well_false {i : S28} {left : Int} (h : ¬ Well i left) : wellB i left = false := by
  cases e : wellB i left with
  | false => rfl
  | true => exact absurd ((well_iff i left).1 e) h
theorem well_tail {i : S28} {left : Int} (kn : knownB i.f0 = true) (h1 : ¬ i.f1 < 0) (h2 : ¬ i.f1 > 255) (h3 : ¬ i.f2 < 0) (h4 : ¬ i.f2 > 255) (h5 : left ≠ 0 ∨ retB i.f0 = true) : wellB i left = match Lc i.f0 with | some t => cloB t i left | none => true := by
  have e := fit_eq i left
  rw [show (match Lc i.f0 with | some t => cloB t i left | none => true) = fitB i left from e.symm]
  unfold wellB
  rw [kn, decide_eq_true (show 0 ≤ i.f1 ∧ i.f1 ≤ 255 ∧ 0 ≤ i.f2 ∧ i.f2 ≤ 255 by omega)]
  have : (decide (left ≠ 0) || retB i.f0) = true := by
    rcases h5 with h | h
    · rw [decide_eq_true h]; rfl
    · rw [h, Bool.or_true]
  rw [this]
  rfl
set_option maxHeartbeats 4000000 in
theorem well_bad {w : World} {Mb : Nat} (i : S28) (left : Int) (h : knownB i.f0 = false ∨ i.f1 < 0 ∨ i.f1 > 255 ∨ i.f2 < 0 ∨ i.f2 > 255 ∨ (left = 0 ∧ retB i.f0 = false)) :
    Calls Try.prog 129 #[.agg #[.int .i64 i.f0, .int .i64 i.f1, .int .i64 i.f2, .int .u32 i.f3], .int .i64 left, .map (some Mb)] w fun e w' => e = .returned (.bool false) ∧ Below w.heap.size w w' := by
  have hkn := fun W => Known_any i.f0 W
  have HRT := Aside0.mk (fun W => ret_any i W)
  obtain ⟨a0, a1, a2, a3⟩ := i
  simp only at h hkn HRT ⊢
  have hu28 := Try.underlying28
  have HK := Aside0.mk hkn
  clear hkn
  have HB0 := Aside0.mk (heap_alloc_new w (.cells #[.int .i64 a0, .int .i64 a1, .int .i64 a2, .int .u32 a3] 28))
  by_cases hk : knownB a0 = true
  · rw [hk] at HK h
    by_cases h1 : a1 < 0
    · have d1 : decide (a1 < 0) = true := decide_eq_true h1
      clear h
      go_enter Try.func129, Try.ntmps129
      go_wp2_with (go_at_call 44; refine (HK.out _).mono ?_; rintro e w1 ⟨rfl, hb1⟩; have HB1 := Aside0.mk (below_step (below_alloc (Below.refl _ _) _) hb1); have kx := blk_cell (blk_below HB0.out hb1); have k1 := kx 1; have k2 := kx 2; clear kx hb1)
      go_ret
      exact ⟨rfl, HB1.out⟩
    · have d1 : decide (a1 < 0) = false := decide_eq_false h1
      by_cases h2 : a1 > 255
      · have d2 : decide (255 < a1) = true := decide_eq_true h2
        clear h
        go_enter Try.func129, Try.ntmps129
        go_wp2_with (go_at_call 44; refine (HK.out _).mono ?_; rintro e w1 ⟨rfl, hb1⟩; have HB1 := Aside0.mk (below_step (below_alloc (Below.refl _ _) _) hb1); have kx := blk_cell (blk_below HB0.out hb1); have k1 := kx 1; have k2 := kx 2; clear kx hb1)
        go_ret
        exact ⟨rfl, HB1.out⟩
      · have d2 : decide (255 < a1) = false := decide_eq_false h2
        by_cases h3 : a2 < 0
        · have d3 : decide (a2 < 0) = true := decide_eq_true h3
          clear h
          go_enter Try.func129, Try.ntmps129
          go_wp2_with (go_at_call 44; refine (HK.out _).mono ?_; rintro e w1 ⟨rfl, hb1⟩; have HB1 := Aside0.mk (below_step (below_alloc (Below.refl _ _) _) hb1); have kx := blk_cell (blk_below HB0.out hb1); have k1 := kx 1; have k2 := kx 2; clear kx hb1)
          go_ret
          exact ⟨rfl, HB1.out⟩
        · have d3 : decide (a2 < 0) = false := decide_eq_false h3
          by_cases h4 : a2 > 255
          · have d4 : decide (255 < a2) = true := decide_eq_true h4
            clear h
            go_enter Try.func129, Try.ntmps129
            go_wp2_with (go_at_call 44; refine (HK.out _).mono ?_; rintro e w1 ⟨rfl, hb1⟩; have HB1 := Aside0.mk (below_step (below_alloc (Below.refl _ _) _) hb1); have kx := blk_cell (blk_below HB0.out hb1); have k1 := kx 1; have k2 := kx 2; clear kx hb1)
            go_ret
            exact ⟨rfl, HB1.out⟩
          · have d4 : decide (255 < a2) = false := decide_eq_false h4
            have h5 : left = 0 ∧ retB a0 = false := by
              rcases h with h | h | h | h | h | h
              · cases h
              · exact absurd h h1
              · exact absurd h h2
              · exact absurd h h3
              · exact absurd h h4
              · exact h
            clear h
            obtain ⟨rfl, hr⟩ := h5
            rw [hr] at HRT
            clear hr
            go_enter Try.func129, Try.ntmps129
            go_wp2_with (first | (go_at_call 44; refine (HK.out _).mono ?_; rintro e w1 ⟨rfl, hb1⟩; have HB1 := Aside0.mk (below_step (below_alloc (Below.refl _ _) _) hb1); have kx := blk_cell (blk_below HB0.out hb1); have k0 := kx 0; have k1 := kx 1; have k2 := kx 2; have k3 := kx 3; clear kx hb1) | (go_at_call 131; refine (HRT.out _).mono ?_; rintro e w2 ⟨rfl, hb2⟩; have HB2 := Aside0.mk (below_step HB1.out hb2); clear hb2))
            go_ret
            exact ⟨rfl, HB2.out⟩
  · have hk : knownB a0 = false := by simpa using hk
    rw [hk] at HK
    clear h
    go_enter Try.func129, Try.ntmps129
    go_wp2_with (go_at_call 44; refine (HK.out _).mono ?_; rintro e w1 ⟨rfl, hb1⟩; have HB1 := Aside0.mk (below_step (below_alloc (Below.refl _ _) _) hb1); clear hb1)
    go_ret
    exact ⟨rfl, HB1.out⟩
set_option maxHeartbeats 4000000 in
theorem well_good {w : World} {Mb n : Nat} (hM : MapF w Mb n Lc) (i : S28) (left : Int) (hk3 : U i.f3) (hc : (Lit.int .i64 i.f0).wf = true) (hk : knownB i.f0 = true) (h1 : ¬ i.f1 < 0) (h2 : ¬ i.f1 > 255) (h3 : ¬ i.f2 < 0) (h4 : ¬ i.f2 > 255) (h5 : left ≠ 0 ∨ retB i.f0 = true) :
    Calls Try.prog 129 #[.agg #[.int .i64 i.f0, .int .i64 i.f1, .int .i64 i.f2, .int .u32 i.f3], .int .i64 left, .map (some Mb)] w fun e w' => e = .returned (.bool (match Lc i.f0 with | some t => cloB t i left | none => true)) ∧ Below w.heap.size w w' := by
  have hkn := fun W => Known_any i.f0 W
  rw [hk] at hkn
  have HRT := Aside0.mk (fun W => ret_any i W)
  have C150 := Aside0.mk (clo150 i left)
  have C151 := Aside0.mk (clo151 i left)
  have C152 := Aside0.mk (clo152 i left)
  have C153 := Aside0.mk (clo153 i left hk3)
  have C154 := Aside0.mk (clo154 i left)
  have C155 := Aside0.mk (clo155 i left hk3)
  have hcl := Lc_cases i.f0
  have HM := Aside0.mk hM
  have HL := Aside0.mk (fun (W : World) (hb : Below w.heap.size w W) => (hM.below hb).look i.f0 hc)
  generalize hL : Lc i.f0 = L at *
  generalize hB0 : cloB 150 i left = b150 at *
  generalize hB1 : cloB 151 i left = b151 at *
  generalize hB2 : cloB 152 i left = b152 at *
  generalize hB3 : cloB 153 i left = b153 at *
  generalize hB4 : cloB 154 i left = b154 at *
  generalize hB5 : cloB 155 i left = b155 at *
  have E0 := Aside0.mk hB0
  have E1 := Aside0.mk hB1
  have E2 := Aside0.mk hB2
  have E3 := Aside0.mk hB3
  have E4 := Aside0.mk hB4
  have E5 := Aside0.mk hB5
  clear hB0 hB1 hB2 hB3 hB4 hB5 hL hM
  have HRT' : Aside0 (left = 0 → ∀ W, Calls Try.prog 131 #[.agg #[.int .i64 i.f0, .int .i64 i.f1, .int .i64 i.f2, .int .u32 i.f3]] W fun e w' => e = .returned (.bool true) ∧ Below W.heap.size W w') := ⟨fun h0 => by
    have e : retB i.f0 = true := h5.resolve_left (fun x => x h0)
    have k := HRT.out
    rw [e] at k
    exact k⟩
  clear HRT
  obtain ⟨a0, a1, a2, a3⟩ := i
  simp only at *
  have hu28 := Try.underlying28
  have HK := Aside0.mk hkn
  clear hkn hk hc hk3
  have HB0 := Aside0.mk (heap_alloc_new w (.cells #[.int .i64 a0, .int .i64 a1, .int .i64 a2, .int .u32 a3] 28))
  have d1 : decide (a1 < 0) = false := decide_eq_false h1
  have d2 : decide (255 < a1) = false := decide_eq_false h2
  have d3 : decide (a2 < 0) = false := decide_eq_false h3
  have d4 : decide (255 < a2) = false := decide_eq_false h4
  clear h1 h2 h3 h4
  by_cases h0 : left = 0
  · subst h0
    have HRT := Aside0.mk (HRT'.out rfl)
    clear HRT' h5
    rcases hcl with rfl | rfl | rfl | rfl | rfl | rfl | rfl
    all_goals
      have hl := HL.out
      simp only [fnV, Option.isSome_some, Option.isSome_none] at hl
      clear HL
      have HL := Aside0.mk hl
      clear hl
      go_enter Try.func129, Try.ntmps129
      go_wp2_with (first | (go_at_call 44; refine (HK.out _).mono ?_; rintro e w1 ⟨rfl, hb1⟩; have HB1 := Aside0.mk (below_step (below_alloc (Below.refl _ _) _) hb1); have HX1 := Aside0.mk (blk_below HB0.out hb1); have kx := blk_cell HX1.out; have k0 := kx 0; have k1 := kx 1; have k2 := kx 2; have k3 := kx 3; clear kx hb1) | (go_at_call 131; refine (HRT.out _).mono ?_; rintro e w2 ⟨rfl, hb2⟩; have HB2 := Aside0.mk (below_step HB1.out hb2); have hl2 := HL.out _ HB2.out; have kx := blk_cell (blk_below HX1.out hb2); have j0 := kx 0; have j1 := kx 1; have j2 := kx 2; have j3 := kx 3; clear kx hb2) | (go_at_call 150; refine (C150.out _).mono ?_; rintro e w3 ⟨rfl, hb3⟩; have HB3 := Aside0.mk (below_step HB2.out hb3); clear hb3) | (go_at_call 151; refine (C151.out _).mono ?_; rintro e w3 ⟨rfl, hb3⟩; have HB3 := Aside0.mk (below_step HB2.out hb3); clear hb3) | (go_at_call 152; refine (C152.out _).mono ?_; rintro e w3 ⟨rfl, hb3⟩; have HB3 := Aside0.mk (below_step HB2.out hb3); clear hb3) | (go_at_call 153; refine (C153.out _).mono ?_; rintro e w3 ⟨rfl, hb3⟩; have HB3 := Aside0.mk (below_step HB2.out hb3); clear hb3) | (go_at_call 154; refine (C154.out _).mono ?_; rintro e w3 ⟨rfl, hb3⟩; have HB3 := Aside0.mk (below_step HB2.out hb3); clear hb3) | (go_at_call 155; refine (C155.out _).mono ?_; rintro e w3 ⟨rfl, hb3⟩; have HB3 := Aside0.mk (below_step HB2.out hb3); clear hb3))
      go_ret
      first
        | exact ⟨rfl, HB2.out⟩
        | exact ⟨by first | (rw [E0.out]; rfl) | (rw [E1.out]; rfl) | (rw [E2.out]; rfl) | (rw [E3.out]; rfl) | (rw [E4.out]; rfl) | (rw [E5.out]; rfl), HB3.out⟩
  · have d0 : (left == 0) = false := beq_eq_false_iff_ne.2 h0
    clear HRT' h5 h0
    rcases hcl with rfl | rfl | rfl | rfl | rfl | rfl | rfl
    all_goals
      have hl := HL.out
      simp only [fnV, Option.isSome_some, Option.isSome_none] at hl
      clear HL
      have HL := Aside0.mk hl
      clear hl
      go_enter Try.func129, Try.ntmps129
      go_wp2_with (first | (go_at_call 44; refine (HK.out _).mono ?_; rintro e w1 ⟨rfl, hb1⟩; have HB1 := Aside0.mk (below_step (below_alloc (Below.refl _ _) _) hb1); have hl1 := HL.out _ HB1.out; have kx := blk_cell (blk_below HB0.out hb1); have k0 := kx 0; have k1 := kx 1; have k2 := kx 2; have k3 := kx 3; clear kx hb1) | (go_at_call 150; refine (C150.out _).mono ?_; rintro e w3 ⟨rfl, hb3⟩; have HB3 := Aside0.mk (below_step HB1.out hb3); clear hb3) | (go_at_call 151; refine (C151.out _).mono ?_; rintro e w3 ⟨rfl, hb3⟩; have HB3 := Aside0.mk (below_step HB1.out hb3); clear hb3) | (go_at_call 152; refine (C152.out _).mono ?_; rintro e w3 ⟨rfl, hb3⟩; have HB3 := Aside0.mk (below_step HB1.out hb3); clear hb3) | (go_at_call 153; refine (C153.out _).mono ?_; rintro e w3 ⟨rfl, hb3⟩; have HB3 := Aside0.mk (below_step HB1.out hb3); clear hb3) | (go_at_call 154; refine (C154.out _).mono ?_; rintro e w3 ⟨rfl, hb3⟩; have HB3 := Aside0.mk (below_step HB1.out hb3); clear hb3) | (go_at_call 155; refine (C155.out _).mono ?_; rintro e w3 ⟨rfl, hb3⟩; have HB3 := Aside0.mk (below_step HB1.out hb3); clear hb3))
      go_ret
      first
        | exact ⟨rfl, HB1.out⟩
        | exact ⟨by first | (rw [E0.out]; rfl) | (rw [E1.out]; rfl) | (rw [E2.out]; rfl) | (rw [E3.out]; rfl) | (rw [E4.out]; rfl) | (rw [E5.out]; rfl), HB3.out⟩
theorem well_c {w : World} {Mb n : Nat} (hM : MapF w Mb n Lc) (i : S28) (left : Int) (hk3 : U i.f3) (hc : (Lit.int .i64 i.f0).wf = true) :
    Calls Try.prog 129 #[.agg #[.int .i64 i.f0, .int .i64 i.f1, .int .i64 i.f2, .int .u32 i.f3], .int .i64 left, .map (some Mb)] w fun e w' => e = .returned (.bool (wellB i left)) ∧ Below w.heap.size w w' := by
  by_cases hbad : knownB i.f0 = false ∨ i.f1 < 0 ∨ i.f1 > 255 ∨ i.f2 < 0 ∨ i.f2 > 255 ∨ (left = 0 ∧ retB i.f0 = false)
  · have e : wellB i left = false := well_false (fun h => by
      have := h.t0; have := h.t1; have := h.f0; have := h.f1
      rcases hbad with g | g | g | g | g | ⟨g, g2⟩
      · rw [h.kn] at g; cases g
      · omega
      · omega
      · omega
      · omega
      · rcases h.lr with k | k
        · exact k g
        · rw [k] at g2; cases g2)
    rw [e]
    exact well_bad i left hbad
  · have k1 : knownB i.f0 = true := by
      cases e : knownB i.f0 with
      | true => rfl
      | false => exact absurd (.inl e) hbad
    have k2 : ¬ i.f1 < 0 := fun h => hbad (.inr (.inl h))
    have k3 : ¬ i.f1 > 255 := fun h => hbad (.inr (.inr (.inl h)))
    have k4 : ¬ i.f2 < 0 := fun h => hbad (.inr (.inr (.inr (.inl h))))
    have k5 : ¬ i.f2 > 255 := fun h => hbad (.inr (.inr (.inr (.inr (.inl h)))))
    have k6 : left ≠ 0 ∨ retB i.f0 = true := by
      by_cases h0 : left = 0
      · right
        cases e : retB i.f0 with
        | true => rfl
        | false => exact absurd (.inr (.inr (.inr (.inr (.inr ⟨h0, e⟩))))) hbad
      · exact .inl h0
    rw [well_tail k1 k2 k3 k4 k5 k6]
    exact well_good hM i left hk3 hc k1 k2 k3 k4 k5 k6
def codesT : Nat → List Int
  | 0 => [32]
  | 1 => [96, 97, 2, 3]
  | 2 => [52]
  | 3 => [100, 116]
  | 4 => [5]
  | _ => [21, 37, 53, 69, 29, 45, 61, 77]
def fnT : Nat → Nat
  | 0 => 153
  | 1 => 150
  | 2 => 154
  | 3 => 151
  | 4 => 155
  | _ => 152
structure TestsAt (w : World) (ad : Addr) (ac : Nat → Addr) : Prop where
  sl : ∀ t, t < 6 → w.cell? (ad.add (t * 2)) = some (.slice (some (ac t)) (codesT t).length (codesT t).length)
  fn : ∀ t, t < 6 → w.cell? ⟨(ad.add (t * 2)).block, (ad.add (t * 2)).off + 1, none⟩ = some (.func (.func (fnT t)) #[] #[])
  cd : ∀ t j, t < 6 → j < (codesT t).length → w.cell? ((ac t).add j) = some (.int .i64 ((codesT t).getD j 0))
theorem TestsAt.below {w w' : World} {ad : Addr} {ac : Nat → Addr} (h : TestsAt w ad ac) (hb : Below w.heap.size w w') : TestsAt w' ad ac :=
  ⟨fun t ht => pw_cell_below hb (h.sl t ht), fun t ht => pw_cell_below hb (h.fn t ht), fun t j ht hj => pw_cell_below hb (h.cd t j ht hj)⟩
end Go.Proofs.Ytefkhcijgiagdaa.HCk
end
section
namespace Go.Proofs.Ytefkhcijgiagdaa.HCk
open Go.RowKit Go.Proofs.YtefkhcijgiagdaaW.PrintWords Go.Proofs.YtefkhcijgiagdaaW.PrintLast Go.Proofs.YtefkhcijgiagdaaW.PrintMore Go.Proofs.Ytefkhcijgiagdaa.HKnown Go.Proofs.Ytefkhcijgiagdaa.I1 Go.Proofs.Ytefkhcijgiagdaa.QVm Go.Proofs.Ytefkhcijgiagdaa.QLe Go.Proofs.Ytefkhcijgiagdaa.QCheck Go.Proofs.Ytefkhcijgiagdaa.K0
set_option linter.unusedVariables false
set_option linter.unusedSimpArgs false
set_option maxRecDepth 100000
attribute [local go_sem] max2_int min2_int max_two min_two IntKind.wrap_u32
/-- Blocks made one behind the other. -/
def allocL (w : World) : List Obj → World
  | [] => w
  | o :: os => allocL (w.alloc o) os
theorem allocL_below (w : World) : ∀ (os : List Obj) (w' : World), Below w.heap.size w w' → Below w.heap.size w (allocL w' os)
  | [], _, h => h
  | o :: os, w', h => allocL_below w os (w'.alloc o) (below_alloc h o)
theorem allocL_get : ∀ (os : List Obj) (w : World) (k : Nat) (o : Obj), os[k]? = some o → (allocL w os).heap[w.heap.size + k]? = some o := by
  intro os
  induction os with
  | nil => intro w k o h; simp at h
  | cons o' os ih =>
    intro w k o h
    cases k with
    | zero =>
      obtain rfl : o' = o := by simpa using h
      have hb := allocL_below (w.alloc o') os _ (Below.refl _ _)
      exact (hb.block w.heap.size (by simp)).trans (heap_alloc_new w o')
    | succ k =>
      have := ih (w.alloc o') k o (by simpa using h)
      rw [World.size_alloc] at this
      rw [show w.heap.size + (k + 1) = w.heap.size + 1 + k by omega]
      exact this
def tblObj (b : Nat) : Obj := .cells #[.slice (some ⟨b, 0, none⟩) 1 1, .func (.func 153) #[] #[], .slice (some ⟨b + 1, 0, none⟩) 4 4, .func (.func 150) #[] #[], .slice (some ⟨b + 2, 0, none⟩) 1 1, .func (.func 154) #[] #[], .slice (some ⟨b + 3, 0, none⟩) 2 2, .func (.func 151) #[] #[], .slice (some ⟨b + 4, 0, none⟩) 1 1, .func (.func 155) #[] #[], .slice (some ⟨b + 5, 0, none⟩) 8 8, .func (.func 152) #[] #[]] 173
def tblObjs (b : Nat) : List Obj := [.cells #[.int .i64 32] 3, .cells #[.int .i64 96, .int .i64 97, .int .i64 2, .int .i64 3] 3, .cells #[.int .i64 52] 3, .cells #[.int .i64 100, .int .i64 116] 3, .cells #[.int .i64 5] 3, .cells #[.int .i64 21, .int .i64 37, .int .i64 53, .int .i64 69, .int .i64 29, .int .i64 45, .int .i64 61, .int .i64 77] 3, tblObj b]
theorem add0 (g j : Nat) : (⟨g, 0, none⟩ : Addr).add j = ⟨g, j, none⟩ := add_plain g j
theorem tests_at (w : World) : TestsAt (allocL w (tblObjs w.heap.size)) ⟨w.heap.size + 6, 0, none⟩ (fun t => ⟨w.heap.size + t, 0, none⟩) := by
  have h6 := blk_cell (allocL_get (tblObjs w.heap.size) w 6 _ rfl)
  have h0 := blk_cell (allocL_get (tblObjs w.heap.size) w 0 _ rfl)
  have h1 := blk_cell (allocL_get (tblObjs w.heap.size) w 1 _ rfl)
  have h2 := blk_cell (allocL_get (tblObjs w.heap.size) w 2 _ rfl)
  have h3 := blk_cell (allocL_get (tblObjs w.heap.size) w 3 _ rfl)
  have h4 := blk_cell (allocL_get (tblObjs w.heap.size) w 4 _ rfl)
  have h5 := blk_cell (allocL_get (tblObjs w.heap.size) w 5 _ rfl)
  generalize allocL w (tblObjs w.heap.size) = W at *
  refine ⟨fun t ht => ?_, fun t ht => ?_, fun t j ht hj => ?_⟩
  · match t, ht with
    | 0, _ | 1, _ | 2, _ | 3, _ | 4, _ | 5, _ => rw [add0]; exact (h6 _).trans rfl
  · match t, ht with
    | 0, _ | 1, _ | 2, _ | 3, _ | 4, _ | 5, _ => rw [add0]; exact (h6 _).trans rfl
  · rw [add0]
    match t, ht, j, hj with
    | 0, _, 0, _ => exact (h0 0).trans rfl
    | 1, _, 0, _ | 1, _, 1, _ | 1, _, 2, _ | 1, _, 3, _ => exact (h1 _).trans rfl
    | 2, _, 0, _ => exact (h2 0).trans rfl
    | 3, _, 0, _ | 3, _, 1, _ => exact (h3 _).trans rfl
    | 4, _, 0, _ => exact (h4 0).trans rfl
    | 5, _, 0, _ | 5, _, 1, _ | 5, _, 2, _ | 5, _, 3, _ | 5, _, 4, _ | 5, _, 5, _ | 5, _, 6, _ | 5, _, 7, _ => exact (h5 _).trans rfl
theorem tests_any (w : World) : Calls Try.prog 128 #[] w fun e w' => ∃ ad ac, e = .returned (.slice (some ad) 6 6) ∧ (TestsAt w' ad ac ∧ w.heap.size ≤ ad.block ∧ ∀ t, w.heap.size ≤ (ac t).block) ∧ Below w.heap.size w w' := by
  have HT := Aside0.mk (tests_at w)
  have HB := Aside0.mk (allocL_below w (tblObjs w.heap.size) w (Below.refl _ _))
  go_enter Try.func128, Try.ntmps128
  go_wp2
  go_ret
  exact ⟨_, _, rfl, ⟨HT.out, Nat.le_add_right _ 6, fun t => Nat.le_add_right _ _⟩, HB.out⟩
/-- What the map holds when some of the table has been gone through. -/
def Lg (L : Int → Option Nat) (t : Nat) : Nat → Int → Option Nat
  | 0 => L
  | j + 1 => fun x => if x = (codesT t).getD j 0 then some (fnT t) else Lg L t j x
def Lt : Nat → Int → Option Nat
  | 0 => fun _ => none
  | t + 1 => Lg (Lt t) t (codesT t).length
theorem Lt6 : Lt 6 = Lc := by
  funext c
  by_cases hm : c = 77 ∨ c = 61 ∨ c = 45 ∨ c = 29 ∨ c = 69 ∨ c = 53 ∨ c = 37 ∨ c = 21 ∨ c = 5 ∨ c = 116 ∨ c = 100 ∨ c = 52 ∨ c = 3 ∨ c = 2 ∨ c = 97 ∨ c = 96 ∨ c = 32
  · rcases hm with rfl | rfl | rfl | rfl | rfl | rfl | rfl | rfl | rfl | rfl | rfl | rfl | rfl | rfl | rfl | rfl | rfl <;> rfl
  · have e : Lc c = none := by
      unfold Lc
      rw [if_neg (by omega), if_neg (by omega), if_neg (by omega), if_neg (by omega), if_neg (by omega), if_neg (by omega)]
    rw [e]
    show (if c = 77 then some 152 else if c = 61 then some 152 else if c = 45 then some 152 else if c = 29 then some 152 else if c = 69 then some 152 else if c = 53 then some 152 else if c = 37 then some 152 else if c = 21 then some 152 else if c = 5 then some 155 else if c = 116 then some 151 else if c = 100 then some 151 else if c = 52 then some 154 else if c = 3 then some 150 else if c = 2 then some 150 else if c = 97 then some 150 else if c = 96 then some 150 else if c = 32 then some 153 else none : Option Nat) = none
    rw [if_neg (by omega), if_neg (by omega), if_neg (by omega), if_neg (by omega), if_neg (by omega), if_neg (by omega), if_neg (by omega), if_neg (by omega), if_neg (by omega), if_neg (by omega), if_neg (by omega), if_neg (by omega), if_neg (by omega), if_neg (by omega), if_neg (by omega), if_neg (by omega), if_neg (by omega)]
theorem codes_wf (t j : Nat) (ht : t < 6) (hj : j < (codesT t).length) : (Lit.int .i64 ((codesT t).getD j 0)).wf = true := by
  match t, ht, j, hj with
  | 0, _, 0, _ => decide
  | 1, _, 0, _ | 1, _, 1, _ | 1, _, 2, _ | 1, _, 3, _ => decide
  | 2, _, 0, _ => decide
  | 3, _, 0, _ | 3, _, 1, _ => decide
  | 4, _, 0, _ => decide
  | 5, _, 0, _ | 5, _, 1, _ | 5, _, 2, _ | 5, _, 3, _ | 5, _, 4, _ | 5, _, 5, _ | 5, _, 6, _ | 5, _, 7, _ => decide
theorem codes_len (t : Nat) : (codesT t).length ≤ 8 := by
  match t with
  | 0 | 1 | 2 | 3 | 4 => decide
  | n + 5 => exact Nat.le_refl 8
/-- Fields that the types allow. -/
def IW (i : S28) : Prop := (Lit.int .i64 i.f0).wf = true ∧ (Lit.int .i64 i.f1).wf = true ∧ (Lit.int .i64 i.f2).wf = true ∧ U i.f3
theorem MapF.mono {w : World} {b n n' : Nat} {L : Int → Option Nat} (h : MapF w b n L) (hn : n ≤ n') : MapF w b n' L := by
  obtain ⟨D, h1, h2⟩ := h
  exact ⟨D, h1.mono hn, h2⟩
structure Mid1 (w wr : World) (ad : Addr) (ac : Nat → Addr) (n : Nat) (L : Int → Option Nat) : Prop where
  hM : MapF wr w.heap.size n L
  hT : TestsAt wr ad ac
  hb : Below w.heap.size w wr
  n1 : w.heap.size < ad.block
  n2 : ∀ t, w.heap.size < (ac t).block
theorem Mid1.below {w wr w' : World} {ad : Addr} {ac : Nat → Addr} {n : Nat} {L : Int → Option Nat} (h : Mid1 w wr ad ac n L) (hb : Below wr.heap.size wr w') : Mid1 w w' ad ac n L :=
  ⟨h.hM.below hb, h.hT.below hb, below_step h.hb hb, h.n1, h.n2⟩
theorem grown_cell {w w' : World} {b : Nat} (hg : w.grownBy w' (some b)) {a : Addr} {v : Value} (hc : w.cell? a = some v) (hn : b < a.block) : w'.cell? a = some v := by
  have hl := World.block_lt_of_cell? w a hc
  have := hg.block a.block hl (fun e => by injection e with e; omega)
  simp only [World.cell?, this] at hc ⊢
  exact hc
theorem add_blk (a : Addr) (j : Nat) : (a.add j).block = a.block := add_block a j
theorem Mid1.grown {w wr w' : World} {ad : Addr} {ac : Nat → Addr} {n n' : Nat} {L L' : Int → Option Nat} (h : Mid1 w wr ad ac n L) (hM : MapF w' w.heap.size n' L') (hg : wr.grownBy w' (some w.heap.size)) : Mid1 w w' ad ac n' L' :=
  ⟨hM, ⟨fun t ht => grown_cell hg (h.hT.sl t ht) (by rw [add_blk]; exact h.n1), fun t ht => grown_cell hg (h.hT.fn t ht) (by show _ < (ad.add (t * 2)).block; rw [add_blk]; exact h.n1), fun t j ht hj => grown_cell hg (h.hT.cd t j ht hj) (by rw [add_blk]; exact h.n2 t)⟩, h.hb.grown hg h.hb.size (fun k hk => by injection hk with hk; omega), h.n1, h.n2⟩
theorem first_at (l : List S28) : ∀ k, k < l.length → (∀ j, j < k → wellB (at_ l j) ((l.length : Int) - 1 - (j : Int)) = true) → wellB (at_ l k) ((l.length : Int) - 1 - (k : Int)) = false → firstB l = some k := by
  induction l with
  | nil => intro k h; simp at h
  | cons i l ih =>
    intro k hk hj hb
    unfold firstB
    rw [List.length_cons] at hj hb hk
    cases k with
    | zero =>
      have e : ((l.length + 1 : Nat) : Int) - 1 - ((0 : Nat) : Int) = (l.length : Int) := by omega
      rw [e] at hb
      have hb' : wellB i (l.length : Int) = false := hb
      rw [if_neg (by rw [hb']; decide)]
    | succ k =>
      have h0 := hj 0 (by omega)
      have e : ((l.length + 1 : Nat) : Int) - 1 - ((0 : Nat) : Int) = (l.length : Int) := by omega
      rw [e] at h0
      have h0' : wellB i (l.length : Int) = true := h0
      have g : firstB l = some k := by
        refine ih k (by omega) (fun j hjk => ?_) ?_
        · have := hj (j + 1) (by omega)
          rw [show ((l.length + 1 : Nat) : Int) - 1 - ((j + 1 : Nat) : Int) = (l.length : Int) - 1 - (j : Int) by omega] at this
          exact this
        · rw [show ((l.length + 1 : Nat) : Int) - 1 - ((k + 1 : Nat) : Int) = (l.length : Int) - 1 - (k : Int) by omega] at hb
          exact hb
      rw [if_pos h0', g]
      rfl
theorem first_all (l : List S28) (h : ∀ j, j < l.length → wellB (at_ l j) ((l.length : Int) - 1 - (j : Int)) = true) : firstB l = none := by
  rw [first_none]
  intro k hk
  have := h k hk
  rw [show (l.length : Int) - 1 - (k : Int) = ((l.length - 1 - k : Nat) : Int) by omega] at this
  exact this
def allR (o : Option Nat) : Int × Int := match o with | some k => ((k : Int), 51) | none => (0, 0)
theorem allV_eq (l : List S28) : allV l = if l.length = 0 then (0, 51) else if 4096 < l.length then (0, 2) else allR (firstB l) := rfl
theorem rd_at (l : List S28) (k : Nat) : rd_T28 l (k : Int) = at_ l k := by unfold rd_T28 at_; rw [Int.toNat_natCast]; rfl
set_option maxHeartbeats 4000000 in
theorem all_c {w : World} {A0 : Option Addr} {c0 : Nat} {l : List S28} (hC : Kd.C k28 w A0 l.length l) (hc0 : l.length ≤ c0) (hlen : l.length ≤ 100000) (hi : ∀ i ∈ l, IW i) :
    Calls Try.prog 99 #[.slice A0 l.length c0] w fun e w' => e = .returned (.tuple #[.int .i64 (allV l).1, .int .i64 (allV l).2]) ∧ Below w.heap.size w w' := by
  have hmm := @run_makeMap Try.prog
  have hu28 := Try.underlying28
  have hu173 := Try.underlying173
  have HC := Aside0.mk hC
  have HI := Aside0.mk hi
  clear hC hi
  rw [allV_eq]
  by_cases h0 : l.length = 0
  · rw [if_pos h0]
    have d0 : ((l.length : Int) == 0) = true := beq_iff_eq.2 (by omega)
    clear h0
    go_enter Try.func99, Try.ntmps99
    go_wp2
    go_ret2
    exact ⟨rfl, Below.refl _ _⟩
  rw [if_neg h0]
  have d0 : ((l.length : Int) == 0) = false := beq_eq_false_iff_ne.2 (by omega)
  by_cases h1 : 4096 < l.length
  · rw [if_pos h1]
    have d1 : decide ((4096 : Int) < (l.length : Int)) = true := decide_eq_true (by omega)
    clear h0 h1
    go_enter Try.func99, Try.ntmps99
    go_wp2
    go_ret2
    exact ⟨rfl, Below.refl _ _⟩
  rw [if_neg h1]
  have d1 : decide ((4096 : Int) < (l.length : Int)) = false := decide_eq_false (by omega)
  generalize hr : allR (firstB l) = r
  have HR := Aside0.mk hr
  clear hr h0 h1
  have HM0 := Aside0.mk (MapF.made w)
  go_enter Try.func99, Try.ntmps99
  go_wp2_with (go_at_call 128; refine (tests_any _).mono ?_; rintro e w1 ⟨ad, ac, rfl, ⟨ht, hn1, hn2⟩, hb1⟩; rw [World.size_alloc] at hn1 hn2; have HM1 := Aside0.mk (show Mid1 w w1 ad ac 0 (Lt 0) from ⟨HM0.out.below hb1, ht, below_step (below_alloc (Below.refl _ _) (.map #[] 0)) hb1, by omega, fun t => by have := hn2 t; omega⟩); clear ht hb1 hn1 hn2)
  go_loopw [23] (fun i wr => ∃ t : Nat, t ≤ 6 ∧ i = .int .i64 t ∧ Aside0 (Mid1 w wr ad ac (10 * t) (Lt t))) (fun i _ => 6 - (intOf i).toNat)
  case atStart => exact ⟨0, by omega, rfl, ⟨HM1.out⟩⟩
  case round =>
    clear HM1 HM0
    obtain ⟨t, ht, rfl, hm⟩ := hrel
    by_cases hlt : t < 6
    · have hdj : decide ((t : Int) < 6) = true := decide_eq_true (by omega)
      have k0 := hm.out.hT.sl t hlt
      have k1 := hm.out.hT.fn t hlt
      have hcl := codes_len t
      have HCD := Aside0.mk (fun j (hj : j < (codesT t).length) => codes_wf t j hlt hj)
      have HLS := Aside0.mk (show Lg (Lt t) t (codesT t).length = Lt (t + 1) from rfl)
      generalize hn : (codesT t).length = n at *
      have HN := Aside0.mk hn
      clear hn
      generalize hft : fnT t = ft at *
      have HF := Aside0.mk hft
      clear hft
      have HBX := Aside0.mk (heap_alloc_new wr (.cells #[.slice (some (ac t)) n n, .func (.func ft) #[] #[]] 173))
      have HM2 := Aside0.mk (hm.out.below (below_alloc (Below.refl _ _) (.cells #[.slice (some (ac t)) n n, .func (.func ft) #[] #[]] 173)))
      have HBL := Aside0.mk (Nat.lt_of_lt_of_le hm.out.hM.lt (Nat.le_refl wr.heap.size))
      clear hm
      go_wp2
      generalize hbx : wr.heap.size = bx at *
      clear hbx
      go_loopw [30] (fun i w2 => ∃ j : Nat, j ≤ n ∧ i = .int .i64 j ∧ Aside0 (Mid1 w w2 ad ac (10 * t + j) (Lg (Lt t) t j)) ∧ Aside0 (w2.heap[bx]? = some (.cells #[.slice (some (ac t)) n n, .func (.func ft) #[] #[]] 173 (0, 0)))) (fun i _ => n - (intOf i).toNat)
      case atStart => exact ⟨0, by omega, rfl, ⟨HM2.out⟩, ⟨HBX.out⟩⟩
      case round =>
        clear HM2 HBX
        obtain ⟨j, hj, rfl, hm, hx⟩ := hrel
        by_cases hltj : j < n
        · have hdk : decide ((j : Int) < (n : Int)) = true := decide_eq_true (by omega)
          have kc := hm.out.hT.cd t j hlt (by rw [HN.out]; exact hltj)
          have kx0 := blk_cell hx.out 0
          have kx1 := blk_cell hx.out 1
          have hwf := HCD.out j hltj
          have HST := Aside0.mk (show (fun x => if x = (codesT t).getD j 0 then some ft else Lg (Lt t) t j x) = Lg (Lt t) t (j + 1) from by rw [← HF.out]; rfl)
          generalize (codesT t).getD j 0 = c at *
          obtain ⟨w3, hrun, hM3, hg3⟩ := hm.out.hM.store (by omega) c ft hwf
          have HM3 := Aside0.mk (hm.out.grown (HST.out ▸ hM3) hg3)
          have HX3 := Aside0.mk (blk_grown hx.out hg3 (by intro e; injection e with e; have := HBL.out; omega))
          clear hM3 hg3 hm hx hwf
          go_wp2
          go_roundw
          case rel => exact ⟨j + 1, by omega, by go_num, ⟨HM3.out⟩, ⟨HX3.out⟩⟩
          case measure => simp [intOf]; omega
        · obtain rfl : j = n := by omega
          have hdk : decide ((j : Int) < (j : Int)) = false := decide_eq_false (by omega)
          have HM3 := Aside0.mk (show Mid1 w _ ad ac (10 * (t + 1)) (Lt (t + 1)) from ⟨by rw [← HLS.out]; exact hm.out.hM.mono (by omega), hm.out.hT, hm.out.hb, hm.out.n1, hm.out.n2⟩)
          clear hm hx
          go_wp2
          go_roundw
          case rel => exact ⟨t + 1, by omega, by go_num, ⟨HM3.out⟩⟩
          case measure => simp [intOf]; omega
    · obtain rfl : t = 6 := by omega
      have hdj : decide (((6 : Nat) : Int) < 6) = false := rfl
      have HM2 := Aside0.mk (show MapF wr w.heap.size 60 Lc from by have := hm.out.hM; rw [Lt6] at this; exact this)
      have HB2 := Aside0.mk hm.out.hb
      clear hm
      go_wp2
      generalize hwL : wr = wL at *
      clear hwL
      go_loopw [42] (fun i w2 => ∃ k : Nat, k ≤ l.length ∧ i = .int .i64 k ∧ Aside0 (MapF w2 w.heap.size 60 Lc) ∧ Aside0 (Below w.heap.size w w2) ∧ Aside0 (∀ j, j < k → wellB (at_ l j) ((l.length : Int) - 1 - (j : Int)) = true)) (fun i _ => l.length - (intOf i).toNat)
      case atStart => exact ⟨0, by omega, rfl, ⟨HM2.out⟩, ⟨HB2.out⟩, ⟨fun j hj => by omega⟩⟩
      case round =>
        clear HM2 HB2
        obtain ⟨k, hk, rfl, hm, hb, hw⟩ := hrel
        by_cases hlt : k < l.length
        · have hdk : decide ((k : Int) < (l.length : Int)) = true := decide_eq_true (by omega)
          obtain ⟨ad2, eA, hx0, hx1, hx2, hx3⟩ := at_T28 (Kd.C_below HC.out hb.out) (k : Int) (by omega) (by omega)
          subst eA
          rw [Int.toNat_natCast] at hx0 hx1 hx2 hx3
          have hiw := HI.out (at_ l k) (at_mem l k hlt)
          rw [rd_at] at hx0 hx1 hx2 hx3
          have e1 : wrap64 ((l.length : Int) - 1) = (l.length : Int) - 1 := w64 _ (by omega) (by omega)
          have e2 : wrap64 ((l.length : Int) - 1 - (k : Int)) = (l.length : Int) - 1 - (k : Int) := w64 _ (by omega) (by omega)
          have HW := Aside0.mk (fun (W : World) (hM : MapF W w.heap.size 60 Lc) => well_c hM (at_ l k) ((l.length : Int) - 1 - (k : Int)) hiw.2.2.2 hiw.1)
          have HF1 := Aside0.mk (first_at l k hlt hw.out)
          have HW1 := Aside0.mk (show wellB (at_ l k) ((l.length : Int) - 1 - (k : Int)) = true → ∀ j, j < k + 1 → wellB (at_ l j) ((l.length : Int) - 1 - (j : Int)) = true from fun h j hj => by
            by_cases e : j = k
            · rw [e]; exact h
            · exact hw.out j (by omega))
          have HMx := Aside0.mk (fun (o : Obj) => (⟨hm.out.below (below_alloc (Below.refl _ _) o), below_alloc hb.out o⟩ : MapF (World.alloc _ o) w.heap.size 60 Lc ∧ Below w.heap.size w (World.alloc _ o)))
          generalize hwe : wellB (at_ l k) ((l.length : Int) - 1 - (k : Int)) = b at *
          clear hwe
          generalize at_ l k = x at *
          clear hm hb hw hiw
          cases b
          · have HRR := Aside0.mk (show r = ((k : Int), 51) by rw [← HR.out, HF1.out rfl]; rfl)
            go_wp2_with (go_at_call 129; refine (HW.out _ (HMx.out _).1).mono ?_; rintro e w3 ⟨rfl, hb3⟩; have HB3 := Aside0.mk (below_step (HMx.out _).2 hb3); clear hb3)
            rw [HRR.out]
            go_ret2
            exact ⟨rfl, HB3.out⟩
          · have HW2 := Aside0.mk (HW1.out rfl)
            go_wp2_with (go_at_call 129; refine (HW.out _ (HMx.out _).1).mono ?_; rintro e w3 ⟨rfl, hb3⟩; have HB3 := Aside0.mk (below_step (HMx.out _).2 hb3); have HM3 := Aside0.mk ((HMx.out _).1.below hb3); clear hb3)
            refine ⟨⟨_, _, _, _, _, _, _, _, _, _, _, _, _, _, _, _, _, _, _, _, ?rel, rfl⟩, ?measure⟩
            case rel => exact ⟨k + 1, by omega, by go_num, ⟨HM3.out⟩, ⟨HB3.out⟩, ⟨HW2.out⟩⟩
            case measure => simp [intOf]; omega
        · obtain rfl : k = l.length := by omega
          have hdk : decide (((l.length : Nat) : Int) < (l.length : Int)) = false := decide_eq_false (by omega)
          have HRR := Aside0.mk (show r = (0, 0) by rw [← HR.out, first_all l hw.out]; rfl)
          clear hm hw
          go_wp2
          rw [HRR.out]
          go_ret2
          exact ⟨rfl, hb.out⟩
end Go.Proofs.Ytefkhcijgiagdaa.HCk
end
section
namespace Go.Proofs.Ytefkhcijgiagdaa.HCk
open Go.RowKit Go.Proofs.YtefkhcijgiagdaaW.PrintWords Go.Proofs.YtefkhcijgiagdaaW.PrintLast Go.Proofs.YtefkhcijgiagdaaW.PrintMore Go.Proofs.Ytefkhcijgiagdaa.HKnown Go.Proofs.Ytefkhcijgiagdaa.I1 Go.Proofs.Ytefkhcijgiagdaa.QVm Go.Proofs.Ytefkhcijgiagdaa.QLe Go.Proofs.Ytefkhcijgiagdaa.QCheck Go.Proofs.Ytefkhcijgiagdaa.K0
set_option linter.unusedVariables false
set_option linter.unusedSimpArgs false
set_option maxRecDepth 100000
attribute [local go_sem] max2_int min2_int max_two min_two IntKind.wrap_u32
def bRow (xs : List Bool) : Obj := .cells (xs.map Value.bool).toArray 4 (0, 0)
theorem bRow_cell {w : World} {g : Nat} {xs : List Bool} (h : w.heap[g]? = some (bRow xs)) (j : Nat) (hj : j < xs.length) : w.cell? ⟨g, j, none⟩ = some (.bool (xs.getD j false)) := by
  rw [blk_cell h j]
  simp [hj]
theorem bRow_free {w : World} {g : Nat} {xs : List Bool} (h : w.heap[g]? = some (bRow xs)) (j : Nat) : w.frozen? ⟨g, j, none⟩ = false := blk_frozen h j
theorem bRow_set {w : World} {g : Nat} {xs : List Bool} (h : w.heap[g]? = some (bRow xs)) (j : Nat) (b : Bool) : (w.setCell ⟨g, j, none⟩ (.bool b)).heap[g]? = some (bRow (xs.set j b)) := by
  rw [blk_set h j (.bool b)]
  unfold bRow
  congr 2
  simp [List.map_set]
def f16 : List Bool := List.replicate 16 false
theorem info4 : (Try.prog.info? 4).map (fun i => (i.zero, i.size, i.bytes)) = some (some (.bool false), 1, 1) := by kernel_rfl
theorem made_bools (n : Nat) : madeCells #[Value.bool false] n = ((List.replicate n false).map Value.bool).toArray := by
  apply Array.ext'
  simp only [madeCells, List.map_replicate]
  apply List.ext_getElem
  · simp
  · intro i h1 h2
    simp [Nat.mod_one]
theorem make16 (W : World) : (Instr.makeSlice 120 (.int .i64 16) (.int .i64 16)).run Try.prog W = .ok (.slice (some ⟨W.heap.size, 0, none⟩) 16 16) (W.alloc (bRow f16)) := by
  have h := run_make_row' (P := Try.prog) 120 4 (.bool false) 1 Try.underlying120 info4 rfl .i64 .i64 16 (by decide) (by decide) W
  rw [made_bools] at h
  exact h
def joinP (a b : List Bool) (j : Nat) : List Bool := (List.zipWith (· && ·) a b).take j ++ List.replicate (16 - j) false
theorem joinP_zero (a b : List Bool) : joinP a b 0 = f16 := by simp [joinP, f16]
theorem joinP_all (a b : List Bool) (ha : a.length = 16) (hb : b.length = 16) : joinP a b 16 = List.zipWith (· && ·) a b := by
  unfold joinP
  rw [List.take_of_length_le (by rw [List.length_zipWith, ha, hb]; decide)]
  simp
theorem joinP_set (a b : List Bool) (ha : a.length = 16) (hb : b.length = 16) (j : Nat) (hj : j < 16) : (joinP a b j).set j (a.getD j false && b.getD j false) = joinP a b (j + 1) := by
  have hz : (List.zipWith (· && ·) a b).length = 16 := by rw [List.length_zipWith, ha, hb]; rfl
  have hg := zip_getD a b j (by rw [ha, hb]) (by omega)
  unfold joinP
  generalize List.zipWith (· && ·) a b = z at hz hg ⊢
  rw [← hg, List.set_append_right _ _ (by rw [List.length_take, hz]; omega), List.length_take, hz, show min j 16 = j by omega, Nat.sub_self, show 16 - j = (16 - (j + 1)) + 1 by omega, List.replicate_succ, List.set_cons_zero, List.take_succ_eq_append_getElem (by omega), List.append_assoc, List.getD_eq_getElem?_getD, List.getElem?_eq_getElem (by omega)]
  rfl
theorem joinP_len (a b : List Bool) (ha : a.length = 16) (hb : b.length = 16) (j : Nat) (hj : j ≤ 16) : (joinP a b j).length = 16 := by
  unfold joinP
  rw [List.length_append, List.length_take, List.length_zipWith, ha, hb, List.length_replicate]; omega
theorem join_nil (w : World) (A : Option Addr) (n c : Nat) : Calls Try.prog 102 #[.slice none 0 0, .slice A n c] w fun e w' => e = .returned (.slice A n c) ∧ w' = w := by
  have hnil := fun W => Lib.run_eql_slice_nil (P := Try.prog) W 120 4 none 0 0 0 0 Try.underlying120
  go_enter Try.func102, Try.ntmps102
  go_wp2
  go_ret
  exact ⟨rfl, rfl⟩
set_option maxHeartbeats 2000000 in
theorem join_c {w : World} {ada adb : Addr} {a b : List Bool} {ca cb : Nat} (ha : a.length = 16) (hb : b.length = 16) (hca : ∀ j, j < 16 → w.cell? (ada.add j) = some (.bool (a.getD j false))) (hcb : ∀ j, j < 16 → w.cell? (adb.add j) = some (.bool (b.getD j false))) :
    Calls Try.prog 102 #[.slice (some ada) 16 ca, .slice (some adb) 16 cb] w fun e w' => e = .returned (.slice (some ⟨w.heap.size, 0, none⟩) 16 16) ∧ w'.heap[w.heap.size]? = some (bRow (List.zipWith (· && ·) a b)) ∧ Below w.heap.size w w' := by
  have hnil := fun W => Lib.run_eql_slice_nil (P := Try.prog) W 120 4 (some ada) 16 ca 0 0 Try.underlying120
  have hmk := make16
  have HA := Aside0.mk hca
  have HB := Aside0.mk hcb
  have HL := Aside0.mk (joinP_len a b ha hb)
  have HS := Aside0.mk (joinP_set a b ha hb)
  have HE := Aside0.mk (joinP_all a b ha hb)
  have H0 := Aside0.mk (joinP_zero a b)
  clear hca hcb ha hb
  have HN := Aside0.mk (heap_alloc_new w (bRow f16))
  go_enter Try.func102, Try.ntmps102
  go_wp2
  go_loopw [13] (fun i wr => ∃ j : Nat, j ≤ 16 ∧ i = .int .i64 j ∧ Aside0 (wr.heap[w.heap.size]? = some (bRow (joinP a b j))) ∧ Aside0 (Below w.heap.size w wr)) (fun i _ => 16 - (intOf i).toNat)
  case atStart => exact ⟨0, by omega, rfl, ⟨by rw [H0.out]; exact HN.out⟩, ⟨below_alloc (Below.refl _ _) _⟩⟩
  case round =>
    clear HN H0
    obtain ⟨j, hj, rfl, hx, hb⟩ := hrel
    by_cases hlt : j < 16
    · have hdj : decide ((j : Int) < 16) = true := decide_eq_true (by omega)
      have kc := bRow_cell hx.out j (by rw [HL.out j hj]; exact hlt)
      have kf := bRow_free hx.out j
      have ka := pw_cell_below hb.out (HA.out j hlt)
      have kb := pw_cell_below hb.out (HB.out j hlt)
      have HJ := Aside0.mk (HS.out j hlt)
      have HX1 := Aside0.mk (fun b => bRow_set hx.out j b)
      have HB1 := Aside0.mk (fun v => hb.out.setCell (p := ⟨w.heap.size, j, none⟩) (Nat.le_refl _) v)
      clear hx hb
      generalize a.getD j false = av at *
      generalize b.getD j false = bv at *
      generalize (joinP a b j).getD j false = cv at *
      have i0 : (0 : Int) ≤ (j : Int) := by omega
      have i1 : (j : Int) < 16 := by omega
      cases av
      · go_wp2
        go_roundw
        case rel => exact ⟨j + 1, by omega, by go_num, ⟨by rw [← HJ.out]; exact HX1.out _⟩, ⟨HB1.out _⟩⟩
        case measure => simp [intOf]; omega
      · go_wp2
        go_roundw
        case rel => exact ⟨j + 1, by omega, by go_num, ⟨by rw [← HJ.out]; exact HX1.out _⟩, ⟨HB1.out _⟩⟩
        case measure => simp [intOf]; omega
    · obtain rfl : j = 16 := by omega
      have hdj : decide (((16 : Nat) : Int) < 16) = false := rfl
      have HX := Aside0.mk (HE.out ▸ hx.out)
      clear hx
      go_wp2
      go_ret
      exact ⟨rfl, HX.out, hb.out⟩
end Go.Proofs.Ytefkhcijgiagdaa.HCk
end
section
namespace Go.Proofs.Ytefkhcijgiagdaa.HCk
open Go.RowKit Go.Proofs.YtefkhcijgiagdaaW.PrintWords Go.Proofs.YtefkhcijgiagdaaW.PrintLast Go.Proofs.YtefkhcijgiagdaaW.PrintMore Go.Proofs.Ytefkhcijgiagdaa.HKnown Go.Proofs.Ytefkhcijgiagdaa.I1 Go.Proofs.Ytefkhcijgiagdaa.QVm Go.Proofs.Ytefkhcijgiagdaa.QLe Go.Proofs.Ytefkhcijgiagdaa.QCheck Go.Proofs.Ytefkhcijgiagdaa.K0
set_option linter.unusedVariables false
set_option linter.unusedSimpArgs false
set_option maxRecDepth 100000
attribute [local go_sem] max2_int min2_int max_two min_two IntKind.wrap_u32
def rowIs (w : World) (B : Nat) (v : Value) (row : List Bool) : Prop :=
  (row = [] ∧ v = .slice none 0 0) ∨ (row.length = 16 ∧ ∃ g c, v = .slice (some ⟨g, 0, none⟩) 16 c ∧ Kd.R Kd.bool 4 w B (fun _ => True) v row)
theorem rowIs.below {w w' : World} {B : Nat} {v : Value} {row : List Bool} (h : rowIs w B v row) (hb : Below w.heap.size w w') : rowIs w' B v row := by
  rcases h with h | ⟨h, g, c, e, hR⟩
  · exact .inl h
  · exact .inr ⟨h, g, c, e, Kd.R_below hR hb⟩
theorem R_of_block {w : World} {B g : Nat} {row : List Bool} (hB : B ≤ g) (h : w.heap[g]? = some (bRow row)) (hl : row.length ≤ 1000000) : Kd.R Kd.bool 4 w B (fun _ => True) (.slice (some ⟨g, 0, none⟩) row.length row.length) row := by
  refine ⟨fun _ _ => trivial, row.map Value.bool, ⟨by simp [Kd.bool, Kd.scalar], .inr ⟨g, row.length, _, rfl, hB, h, Nat.le_refl _, by unfold maxLen; omega, by simp [Kd.bool, Kd.scalar], by show List.take (row.length * 1) (row.map Value.bool) = _; rw [Nat.mul_one]; exact List.take_of_length_le (by simp)⟩⟩, by simp [Kd.bool, Kd.scalar], fun j p hj => ?_⟩
  have hjl : j < row.length := by
    rcases Nat.lt_or_ge j row.length with h | h
    · exact h
    · rw [List.getElem?_eq_none h] at hj; cases hj
  show List.take 1 (List.drop (j * 1) (row.map Value.bool)) = [Value.bool p]
  rw [Nat.mul_one, ← List.map_drop, ← List.map_take, List.drop_eq_getElem_cons hjl]
  rw [List.getElem?_eq_getElem hjl] at hj
  injection hj with hj
  simp [hj]
theorem R_of_own {w : World} {B : Nat} {v : Value} {row : List Bool} (h : w.ownsRow B 4 1 v row.length (row.map Value.bool)) : Kd.R Kd.bool 4 w B (fun _ => True) v row := by
  refine ⟨fun _ _ => trivial, row.map Value.bool, h, by simp [Kd.bool, Kd.scalar], fun j p hj => ?_⟩
  have hjl : j < row.length := by
    rcases Nat.lt_or_ge j row.length with h | h
    · exact h
    · rw [List.getElem?_eq_none h] at hj; cases hj
  show List.take 1 (List.drop (j * 1) (row.map Value.bool)) = [Value.bool p]
  rw [Nat.mul_one, ← List.map_drop, ← List.map_take, List.drop_eq_getElem_cons hjl]
  rw [List.getElem?_eq_getElem hjl] at hj
  injection hj with hj
  simp [hj]
theorem rowIs.of_block {w : World} {B g : Nat} {row : List Bool} (hB : B ≤ g) (h : w.heap[g]? = some (bRow row)) (hl : row.length = 16) : rowIs w B (.slice (some ⟨g, 0, none⟩) 16 16) row := by
  have := R_of_block hB h (by omega)
  rw [hl] at this
  exact .inr ⟨hl, g, 16, rfl, this⟩
theorem row_cell {w : World} {B g c : Nat} {row : List Bool} (hl : row.length = 16) (h : Kd.R Kd.bool 4 w B (fun _ => True) (.slice (some ⟨g, 0, none⟩) 16 c) row) (j : Nat) (hj : j < 16) : w.cell? ⟨g, j, none⟩ = some (.bool (row.getD j false)) ∧ w.frozen? ⟨g, j, none⟩ = false := by
  have := Kd.R_celln false h (j : Int) (by omega) (by omega)
  rw [Int.toNat_natCast] at this
  have e : rdOf false row (j : Int) = row.getD j false := by unfold rdOf; rw [Int.toNat_natCast]
  rw [e] at this
  exact this
def RowsAt (w : World) (B ob : Nat) (rows : List (List Bool)) : Prop :=
  ∃ rv : List Value, w.heap[ob]? = some (.cells rv.toArray 120 (0, 0)) ∧ rv.length = rows.length ∧ ∀ j, j < rows.length → rowIs w B (rv.getD j undef) (rows.getD j [])
theorem RowsAt.below {w w' : World} {B ob : Nat} {rows : List (List Bool)} (h : RowsAt w B ob rows) (hb : Below w.heap.size w w') : RowsAt w' B ob rows := by
  obtain ⟨rv, h1, h2, h3⟩ := h
  exact ⟨rv, blk_below h1 hb, h2, fun j hj => (h3 j hj).below hb⟩
theorem RowsAt.cell {w : World} {B ob : Nat} {rows : List (List Bool)} (h : RowsAt w B ob rows) (j : Nat) (hj : j < rows.length) : ∃ v, w.cell? ⟨ob, j, none⟩ = some v ∧ rowIs w B v (rows.getD j []) ∧ w.frozen? ⟨ob, j, none⟩ = false := by
  obtain ⟨rv, h1, h2, h3⟩ := h
  refine ⟨rv.getD j undef, ?_, h3 j hj, blk_frozen h1 j⟩
  rw [blk_cell h1 j]
  simp [show j < rv.length by omega]
theorem RowsAt.set {w : World} {B ob : Nat} {rows : List (List Bool)} (h : RowsAt w B ob rows) (j : Nat) {v : Value} {row : List Bool} (hv : rowIs w B v row) : RowsAt (w.setCell ⟨ob, j, none⟩ v) B ob (rows.set j row) := by
  obtain ⟨rv, h1, h2, h3⟩ := h
  have keep : ∀ {u : Value} {r : List Bool}, rowIs w B u r → rowIs (w.setCell ⟨ob, j, none⟩ v) B u r := by
    intro u r hr
    rcases hr with hr | ⟨hr, g, c, e, hR⟩
    · exact .inl hr
    · exact .inr ⟨hr, g, c, e, Kd.R_set hR h1 (by decide) j v⟩
  refine ⟨rv.set j v, by rw [blk_set h1 j v]; simp, by simp [h2], fun i hi => ?_⟩
  rw [List.length_set] at hi
  by_cases e : j = i
  · subst e
    rw [getD_set_same _ _ _ _ (by omega), getD_set_same _ _ _ _ hi]
    exact keep hv
  · rw [getD_set_other _ _ _ _ _ e, getD_set_other _ _ _ _ _ e]
    exact keep (h3 i hi)
theorem info120 : (Try.prog.info? 120).map (fun i => (i.zero, i.size, i.bytes)) = some (some (.slice none 0 0), 1, 24) := by kernel_rfl
def nilObj (n : Nat) : Obj := .cells (List.replicate n (Value.slice none 0 0)).toArray 120 (0, 0)
theorem made_nils (n : Nat) : madeCells #[Value.slice none 0 0] n = (List.replicate n (Value.slice none 0 0)).toArray := by
  apply Array.ext'
  simp only [madeCells]
  apply List.ext_getElem
  · simp
  · intro i h1 h2
    simp [Nat.mod_one]
theorem makeN (n : Nat) (hn : n ≤ 100000) (W : World) : (Instr.makeSlice 57 (.int .i64 (n : Int)) (.int .i64 (n : Int))).run Try.prog W = .ok (.slice (some ⟨W.heap.size, 0, none⟩) n n) (W.alloc (nilObj n)) := by
  have h := run_make_row' (P := Try.prog) 57 120 (.slice none 0 0) 24 Try.underlying57 info120 rfl .i64 .i64 n (by omega) (by omega) W
  rw [made_nils] at h
  exact h
theorem rows_made (W : World) (B n : Nat) : RowsAt (W.alloc (nilObj n)) B W.heap.size (List.replicate n []) := by
  refine ⟨List.replicate n (.slice none 0 0), heap_alloc_new W (nilObj n), by simp, fun j hj => .inl ⟨?_, ?_⟩⟩
  · simp at hj ⊢; simp [hj]
  · simp at hj ⊢; simp [hj]
theorem cells_len (l : List S28) : ∀ k, (cellsL l k).length = l.length := by
  intro k
  induction k with
  | zero => simp [cellsL]
  | succ k ih =>
    show (stepL (cellsL l k) k (at_ l k)).length = _
    unfold stepL
    split
    · exact ih
    · rw [← ih]
      generalize nowL (at_ l k) ((cellsL l k).getD k []) = now
      generalize cellsL l k = rows
      generalize folL (at_ l k) = ds
      induction ds generalizing rows with
      | nil => rfl
      | cons d ds ihd => rw [List.foldl_cons, ihd, put_len]
theorem bits7_all : ∀ c : Fin 256, bits .and .i64 (c.val : Int) 7 = (c.val : Int) % 8 := by decide +kernel
theorem bits_known7 (c : Int) (h : knownB c = true) : bits .and .i64 c 7 = c % 8 := by
  obtain ⟨a, b⟩ := known_range h
  obtain ⟨n, rfl⟩ : ∃ n : Nat, c = n := ⟨c.toNat, by omega⟩
  exact bits7_all ⟨n, by omega⟩
theorem behind_any (i : S28) (hk : knownB i.f0 = true) (h3 : U i.f3) (h1 : 0 ≤ i.f1 ∧ i.f1 ≤ 255) (h2 : 0 ≤ i.f2 ∧ i.f2 ≤ 255) (w : World) :
    Calls Try.prog 101 #[.agg #[.int .i64 i.f0, .int .i64 i.f1, .int .i64 i.f2, .int .u32 i.f3]] w fun e w' => ∃ v, e = .returned v ∧ Kd.R (Kd.int .i64) 3 w' w.heap.size (fun _ => True) v ((folL i).map fun d : Nat => (d : Int)) ∧ Below w.heap.size w w' := by
  refine check_behind.calls i.f0 i.f1 i.f2 i.f3 _ w ?_
  unfold check_behind.f check_returns.f folL retB
  have a3 : wrap64 i.f3 = i.f3 := w64 _ (by omega) (by omega)
  have b3 : wrap64 (i.f3 + 1) = i.f3 + 1 := w64 _ (by omega) (by omega)
  have b1 : wrap64 (i.f1 + 1) = i.f1 + 1 := w64 _ (by omega) (by omega)
  have b2 : wrap64 (i.f2 + 1) = i.f2 + 1 := w64 _ (by omega) (by omega)
  have hb := (bits_known7 i.f0 hk)
  by_cases e6 : i.f0 = 6
  · rw [if_pos e6, decide_eq_true (.inl e6)]; rfl
  rw [if_neg e6]
  by_cases e22 : i.f0 = 22
  · rw [e22]; rfl
  have e0 : (i.f0 == 22) = false := beq_eq_false_iff_ne.2 e22
  rw [e0, decide_eq_false (by omega)]
  simp only [Option.bind_some, Bool.false_eq_true, if_false]
  by_cases e5 : i.f0 = 5
  · rw [if_pos e5, if_pos e5, a3, b3]
    simp only [List.map_cons, List.map_nil]
    rw [show ((i.f3.toNat + 1 : Nat) : Int) = i.f3 + 1 by omega]
  rw [if_neg e5, if_neg e5, hb]
  by_cases e8 : i.f0 % 8 = 5
  · rw [if_pos e8, if_pos e8, b1, b2]
    simp only [List.map_cons, List.map_nil]
    rw [show ((i.f1.toNat + 1 : Nat) : Int) = i.f1 + 1 by omega, show ((i.f2.toNat + 1 : Nat) : Int) = i.f2 + 1 by omega]
  · rw [if_neg e8, if_neg e8]; rfl
theorem stepL_nil {rows : List (List Bool)} {k : Nat} {i : S28} (h : rows.getD k [] = []) : stepL rows k i = rows := by unfold stepL; rw [if_pos h]
theorem stepL_some {rows : List (List Bool)} {k : Nat} {i : S28} (h : rows.getD k [] ≠ []) : stepL rows k i = (folL i).foldl (fun o d => putL o (k + d) (nowL i (rows.getD k []))) rows := by unfold stepL; rw [if_neg h]
theorem cells_bad {w : World} {A0 : Option Addr} {c0 : Nat} {l : List S28} (hC : Kd.C k28 w A0 l.length l) (hc0 : l.length ≤ c0) (hlen : l.length ≤ 100000) (hi : ∀ i ∈ l, IW i) (hb : (allV l).2 ≠ 0) :
    Calls Try.prog 56 #[.slice A0 l.length c0] w fun e w' => e = .returned (.tuple #[.slice none 0 0, .int .i64 (allV l).2]) ∧ Below w.heap.size w w' := by
  have h := all_c hC hc0 hlen hi
  have HH := Aside0.mk h
  generalize (allV l).2 = b at *
  generalize (allV l).1 = a at *
  have d0 : (b != 0) = true := bne_iff_ne.2 hb
  clear h hb hC hi
  go_enter Try.func56, Try.ntmps56
  go_wp2
  go_step3
  go_wp2_with (go_at_call 99; refine HH.out.mono ?_; rintro e w1 ⟨rfl, hb1⟩; have HB1 := Aside0.mk hb1; clear hb1)
  try rw [Exit.noGoto_ret]
  go_ret2
  exact ⟨rfl, HB1.out⟩
theorem folL_len (i : S28) : (folL i).length ≤ 2 := by
  unfold folL
  repeat' split
  all_goals simp
theorem take_fold {α β : Type} (f : β → α → β) (b : β) (ds : List α) (j : Nat) (hj : j < ds.length) : (ds.take (j + 1)).foldl f b = f ((ds.take j).foldl f b) ds[j] := by
  rw [List.take_succ_eq_append_getElem hj, List.foldl_append]; rfl
theorem fold_len (k : Nat) (now : List Bool) : ∀ (ds : List Nat) (rows : List (List Bool)), (ds.foldl (fun o d => putL o (k + d) now) rows).length = rows.length := by
  intro ds
  induction ds with
  | nil => intro rows; rfl
  | cons d ds ih => intro rows; rw [List.foldl_cons, ih, put_len]
theorem putL_nil {rows : List (List Bool)} {j : Nat} {now : List Bool} (h : rows.getD j [] = []) : putL rows j now = rows.set j now := by unfold putL joinL; rw [if_pos h]
theorem putL_some {rows : List (List Bool)} {j : Nat} {now : List Bool} (h : rows.getD j [] ≠ []) : putL rows j now = rows.set j (List.zipWith (· && ·) (rows.getD j []) now) := by unfold putL joinL; rw [if_neg h]
theorem nowL_st {i : S28} {row : List Bool} (h : i.f0 = 2 ∨ i.f0 = 3) : nowL i row = row.set i.f3.toNat true := by unfold nowL stB; rw [if_pos (decide_eq_true h)]
theorem nowL_no {i : S28} {row : List Bool} (h : ¬ (i.f0 = 2 ∨ i.f0 = 3)) : nowL i row = row := by unfold nowL stB; rw [if_neg (by rw [decide_eq_false h]; decide)]
/-- The world between two rounds. -/
structure MidC (w wr : World) (ob : Nat) (rows : List (List Bool)) : Prop where
  rows : RowsAt wr w.heap.size ob rows
  hb : Below w.heap.size w wr
  ho : w.heap.size ≤ ob
theorem MidC.below {w wr w' : World} {ob : Nat} {rows : List (List Bool)} (h : MidC w wr ob rows) (hb : Below wr.heap.size wr w') : MidC w w' ob rows := ⟨h.rows.below hb, below_step h.hb hb, h.ho⟩
theorem MidC.set {w wr : World} {ob : Nat} {rows : List (List Bool)} (h : MidC w wr ob rows) (j : Nat) {v : Value} {row : List Bool} (hv : rowIs wr w.heap.size v row) : MidC w (wr.setCell ⟨ob, j, none⟩ v) ob (rows.set j row) := ⟨h.rows.set j hv, h.hb.setCell (p := ⟨ob, j, none⟩) h.ho v, h.ho⟩
set_option maxHeartbeats 8000000 in
theorem cells_c {w : World} {A0 : Option Addr} {c0 : Nat} {l : List S28} (hC : Kd.C k28 w A0 l.length l) (hc0 : l.length ≤ c0) (hlen : l.length ≤ 100000) (hi : ∀ i ∈ l, IW i) (hb : (allV l).2 = 0) :
    Calls Try.prog 56 #[.slice A0 l.length c0] w fun e w' => ∃ ob, e = .returned (.tuple #[.slice (some ⟨ob, 0, none⟩) l.length l.length, .int .i64 0]) ∧ MidC w w' ob (cellsL l l.length) := by
  have hall := all_c hC hc0 hlen hi
  obtain ⟨hl0, _, hf⟩ := (allV_ok l).1 hb
  have hw := (first_none l).1 hf
  rw [hb] at hall
  generalize (allV l).1 = a1 at hall
  have HAL := Aside0.mk hall
  have HC := Aside0.mk hC
  have HI := Aside0.mk hi
  have HW := Aside0.mk hw
  have HWL := Aside0.mk (wellL_of l (fun i h => (hi i h).2.2.2.1) hf)
  have hu28 := Try.underlying28
  have hmN := makeN l.length hlen
  have hm16 := make16
  clear hall hC hi hb hf hw
  obtain ⟨ad0, eA0, _⟩ := at_T28 HC.out 0 (by omega) (by omega)
  subst eA0
  have H0 := Aside0.mk (show (List.replicate l.length []).set 0 f16 = cellsL l 0 from rfl)
  have hl0' : 0 < (List.replicate l.length ([] : List Bool)).length := by rw [List.length_replicate]; exact hl0
  go_enter Try.func56, Try.ntmps56
  go_wp2
  go_step3
  go_wp2_with (go_at_call 99; refine HAL.out.mono ?_; rintro e w1 ⟨rfl, hb1⟩; have HB1 := Aside0.mk hb1; clear hb1; have HM1 := Aside0.mk ((show MidC w (w1.alloc (nilObj l.length)) w1.heap.size (List.replicate l.length []) from ⟨rows_made w1 w.heap.size l.length, below_alloc HB1.out _, below_size HB1.out⟩).below (below_alloc (Below.refl _ _) (bRow f16))); obtain ⟨v0, kc0, _, kf0⟩ := HM1.out.rows.cell 0 hl0'; have HM2 := Aside0.mk (HM1.out.set 0 (v := .slice (some ⟨w1.heap.size + 1, 0, none⟩) 16 16) (rowIs.of_block (Nat.le_trans (below_size HB1.out) (Nat.le_succ _)) (by have := heap_alloc_new (w1.alloc (nilObj l.length)) (bRow f16); rw [World.size_alloc] at this; exact this) rfl)); have HM3 := Aside0.mk (show MidC w (((w1.alloc (nilObj l.length)).setCell ⟨w1.heap.size, 0, none⟩ (.slice (some ⟨w1.heap.size + 1, 0, none⟩) 16 16)).alloc (bRow f16)) w1.heap.size (cellsL l 0) from by rw [← H0.out, ← World.setCell_alloc_past _ _ _ _ (by rw [World.size_alloc]; exact Nat.lt_succ_self _)]; exact HM2.out); clear HM2 HM1)
  go_step3
  go_wp2
  generalize hob : w1.heap.size = ob at *
  clear hob kc0 kf0 H0 hl0'
  go_loopw [28] (fun i wr => ∃ k : Nat, k ≤ l.length ∧ i = .int .i64 k ∧ Aside0 (MidC w wr ob (cellsL l k))) (fun i _ => l.length - (intOf i).toNat)
  case atStart => exact ⟨0, by omega, rfl, ⟨HM3.out⟩⟩
  case round =>
    clear HM3 HB1
    obtain ⟨k, hk, rfl, hm⟩ := hrel
    by_cases hlt : k < l.length
    · have hdk : decide ((k : Int) < (l.length : Int)) = true := decide_eq_true (by omega)
      obtain ⟨ad2, eA, hx0, hx1, hx2, hx3⟩ := at_T28 (Kd.C_below HC.out hm.out.hb) (k : Int) (by omega) (by omega)
      obtain rfl := Option.some.inj eA
      clear eA
      rw [Int.toNat_natCast] at hx0 hx1 hx2 hx3
      have hiw := HI.out (at_ l k) (at_mem l k hlt)
      have hwell := (well_iff _ _).1 (HW.out k hlt)
      rw [rd_at] at hx0 hx1 hx2 hx3
      have hkc : k < (cellsL l k).length := by rw [cells_len]; exact hlt
      obtain ⟨v, kv, hrow, _⟩ := hm.out.rows.cell k hkc
      have i0 : (0 : Int) ≤ (k : Int) := by omega
      have i1 : (k : Int) < (l.length : Int) := by omega
      have kva := fun o => pw_cell_below (below_alloc (Below.refl _ _) o) kv
      rcases hrow with ⟨hnil, rfl⟩ | ⟨h16, g, c, rfl, hR⟩
      · have hnl := fun W => Lib.run_eql_slice_nil (P := Try.prog) W 120 4 none 0 0 0 0 Try.underlying120
        have HM2 := Aside0.mk (show ∀ o, MidC w (World.alloc _ o) ob (cellsL l (k + 1)) from fun o => by
          rw [show cellsL l (k + 1) = cellsL l k from stepL_nil hnil]
          exact hm.out.below (below_alloc (Below.refl _ _) o))
        clear hm hiw hwell hnil
        generalize at_ l k = x at *
        go_wp2
        go_roundw
        case rel => exact ⟨k + 1, by omega, by go_num, ⟨HM2.out _⟩⟩
        case measure => simp [intOf]; omega
      · have hnl := fun W => Lib.run_eql_slice_nil (P := Try.prog) W 120 4 (some ⟨g, 0, none⟩) 16 c 0 0 Try.underlying120
        obtain ⟨inf4, hi4, hzz⟩ := Option.map_eq_some_iff.1 info4
        simp only [Prod.mk.injEq] at hzz
        obtain ⟨hz0, hz1, hz2⟩ := hzz
        have hne : (cellsL l k).getD k [] ≠ [] := fun e => by rw [e] at h16; simp at h16
        have HST := Aside0.mk (show cellsL l (k + 1) = _ from stepL_some hne)
        have HBX := Aside0.mk (heap_alloc_new wr (.cells #[.int .i64 (at_ l k).f0, .int .i64 (at_ l k).f1, .int .i64 (at_ l k).f2, .int .u32 (at_ l k).f3] 28))
        have HM2 := Aside0.mk (hm.out.below (below_alloc (Below.refl _ _) (.cells #[.int .i64 (at_ l k).f0, .int .i64 (at_ l k).f1, .int .i64 (at_ l k).f2, .int .u32 (at_ l k).f3] 28)))
        have HR2 := Aside0.mk (Kd.R_below hR (below_alloc (Below.refl _ _) (.cells #[.int .i64 (at_ l k).f0, .int .i64 (at_ l k).f1, .int .i64 (at_ l k).f2, .int .u32 (at_ l k).f3] 28)))
        have HSTB := Aside0.mk (HWL.out.st k hlt)
        have HFOL := Aside0.mk (HWL.out.fol k hlt)
        have HBEH := Aside0.mk (fun W => behind_any (at_ l k) hwell.kn hiw.2.2.2 ⟨hwell.t0, hwell.t1⟩ ⟨hwell.f0, hwell.f1⟩ W)
        generalize hrw : (cellsL l k).getD k [] = row at *
        generalize hxx : at_ l k = x at *
        have HRW := Aside0.mk hrw
        clear hm hiw hwell hrw hxx hR hne
        go_wp2
        generalize hw2 : wr.alloc (.cells #[.int .i64 x.f0, .int .i64 x.f1, .int .i64 x.f2, .int .u32 x.f3] 28) = w2 at *
        have kg := HM2.out.rows.cell k hkc
        obtain ⟨v2, kv2, _, _⟩ := kg
        have kw2 : w2.cell? ⟨ob, k, none⟩ = some (.slice (some ⟨g, 0, none⟩) 16 c) := by rw [← hw2]; exact kva _
        clear kva kv2
        have HNEWS := Aside0.mk (show ∀ j u, (row.map Value.bool)[j]? = some u → w2.drew.cell? ((⟨g, 0, none⟩ : Addr).add j) = some u from fun j u hj => by
          rw [add0]
          have hjl : j < row.length := by
            rcases Nat.lt_or_ge j row.length with h | h
            · exact h
            · rw [List.getElem?_eq_none (by simpa using h)] at hj; cases hj
          have := (row_cell h16 HR2.out j (by omega)).1
          rw [List.getElem?_map, List.getElem?_eq_getElem hjl] at hj
          injection hj with hj
          subst hj
          refine this.trans ?_
          rw [List.getD_eq_getElem?_getD, List.getElem?_eq_getElem hjl]; rfl)
        go_still_tail 9, (by kernel_rfl)
        change wpList _ _ _ _ _ w2.drew
        refine wpList_append_grows w2.drew rfl (.tmp 42) (.tmp 46) 120 rfl 4 inf4 (.bool false) 1 1 Try.underlying120 hi4 hz0 hz1 hz2 rfl (by decide) (some ⟨g, 0, none⟩) 0 0 [] rfl (fun h => by cases h) rfl (fun b hb j u hj => by simp at hj) ⟨g, 0, none⟩ 16 c (row.map Value.bool) rfl (by rw [List.length_map, h16]) HNEWS.out (fun u hu => by obtain ⟨b, _, rfl⟩ := List.mem_map.1 hu; rfl) (by decide) (by decide) (by decide) ?_
        intro v1 w3 hown hg3
        have hown' : w3.ownsRow w2.heap.size 4 1 v1 row.length (row.map Value.bool) := by rw [h16]; simpa using hown
        have hR3 := R_of_own hown'
        obtain ⟨g1, c1, rfl, hg1, _⟩ := Kd.R_form hR3 (by omega)
        rw [h16] at hR3
        have HB3 := Aside0.mk (show Below w2.heap.size w2 w3 from ((Below.refl w2.heap.size w2).drew).grown hg3 (Nat.le_refl _) (by simp))
        have HR3 := Aside0.mk hR3
        have HM3 := Aside0.mk (HM2.out.below HB3.out)
        have HBX3 := Aside0.mk (blk_below HBX.out HB3.out)
        have kb3 := blk_cell HBX3.out
        have HG1 := Aside0.mk hg1
        have HWL2 := Aside0.mk (show w.heap.size ≤ w2.heap.size from below_size HM2.out.hb)
        rw [h16]
        clear hown hown' hR3 hg3 HNEWS kw2 hnl hi4 hz0 hz1 hz2 hg1
        have kb0 := kb3 0
        have kb1 := kb3 1
        have kb2 := kb3 2
        have kb4 := kb3 3
        clear kb3
        have HNL := Aside0.mk (show (nowL x row).length = 16 from by unfold nowL; split <;> simp [h16])
        rcases (show x.f0 = 2 ∨ x.f0 = 3 ∨ (x.f0 ≠ 2 ∧ x.f0 ≠ 3) by omega) with e2 | e3 | ⟨n2, n3⟩
        focus
          have hst := HSTB.out (by unfold stB; exact decide_eq_true (.inl e2))
          have ix0 := hst.1
          have ix1 := hst.2
          obtain ⟨kn, kf⟩ := row_cell h16 HR3.out x.f3.toNat (by omega)
          have HW4 := Aside0.mk (show MidC w (w3.setCell ⟨g1, x.f3.toNat, none⟩ (.bool true)) ob (cellsL l k) ∧ Kd.R Kd.bool 4 (w3.setCell ⟨g1, x.f3.toNat, none⟩ (.bool true)) w2.heap.size (fun _ => True) (.slice (some ⟨g1, 0, none⟩) 16 c1) (nowL x row) from
            ⟨HM2.out.below (HB3.out.setCell (p := ⟨g1, x.f3.toNat, none⟩) HG1.out _), by rw [nowL_st (.inl e2)]; exact Kd.R_putn HR3.out x.f3 true⟩)
          have d2 : (x.f0 == 2) = true := beq_iff_eq.2 e2
          have kz := Ne.symm (show wr.heap.size ≠ g1 from by have := HG1.out; have e : w2.heap.size = wr.heap.size + 1 := by rw [← hw2, World.size_alloc]
                                                             omega)
          clear hst e2
          generalize (nowL x row) = now at *
          go_wp2_with (go_at_call 101; refine (HBEH.out _).mono ?_; rintro e w5 ⟨v5, rfl, ho5, hb5⟩; have HM5 := Aside0.mk (HW4.out.1.below hb5); have HR5 := Aside0.mk (Kd.R_below HW4.out.2 hb5); clear hb5; obtain ⟨A5, c5, rfl⟩ := Kd.R_slice ho5; have HO5 := Aside0.mk (Kd.R_lower ho5 (below_size HW4.out.1.hb)); clear ho5 HW4)
        rotate_left
        focus
          have hst := HSTB.out (by unfold stB; exact decide_eq_true (.inr e3))
          have ix0 := hst.1
          have ix1 := hst.2
          obtain ⟨kn, kf⟩ := row_cell h16 HR3.out x.f3.toNat (by omega)
          have HW4 := Aside0.mk (show MidC w (w3.setCell ⟨g1, x.f3.toNat, none⟩ (.bool true)) ob (cellsL l k) ∧ Kd.R Kd.bool 4 (w3.setCell ⟨g1, x.f3.toNat, none⟩ (.bool true)) w2.heap.size (fun _ => True) (.slice (some ⟨g1, 0, none⟩) 16 c1) (nowL x row) from
            ⟨HM2.out.below (HB3.out.setCell (p := ⟨g1, x.f3.toNat, none⟩) HG1.out _), by rw [nowL_st (.inr e3)]; exact Kd.R_putn HR3.out x.f3 true⟩)
          have d2 : (x.f0 == 2) = false := beq_eq_false_iff_ne.2 (by omega)
          have d3 : (x.f0 == 3) = true := beq_iff_eq.2 e3
          have kz := Ne.symm (show wr.heap.size ≠ g1 from by have := HG1.out; have e : w2.heap.size = wr.heap.size + 1 := by rw [← hw2, World.size_alloc]
                                                             omega)
          clear hst e3
          generalize (nowL x row) = now at *
          go_wp2_with (go_at_call 101; refine (HBEH.out _).mono ?_; rintro e w5 ⟨v5, rfl, ho5, hb5⟩; have HM5 := Aside0.mk (HW4.out.1.below hb5); have HR5 := Aside0.mk (Kd.R_below HW4.out.2 hb5); clear hb5; obtain ⟨A5, c5, rfl⟩ := Kd.R_slice ho5; have HO5 := Aside0.mk (Kd.R_lower ho5 (below_size HW4.out.1.hb)); clear ho5 HW4)
        rotate_left
        focus
          have HW4 := Aside0.mk (show MidC w w3 ob (cellsL l k) ∧ Kd.R Kd.bool 4 w3 w2.heap.size (fun _ => True) (.slice (some ⟨g1, 0, none⟩) 16 c1) (nowL x row) from
            ⟨HM3.out, by rw [nowL_no (by omega)]; exact HR3.out⟩)
          have d2 : (x.f0 == 2) = false := beq_eq_false_iff_ne.2 n2
          have d3 : (x.f0 == 3) = false := beq_eq_false_iff_ne.2 n3
          clear n2 n3
          generalize (nowL x row) = now at *
          go_wp2_with (go_at_call 101; refine (HBEH.out _).mono ?_; rintro e w5 ⟨v5, rfl, ho5, hb5⟩; have HM5 := Aside0.mk (HW4.out.1.below hb5); have HR5 := Aside0.mk (Kd.R_below HW4.out.2 hb5); clear hb5; obtain ⟨A5, c5, rfl⟩ := Kd.R_slice ho5; have HO5 := Aside0.mk (Kd.R_lower ho5 (below_size HW4.out.1.hb)); clear ho5 HW4)
        rotate_left
        all_goals
          clear kb0 kb1 kb2 kb4
          clear HM3 HR3 HBX3 HBX HR2 HM2
          have hdl := folL_len x
          generalize hds : folL x = ds at *
          have HFO := Aside0.mk HFOL.out
          clear HFOL hds
          rw [List.length_map] at HO5
          go_loopw [63] (fun i w6 => ∃ j : Nat, j ≤ ds.length ∧ i = .int .i64 j ∧ Aside0 (MidC w w6 ob ((ds.take j).foldl (fun o d => putL o (k + d) now) (cellsL l k))) ∧ Aside0 (Kd.R Kd.bool 4 w6 w2.heap.size (fun _ => True) (.slice (some ⟨g1, 0, none⟩) 16 c1) now) ∧ Aside0 (Kd.R (Kd.int .i64) 3 w6 w.heap.size (fun _ => True) (.slice A5 ds.length c5) (ds.map fun d : Nat => (d : Int)))) (fun i _ => ds.length - (intOf i).toNat)
          case atStart => exact ⟨0, by omega, rfl, ⟨HM5.out⟩, ⟨HR5.out⟩, ⟨HO5.out⟩⟩
          case round =>
            clear HM5 HR5 HO5
            obtain ⟨j, hj, rfl, hm6, hr6, hc6⟩ := hrel
            by_cases hltj : j < ds.length
            · have hdj : decide ((j : Int) < (ds.length : Int)) = true := decide_eq_true (by omega)
              have hcc := (Kd.R_reads' hc6.out).2.2
              rw [List.length_map] at hcc
              obtain ⟨ad6, eA6, hcell⟩ := Kd.at_int hcc (j : Int) (by omega) (by omega)
              clear hcc
              subst eA6
              rw [Int.toNat_natCast] at hcell
              have hrd : rd (ds.map fun d : Nat => (d : Int)) (j : Int) = (ds[j] : Int) := by
                unfold rd; rw [Int.toNat_natCast, List.getD_eq_getElem?_getD, List.getElem?_map, List.getElem?_eq_getElem hltj]; rfl
              rw [hrd] at hcell
              have hin := HFO.out ds[j] (List.getElem_mem hltj)
              have HTF := Aside0.mk (take_fold (fun o d => putL o (k + d) now) (cellsL l k) ds j hltj)
              have hrl : ((ds.take j).foldl (fun o d => putL o (k + d) now) (cellsL l k)).length = l.length := by rw [fold_len, cells_len]
              generalize hdd : ds[j] = d at *
              clear hdd hrd
              generalize (ds.take j).foldl (fun o d => putL o (k + d) now) (cellsL l k) = R at *
              have ht1 : k + d < l.length := hin
              have it0 : (0 : Int) ≤ (k : Int) + (d : Int) := by omega
              have it1 : (k : Int) + (d : Int) < (l.length : Int) := by omega
              obtain ⟨v', kv', hrow', kf'⟩ := hm6.out.rows.cell (k + d) (by omega)
              obtain ⟨rv, HOB0, _⟩ := hm6.out.rows
              have HOB := Aside0.mk HOB0
              clear HOB0
              have HR7 := Aside0.mk (fun v => Kd.R_set hr6.out HOB.out (by decide) (k + d) v)
              have HC7 := Aside0.mk (fun v => Kd.R_set hc6.out HOB.out (by decide) (k + d) v)
              rcases hrow' with ⟨hnil', rfl⟩ | ⟨h16', g', c', rfl, hR'⟩
              · have HM7 := Aside0.mk (hm6.out.set (k + d) (show rowIs _ w.heap.size (.slice (some ⟨g1, 0, none⟩) 16 c1) now from .inr ⟨HNL.out, g1, c1, rfl, Kd.R_lower hr6.out HWL2.out⟩))
                have HP := Aside0.mk (putL_nil (now := now) hnil')
                clear hm6 hr6 hc6 hnil'
                go_wp2_with (go_at_call 102; refine (join_nil _ _ _ _).mono ?_; rintro e w7 ⟨rfl, rfl⟩)
                go_roundw
                case rel => exact ⟨j + 1, by omega, by go_num, ⟨by rw [HTF.out, HP.out]; exact HM7.out⟩, ⟨HR7.out _⟩, ⟨HC7.out _⟩⟩
                case measure => simp [intOf]; omega
              · have HJ := Aside0.mk (join_c (w := _) (ada := ⟨g', 0, none⟩) (adb := ⟨g1, 0, none⟩) (ca := c') (cb := c1) h16' HNL.out (fun i hi => by rw [add0]; exact (row_cell h16' hR' i hi).1) (fun i hi => by rw [add0]; exact (row_cell HNL.out hr6.out i hi).1))
                have hne' : R.getD (k + d) [] ≠ [] := fun e => by rw [e] at h16'; simp at h16'
                have HP := Aside0.mk (putL_some (now := now) hne')
                have HZL := Aside0.mk (show (List.zipWith (· && ·) (R.getD (k + d) []) now).length = 16 from by rw [List.length_zipWith, h16', HNL.out]; rfl)
                have HMF := Aside0.mk (fun (W : World) (hb : Below _ _ W) => hm6.out.below hb)
                have HRF := Aside0.mk (fun (W : World) (hb : Below _ _ W) => Kd.R_below hr6.out hb)
                have HCF := Aside0.mk (fun (W : World) (hb : Below _ _ W) => Kd.R_below hc6.out hb)
                have HBF := Aside0.mk (fun (W : World) (hb : Below _ _ W) => blk_below HOB.out hb)
                have hsz := Aside0.mk (below_size hm6.out.hb)
                clear hm6 hr6 hc6 hR' h16' hne' HR7 HC7
                go_wp2_with (go_at_call 102; refine HJ.out.mono ?_; rintro e w7 ⟨rfl, hx7, hb7⟩; have HM8 := Aside0.mk ((HMF.out _ hb7).set (k + d) (rowIs.of_block hsz.out hx7 HZL.out)); have HR8 := Aside0.mk (fun v => Kd.R_set (HRF.out _ hb7) (HBF.out _ hb7) (by decide) (k + d) v); have HC8 := Aside0.mk (fun v => Kd.R_set (HCF.out _ hb7) (HBF.out _ hb7) (by decide) (k + d) v); have kf7 := blk_frozen (HBF.out _ hb7) (k + d); have kv7 := pw_cell_below hb7 kv'; clear hx7 hb7 HMF HRF HCF HBF)
                go_roundw
                case rel => exact ⟨j + 1, by omega, by go_num, ⟨by rw [HTF.out, HP.out]; exact HM8.out⟩, ⟨HR8.out _⟩, ⟨HC8.out _⟩⟩
                case measure => simp [intOf]; omega
            · obtain rfl : j = ds.length := by omega
              have hdj : decide (((ds.length : Nat) : Int) < (ds.length : Int)) = false := decide_eq_false (by omega)
              have HMZ := Aside0.mk (show MidC w _ ob (cellsL l (k + 1)) from by
                rw [HST.out]
                have := hm6.out
                rw [List.take_of_length_le (Nat.le_refl _)] at this
                exact this)
              clear hm6 hr6 hc6
              go_wp2
              go_roundw
              case rel => exact ⟨k + 1, by omega, by go_num, ⟨HMZ.out⟩⟩
              case measure => simp [intOf]; omega
    · obtain rfl : k = l.length := by omega
      have hdk : decide (((l.length : Nat) : Int) < (l.length : Int)) = false := decide_eq_false (by omega)
      have HM := Aside0.mk hm.out
      clear hm
      go_wp2
      try rw [Exit.noGoto_ret]
      go_ret2
      exact ⟨ob, rfl, HM.out⟩
end Go.Proofs.Ytefkhcijgiagdaa.HCk
end
section
namespace Go.Proofs.Ytefkhcijgiagdaa.HCk
open Go.RowKit Go.Proofs.YtefkhcijgiagdaaW.PrintWords Go.Proofs.YtefkhcijgiagdaaW.PrintLast Go.Proofs.YtefkhcijgiagdaaW.PrintMore Go.Proofs.Ytefkhcijgiagdaa.HKnown Go.Proofs.Ytefkhcijgiagdaa.I1 Go.Proofs.Ytefkhcijgiagdaa.QVm Go.Proofs.Ytefkhcijgiagdaa.QLe Go.Proofs.Ytefkhcijgiagdaa.QCheck Go.Proofs.Ytefkhcijgiagdaa.K0
set_option linter.unusedVariables false
set_option linter.unusedSimpArgs false
set_option maxRecDepth 100000
attribute [local go_sem] max2_int min2_int max_two min_two IntKind.wrap_u32
theorem find_at : ∀ (l : List S28) (rows : List (List Bool)) (m k : Nat), k < l.length → (∀ j, j < k → loadB (at_ l j) (rows.getD (m + j) []) = false) → loadB (at_ l k) (rows.getD (m + k) []) = true → findB l rows m = some (m + k) := by
  intro l
  induction l with
  | nil => intro rows m k h; simp at h
  | cons i l ih =>
    intro rows m k hk hj hb
    unfold findB
    cases k with
    | zero =>
      have hb' : loadB i (rows.getD m []) = true := hb
      rw [if_pos hb']; rfl
    | succ k =>
      have h0 : loadB i (rows.getD m []) = false := hj 0 (by omega)
      rw [if_neg (by rw [h0]; decide)]
      have := ih rows (m + 1) k (by simpa using hk) (fun j hjk => by
        have := hj (j + 1) (by omega)
        rw [show m + (j + 1) = m + 1 + j by omega] at this
        exact this) (by rw [show m + (k + 1) = m + 1 + k by omega] at hb; exact hb)
      rw [this, show m + 1 + k = m + (k + 1) by omega]
def allR2 (o : Option Nat) : Int × Int := match o with | some k => ((k : Int), 51) | none => (0, 0)
theorem checkV_bad {l : List S28} (h : (allV l).2 ≠ 0) : checkV l = allV l := by unfold checkV; rw [if_neg h]
theorem checkV_good {l : List S28} (h : (allV l).2 = 0) : checkV l = allR2 (findB l (cellsL l l.length) 0) := by unfold checkV; exact if_pos h
theorem loadB_no {i : S28} {row : List Bool} (h : ¬ (i.f0 = 96 ∨ i.f0 = 97)) : loadB i row = false := by unfold loadB; rw [decide_eq_false h]; rfl
theorem loadB_nil {i : S28} : loadB i [] = false := by unfold loadB; simp
theorem loadB_some {i : S28} {row : List Bool} (h : i.f0 = 96 ∨ i.f0 = 97) (hr : row.length = 16) : loadB i row = !row.getD i.f3.toNat false := by
  unfold loadB
  rw [decide_eq_true h, Bool.true_and]
  cases row with
  | nil => simp at hr
  | cons a row => rfl
theorem MidC.drewN {w wr : World} {ob : Nat} {rows : List (List Bool)} (h : MidC w wr ob rows) (n : Nat) : MidC w (wr.drewN n) ob rows := h.below (pw_below_drewN (Below.refl _ _) n)
theorem MidC.lower {w w1 wr : World} {ob : Nat} {rows : List (List Bool)} (h : MidC w1 wr ob rows) (hb : Below w.heap.size w w1) : MidC w wr ob rows := by
  refine ⟨?_, below_step hb h.hb, Nat.le_trans (below_size hb) h.ho⟩
  obtain ⟨rv, q1, q2, q3⟩ := h.rows
  refine ⟨rv, q1, q2, fun j hj => ?_⟩
  rcases q3 j hj with q | ⟨q, g, c, e, hR⟩
  · exact .inl q
  · exact .inr ⟨q, g, c, e, Kd.R_lower hR (below_size hb)⟩
set_option maxHeartbeats 4000000 in
theorem check_bad {w : World} {A0 : Option Addr} {c0 : Nat} {l : List S28} (hC : Kd.C k28 w A0 l.length l) (hc0 : l.length ≤ c0) (hlen : l.length ≤ 100000) (hi : ∀ i ∈ l, IW i) (hb : (allV l).2 ≠ 0) :
    Calls Try.prog 54 #[.slice A0 l.length c0] w fun e w' => e = .returned (.tuple #[.int .i64 (allV l).1, .int .i64 (allV l).2]) ∧ Below w.heap.size w w' := by
  have h := all_c hC hc0 hlen hi
  have HH := Aside0.mk h
  generalize (allV l).2 = b at *
  generalize (allV l).1 = a at *
  have d0 : (b != 0) = true := bne_iff_ne.2 hb
  clear h hb hC hi
  go_enter Try.func54, Try.ntmps54
  go_wp2_with (go_at_call 99; refine HH.out.mono ?_; rintro e w1 ⟨rfl, hb1⟩; have HB1 := Aside0.mk hb1; clear hb1)
  go_ret2
  exact ⟨rfl, HB1.out⟩
set_option maxHeartbeats 4000000 in
theorem check_c {w : World} {A0 : Option Addr} {c0 : Nat} {l : List S28} (hC : Kd.C k28 w A0 l.length l) (hc0 : l.length ≤ c0) (hlen : l.length ≤ 100000) (hi : ∀ i ∈ l, IW i) (hb : (allV l).2 = 0) :
    Calls Try.prog 54 #[.slice A0 l.length c0] w fun e w' => e = .returned (.tuple #[.int .i64 (checkV l).1, .int .i64 (checkV l).2]) ∧ Below w.heap.size w w' := by
  have hall := all_c hC hc0 hlen hi
  have HCE := Aside0.mk (fun W (h : Kd.C k28 W A0 l.length l) => cells_c h hc0 hlen hi hb)
  obtain ⟨hl0, _, hf⟩ := (allV_ok l).1 hb
  have hw := (first_none l).1 hf
  rw [checkV_good hb]
  rw [hb] at hall
  generalize (allV l).1 = a1 at hall
  have HAL := Aside0.mk hall
  have HC := Aside0.mk hC
  have HI := Aside0.mk hi
  have HW := Aside0.mk hw
  have hu28 := Try.underlying28
  clear hall hC hi hb hf hw
  obtain ⟨ad0, eA0, _⟩ := at_T28 HC.out 0 (by omega) (by omega)
  subst eA0
  have HLC := Aside0.mk (cells_len l l.length)
  generalize hR : cellsL l l.length = R at *
  clear hR
  generalize hrr : allR2 (findB l R 0) = r
  have HR := Aside0.mk hrr
  clear hrr
  go_enter Try.func54, Try.ntmps54
  go_wp2_with (first | (go_at_call 99; refine HAL.out.mono ?_; rintro e w1 ⟨rfl, hb1⟩; have HB1 := Aside0.mk hb1; clear hb1) | (go_at_call 56; refine (HCE.out _ (Kd.C_below HC.out HB1.out)).mono ?_; rintro e w2 ⟨ob, rfl, hm2⟩; have HM2 := Aside0.mk (hm2.lower HB1.out); clear hm2))
  clear HCE HAL HB1
  go_loopw [26] (fun i wr => ∃ k : Nat, k ≤ l.length ∧ i = .int .i64 k ∧ Aside0 (MidC w wr ob R) ∧ Aside0 (∀ j, j < k → loadB (at_ l j) (R.getD (0 + j) []) = false)) (fun i _ => l.length - (intOf i).toNat)
  case atStart => exact ⟨0, by omega, rfl, ⟨HM2.out⟩, ⟨fun j hj => by omega⟩⟩
  case round =>
    clear HM2
    obtain ⟨k, hk, rfl, hm, hld⟩ := hrel
    by_cases hlt : k < l.length
    · have hdk : decide ((k : Int) < (l.length : Int)) = true := decide_eq_true (by omega)
      obtain ⟨ad2, eA, hx0, hx1, hx2, hx3⟩ := at_T28 (Kd.C_below HC.out hm.out.hb) (k : Int) (by omega) (by omega)
      obtain rfl := Option.some.inj eA
      clear eA
      rw [Int.toNat_natCast] at hx0 hx1 hx2 hx3
      have hiw := HI.out (at_ l k) (at_mem l k hlt)
      have hwell := (well_iff _ _).1 (HW.out k hlt)
      rw [rd_at] at hx0 hx1 hx2 hx3
      obtain ⟨v, kv, hrow, _⟩ := hm.out.rows.cell k (by rw [HLC.out]; exact hlt)
      have i0 : (0 : Int) ≤ (k : Int) := by omega
      have i1 : (k : Int) < (l.length : Int) := by omega
      have kva := fun o => pw_cell_below (below_alloc (Below.refl _ _) o) kv
      have HFA := Aside0.mk (find_at l R 0 k hlt hld.out)
      have HNX := Aside0.mk (show loadB (at_ l k) (R.getD (0 + k) []) = false → ∀ j, j < k + 1 → loadB (at_ l j) (R.getD (0 + j) []) = false from fun h j hj => by
        by_cases e : j = k
        · rw [e]; exact h
        · exact hld.out j (by omega))
      rw [Nat.zero_add] at HFA HNX
      have HM2 := Aside0.mk (fun o => hm.out.below (below_alloc (Below.refl _ _) o))
      have hcell := hwell.cell
      have h30 := hiw.2.2.2.1
      have HRX := Aside0.mk hrow
      have HMM := Aside0.mk hm.out
      clear hm hiw hwell hld
      generalize at_ l k = x at *
      generalize R.getD k [] = row at *
      by_cases hcode : x.f0 = 96 ∨ x.f0 = 97
      · have hk16 := hcell (by omega)
        clear hcell
        rcases hrow with ⟨rfl, rfl⟩ | ⟨h16, g, c, rfl, hRw⟩
        · have HNX2 := Aside0.mk (HNX.out loadB_nil)
          have hnl := fun W => run_neq_slice_nil_any (P := Try.prog) W 120 4 none 0 0 0 0 Try.underlying120
          clear HRX HMM HFA HNX
          rcases hcode with e | e
          · have d1 : (x.f0 == 96) = true := beq_iff_eq.2 e
            clear e
            go_wp2
            go_quiet (fail)
            go_wp2
            go_roundw
            case rel => exact ⟨k + 1, by omega, by go_num, ⟨(HM2.out _).drewN _⟩, ⟨HNX2.out⟩⟩
            case measure => simp [intOf]; omega
          · have d1 : (x.f0 == 96) = false := beq_eq_false_iff_ne.2 (by omega)
            have d2 : (x.f0 == 97) = true := beq_iff_eq.2 e
            clear e
            go_wp2
            go_quiet (fail)
            go_wp2
            go_roundw
            case rel => exact ⟨k + 1, by omega, by go_num, ⟨(HM2.out _).drewN _⟩, ⟨HNX2.out⟩⟩
            case measure => simp [intOf]; omega
        · have hnl := fun W => run_neq_slice_nil_any (P := Try.prog) W 120 4 (some ⟨g, 0, none⟩) 16 c 0 0 Try.underlying120
          have kb := fun o => pw_cell_below (below_alloc (Below.refl _ _) o) (row_cell h16 hRw x.f3.toNat (by omega)).1
          have HV := Aside0.mk (loadB_some (row := row) hcode h16)
          have j1 : x.f3 < 16 := hk16
          generalize row.getD x.f3.toNat false = b at *
          clear HRX HMM hRw
          cases b
          · have HRR := Aside0.mk (show r = ((k : Int), 51) by rw [← HR.out, HFA.out HV.out]; rfl)
            clear HFA HNX HV
            rcases hcode with e | e
            · have d1 : (x.f0 == 96) = true := beq_iff_eq.2 e
              clear e
              go_wp2
              go_quiet (fail)
              go_wp2
              rw [HRR.out]
              go_ret2
              exact ⟨rfl, ((HM2.out _).drewN _).hb⟩
            · have d1 : (x.f0 == 96) = false := beq_eq_false_iff_ne.2 (by omega)
              have d2 : (x.f0 == 97) = true := beq_iff_eq.2 e
              clear e
              go_wp2
              go_quiet (fail)
              go_wp2
              rw [HRR.out]
              go_ret2
              exact ⟨rfl, ((HM2.out _).drewN _).hb⟩
          · have HNX2 := Aside0.mk (HNX.out HV.out)
            clear HFA HNX HV
            rcases hcode with e | e
            · have d1 : (x.f0 == 96) = true := beq_iff_eq.2 e
              clear e
              go_wp2
              go_quiet (fail)
              go_wp2
              go_roundw
              case rel => exact ⟨k + 1, by omega, by go_num, ⟨(HM2.out _).drewN _⟩, ⟨HNX2.out⟩⟩
              case measure => simp [intOf]; omega
            · have d1 : (x.f0 == 96) = false := beq_eq_false_iff_ne.2 (by omega)
              have d2 : (x.f0 == 97) = true := beq_iff_eq.2 e
              clear e
              go_wp2
              go_quiet (fail)
              go_wp2
              go_roundw
              case rel => exact ⟨k + 1, by omega, by go_num, ⟨(HM2.out _).drewN _⟩, ⟨HNX2.out⟩⟩
              case measure => simp [intOf]; omega
      · have HNX2 := Aside0.mk (HNX.out (loadB_no hcode))
        have d1 : (x.f0 == 96) = false := beq_eq_false_iff_ne.2 (by omega)
        have d2 : (x.f0 == 97) = false := beq_eq_false_iff_ne.2 (by omega)
        clear hcell HRX HMM HFA HNX hrow
        go_wp2
        go_quiet (fail)
        go_wp2
        go_roundw
        case rel => exact ⟨k + 1, by omega, by go_num, ⟨(HM2.out _).drewN _⟩, ⟨HNX2.out⟩⟩
        case measure => simp [intOf]; omega
    · obtain rfl : k = l.length := by omega
      have hdk : decide (((l.length : Nat) : Int) < (l.length : Int)) = false := decide_eq_false (by omega)
      have HRR := Aside0.mk (show r = (0, 0) by rw [← HR.out, (find_none l R 0).2 hld.out]; rfl)
      have HB := Aside0.mk hm.out.hb
      clear hm hld
      go_wp2
      rw [HRR.out]
      go_ret2
      exact ⟨rfl, HB.out⟩
instance (x : Int) : Decidable (U x) := inferInstanceAs (Decidable (_ ∧ _))
instance (i : S28) : Decidable (IW i) := inferInstanceAs (Decidable (_ ∧ _ ∧ _ ∧ _))
def check_Check.f (l0 : List S28) : Option (Int × Int) := if l0.length ≤ 100000 ∧ (∀ i ∈ l0, IW i) then some (checkV l0) else none
theorem check_Check.calls (A0 : Option Addr) (c0 : Nat) (l0 : List (S28)) (r1 : Int) (r2 : Int) (w : World) (hr0 : Kd.C k28 w A0 l0.length l0) (hc0 : l0.length ≤ c0) (h : check_Check.f l0 = some (r1, r2)) :
    Calls Try.prog 54 #[.slice A0 l0.length c0] w fun e w' => e = .returned (.tuple #[.int .i64 r1, .int .i64 r2]) ∧ Below w.heap.size w w' := by
  unfold check_Check.f at h
  split at h
  · rename_i hc
    have h := Option.some.inj h
    by_cases hb : (allV l0).2 = 0
    · have := check_c hr0 hc0 hc.1 hc.2 hb
      rw [h] at this
      exact this
    · have := check_bad hr0 hc0 hc.1 hc.2 hb
      rw [← checkV_bad hb, h] at this
      exact this
  · cases h
def cellsV (l : List S28) : List (List Bool) × Int := if (allV l).2 = 0 then (cellsL l l.length, 0) else ([], (allV l).2)
def check_Cells.f (l0 : List S28) : Option (List (List Bool) × Int) := if l0.length ≤ 100000 ∧ (∀ i ∈ l0, IW i) then some (cellsV l0) else none
theorem rows_R {w wr : World} {ob : Nat} {rows : List (List Bool)} (h : MidC w wr ob rows) (hl : rows.length ≤ 100000) : Kd.R (Kd.slice 4 Kd.bool) 120 wr w.heap.size (fun _ => True) (.slice (some ⟨ob, 0, none⟩) rows.length rows.length) rows := by
  obtain ⟨rv, h1, h2, h3⟩ := h.rows
  refine ⟨fun _ _ => trivial, rv, ⟨by show rv.length = rows.length * 1; omega, .inr ⟨ob, rows.length, _, rfl, h.ho, h1, Nat.le_refl _, by unfold maxLen; omega, by show rv.toArray.size = rows.length * 1; simp; omega, by show List.take (rows.length * 1) rv = rv; exact List.take_of_length_le (by omega)⟩⟩, by show rv.length = rows.length * 1; omega, fun j p hj => ?_⟩
  have hjl : j < rows.length := by
    rcases Nat.lt_or_ge j rows.length with h | h
    · exact h
    · rw [List.getElem?_eq_none h] at hj; cases hj
  have hp : rows.getD j [] = p := by rw [List.getD_eq_getElem?_getD, hj]; rfl
  have hr := h3 j hjl
  rw [hp] at hr
  have e : List.take 1 (List.drop (j * 1) rv) = [rv.getD j undef] := by
    rw [Nat.mul_one, List.drop_eq_getElem_cons (by omega), List.getD_eq_getElem?_getD, List.getElem?_eq_getElem (by omega)]
    rfl
  show ∃ v, List.take 1 (List.drop (j * 1) rv) = [v] ∧ _
  refine ⟨_, e, ?_⟩
  rcases hr with ⟨rfl, e2⟩ | ⟨h16, g, c, e2, hR⟩
  · rw [e2]; exact Kd.R_nil _ _ _ _ _
  · refine Kd.R_mono (Kd.R_types hR h1 (by decide)) (fun k hk => ⟨trivial, ?_⟩)
    intro e3
    exact hk.2 (by simpa [Value.ownBlock] using e3)
theorem check_Cells.calls (A0 : Option Addr) (c0 : Nat) (l0 : List (S28)) (r1 : List (List Bool)) (r2 : Int) (w : World) (hr0 : Kd.C k28 w A0 l0.length l0) (hc0 : l0.length ≤ c0) (h : check_Cells.f l0 = some (r1, r2)) :
    Calls Try.prog 56 #[.slice A0 l0.length c0] w fun e w' => ∃ v0_ : Value, e = .returned (.tuple #[v0_, .int .i64 r2]) ∧ Kd.R (Kd.slice 4 Kd.bool) 120 w' w.heap.size (fun _ => True) v0_ r1 ∧ Below w.heap.size w w' := by
  unfold check_Cells.f cellsV at h
  split at h
  · rename_i hc
    have h := Option.some.inj h
    by_cases hb : (allV l0).2 = 0
    · rw [if_pos hb] at h
      obtain ⟨rfl, rfl⟩ := Prod.mk.inj h
      refine (cells_c hr0 hc0 hc.1 hc.2 hb).mono ?_
      rintro e w' ⟨ob, rfl, hm⟩
      have := rows_R hm (by rw [cells_len]; exact hc.1)
      rw [cells_len] at this
      exact ⟨_, rfl, this, hm.hb⟩
    · rw [if_neg hb] at h
      obtain ⟨rfl, rfl⟩ := Prod.mk.inj h
      refine (cells_bad hr0 hc0 hc.1 hc.2 hb).mono ?_
      rintro e w' ⟨rfl, hb'⟩
      exact ⟨_, rfl, Kd.R_nil _ _ _ _ _, hb'⟩
  · cases h
end Go.Proofs.Ytefkhcijgiagdaa.HCk
end
section
namespace Go.Proofs.Ytefkhcijgiagdaa.K3
open Go.RowKit Go.Proofs.YtefkhcijgiagdaaW.PrintWords Go.Proofs.YtefkhcijgiagdaaW.PrintLast Go.Proofs.YtefkhcijgiagdaaW.PrintMore
attribute [local go_sem] max2_int min2_int max_two min_two max_three min_three max_four min_four IntKind.wrap_u32 IntKind.wrap_u8   -- for this text's walks alone
set_option linter.unusedVariables false
open Go.Proofs.Ytefkhcijgiagdaa.Le Go.Proofs.Ytefkhcijgiagdaa.HKnown Go.Proofs.Ytefkhcijgiagdaa.HPut Go.Proofs.Ytefkhcijgiagdaa.I1 Go.Proofs.Ytefkhcijgiagdaa.E1 Go.Proofs.Ytefkhcijgiagdaa.HAsm Go.Proofs.Ytefkhcijgiagdaa.E2 Go.Proofs.Ytefkhcijgiagdaa.HAll Go.Proofs.Ytefkhcijgiagdaa.V0 Go.Proofs.Ytefkhcijgiagdaa.HVm Go.Proofs.Ytefkhcijgiagdaa.K0 Go.Proofs.Ytefkhcijgiagdaa.HCk
set_option linter.unusedSimpArgs false
def errW : Option Int → Value
  | none => .nilIface
  | some c => .iface 0 (.int .i64 c)
theorem errW_none : errW none = .nilIface := rfl
theorem errW_some (c : Int) : errW (some c) = .iface 0 (.int .i64 c) := rfl
end Go.Proofs.Ytefkhcijgiagdaa.K3
end
section
namespace Go.Proofs.Ytefkhcijgiagdaa.K3
open Go.RowKit Go.Proofs.YtefkhcijgiagdaaW.PrintWords Go.Proofs.YtefkhcijgiagdaaW.PrintLast Go.Proofs.YtefkhcijgiagdaaW.PrintMore
attribute [local go_sem] max2_int min2_int max_two min_two max_three min_three max_four min_four IntKind.wrap_u32 IntKind.wrap_u8   -- for this text's walks alone
set_option linter.unusedVariables false
open Go.Proofs.Ytefkhcijgiagdaa.Le Go.Proofs.Ytefkhcijgiagdaa.HKnown Go.Proofs.Ytefkhcijgiagdaa.HPut Go.Proofs.Ytefkhcijgiagdaa.I1 Go.Proofs.Ytefkhcijgiagdaa.E1 Go.Proofs.Ytefkhcijgiagdaa.HAsm Go.Proofs.Ytefkhcijgiagdaa.E2 Go.Proofs.Ytefkhcijgiagdaa.HAll Go.Proofs.Ytefkhcijgiagdaa.V0 Go.Proofs.Ytefkhcijgiagdaa.HVm Go.Proofs.Ytefkhcijgiagdaa.K0 Go.Proofs.Ytefkhcijgiagdaa.HCk
set_option linter.unusedSimpArgs false
def doorwardlaw12_alive.f  : Option (Bool) := (check_Check.f (([(⟨6, 0, 0, 0⟩ : S28)] : List (S28)))).bind fun bt104 => ((check_Check.f ([] : List (S28))).bind fun bt106 => (if bt104.2 = 0 then (some (bt106.2 == 51)) else (some false)))
set_option maxHeartbeats 8000000 in
set_option maxRecDepth 100000 in
theorem doorwardlaw12_alive.calls  (r : Bool) (w : World) (h : doorwardlaw12_alive.f  = some r) :
    Calls Try.prog 58 #[] w fun e w' => e = .returned (.bool r) ∧ Below w.heap.size w w' := by
  have hu28 := Try.underlying28
  have HB := Aside0.mk (Below.refl w.heap.size w)
  have H : ((check_Check.f (([(⟨6, 0, 0, 0⟩ : S28)] : List (S28)))).bind fun bt104 => ((check_Check.f ([] : List (S28))).bind fun bt106 => (if bt104.2 = 0 then (some (bt106.2 == 51)) else (some false)))) = some r := h
  clear h
  obtain ⟨y101, hy101⟩ : ∃ y_ : List (S28), y_ = (([(⟨6, 0, 0, 0⟩ : S28)] : List (S28))) := ⟨_, rfl⟩
  replace H : ((check_Check.f y101).bind fun bt104 => ((check_Check.f ([] : List (S28))).bind fun bt106 => (if bt104.2 = 0 then (some (bt106.2 == 51)) else (some false)))) = some r := by first | (rw [hy101]; with_reducible exact H) | (have H2_ := (Option.bind_some _ _).symm.trans H; rw [hy101]; with_reducible exact H2_) | (have H2_ := (Option.bind_some _ _).symm.trans H; with_reducible exact H2_) | with_reducible exact H | (rw [hy101]; exact H) | exact H
  have Ny101 := Aside0.mk hy101
  clear hy101
  replace H := Option.bind_eq_some_iff.mp H
  obtain ⟨⟨t104, t105⟩, A10, H⟩ := H
  replace H : ((check_Check.f ([] : List (S28))).bind fun bt106 => (if t105 = 0 then (some (bt106.2 == 51)) else (some false))) = some r := H
  have A1 := Aside0.mk A10
  clear A10
  replace H := Option.bind_eq_some_iff.mp H
  obtain ⟨⟨t106, t107⟩, A20, H⟩ := H
  replace H : (if t105 = 0 then (some (t107 == 51)) else (some false)) = some r := H
  have A2 := Aside0.mk A20
  clear A20
  by_cases c3 : t105 = 0
  · rw [if_pos c3] at H
    have c3b0 : (t105 == 0) = true := beq_iff_eq.mpr c3
    have c3b1 : (t105 != 0) = false := bne_eq_false_iff_eq.mpr c3
    clear c3
    obtain rfl := Option.some.inj H
    go_enter Try.func58, Try.ntmps58
    go_wp2_with (first | ((with_reducible refine gate_dst (N := 7) rfl ?_); refine Kd.R_lit k28 _ 28 ?hg (N := 7) ?hd (xs := ([(⟨6, 0, 0, 0⟩ : S28)] : List (S28))) (inner := [.int .i64 6, .int .i64 0, .int .i64 0, .int .u32 0]) (ok := fun _ => True) (okp := fun _ => True) ?hr ?hp (fun _ hk => hk) trivial (Below.refl _ _) (Nat.le_refl _) (by simp) ?_; (case hd => rfl); (case hg => rfl); (case hr => first | (go_simp; done) | (go_simp; rfl)); (case hp => exact (Reps.c4 (show Kd.M k28 _ _ _ (⟨6, 0, 0, 0⟩ : S28) [.int .i64 6, .int .i64 0, .int .i64 0, .int .u32 0] from (k28_mkM _ _ _ (⟨6, 0, 0, 0⟩ : S28) )) (Reps.none _ _))); intro v102 w4 ho5 hb hg_ hnew_; clear hg_ hnew_; (first | rw [← Ny101.out] at ho5 | (simp only [Int.reduceToNat] at ho5; rw [← Ny101.out] at ho5)); have n0_ := Aside0.mk (Kd.R_lower ho5 (below_size (by repeat (first | (with_reducible first | exact HB.out | apply below_alloc | apply pw_below_drewN | apply below_drew1) | exact HB.out)))); have n1_ := Aside0.mk (below_step (by repeat (first | (with_reducible first | exact HB.out | apply below_alloc | apply pw_below_drewN | apply below_drew1) | exact HB.out)) hb); clear HB; have HO103 := n0_; have HB := n1_; clear n0_ n1_; clear hb ho5; obtain ⟨Ao6, co6, eo6⟩ := Kd.R_slice HO103.out; subst eo6) | ((with_reducible refine gate_callee (f := 54) rfl ?_); refine goesL_ (some 8) rfl rfl Try.func54 (by kernel_rfl) rfl #[.slice Ao6 y101.length co6] rfl (by (try simp only [List.map_toArray, List.map_cons, List.map_nil]); first | done | rfl | (simp only [List.length_drop, List.length_take]; rfl)) ?_; (with_reducible refine (check_Check.calls _ _ y101 t104 t105 _ ?side1 ?side2 A1.out).mono ?_); (case side1 => repeat (first | exact (Kd.R_reads' HO103.out).2.2 | (with_reducible refine Kd.C_alloc ?_ _) | (with_reducible refine Kd.C_drewN ?_ _) | (with_reducible refine Kd.C_drew ?_))); (case side2 => exact (Kd.R_reads' HO103.out).2.1); rintro e w7 ⟨rfl, hb⟩; refine ⟨_, rfl, ?_⟩; have n0_ := Aside0.mk (Kd.R_below (by (with_reducible repeat (first | apply Kd.R_alloc | apply Kd.R_drewN | apply Kd.R_drew)); exact HO103.out) hb); have n1_ := Aside0.mk (below_step (by repeat (first | (with_reducible first | exact HB.out | apply below_alloc | apply pw_below_drewN | apply below_drew1) | exact HB.out)) hb); clear HO103; clear HB; have HO103 := n0_; have HB := n1_; clear n0_ n1_; (try clear hb); (try clear hb2); (try clear hk); (try clear hi)) | ((with_reducible refine gate_callee (f := 54) rfl ?_); refine goesL_ (some 12) rfl rfl Try.func54 (by kernel_rfl) rfl #[.slice none 0 0] rfl (by (try simp only [List.map_toArray, List.map_cons, List.map_nil]); first | done | rfl | (simp only [List.length_drop, List.length_take]; rfl)) ?_; (refine (check_Check.calls _ _ ([] : List (S28)) t106 t107 _ ?side1 ?side2 A2.out).mono ?_); (case side1 => exact Kd.C_nil _ _); (case side2 => exact Nat.le_refl _); rintro e w8 ⟨rfl, hb⟩; refine ⟨_, rfl, ?_⟩; have n0_ := Aside0.mk (Kd.R_below (by (with_reducible repeat (first | apply Kd.R_alloc | apply Kd.R_drewN | apply Kd.R_drew)); exact HO103.out) hb); have n1_ := Aside0.mk (below_step (by repeat (first | (with_reducible first | exact HB.out | apply below_alloc | apply pw_below_drewN | apply below_drew1) | exact HB.out)) hb); clear HO103; clear HB; have HO103 := n0_; have HB := n1_; clear n0_ n1_; (try clear hb); (try clear hb2); (try clear hk); (try clear hi)))
    go_ret
    exact ⟨by first | rfl | (simp [errW_none, errW_some] <;> rfl) | (simp [*, errW_none, errW_some] <;> rfl), by repeat (first | (with_reducible first | exact HB.out | apply below_alloc | apply pw_below_drewN | apply below_drew1) | exact HB.out)⟩
  · rw [if_neg c3] at H
    have c3b0 : (t105 == 0) = false := beq_eq_false_iff_ne.mpr c3
    have c3b1 : (t105 != 0) = true := bne_iff_ne.mpr c3
    obtain rfl := Option.some.inj H
    go_enter Try.func58, Try.ntmps58
    go_wp2_with (first | ((with_reducible refine gate_dst (N := 7) rfl ?_); refine Kd.R_lit k28 _ 28 ?hg (N := 7) ?hd (xs := ([(⟨6, 0, 0, 0⟩ : S28)] : List (S28))) (inner := [.int .i64 6, .int .i64 0, .int .i64 0, .int .u32 0]) (ok := fun _ => True) (okp := fun _ => True) ?hr ?hp (fun _ hk => hk) trivial (Below.refl _ _) (Nat.le_refl _) (by simp) ?_; (case hd => rfl); (case hg => rfl); (case hr => first | (go_simp; done) | (go_simp; rfl)); (case hp => exact (Reps.c4 (show Kd.M k28 _ _ _ (⟨6, 0, 0, 0⟩ : S28) [.int .i64 6, .int .i64 0, .int .i64 0, .int .u32 0] from (k28_mkM _ _ _ (⟨6, 0, 0, 0⟩ : S28) )) (Reps.none _ _))); intro v102 w9 ho10 hb hg_ hnew_; clear hg_ hnew_; (first | rw [← Ny101.out] at ho10 | (simp only [Int.reduceToNat] at ho10; rw [← Ny101.out] at ho10)); have n0_ := Aside0.mk (Kd.R_lower ho10 (below_size (by repeat (first | (with_reducible first | exact HB.out | apply below_alloc | apply pw_below_drewN | apply below_drew1) | exact HB.out)))); have n1_ := Aside0.mk (below_step (by repeat (first | (with_reducible first | exact HB.out | apply below_alloc | apply pw_below_drewN | apply below_drew1) | exact HB.out)) hb); clear HB; have HO103 := n0_; have HB := n1_; clear n0_ n1_; clear hb ho10; obtain ⟨Ao11, co11, eo11⟩ := Kd.R_slice HO103.out; subst eo11) | ((with_reducible refine gate_callee (f := 54) rfl ?_); refine goesL_ (some 8) rfl rfl Try.func54 (by kernel_rfl) rfl #[.slice Ao11 y101.length co11] rfl (by (try simp only [List.map_toArray, List.map_cons, List.map_nil]); first | done | rfl | (simp only [List.length_drop, List.length_take]; rfl)) ?_; (with_reducible refine (check_Check.calls _ _ y101 t104 t105 _ ?side1 ?side2 A1.out).mono ?_); (case side1 => repeat (first | exact (Kd.R_reads' HO103.out).2.2 | (with_reducible refine Kd.C_alloc ?_ _) | (with_reducible refine Kd.C_drewN ?_ _) | (with_reducible refine Kd.C_drew ?_))); (case side2 => exact (Kd.R_reads' HO103.out).2.1); rintro e w12 ⟨rfl, hb⟩; refine ⟨_, rfl, ?_⟩; have n0_ := Aside0.mk (Kd.R_below (by (with_reducible repeat (first | apply Kd.R_alloc | apply Kd.R_drewN | apply Kd.R_drew)); exact HO103.out) hb); have n1_ := Aside0.mk (below_step (by repeat (first | (with_reducible first | exact HB.out | apply below_alloc | apply pw_below_drewN | apply below_drew1) | exact HB.out)) hb); clear HO103; clear HB; have HO103 := n0_; have HB := n1_; clear n0_ n1_; (try clear hb); (try clear hb2); (try clear hk); (try clear hi)) | ((with_reducible refine gate_callee (f := 54) rfl ?_); refine goesL_ (some 12) rfl rfl Try.func54 (by kernel_rfl) rfl #[.slice none 0 0] rfl (by (try simp only [List.map_toArray, List.map_cons, List.map_nil]); first | done | rfl | (simp only [List.length_drop, List.length_take]; rfl)) ?_; (refine (check_Check.calls _ _ ([] : List (S28)) t106 t107 _ ?side1 ?side2 A2.out).mono ?_); (case side1 => exact Kd.C_nil _ _); (case side2 => exact Nat.le_refl _); rintro e w13 ⟨rfl, hb⟩; refine ⟨_, rfl, ?_⟩; have n0_ := Aside0.mk (Kd.R_below (by (with_reducible repeat (first | apply Kd.R_alloc | apply Kd.R_drewN | apply Kd.R_drew)); exact HO103.out) hb); have n1_ := Aside0.mk (below_step (by repeat (first | (with_reducible first | exact HB.out | apply below_alloc | apply pw_below_drewN | apply below_drew1) | exact HB.out)) hb); clear HO103; clear HB; have HO103 := n0_; have HB := n1_; clear n0_ n1_; (try clear hb); (try clear hb2); (try clear hk); (try clear hi)))
    go_ret
    exact ⟨by first | rfl | (simp [errW_none, errW_some] <;> rfl) | (simp [*, errW_none, errW_some] <;> rfl), by repeat (first | (with_reducible first | exact HB.out | apply below_alloc | apply pw_below_drewN | apply below_drew1) | exact HB.out)⟩
end Go.Proofs.Ytefkhcijgiagdaa.K3
end
section
namespace Go.Proofs.Ytefkhcijgiagdaa.PCheckStores
open Go.RowKit Go.Proofs.YtefkhcijgiagdaaW.PrintWords Go.Proofs.YtefkhcijgiagdaaW.PrintLast Go.Proofs.YtefkhcijgiagdaaW.PrintMore
attribute [local go_sem] max2_int min2_int max_two min_two max_three min_three max_four min_four IntKind.wrap_u32 IntKind.wrap_u8   -- for this text's walks alone
set_option linter.unusedVariables false
open Go.Proofs.Ytefkhcijgiagdaa.Le Go.Proofs.Ytefkhcijgiagdaa.HKnown Go.Proofs.Ytefkhcijgiagdaa.HPut Go.Proofs.Ytefkhcijgiagdaa.I1 Go.Proofs.Ytefkhcijgiagdaa.E1 Go.Proofs.Ytefkhcijgiagdaa.HAsm Go.Proofs.Ytefkhcijgiagdaa.E2 Go.Proofs.Ytefkhcijgiagdaa.HAll Go.Proofs.Ytefkhcijgiagdaa.V0 Go.Proofs.Ytefkhcijgiagdaa.HVm Go.Proofs.Ytefkhcijgiagdaa.K0 Go.Proofs.Ytefkhcijgiagdaa.HCk Go.Proofs.Ytefkhcijgiagdaa.K3
set_option linter.unusedSimpArgs false
def errW : Option Int → Value
  | none => .nilIface
  | some c => .iface 0 (.int .i64 c)
theorem errW_none : errW none = .nilIface := rfl
theorem errW_some (c : Int) : errW (some c) = .iface 0 (.int .i64 c) := rfl
end Go.Proofs.Ytefkhcijgiagdaa.PCheckStores
end
section
namespace Go.Proofs.Ytefkhcijgiagdaa.PCheckStores
open Go.RowKit Go.Proofs.YtefkhcijgiagdaaW.PrintWords Go.Proofs.YtefkhcijgiagdaaW.PrintLast Go.Proofs.YtefkhcijgiagdaaW.PrintMore
attribute [local go_sem] max2_int min2_int max_two min_two max_three min_three max_four min_four IntKind.wrap_u32 IntKind.wrap_u8   -- for this text's walks alone
set_option linter.unusedVariables false
open Go.Proofs.Ytefkhcijgiagdaa.Le Go.Proofs.Ytefkhcijgiagdaa.HKnown Go.Proofs.Ytefkhcijgiagdaa.HPut Go.Proofs.Ytefkhcijgiagdaa.I1 Go.Proofs.Ytefkhcijgiagdaa.E1 Go.Proofs.Ytefkhcijgiagdaa.HAsm Go.Proofs.Ytefkhcijgiagdaa.E2 Go.Proofs.Ytefkhcijgiagdaa.HAll Go.Proofs.Ytefkhcijgiagdaa.V0 Go.Proofs.Ytefkhcijgiagdaa.HVm Go.Proofs.Ytefkhcijgiagdaa.K0 Go.Proofs.Ytefkhcijgiagdaa.HCk Go.Proofs.Ytefkhcijgiagdaa.K3
set_option linter.unusedSimpArgs false
def doorwardlaw12_CheckStores.l0 : Nat → List (S28) → Int → List (S28) → Int → Option (Bool)
  | 0, _, _, _, _ => none
  | k + 1, x0, x4, x5, x21 => if x21 < 16 then (if x5.length < 4398046511104 then (doorwardlaw12_CheckStores.l0 k x0 x4 (x5 ++ [(⟨2, 0, 0, (x21) % 4294967296⟩ : S28)]) (wrap64 (x21 + 1))) else (none)) else (if x5.length + x0.length < 4398046511104 then ((check_Check.f (x5 ++ x0)).bind fun bt115 => ((check_Check.f x0).bind fun bt117 => ((doorwardlaw12_alive.f).bind fun t119 => (if t119 = true then (if ((x4 == 0) == (bt115.2 == 0)) = true then (if bt117.2 = 0 then (some (x4 == 0)) else (some true)) else (some false)) else (some false))))) else (none))
def doorwardlaw12_CheckStores.f (k : Nat) (l0 : List (S28)) : Option (Bool) := if 0 ≤ (mn (l0.length : Int) 60) then (if (mn (l0.length : Int) 60) ≤ (l0.length : Int) then ((some (l0.take ((mn (l0.length : Int) 60) : Int).toNat : List (S28))).bind fun y101 => ((check_Cells.f y101).bind fun bt105 => (doorwardlaw12_CheckStores.l0 k y101 bt105.2 ([] : List (S28)) 0))) else (none)) else (none)
set_option maxHeartbeats 8000000 in
set_option maxRecDepth 100000 in
theorem doorwardlaw12_CheckStores.calls (k : Nat) (A0 : Option Addr) (c0 : Nat) (l0 : List (S28)) (r : Bool) (w : World) (hr0 : Kd.C k28 w A0 l0.length l0) (hc0 : l0.length ≤ c0) (h : doorwardlaw12_CheckStores.f k l0 = some r) :
    Calls Try.prog 15 #[.slice A0 l0.length c0] w fun e w' => e = .returned (.bool r) ∧ Below w.heap.size w w' := by
  have hu28 := Try.underlying28
  have HR0 := Aside0.mk hr0
  have HC0 := Aside0.mk hc0
  clear hr0 hc0
  have HB := Aside0.mk (Below.refl w.heap.size w)
  have H : (if 0 ≤ (mn (l0.length : Int) 60) then (if (mn (l0.length : Int) 60) ≤ (l0.length : Int) then ((some (l0.take ((mn (l0.length : Int) 60) : Int).toNat : List (S28))).bind fun y101 => ((check_Cells.f y101).bind fun bt105 => (doorwardlaw12_CheckStores.l0 k y101 bt105.2 ([] : List (S28)) 0))) else (none)) else (none)) = some r := h
  clear h
  obtain ⟨ji2, hji2⟩ : ∃ j_ : Int, (mn (l0.length : Int) 60) = j_ := ⟨_, rfl⟩
  replace H : (if 0 ≤ (ji2) then (if (ji2) ≤ (l0.length : Int) then ((some (l0.take ((ji2) : Int).toNat : List (S28))).bind fun y101 => ((check_Cells.f y101).bind fun bt105 => (doorwardlaw12_CheckStores.l0 k y101 bt105.2 ([] : List (S28)) 0))) else (none)) else (none)) = some r := by first | (rw [hji2] at H; exact H) | (simp only [hji2] at H ⊢; exact H)
  (try (have hji2h : ji2 ≤ 60 := by (rw [← hji2]; unfold mn; (repeat' split) <;> omega)))
  (try (have hji2g : ji2 ≤ 64 := by omega))
  (try (have hji2l : 0 ≤ ji2 := by (rw [← hji2]; unfold mn; (repeat' split) <;> omega)))
  (try (have hji2m : 0 ≤ ji2 := by omega))
  have hji2_ : (if 60 < (l0.length : Int) then 60 else (l0.length : Int)) = ji2 := hji2
  by_cases c3 : 0 ≤ (ji2)
  · rw [if_pos c3] at H
    have c3b0 := eq_true c3
    have c3b1 : decide (0 ≤ (ji2)) = true := decide_eq_true c3
    clear c3
    by_cases c4 : (ji2) ≤ (l0.length : Int)
    · rw [if_pos c4] at H
      have c4b0 := eq_true c4
      have c4b1 : decide ((ji2) ≤ (l0.length : Int)) = true := decide_eq_true c4
      clear c4
      obtain ⟨y101, hy101⟩ : ∃ y_ : List (S28), y_ = (l0.take ((ji2) : Int).toNat) := ⟨_, rfl⟩
      replace H : ((check_Cells.f y101).bind fun bt105 => (doorwardlaw12_CheckStores.l0 k y101 bt105.2 ([] : List (S28)) 0)) = some r := by first | (rw [hy101]; with_reducible exact H) | (have H2_ := (Option.bind_some _ _).symm.trans H; rw [hy101]; with_reducible exact H2_) | (have H2_ := (Option.bind_some _ _).symm.trans H; with_reducible exact H2_) | with_reducible exact H | (rw [hy101]; exact H) | exact H
      have Ny101 := Aside0.mk hy101
      clear hy101
      replace H := Option.bind_eq_some_iff.mp H
      obtain ⟨⟨t105, t106⟩, A50, H⟩ := H
      replace H : (doorwardlaw12_CheckStores.l0 k y101 t106 ([] : List (S28)) 0) = some r := H
      have A5 := Aside0.mk A50
      clear A50
      have H' := Aside0.mk H
      clear H
      have q6 : ((ji2) : Int) ≤ ((l0.length : Int) : Int) := of_decide_eq_true (by first | (with_reducible assumption) | assumption)
      obtain ⟨i06, hi06, _, hsz6, _⟩ := info_parts info28
      have hroom6 : l0.length ≤ c0 := HC0.out
      have hC6 : Kd.C k28 _ A0 l0.length l0 := HR0.out
      have hcut6 := cut_to (P := Try.prog) 34 28 .i64 Try.underlying34 hi06 A0 l0.length c0 (ji2) (of_decide_eq_true (by first | (with_reducible assumption) | assumption)) q6 hroom6
      have hr6 := Kd.C_take (m := ((ji2) : Int).toNat) hC6 (by omega)
      have hy6 : y101.length = ((ji2) : Int).toNat := (by rw [Ny101.out, List.length_take]; omega)
      rw [← Ny101.out] at hr6
      rw [← hy6] at hcut6
      have HR104 := Aside0.mk hr6
      have HC104 := Aside0.mk (show y101.length ≤ c0 from by omega)
      clear hr6 hC6 hroom6 hi06 hsz6
      have KY6 := Aside0.mk hy6
      clear hy6
      replace q6 := eq_true q6
      go_enter Try.func15, Try.ntmps15
      go_wp2_with (first | ((with_reducible refine gate_callee (f := 56) rfl ?_); refine goesL_ (some 18) rfl rfl Try.func56 (by kernel_rfl) rfl #[.slice A0 y101.length c0] rfl (by (try simp only [List.map_toArray, List.map_cons, List.map_nil]); first | done | rfl | (simp only [List.length_drop, List.length_take]; rfl)) ?_; (with_reducible refine (check_Cells.calls _ _ y101 t105 t106 _ ?side1 ?side2 A5.out).mono ?_); (case side1 => repeat (first | exact HR104.out | (with_reducible refine Kd.C_alloc ?_ _) | (with_reducible refine Kd.C_drewN ?_ _) | (with_reducible refine Kd.C_drew ?_))); (case side2 => exact HC104.out); rintro e w7 ⟨v107, rfl, ho0, hb⟩; refine ⟨_, rfl, ?_⟩; have n0_ := Aside0.mk (Kd.R_lower ho0 (below_size (by repeat (first | (with_reducible first | exact HB.out | apply below_alloc | apply pw_below_drewN | apply below_drew1) | exact HB.out)))); have n1_ := Aside0.mk (below_step (by repeat (first | (with_reducible first | exact HB.out | apply below_alloc | apply pw_below_drewN | apply below_drew1) | exact HB.out)) hb); clear HB; have HO108 := n0_; have HB := n1_; clear n0_ n1_; (try clear hb); (try clear hb2); (try clear hk); (try clear hi); (try clear ho0)))
      go_loopg [5, 21] k (fun kq v5 v21 w' => ∃ (x5_1 : List (S28)) (x21_1 : Int), v21 = .int .i64 x21_1 ∧ Aside0 (doorwardlaw12_CheckStores.l0 kq y101 t106 x5_1 x21_1 = some r) ∧ Aside0 (kq ≤ k) ∧ Aside0 (Kd.R k28 28 w' w.heap.size (fun _ => True) v5 x5_1) ∧ Aside0 (Below w.heap.size w w'))
      case atStart => exact ⟨(([] : List (S28))), (0), (by first | rfl | (simp; done) | (simp [*]; done)), H', ⟨Nat.le_refl _⟩, ⟨by first | exact Kd.R_nil _ _ _ _ _ | exact Kd.N_nil _ _ _ _ _ | exact Kd.V_nil _ _ _ _ _ | exact Kd.Q_nil _ _ _ _ _ | exact Kd.S_nil _ _ _ _ _⟩, ⟨by repeat (first | (with_reducible first | exact HB.out | apply below_alloc | apply pw_below_drewN | apply below_drew1) | exact HB.out)⟩⟩
      case round =>
        clear H'
        try clear c1
        try clear p2
        try clear c3
        try clear c3b0
        try clear c3b1
        try clear c4
        try clear c4b0
        try clear c4b1
        try clear c5
        try clear q6
        try clear q6
        obtain ⟨x5_1, x21_1, rfl, HA, HK1, HO_5, HB⟩ := hrel
        cases gk with
        | zero => exact absurd HA.out (by simp [doorwardlaw12_CheckStores.l0])
        | succ k1 =>
          have H := HA.out
          clear HA
          simp only [doorwardlaw12_CheckStores.l0] at H
          by_cases c8 : x21_1 < 16
          · rw [if_pos c8] at H
            have c8b0 : decide (x21_1 < 16) = true := decide_eq_true c8
            clear c8
            by_cases c9 : x5_1.length < 4398046511104
            · rw [if_pos c9] at H
              have LMc9 := Aside0.mk c9
              clear c9
              obtain ⟨y109, hy109⟩ : ∃ y_ : List (S28), y_ = (x5_1 ++ [(⟨2, 0, 0, (x21_1) % 4294967296⟩ : S28)]) := ⟨_, rfl⟩
              replace H : (doorwardlaw12_CheckStores.l0 k1 y101 t106 y109 (wrap64 (x21_1 + 1))) = some r := by first | (rw [hy109]; with_reducible exact H) | (have H2_ := (Option.bind_some _ _).symm.trans H; rw [hy109]; with_reducible exact H2_) | (have H2_ := (Option.bind_some _ _).symm.trans H; with_reducible exact H2_) | with_reducible exact H | (rw [hy109]; exact H) | exact H
              have Ny109 := Aside0.mk hy109
              clear hy109
              have H' := Aside0.mk H
              clear H
              go_wp2_with (first | ((with_reducible refine gate_builtin (b := .append) (xs := #[.tmp 24, .tmp 28]) rfl ?_); at_builtin; refine Kd.R_append k28 (w0 := w) w.heap.size rfl (.tmp 24) (.tmp 28) 34 28 (.agg #[(.int .i64 0), (.int .i64 0), (.int .i64 0), (.int .u32 0)]) 32 rfl Try.underlying34 info28 rfl (by decide) (by omega) u5 x5_1 (⟨2, 0, 0, (x21_1) % 4294967296⟩ : S28) [.int .i64 2, .int .i64 0, .int .i64 0, .int .u32 ((x21_1) % 4294967296)] (fun _ => True) (fun _ => False) rfl rfl ?aP (fun _ hk => hk.elim) ?aF ?aO ?aB ?aS ?aL ?_; (case aP => exact k28_mkM _ _ _ (⟨2, 0, 0, (x21_1) % 4294967296⟩ : S28)); (case aB => exact (by repeat (first | (with_reducible first | exact HB.out | apply below_alloc | apply pw_below_drewN | apply below_drew1) | exact HB.out))); (case aF => exact (fun _ _ => trivial)); (case aO => exact (by (with_reducible repeat (first | apply Kd.R_alloc | apply Kd.R_drewN | apply Kd.R_drew)); exact HO_5.out)); (case aS => exact (below_size (by repeat (first | (with_reducible first | exact HB.out | apply below_alloc | apply pw_below_drewN | apply below_drew1) | exact HB.out)))); (case aL => have := LMc9.out; omega); intro v110 w10 ho hb hg hat; rw [← Ny109.out] at ho; have n0_ := Aside0.mk (hb); have n1_ := Aside0.mk (ho); clear HB; clear HO_5; have HB := n0_; have HO111 := n1_; clear n0_ n1_; clear ho hb hg hat))
              go_roundg k1
              case measure => have := HK1.out; omega
              case rel => exact ⟨(y109), (wrap64 (x21_1 + 1)), (by first | rfl | (simp; done) | (simp [*]; done)), H', ⟨by have := HK1.out; omega⟩, ⟨by (with_reducible repeat (first | apply Kd.R_alloc | apply Kd.R_drewN | apply Kd.R_drew)); exact HO111.out⟩, ⟨by repeat (first | (with_reducible first | exact HB.out | apply below_alloc | apply pw_below_drewN | apply below_drew1) | exact HB.out)⟩⟩
            · rw [if_neg c9] at H
              exact absurd H (by simp)
          · rw [if_neg c8] at H
            have c8b0 : decide (x21_1 < 16) = false := decide_eq_false c8
            clear c8
            by_cases c11 : x5_1.length + y101.length < 4398046511104
            · rw [if_pos c11] at H
              have LMc11 := Aside0.mk c11
              clear c11
              obtain ⟨y112, hy112⟩ : ∃ y_ : List (S28), y_ = (x5_1 ++ y101) := ⟨_, rfl⟩
              replace H : ((check_Check.f y112).bind fun bt115 => ((check_Check.f y101).bind fun bt117 => ((doorwardlaw12_alive.f).bind fun t119 => (if t119 = true then (if ((t106 == 0) == (bt115.2 == 0)) = true then (if bt117.2 = 0 then (some (t106 == 0)) else (some true)) else (some false)) else (some false))))) = some r := by first | (rw [hy112]; with_reducible exact H) | (have H2_ := (Option.bind_some _ _).symm.trans H; rw [hy112]; with_reducible exact H2_) | (have H2_ := (Option.bind_some _ _).symm.trans H; with_reducible exact H2_) | with_reducible exact H | (rw [hy112]; exact H) | exact H
              have Ny112 := Aside0.mk hy112
              clear hy112
              replace H := Option.bind_eq_some_iff.mp H
              obtain ⟨⟨t115, t116⟩, A120, H⟩ := H
              replace H : ((check_Check.f y101).bind fun bt117 => ((doorwardlaw12_alive.f).bind fun t119 => (if t119 = true then (if ((t106 == 0) == (t116 == 0)) = true then (if bt117.2 = 0 then (some (t106 == 0)) else (some true)) else (some false)) else (some false)))) = some r := H
              have A12 := Aside0.mk A120
              clear A120
              replace H := Option.bind_eq_some_iff.mp H
              obtain ⟨⟨t117, t118⟩, A130, H⟩ := H
              replace H : ((doorwardlaw12_alive.f).bind fun t119 => (if t119 = true then (if ((t106 == 0) == (t116 == 0)) = true then (if t118 = 0 then (some (t106 == 0)) else (some true)) else (some false)) else (some false))) = some r := H
              have A13 := Aside0.mk A130
              clear A130
              replace H := Option.bind_eq_some_iff.mp H
              obtain ⟨t119, A140, H⟩ := H
              replace H : (if t119 = true then (if ((t106 == 0) == (t116 == 0)) = true then (if t118 = 0 then (some (t106 == 0)) else (some true)) else (some false)) else (some false)) = some r := H
              have A14 := Aside0.mk A140
              clear A140
              by_cases c15 : t119 = true
              · subst c15
                have H1 : (if ((t106 == 0) == (t116 == 0)) = true then (if t118 = 0 then (some (t106 == 0)) else (some true)) else (some false)) = some r := by rw [if_pos rfl] at H; exact H
                clear H
                have H := H1
                clear H1
                by_cases c16 : ((t106 == 0) == (t116 == 0)) = true
                · rw [if_pos c16] at H
                  have c16b0 : ((t106 == 0) == (t116 == 0)) = true := c16
                  (try (have c16b1 : decide ((t106 == 0) = (t116 == 0)) = true := by simpa using c16))
                  (try (have c16b2 : ((t106 == 0) == (t116 == 0)) = true := by simpa using c16))
                  clear c16
                  by_cases c17 : t118 = 0
                  · rw [if_pos c17] at H
                    have c17b0 : (t118 == 0) = true := beq_iff_eq.mpr c17
                    have c17b1 : (t118 != 0) = false := bne_eq_false_iff_eq.mpr c17
                    clear c17
                    obtain rfl := Option.some.inj H
                    go_wp2_with (first | ((with_reducible refine gate_builtin (b := .append) (xs := #[.tmp 32, .tmp 33]) rfl ?_); at_builtin; (try (refine gate_guard (by rfl) ?_; dsimp only)); refine Kd.R_append_rows k28 (w0 := w) w.heap.size rfl (.tmp 32) (.tmp 33) 34 28 (.agg #[(.int .i64 0), (.int .i64 0), (.int .i64 0), (.int .u32 0)]) 32 rfl Try.underlying34 info28 rfl (by decide) (by omega) u5 x5_1 y101 _ _ _ (fun _ => True) (fun _ => False) rfl rfl ?aO ?aR (fun _ _ h => h) (fun _ h => h.elim) ?aF ?aB ?aS ?aL ?_; (case aR => repeat (first | exact (Kd.C_below HR104.out HB.out) | (with_reducible refine Kd.C_alloc ?_ _) | (with_reducible refine Kd.C_drewN ?_ _) | (with_reducible refine Kd.C_drew ?_))); (case aB => exact (by repeat (first | (with_reducible first | exact HB.out | apply below_alloc | apply pw_below_drewN | apply below_drew1) | exact HB.out))); (case aF => exact (fun _ _ => trivial)); (case aO => exact (by (with_reducible repeat (first | apply Kd.R_alloc | apply Kd.R_drewN | apply Kd.R_drew)); exact HO_5.out)); (case aS => exact (below_size (by repeat (first | (with_reducible first | exact HB.out | apply below_alloc | apply pw_below_drewN | apply below_drew1) | exact HB.out)))); (case aL => have := LMc11.out; omega); intro v113 w18 ho hb hg hat; rw [← Ny112.out] at ho; have n0_ := Aside0.mk (hb); have n1_ := Aside0.mk (ho); clear HB; clear HO_5; have HB := n0_; have HO114 := n1_; clear n0_ n1_; clear ho hb hg hat; obtain ⟨Ao19, co19, eo19⟩ := Kd.R_slice HO114.out; subst eo19) | ((with_reducible refine gate_callee (f := 54) rfl ?_); refine goesL_ (some 35) rfl rfl Try.func54 (by kernel_rfl) rfl #[.slice Ao19 y112.length co19] rfl (by (try simp only [List.map_toArray, List.map_cons, List.map_nil]); first | done | rfl | (simp only [List.length_drop, List.length_take]; rfl)) ?_; (with_reducible refine (check_Check.calls _ _ y112 t115 t116 _ ?side1 ?side2 A12.out).mono ?_); (case side1 => repeat (first | exact (Kd.R_reads' HO114.out).2.2 | (with_reducible refine Kd.C_alloc ?_ _) | (with_reducible refine Kd.C_drewN ?_ _) | (with_reducible refine Kd.C_drew ?_))); (case side2 => exact (Kd.R_reads' HO114.out).2.1); rintro e w20 ⟨rfl, hb⟩; refine ⟨_, rfl, ?_⟩; have n0_ := Aside0.mk (Kd.R_below (by (with_reducible repeat (first | apply Kd.R_alloc | apply Kd.R_drewN | apply Kd.R_drew)); exact HO114.out) hb); have n1_ := Aside0.mk (below_step (by repeat (first | (with_reducible first | exact HB.out | apply below_alloc | apply pw_below_drewN | apply below_drew1) | exact HB.out)) hb); clear HO114; clear HB; have HO114 := n0_; have HB := n1_; clear n0_ n1_; (try clear hb); (try clear hb2); (try clear hk); (try clear hi)) | ((with_reducible refine gate_callee (f := 54) rfl ?_); refine goesL_ (some 40) rfl rfl Try.func54 (by kernel_rfl) rfl #[.slice A0 y101.length c0] rfl (by (try simp only [List.map_toArray, List.map_cons, List.map_nil]); first | done | rfl | (simp only [List.length_drop, List.length_take]; rfl)) ?_; (with_reducible refine (check_Check.calls _ _ y101 t117 t118 _ ?side1 ?side2 A13.out).mono ?_); (case side1 => repeat (first | exact (Kd.C_below HR104.out HB.out) | (with_reducible refine Kd.C_alloc ?_ _) | (with_reducible refine Kd.C_drewN ?_ _) | (with_reducible refine Kd.C_drew ?_))); (case side2 => exact HC104.out); rintro e w21 ⟨rfl, hb⟩; refine ⟨_, rfl, ?_⟩; have n0_ := Aside0.mk (Kd.R_below (by (with_reducible repeat (first | apply Kd.R_alloc | apply Kd.R_drewN | apply Kd.R_drew)); exact HO114.out) hb); have n1_ := Aside0.mk (below_step (by repeat (first | (with_reducible first | exact HB.out | apply below_alloc | apply pw_below_drewN | apply below_drew1) | exact HB.out)) hb); clear HO114; clear HB; have HO114 := n0_; have HB := n1_; clear n0_ n1_; (try clear hb); (try clear hb2); (try clear hk); (try clear hi)) | ((with_reducible refine gate_callee (f := 58) rfl ?_); refine goesL_ (some 43) rfl rfl Try.func58 (by kernel_rfl) rfl #[] rfl (by (try simp only [List.map_toArray, List.map_cons, List.map_nil]); first | done | rfl | (simp only [List.length_drop, List.length_take]; rfl)) ?_; (with_reducible refine (doorwardlaw12_alive.calls  true _ A14.out).mono ?_); rintro e w22 ⟨rfl, hb⟩; refine ⟨_, rfl, ?_⟩; have n0_ := Aside0.mk (Kd.R_below (by (with_reducible repeat (first | apply Kd.R_alloc | apply Kd.R_drewN | apply Kd.R_drew)); exact HO114.out) hb); have n1_ := Aside0.mk (below_step (by repeat (first | (with_reducible first | exact HB.out | apply below_alloc | apply pw_below_drewN | apply below_drew1) | exact HB.out)) hb); clear HO114; clear HB; have HO114 := n0_; have HB := n1_; clear n0_ n1_; (try clear hb); (try clear hb2); (try clear hk); (try clear hi)))
                    go_ret
                    exact ⟨by first | rfl | (simp [errW_none, errW_some] <;> rfl) | (simp only [← hji2]; first | rfl | (simp [errW_none, errW_some] <;> rfl)) | (simp [*, errW_none, errW_some] <;> rfl), by repeat (first | (with_reducible first | exact HB.out | apply below_alloc | apply pw_below_drewN | apply below_drew1) | exact HB.out)⟩
                  · rw [if_neg c17] at H
                    have c17b0 : (t118 == 0) = false := beq_eq_false_iff_ne.mpr c17
                    have c17b1 : (t118 != 0) = true := bne_iff_ne.mpr c17
                    obtain rfl := Option.some.inj H
                    go_wp2_with (first | ((with_reducible refine gate_builtin (b := .append) (xs := #[.tmp 32, .tmp 33]) rfl ?_); at_builtin; (try (refine gate_guard (by rfl) ?_; dsimp only)); refine Kd.R_append_rows k28 (w0 := w) w.heap.size rfl (.tmp 32) (.tmp 33) 34 28 (.agg #[(.int .i64 0), (.int .i64 0), (.int .i64 0), (.int .u32 0)]) 32 rfl Try.underlying34 info28 rfl (by decide) (by omega) u5 x5_1 y101 _ _ _ (fun _ => True) (fun _ => False) rfl rfl ?aO ?aR (fun _ _ h => h) (fun _ h => h.elim) ?aF ?aB ?aS ?aL ?_; (case aR => repeat (first | exact (Kd.C_below HR104.out HB.out) | (with_reducible refine Kd.C_alloc ?_ _) | (with_reducible refine Kd.C_drewN ?_ _) | (with_reducible refine Kd.C_drew ?_))); (case aB => exact (by repeat (first | (with_reducible first | exact HB.out | apply below_alloc | apply pw_below_drewN | apply below_drew1) | exact HB.out))); (case aF => exact (fun _ _ => trivial)); (case aO => exact (by (with_reducible repeat (first | apply Kd.R_alloc | apply Kd.R_drewN | apply Kd.R_drew)); exact HO_5.out)); (case aS => exact (below_size (by repeat (first | (with_reducible first | exact HB.out | apply below_alloc | apply pw_below_drewN | apply below_drew1) | exact HB.out)))); (case aL => have := LMc11.out; omega); intro v113 w23 ho hb hg hat; rw [← Ny112.out] at ho; have n0_ := Aside0.mk (hb); have n1_ := Aside0.mk (ho); clear HB; clear HO_5; have HB := n0_; have HO114 := n1_; clear n0_ n1_; clear ho hb hg hat; obtain ⟨Ao24, co24, eo24⟩ := Kd.R_slice HO114.out; subst eo24) | ((with_reducible refine gate_callee (f := 54) rfl ?_); refine goesL_ (some 35) rfl rfl Try.func54 (by kernel_rfl) rfl #[.slice Ao24 y112.length co24] rfl (by (try simp only [List.map_toArray, List.map_cons, List.map_nil]); first | done | rfl | (simp only [List.length_drop, List.length_take]; rfl)) ?_; (with_reducible refine (check_Check.calls _ _ y112 t115 t116 _ ?side1 ?side2 A12.out).mono ?_); (case side1 => repeat (first | exact (Kd.R_reads' HO114.out).2.2 | (with_reducible refine Kd.C_alloc ?_ _) | (with_reducible refine Kd.C_drewN ?_ _) | (with_reducible refine Kd.C_drew ?_))); (case side2 => exact (Kd.R_reads' HO114.out).2.1); rintro e w25 ⟨rfl, hb⟩; refine ⟨_, rfl, ?_⟩; have n0_ := Aside0.mk (Kd.R_below (by (with_reducible repeat (first | apply Kd.R_alloc | apply Kd.R_drewN | apply Kd.R_drew)); exact HO114.out) hb); have n1_ := Aside0.mk (below_step (by repeat (first | (with_reducible first | exact HB.out | apply below_alloc | apply pw_below_drewN | apply below_drew1) | exact HB.out)) hb); clear HO114; clear HB; have HO114 := n0_; have HB := n1_; clear n0_ n1_; (try clear hb); (try clear hb2); (try clear hk); (try clear hi)) | ((with_reducible refine gate_callee (f := 54) rfl ?_); refine goesL_ (some 40) rfl rfl Try.func54 (by kernel_rfl) rfl #[.slice A0 y101.length c0] rfl (by (try simp only [List.map_toArray, List.map_cons, List.map_nil]); first | done | rfl | (simp only [List.length_drop, List.length_take]; rfl)) ?_; (with_reducible refine (check_Check.calls _ _ y101 t117 t118 _ ?side1 ?side2 A13.out).mono ?_); (case side1 => repeat (first | exact (Kd.C_below HR104.out HB.out) | (with_reducible refine Kd.C_alloc ?_ _) | (with_reducible refine Kd.C_drewN ?_ _) | (with_reducible refine Kd.C_drew ?_))); (case side2 => exact HC104.out); rintro e w26 ⟨rfl, hb⟩; refine ⟨_, rfl, ?_⟩; have n0_ := Aside0.mk (Kd.R_below (by (with_reducible repeat (first | apply Kd.R_alloc | apply Kd.R_drewN | apply Kd.R_drew)); exact HO114.out) hb); have n1_ := Aside0.mk (below_step (by repeat (first | (with_reducible first | exact HB.out | apply below_alloc | apply pw_below_drewN | apply below_drew1) | exact HB.out)) hb); clear HO114; clear HB; have HO114 := n0_; have HB := n1_; clear n0_ n1_; (try clear hb); (try clear hb2); (try clear hk); (try clear hi)) | ((with_reducible refine gate_callee (f := 58) rfl ?_); refine goesL_ (some 43) rfl rfl Try.func58 (by kernel_rfl) rfl #[] rfl (by (try simp only [List.map_toArray, List.map_cons, List.map_nil]); first | done | rfl | (simp only [List.length_drop, List.length_take]; rfl)) ?_; (with_reducible refine (doorwardlaw12_alive.calls  true _ A14.out).mono ?_); rintro e w27 ⟨rfl, hb⟩; refine ⟨_, rfl, ?_⟩; have n0_ := Aside0.mk (Kd.R_below (by (with_reducible repeat (first | apply Kd.R_alloc | apply Kd.R_drewN | apply Kd.R_drew)); exact HO114.out) hb); have n1_ := Aside0.mk (below_step (by repeat (first | (with_reducible first | exact HB.out | apply below_alloc | apply pw_below_drewN | apply below_drew1) | exact HB.out)) hb); clear HO114; clear HB; have HO114 := n0_; have HB := n1_; clear n0_ n1_; (try clear hb); (try clear hb2); (try clear hk); (try clear hi)))
                    go_ret
                    exact ⟨by first | rfl | (simp [errW_none, errW_some] <;> rfl) | (simp only [← hji2]; first | rfl | (simp [errW_none, errW_some] <;> rfl)) | (simp [*, errW_none, errW_some] <;> rfl), by repeat (first | (with_reducible first | exact HB.out | apply below_alloc | apply pw_below_drewN | apply below_drew1) | exact HB.out)⟩
                · rw [if_neg c16] at H
                  have c16b0 : ((t106 == 0) == (t116 == 0)) = false := by simpa using c16
                  (try (have c16b1 : decide ((t106 == 0) = (t116 == 0)) = false := by simpa using c16))
                  (try (have c16b2 : ((t106 == 0) == (t116 == 0)) = false := by simpa using c16))
                  (try (have c16b3 : ¬ ((t106 == 0) = (t116 == 0)) := by simpa using c16))
                  clear c16
                  obtain rfl := Option.some.inj H
                  go_wp2_with (first | ((with_reducible refine gate_builtin (b := .append) (xs := #[.tmp 32, .tmp 33]) rfl ?_); at_builtin; (try (refine gate_guard (by rfl) ?_; dsimp only)); refine Kd.R_append_rows k28 (w0 := w) w.heap.size rfl (.tmp 32) (.tmp 33) 34 28 (.agg #[(.int .i64 0), (.int .i64 0), (.int .i64 0), (.int .u32 0)]) 32 rfl Try.underlying34 info28 rfl (by decide) (by omega) u5 x5_1 y101 _ _ _ (fun _ => True) (fun _ => False) rfl rfl ?aO ?aR (fun _ _ h => h) (fun _ h => h.elim) ?aF ?aB ?aS ?aL ?_; (case aR => repeat (first | exact (Kd.C_below HR104.out HB.out) | (with_reducible refine Kd.C_alloc ?_ _) | (with_reducible refine Kd.C_drewN ?_ _) | (with_reducible refine Kd.C_drew ?_))); (case aB => exact (by repeat (first | (with_reducible first | exact HB.out | apply below_alloc | apply pw_below_drewN | apply below_drew1) | exact HB.out))); (case aF => exact (fun _ _ => trivial)); (case aO => exact (by (with_reducible repeat (first | apply Kd.R_alloc | apply Kd.R_drewN | apply Kd.R_drew)); exact HO_5.out)); (case aS => exact (below_size (by repeat (first | (with_reducible first | exact HB.out | apply below_alloc | apply pw_below_drewN | apply below_drew1) | exact HB.out)))); (case aL => have := LMc11.out; omega); intro v113 w28 ho hb hg hat; rw [← Ny112.out] at ho; have n0_ := Aside0.mk (hb); have n1_ := Aside0.mk (ho); clear HB; clear HO_5; have HB := n0_; have HO114 := n1_; clear n0_ n1_; clear ho hb hg hat; obtain ⟨Ao29, co29, eo29⟩ := Kd.R_slice HO114.out; subst eo29) | ((with_reducible refine gate_callee (f := 54) rfl ?_); refine goesL_ (some 35) rfl rfl Try.func54 (by kernel_rfl) rfl #[.slice Ao29 y112.length co29] rfl (by (try simp only [List.map_toArray, List.map_cons, List.map_nil]); first | done | rfl | (simp only [List.length_drop, List.length_take]; rfl)) ?_; (with_reducible refine (check_Check.calls _ _ y112 t115 t116 _ ?side1 ?side2 A12.out).mono ?_); (case side1 => repeat (first | exact (Kd.R_reads' HO114.out).2.2 | (with_reducible refine Kd.C_alloc ?_ _) | (with_reducible refine Kd.C_drewN ?_ _) | (with_reducible refine Kd.C_drew ?_))); (case side2 => exact (Kd.R_reads' HO114.out).2.1); rintro e w30 ⟨rfl, hb⟩; refine ⟨_, rfl, ?_⟩; have n0_ := Aside0.mk (Kd.R_below (by (with_reducible repeat (first | apply Kd.R_alloc | apply Kd.R_drewN | apply Kd.R_drew)); exact HO114.out) hb); have n1_ := Aside0.mk (below_step (by repeat (first | (with_reducible first | exact HB.out | apply below_alloc | apply pw_below_drewN | apply below_drew1) | exact HB.out)) hb); clear HO114; clear HB; have HO114 := n0_; have HB := n1_; clear n0_ n1_; (try clear hb); (try clear hb2); (try clear hk); (try clear hi)) | ((with_reducible refine gate_callee (f := 54) rfl ?_); refine goesL_ (some 40) rfl rfl Try.func54 (by kernel_rfl) rfl #[.slice A0 y101.length c0] rfl (by (try simp only [List.map_toArray, List.map_cons, List.map_nil]); first | done | rfl | (simp only [List.length_drop, List.length_take]; rfl)) ?_; (with_reducible refine (check_Check.calls _ _ y101 t117 t118 _ ?side1 ?side2 A13.out).mono ?_); (case side1 => repeat (first | exact (Kd.C_below HR104.out HB.out) | (with_reducible refine Kd.C_alloc ?_ _) | (with_reducible refine Kd.C_drewN ?_ _) | (with_reducible refine Kd.C_drew ?_))); (case side2 => exact HC104.out); rintro e w31 ⟨rfl, hb⟩; refine ⟨_, rfl, ?_⟩; have n0_ := Aside0.mk (Kd.R_below (by (with_reducible repeat (first | apply Kd.R_alloc | apply Kd.R_drewN | apply Kd.R_drew)); exact HO114.out) hb); have n1_ := Aside0.mk (below_step (by repeat (first | (with_reducible first | exact HB.out | apply below_alloc | apply pw_below_drewN | apply below_drew1) | exact HB.out)) hb); clear HO114; clear HB; have HO114 := n0_; have HB := n1_; clear n0_ n1_; (try clear hb); (try clear hb2); (try clear hk); (try clear hi)) | ((with_reducible refine gate_callee (f := 58) rfl ?_); refine goesL_ (some 43) rfl rfl Try.func58 (by kernel_rfl) rfl #[] rfl (by (try simp only [List.map_toArray, List.map_cons, List.map_nil]); first | done | rfl | (simp only [List.length_drop, List.length_take]; rfl)) ?_; (with_reducible refine (doorwardlaw12_alive.calls  true _ A14.out).mono ?_); rintro e w32 ⟨rfl, hb⟩; refine ⟨_, rfl, ?_⟩; have n0_ := Aside0.mk (Kd.R_below (by (with_reducible repeat (first | apply Kd.R_alloc | apply Kd.R_drewN | apply Kd.R_drew)); exact HO114.out) hb); have n1_ := Aside0.mk (below_step (by repeat (first | (with_reducible first | exact HB.out | apply below_alloc | apply pw_below_drewN | apply below_drew1) | exact HB.out)) hb); clear HO114; clear HB; have HO114 := n0_; have HB := n1_; clear n0_ n1_; (try clear hb); (try clear hb2); (try clear hk); (try clear hi)))
                  go_ret
                  exact ⟨by first | rfl | (simp [errW_none, errW_some] <;> rfl) | (simp only [← hji2]; first | rfl | (simp [errW_none, errW_some] <;> rfl)) | (simp [*, errW_none, errW_some] <;> rfl), by repeat (first | (with_reducible first | exact HB.out | apply below_alloc | apply pw_below_drewN | apply below_drew1) | exact HB.out)⟩
              · replace c15 := Bool.eq_false_iff.mpr c15
                subst c15
                have H1 : (some false) = some r := by rw [if_neg (show ¬ (false = true) by decide)] at H; exact H
                clear H
                have H := H1
                clear H1
                obtain rfl := Option.some.inj H
                go_wp2_with (first | ((with_reducible refine gate_builtin (b := .append) (xs := #[.tmp 32, .tmp 33]) rfl ?_); at_builtin; (try (refine gate_guard (by rfl) ?_; dsimp only)); refine Kd.R_append_rows k28 (w0 := w) w.heap.size rfl (.tmp 32) (.tmp 33) 34 28 (.agg #[(.int .i64 0), (.int .i64 0), (.int .i64 0), (.int .u32 0)]) 32 rfl Try.underlying34 info28 rfl (by decide) (by omega) u5 x5_1 y101 _ _ _ (fun _ => True) (fun _ => False) rfl rfl ?aO ?aR (fun _ _ h => h) (fun _ h => h.elim) ?aF ?aB ?aS ?aL ?_; (case aR => repeat (first | exact (Kd.C_below HR104.out HB.out) | (with_reducible refine Kd.C_alloc ?_ _) | (with_reducible refine Kd.C_drewN ?_ _) | (with_reducible refine Kd.C_drew ?_))); (case aB => exact (by repeat (first | (with_reducible first | exact HB.out | apply below_alloc | apply pw_below_drewN | apply below_drew1) | exact HB.out))); (case aF => exact (fun _ _ => trivial)); (case aO => exact (by (with_reducible repeat (first | apply Kd.R_alloc | apply Kd.R_drewN | apply Kd.R_drew)); exact HO_5.out)); (case aS => exact (below_size (by repeat (first | (with_reducible first | exact HB.out | apply below_alloc | apply pw_below_drewN | apply below_drew1) | exact HB.out)))); (case aL => have := LMc11.out; omega); intro v113 w33 ho hb hg hat; rw [← Ny112.out] at ho; have n0_ := Aside0.mk (hb); have n1_ := Aside0.mk (ho); clear HB; clear HO_5; have HB := n0_; have HO114 := n1_; clear n0_ n1_; clear ho hb hg hat; obtain ⟨Ao34, co34, eo34⟩ := Kd.R_slice HO114.out; subst eo34) | ((with_reducible refine gate_callee (f := 54) rfl ?_); refine goesL_ (some 35) rfl rfl Try.func54 (by kernel_rfl) rfl #[.slice Ao34 y112.length co34] rfl (by (try simp only [List.map_toArray, List.map_cons, List.map_nil]); first | done | rfl | (simp only [List.length_drop, List.length_take]; rfl)) ?_; (with_reducible refine (check_Check.calls _ _ y112 t115 t116 _ ?side1 ?side2 A12.out).mono ?_); (case side1 => repeat (first | exact (Kd.R_reads' HO114.out).2.2 | (with_reducible refine Kd.C_alloc ?_ _) | (with_reducible refine Kd.C_drewN ?_ _) | (with_reducible refine Kd.C_drew ?_))); (case side2 => exact (Kd.R_reads' HO114.out).2.1); rintro e w35 ⟨rfl, hb⟩; refine ⟨_, rfl, ?_⟩; have n0_ := Aside0.mk (Kd.R_below (by (with_reducible repeat (first | apply Kd.R_alloc | apply Kd.R_drewN | apply Kd.R_drew)); exact HO114.out) hb); have n1_ := Aside0.mk (below_step (by repeat (first | (with_reducible first | exact HB.out | apply below_alloc | apply pw_below_drewN | apply below_drew1) | exact HB.out)) hb); clear HO114; clear HB; have HO114 := n0_; have HB := n1_; clear n0_ n1_; (try clear hb); (try clear hb2); (try clear hk); (try clear hi)) | ((with_reducible refine gate_callee (f := 54) rfl ?_); refine goesL_ (some 40) rfl rfl Try.func54 (by kernel_rfl) rfl #[.slice A0 y101.length c0] rfl (by (try simp only [List.map_toArray, List.map_cons, List.map_nil]); first | done | rfl | (simp only [List.length_drop, List.length_take]; rfl)) ?_; (with_reducible refine (check_Check.calls _ _ y101 t117 t118 _ ?side1 ?side2 A13.out).mono ?_); (case side1 => repeat (first | exact (Kd.C_below HR104.out HB.out) | (with_reducible refine Kd.C_alloc ?_ _) | (with_reducible refine Kd.C_drewN ?_ _) | (with_reducible refine Kd.C_drew ?_))); (case side2 => exact HC104.out); rintro e w36 ⟨rfl, hb⟩; refine ⟨_, rfl, ?_⟩; have n0_ := Aside0.mk (Kd.R_below (by (with_reducible repeat (first | apply Kd.R_alloc | apply Kd.R_drewN | apply Kd.R_drew)); exact HO114.out) hb); have n1_ := Aside0.mk (below_step (by repeat (first | (with_reducible first | exact HB.out | apply below_alloc | apply pw_below_drewN | apply below_drew1) | exact HB.out)) hb); clear HO114; clear HB; have HO114 := n0_; have HB := n1_; clear n0_ n1_; (try clear hb); (try clear hb2); (try clear hk); (try clear hi)) | ((with_reducible refine gate_callee (f := 58) rfl ?_); refine goesL_ (some 43) rfl rfl Try.func58 (by kernel_rfl) rfl #[] rfl (by (try simp only [List.map_toArray, List.map_cons, List.map_nil]); first | done | rfl | (simp only [List.length_drop, List.length_take]; rfl)) ?_; (with_reducible refine (doorwardlaw12_alive.calls  false _ A14.out).mono ?_); rintro e w37 ⟨rfl, hb⟩; refine ⟨_, rfl, ?_⟩; have n0_ := Aside0.mk (Kd.R_below (by (with_reducible repeat (first | apply Kd.R_alloc | apply Kd.R_drewN | apply Kd.R_drew)); exact HO114.out) hb); have n1_ := Aside0.mk (below_step (by repeat (first | (with_reducible first | exact HB.out | apply below_alloc | apply pw_below_drewN | apply below_drew1) | exact HB.out)) hb); clear HO114; clear HB; have HO114 := n0_; have HB := n1_; clear n0_ n1_; (try clear hb); (try clear hb2); (try clear hk); (try clear hi)))
                go_ret
                exact ⟨by first | rfl | (simp [errW_none, errW_some] <;> rfl) | (simp only [← hji2]; first | rfl | (simp [errW_none, errW_some] <;> rfl)) | (simp [*, errW_none, errW_some] <;> rfl), by repeat (first | (with_reducible first | exact HB.out | apply below_alloc | apply pw_below_drewN | apply below_drew1) | exact HB.out)⟩
            · rw [if_neg c11] at H
              exact absurd H (by simp)
    · rw [if_neg c4] at H
      exact absurd H (by simp)
  · rw [if_neg c3] at H
    exact absurd H (by simp)
end Go.Proofs.Ytefkhcijgiagdaa.PCheckStores
end
section
namespace Go.Proofs.Ytefkhcijgiagdaa.Open
open Go.RowKit Go.Proofs.YtefkhcijgiagdaaW.PrintWords
set_option linter.unusedVariables false
set_option linter.unusedSimpArgs false
variable {α β : Type}
/-- A reading (of so much fuel at most) of cells at type t tells a value of kind d, of which Q. -/
def OpensN (P : Program) (fuel : Nat) (d : Kd α) (t : TypeId) (Q : α → Prop) : Prop :=
  P.cellsOf t = d.sz ∧ ∀ (H : Type) (enc : TypeId × Value → H) (W : World) (cs : List Value) (x : DataW H × List MemPlace),
    DataW.trod enc P W 0 (fun _ => true) true fuel t cs = some x → ∃ y, d.K W y cs ∧ Q y
def Opens (P : Program) (d : Kd α) (t : TypeId) (Q : α → Prop) : Prop := ∀ fuel, OpensN P fuel d t Q
section
variable {P : Program} {t e : TypeId} {d : Kd α} {Q : α → Prop} {fuel : Nat}
theorem OpensN.none (h : P.cellsOf t = d.sz) : OpensN P 0 d t Q := ⟨h, fun H enc W cs x hx => by simp [DataW.trod] at hx⟩
theorem one_cell {H : Type} {enc : TypeId × Value → H} {W : World} {cs : List Value} {x : DataW H × List MemPlace} {u : TypeDesc} (hu : P.underlying t = some u) (h1 : (match u with | .struct _ | .array _ _ => true | _ => false) = false)
    (hx : DataW.trod enc P W 0 (fun _ => true) true (fuel + 1) t cs = some x) : ∃ c, cs = [c] := by
  unfold DataW.trod at hx
  rcases cs with _ | ⟨c, _ | ⟨c2, r⟩⟩
  · cases u <;> simp [hu] at hx h1
  · exact ⟨c, rfl⟩
  · cases u <;> simp [hu] at hx h1
theorem Opens.int (k : IntKind) (hu : P.underlying t = some (.int k)) (hc : P.cellsOf t = 1) : Opens P (Kd.int k) t (fun x => (Lit.int k x).wf = true) := by
  intro fuel
  cases fuel with
  | zero => exact OpensN.none hc
  | succ fuel =>
    refine ⟨hc, fun H enc W cs x hx => ?_⟩
    obtain ⟨c, rfl⟩ := one_cell hu rfl hx
    unfold DataW.trod at hx
    cases c <;> simp [hu] at hx
    rename_i k' n
    obtain ⟨⟨rfl, hw⟩, _⟩ := hx
    exact ⟨n, rfl, hw⟩
theorem Opens.bool (hu : P.underlying t = some .bool) (hc : P.cellsOf t = 1) : Opens P Kd.bool t (fun _ => True) := by
  intro fuel
  cases fuel with
  | zero => exact OpensN.none hc
  | succ fuel =>
    refine ⟨hc, fun H enc W cs x hx => ?_⟩
    obtain ⟨c, rfl⟩ := one_cell hu rfl hx
    unfold DataW.trod at hx
    cases c <;> simp [hu] at hx
    rename_i b
    exact ⟨b, rfl, trivial⟩
theorem Opens.string (hu : P.underlying t = some .string) (hc : P.cellsOf t = 1) : Opens P Kd.string t (fun s => s.size ≤ maxLen) := by
  intro fuel
  cases fuel with
  | zero => exact OpensN.none hc
  | succ fuel =>
    refine ⟨hc, fun H enc W cs x hx => ?_⟩
    obtain ⟨c, rfl⟩ := one_cell hu rfl hx
    unfold DataW.trod at hx
    cases c <;> simp [hu] at hx
    rename_i s
    exact ⟨s, rfl, hx.1⟩
/-- The cells of a slice. -/
theorem slice_cell {H : Type} {enc : TypeId × Value → H} {W : World} {cs : List Value} {x : DataW H × List MemPlace} (hu : P.underlying t = some (.slice e)) (hx : DataW.trod enc P W 0 (fun _ => true) true (fuel + 1) t cs = some x) :
    cs = [.slice none 0 0] ∨ ∃ a len cap, cs = [.slice (some a) len cap] ∧ len ≤ cap ∧ cap ≤ maxLen ∧
      ∃ els rest, (List.range len).mapM (fun i => (W.cells? 0 (a.add (i * P.cellsOf e)) (P.cellsOf e)).bind (DataW.trod enc P W 0 (fun _ => true) true fuel e)) = some els ∧ x.1 = .slice (els.map (·.1)) rest := by
  obtain ⟨c, rfl⟩ := one_cell hu rfl hx
  unfold DataW.trod at hx
  cases c <;> try (simp [hu] at hx; done)
  rename_i A len cap
  cases A with
  | none =>
    by_cases h0 : len = 0 ∧ cap = 0
    · obtain ⟨rfl, rfl⟩ := h0
      exact .inl rfl
    · exfalso
      rcases len with _ | len <;> rcases cap with _ | cap <;> simp [hu] at hx h0
  | some a =>
    right
    simp only [hu] at hx
    split at hx
    · rename_i hcnd
      rw [Option.bind_eq_some_iff] at hx
      obtain ⟨els, hels, hx⟩ := hx
      rw [Option.map_eq_some_iff] at hx
      obtain ⟨rest, _, hx⟩ := hx
      exact ⟨a, len, cap, rfl, hcnd.2.1, hcnd.2.2, els, rest.map (·.1), hels, by rw [← hx]⟩
    · simp at hx
theorem OpensN.slice (hu : P.underlying t = some (.slice e)) (hc : P.cellsOf t = 1) (h : OpensN P fuel d e Q) : OpensN P (fuel + 1) (Kd.slice e d) t (fun xs => xs.length ≤ maxLen ∧ ∀ x ∈ xs, Q x) := by
  obtain ⟨hsz, h⟩ := h
  refine ⟨hc, fun H enc W cs x hx => ?_⟩
  rcases slice_cell hu hx with rfl | ⟨a, len, cap, rfl, hlc, hcm, els, rest, hels, _⟩
  · refine ⟨[], ⟨Option.none, 0, rfl, Nat.le_refl _, ?_⟩, by simp, by simp⟩
    exact ⟨rfl, by simp, fun h => absurd h (by simp)⟩
  · skip
    · skip
      have hlen : els.length = len := by simpa using mapM_some_length hels
      have hget := fun i (hi : i < len) => mapM_some_get hels i i (by simp [hi])
      have hall : ∀ i, i < len → ∃ (y : α) (c : List Value), d.K W y c ∧ Q y ∧ c.length = d.sz ∧ ∀ j u, c[j]? = some u → W.cell? (a.add (i * d.sz + j)) = some u := by
        intro i hi
        have hi2 := hget i hi
        rw [List.getElem?_eq_getElem (by omega : i < els.length), Option.bind_eq_some_iff] at hi2
        obtain ⟨c, hcs, hr⟩ := hi2
        obtain ⟨y, hy, hq⟩ := h H enc W c _ hr
        obtain ⟨_, hcl, hcell⟩ := World.cells?_some hcs
        refine ⟨y, c, hy, hq, d.K_len hy, fun j u hj => ?_⟩
        have hjl : j < P.cellsOf e := by
          have : j < c.length := by
            rcases Nat.lt_or_ge j c.length with hlt | hge
            · exact hlt
            · rw [List.getElem?_eq_none hge] at hj; simp at hj
          omega
        have := hcell j hjl
        rw [hj, hsz, Addr.add_add] at this
        exact this
      obtain ⟨ys, hys⟩ : ∃ ys : List α, ys.length = len ∧ ∀ i (hi : i < ys.length), (∃ c : List Value, d.K W ys[i] c ∧ Q ys[i] ∧ c.length = d.sz ∧ ∀ j u, c[j]? = some u → W.cell? (a.add (i * d.sz + j)) = some u) := by
        clear hels hget hlen hlc hcm hx
        induction len with
        | zero => exact ⟨[], rfl, fun i hi => absurd hi (by simp)⟩
        | succ n ih =>
          obtain ⟨ys, hl, hy⟩ := ih (fun i hi => hall i (by omega))
          obtain ⟨y, c, hk, hq, hcl, hcc⟩ := hall n (by omega)
          refine ⟨ys ++ [y], by simp [hl], fun i hi => ?_⟩
          by_cases hin : i < ys.length
          · have := hy i hin
            rw [List.getElem_append_left hin]
            exact this
          · have hie : i = n := by simp at hi; omega
            subst hie
            rw [List.getElem_append_right (by omega)]
            simp only [hl, Nat.sub_self, List.getElem_cons_zero]
            exact ⟨c, hk, hq, hcl, hcc⟩
      obtain ⟨hyl, hy⟩ := hys
      refine ⟨ys, ⟨some a, cap, by rw [hyl], by omega, ?_⟩, by omega, ?_⟩
      · refine ⟨rfl, by rw [hyl]; exact Nat.le_trans hlc hcm, fun _ => ⟨a, rfl, fun j p hj => ?_⟩⟩
        have hjl : j < ys.length := by
          rcases Nat.lt_or_ge j ys.length with hlt | hge
          · exact hlt
          · rw [List.getElem?_eq_none hge] at hj; simp at hj
        obtain ⟨c, hk, hq, hcl, hcc⟩ := hy j hjl
        rw [List.getElem?_eq_getElem hjl] at hj
        obtain rfl := Option.some.inj hj
        exact ⟨c, hcl, hk, hcc⟩
      · intro x hx
        obtain ⟨i, hi, rfl⟩ := List.getElem_of_mem hx
        obtain ⟨c, hk, hq, _⟩ := hy i hi
        exact hq
theorem Opens.slice (hu : P.underlying t = some (.slice e)) (hc : P.cellsOf t = 1) (h : Opens P d e Q) : Opens P (Kd.slice e d) t (fun xs => xs.length ≤ maxLen ∧ ∀ x ∈ xs, Q x) := by
  intro fuel
  cases fuel with
  | zero => exact OpensN.none hc
  | succ fuel => exact OpensN.slice hu hc (h fuel)
end
/-- The fields from one on, read one by one, tell a value of kind d out of the cells from o on. -/
def OpensF (P : Program) (fuel : Nat) (fs : List Field) (o : Nat) (d : Kd α) (Q : α → Prop) : Prop :=
  ∀ (H : Type) (enc : TypeId × Value → H) (W : World) (cs : List Value) (xs : List (DataW H × List MemPlace)),
    (fs.mapM fun f => DataW.trod enc P W 0 (fun _ => true) true fuel f.type ((cs.drop f.offset).take (P.cellsOf f.type))) = some xs → cs.length = o + d.sz → ∃ y, d.K W y (cs.drop o) ∧ Q y
section
variable {P : Program} {t : TypeId} {a : Kd α} {b : Kd β} {Q : α → Prop} {R : β → Prop} {fuel o : Nat} {f : Field} {fs : List Field}
theorem OpensF.last (ho : f.offset = o) (h : OpensN P fuel a f.type Q) : OpensF P fuel [f] o a Q := by
  intro H enc W cs xs hx hl
  simp only [List.mapM_cons, List.mapM_nil] at hx
  rw [Option.bind_eq_bind, Option.bind_eq_some_iff] at hx
  obtain ⟨y, hy, _⟩ := hx
  rw [ho, h.1, List.take_of_length_le (by rw [List.length_drop]; omega)] at hy
  exact h.2 H enc W _ _ hy
theorem OpensF.cons (ho : f.offset = o) (h : OpensN P fuel a f.type Q) (hs : OpensF P fuel fs (o + a.sz) b R) : OpensF P fuel (f :: fs) o (Kd.pair a b) (fun x => Q x.1 ∧ R x.2) := by
  intro H enc W cs xs hx hl
  simp only [List.mapM_cons] at hx
  rw [Option.bind_eq_bind, Option.bind_eq_some_iff] at hx
  obtain ⟨y, hy, hx⟩ := hx
  rw [Option.bind_eq_bind, Option.bind_eq_some_iff] at hx
  obtain ⟨ys, hys, _⟩ := hx
  rw [ho, h.1] at hy
  obtain ⟨u, hu, hq⟩ := h.2 H enc W _ _ hy
  obtain ⟨v, hv, hr⟩ := hs H enc W cs ys hys (by have : (Kd.pair a b).sz = a.sz + b.sz := rfl; omega)
  refine ⟨(u, v), ⟨(cs.drop o).take a.sz, (cs.drop o).drop a.sz, (List.take_append_drop _ _).symm, hu, ?_⟩, hq, hr⟩
  rw [List.drop_drop]
  exact hv
theorem OpensF.iso {γ : Type} (g : γ → α) (inv : α → γ) (hg : ∀ x, g (inv x) = x) (h : OpensF P fuel fs o a Q) : OpensF P fuel fs o (Kd.iso a g) (fun x => Q (g x)) := by
  intro H enc W cs xs hx hl
  obtain ⟨y, hy, hq⟩ := h H enc W cs xs hx hl
  exact ⟨inv y, by show a.K W (g (inv y)) _; rw [hg]; exact hy, by show Q (g (inv y)); rw [hg]; exact hq⟩
theorem OpensN.struct {gs : Array Field} (hu : P.underlying t = some (.struct gs)) (hc : P.cellsOf t = a.sz) (h : OpensF P fuel gs.toList 0 a Q) : OpensN P (fuel + 1) a t Q := by
  refine ⟨hc, fun H enc W cs x hx => ?_⟩
  have hx2 : (if cs.length = P.cellsOf t then (gs.toList.mapM fun f => DataW.trod enc P W 0 (fun _ => true) true fuel f.type ((cs.drop f.offset).take (P.cellsOf f.type))).map fun xs => (DataW.agg (xs.map (·.1)), xs.flatMap (·.2)) else Option.none) = some x := by
    rw [← hx]
    conv => rhs; unfold DataW.trod
    simp only [hu]
  split at hx2
  · rename_i hl
    rw [Option.map_eq_some_iff] at hx2
    obtain ⟨xs, hxs, _⟩ := hx2
    have := h H enc W cs xs hxs (by omega)
    simpa using this
  · simp at hx2
/-- The places of an array, read one by one. -/
def OpensA (P : Program) (fuel : Nat) (e : TypeId) (is : List Nat) (o : Nat) (d : Kd α) (Q : α → Prop) : Prop :=
  ∀ (H : Type) (enc : TypeId × Value → H) (W : World) (cs : List Value) (xs : List (DataW H × List MemPlace)),
    (is.mapM fun i => DataW.trod enc P W 0 (fun _ => true) true fuel e ((cs.drop (i * P.cellsOf e)).take (P.cellsOf e))) = some xs → cs.length = o + d.sz → ∃ y, d.K W y (cs.drop o) ∧ Q y
theorem OpensA.last {e : TypeId} {i : Nat} (ho : i * P.cellsOf e = o) (h : OpensN P fuel a e Q) : OpensA P fuel e [i] o a Q := by
  intro H enc W cs xs hx hl
  simp only [List.mapM_cons, List.mapM_nil] at hx
  rw [Option.bind_eq_bind, Option.bind_eq_some_iff] at hx
  obtain ⟨y, hy, _⟩ := hx
  rw [ho, h.1, List.take_of_length_le (by rw [List.length_drop]; omega)] at hy
  exact h.2 H enc W _ _ hy
theorem OpensA.cons {e : TypeId} {i : Nat} {is : List Nat} (ho : i * P.cellsOf e = o) (h : OpensN P fuel a e Q) (hs : OpensA P fuel e is (o + a.sz) b R) : OpensA P fuel e (i :: is) o (Kd.pair a b) (fun x => Q x.1 ∧ R x.2) := by
  intro H enc W cs xs hx hl
  simp only [List.mapM_cons] at hx
  rw [Option.bind_eq_bind, Option.bind_eq_some_iff] at hx
  obtain ⟨y, hy, hx⟩ := hx
  rw [Option.bind_eq_bind, Option.bind_eq_some_iff] at hx
  obtain ⟨ys, hys, _⟩ := hx
  rw [ho, h.1] at hy
  obtain ⟨u, hu, hq⟩ := h.2 H enc W _ _ hy
  obtain ⟨v, hv, hr⟩ := hs H enc W cs ys hys (by have : (Kd.pair a b).sz = a.sz + b.sz := rfl; omega)
  refine ⟨(u, v), ⟨(cs.drop o).take a.sz, (cs.drop o).drop a.sz, (List.take_append_drop _ _).symm, hu, ?_⟩, hq, hr⟩
  rw [List.drop_drop]
  exact hv
theorem OpensA.iso {γ : Type} {e : TypeId} {is : List Nat} (g : γ → α) (inv : α → γ) (hg : ∀ x, g (inv x) = x) (h : OpensA P fuel e is o a Q) : OpensA P fuel e is o (Kd.iso a g) (fun x => Q (g x)) := by
  intro H enc W cs xs hx hl
  obtain ⟨y, hy, hq⟩ := h H enc W cs xs hx hl
  exact ⟨inv y, by show a.K W (g (inv y)) _; rw [hg]; exact hy, by show Q (g (inv y)); rw [hg]; exact hq⟩
theorem OpensN.array {n : Nat} {e : TypeId} (hu : P.underlying t = some (.array n e)) (hc : P.cellsOf t = a.sz) (h : OpensA P fuel e (List.range n) 0 a Q) : OpensN P (fuel + 1) a t Q := by
  refine ⟨hc, fun H enc W cs x hx => ?_⟩
  have hx2 : (if cs.length = P.cellsOf t then ((List.range n).mapM fun i => DataW.trod enc P W 0 (fun _ => true) true fuel e ((cs.drop (i * P.cellsOf e)).take (P.cellsOf e))).map fun xs => (DataW.agg (xs.map (·.1)), xs.flatMap (·.2)) else Option.none) = some x := by
    rw [← hx]
    conv => rhs; unfold DataW.trod
    simp only [hu]
  split at hx2
  · rename_i hl
    rw [Option.map_eq_some_iff] at hx2
    obtain ⟨xs, hxs, _⟩ := hx2
    have := h H enc W cs xs hxs (by omega)
    simpa using this
  · simp at hx2
end
section
variable {P : Program} {t e : TypeId} {d : Kd α} {Q : α → Prop} {H : Type} {enc : TypeId × Value → H} {W : World} {D : DataW H} {p : List MemPlace} {v : Value}
/-- A slice that came in. -/
theorem slice_of {r : Reach} {base : Nat} (hu : P.underlying t = some (.slice e)) (hc : P.cellsOf t = 1) (hv : Value.okWide P W r base t v) (ho : Opens P d e Q) (h : DataW.Trod enc P W 0 (fun _ => true) true t v D p) :
    ∃ A c xs, v = .slice A (List.length xs) c ∧ xs.length ≤ c ∧ d.C W A xs.length xs ∧ xs.length ≤ maxLen ∧ ∀ x ∈ xs, Q x := by
  obtain ⟨a, len, cap, rfl⟩ := Go.WideShapes.okWide_slice hu hv
  obtain ⟨fuel, hf⟩ := h
  obtain ⟨xs, ⟨A, c, hcs, hl, hC⟩, hq, hall⟩ := (Opens.slice hu hc ho fuel).2 H enc W _ _ hf
  have he : Value.slice a len cap = .slice A xs.length c := by
    have : (Value.slice a len cap).cells.toList = [Value.slice a len cap] := rfl
    rw [this] at hcs
    exact (List.cons.inj hcs).1
  exact ⟨A, c, xs, he, hl, hC, hq, hall⟩
/-- .. and how long it is. -/
theorem slice_sized {ts : List TypeId} {ds : List (DataW H)} {j B : Nat} {A : Option Addr} {n c : Nat} (hsz : (DataW.weightsEach P ts ds).all (· ≤ reachBytes) = true) (ht : ts[j]? = some t) (hd : ds[j]? = some D) (hu : P.underlying t = some (.slice e)) (hB : P.bytesOf e = B)
    (h : DataW.Trod enc P W 0 (fun _ => true) true t (.slice A n c) D p) : n * B ≤ 140737488351232 := by
  obtain ⟨fuel, hf⟩ := h
  cases fuel with
  | zero => simp [DataW.trod] at hf
  | succ fuel =>
    have hcl : (Value.slice A n c).cells.toList = [Value.slice A n c] := rfl
    rw [hcl] at hf
    rcases slice_cell hu hf with hs | ⟨a, len, cap, hs, hlc, hcm, els, rest, hels, hx⟩
    · have := (List.cons.inj hs).1
      injection this with _ h2 _
      rw [h2, Nat.zero_mul]
      omega
    · have h1 := (List.cons.inj hs).1
      injection h1 with _ h2 _
      have hlen : els.length = len := by simpa using mapM_some_length hels
      have hx2 : D = .slice (els.map (·.1)) rest := hx
      subst hx2
      have z := sized_slice hsz ht hd hu
      rw [hB, List.length_map, hlen, ← h2] at z
      exact Nat.le_trans (Nat.mul_le_mul_right _ (Nat.le_add_right _ _)) z
end
end Go.Proofs.Ytefkhcijgiagdaa.Open
end
section
namespace Go.Proofs.Ytefkhcijgiagdaa.StatCheckStores
open Go.RowKit Go.Proofs.YtefkhcijgiagdaaW.PrintWords Go.Proofs.Ytefkhcijgiagdaa.Open Go.Proofs.Ytefkhcijgiagdaa.PCheckStores Go.Proofs.Ytefkhcijgiagdaa.Le Go.Proofs.Ytefkhcijgiagdaa.HKnown Go.Proofs.Ytefkhcijgiagdaa.HPut Go.Proofs.Ytefkhcijgiagdaa.I1 Go.Proofs.Ytefkhcijgiagdaa.E1 Go.Proofs.Ytefkhcijgiagdaa.HAsm Go.Proofs.Ytefkhcijgiagdaa.E2 Go.Proofs.Ytefkhcijgiagdaa.HAll Go.Proofs.Ytefkhcijgiagdaa.V0 Go.Proofs.Ytefkhcijgiagdaa.HVm Go.Proofs.Ytefkhcijgiagdaa.K0 Go.Proofs.Ytefkhcijgiagdaa.HCk Go.Proofs.Ytefkhcijgiagdaa.K3
set_option maxRecDepth 100000
def Q3 (x : Int) : Prop := (Lit.int .i64 x).wf = true
theorem opens3 : Opens Try.prog (Kd.int .i64) 3 Q3 := Opens.int .i64 Try.underlying3 (by kernel_rfl)
def Q24 (x : Int) : Prop := (Lit.int .u32 x).wf = true
theorem opens24 : Opens Try.prog (Kd.int .u32) 24 Q24 := Opens.int .u32 Try.underlying24 (by kernel_rfl)
def Q28 (x : S28) : Prop := Q3 x.f0 ∧ Q3 x.f1 ∧ Q3 x.f2 ∧ Q24 x.f3
theorem opens28 : Opens Try.prog k28 28 Q28 := by
  intro fuel
  cases fuel with
  | zero => exact OpensN.none (by kernel_rfl)
  | succ fuel => exact OpensN.struct Try.underlying28 (by kernel_rfl) (OpensF.iso (fun x : S28 => (x.f0, x.f1, x.f2, x.f3)) (fun p => ⟨p.1, p.2.1, p.2.2.1, p.2.2.2⟩) (fun _ => rfl) (OpensF.cons (by kernel_rfl) (opens3 fuel) (OpensF.cons (by kernel_rfl) (opens3 fuel) (OpensF.cons (by kernel_rfl) (opens3 fuel) (OpensF.last (by kernel_rfl) (opens24 fuel))))))
def Stat : Prop := ∀ (a0 : List S28), a0.length ≤ maxLen → a0.length * 32 ≤ 140737488351232 → (∀ x ∈ a0, Q28 x) → ∃ k, doorwardlaw12_CheckStores.f k a0 = some true
end Go.Proofs.Ytefkhcijgiagdaa.StatCheckStores
end
section
namespace Go.Proofs.Ytefkhcijgiagdaa.QCk
open Go.RowKit Go.Proofs.YtefkhcijgiagdaaW.PrintWords Go.Proofs.YtefkhcijgiagdaaW.PrintLast Go.Proofs.YtefkhcijgiagdaaW.PrintMore Go.Proofs.Ytefkhcijgiagdaa.HKnown Go.Proofs.Ytefkhcijgiagdaa.I1 Go.Proofs.Ytefkhcijgiagdaa.K0 Go.Proofs.Ytefkhcijgiagdaa.K3 Go.Proofs.Ytefkhcijgiagdaa.QVm Go.Proofs.Ytefkhcijgiagdaa.QNum Go.Proofs.Ytefkhcijgiagdaa.QCheck Go.Proofs.Ytefkhcijgiagdaa.HCk
set_option linter.unusedVariables false
set_option linter.unusedSimpArgs false
theorem check_f (l : List S28) (hl : l.length ≤ 100000) (hi : ∀ i ∈ l, IW i) : check_Check.f l = some (checkV l) := if_pos ⟨hl, hi⟩
theorem cells_f (l : List S28) (hl : l.length ≤ 100000) (hi : ∀ i ∈ l, IW i) : check_Cells.f l = some (cellsV l) := if_pos ⟨hl, hi⟩
theorem iw_one (c : Int) (k : Int) (hc : 0 ≤ c ∧ c < 256) (hk : 0 ≤ k ∧ k < 4294967296) : IW ⟨c, 0, 0, k⟩ := ⟨WalkArith.wf_i64 (n := c) ⟨by omega, by omega⟩, show (Lit.int .i64 0).wf = true by decide, show (Lit.int .i64 0).wf = true by decide, hk⟩
theorem u3_of {l : List S28} (h : ∀ i ∈ l, IW i) : U3 l := fun i hi => (h i hi).2.2.2.1
theorem alive_f : doorwardlaw12_alive.f = some true := by
  unfold doorwardlaw12_alive.f
  rw [check_f _ (by decide) (fun i hi => by obtain rfl := List.mem_singleton.1 hi; exact iw_one 6 0 (by decide) (by decide)), check_f [] (by decide) (fun i hi => by cases hi)]
  have e1 : (checkV [(⟨6, 0, 0, 0⟩ : S28)]).2 = 0 := by decide +kernel
  have e2 : (checkV []).2 = 51 := rfl
  simp only [Option.bind_some, e1, e2, if_true]
  rfl
theorem mn60 (l : List S28) : 0 ≤ mn (l.length : Int) 60 ∧ mn (l.length : Int) 60 ≤ (l.length : Int) ∧ l.take (mn (l.length : Int) 60).toNat = l.take 60 := by
  have e1 : mn (l.length : Int) 60 = ((min l.length 60 : Nat) : Int) := by unfold mn; split <;> omega
  rw [e1, Int.toNat_natCast]
  refine ⟨by omega, by omega, ?_⟩
  by_cases h : l.length ≤ 60
  · rw [List.take_of_length_le (by omega), List.take_of_length_le h]
  · rw [show min l.length 60 = 60 by omega]
theorem cellsV_err (l : List S28) : (cellsV l).2 = (allV l).2 := by
  unfold cellsV
  by_cases h : (allV l).2 = 0
  · rw [if_pos h, h]
  · rw [if_neg h]
end Go.Proofs.Ytefkhcijgiagdaa.QCk
end
section
namespace Go.Proofs.Ytefkhcijgiagdaa.Pure
open Go.RowKit Go.Proofs.Ytefkhcijgiagdaa.StatCheckStores Go.Proofs.YtefkhcijgiagdaaW.PrintWords Go.Proofs.YtefkhcijgiagdaaW.PrintLast Go.Proofs.YtefkhcijgiagdaaW.PrintMore Go.Proofs.Ytefkhcijgiagdaa.PCheckStores Go.Proofs.Ytefkhcijgiagdaa.HKnown Go.Proofs.Ytefkhcijgiagdaa.I1 Go.Proofs.Ytefkhcijgiagdaa.K0 Go.Proofs.Ytefkhcijgiagdaa.K3 Go.Proofs.Ytefkhcijgiagdaa.QVm Go.Proofs.Ytefkhcijgiagdaa.QNum Go.Proofs.Ytefkhcijgiagdaa.QCheck Go.Proofs.Ytefkhcijgiagdaa.HCk Go.Proofs.Ytefkhcijgiagdaa.QCk
set_option linter.unusedVariables false
set_option linter.unusedSimpArgs false
theorem iw_q {i : S28} (h : Q28 i) : IW i := ⟨h.1, h.2.1, h.2.2.1, wf_u32 h.2.2.2⟩
def stP (j : Nat) : List S28 := (List.range j).map fun k : Nat => (⟨2, 0, 0, (k : Int)⟩ : S28)
theorem stP_succ (j : Nat) : stP j ++ [(⟨2, 0, 0, (j : Int)⟩ : S28)] = stP (j + 1) := by unfold stP; rw [List.range_succ, List.map_append]; rfl
theorem stP_len (j : Nat) : (stP j).length = j := by simp [stP]
theorem loop_st (y : List S28) (e : Int) (k : Nat) : ∀ d j, d + j = 16 → doorwardlaw12_CheckStores.l0 (k + d) y e (stP j) (j : Int) = doorwardlaw12_CheckStores.l0 k y e (stP 16) 16 := by
  intro d
  induction d with
  | zero =>
    intro j hj
    obtain rfl : j = 16 := by omega
    rfl
  | succ d ih =>
    intro j hj
    rw [show k + (d + 1) = (k + d) + 1 by omega]
    show (if (j : Int) < 16 then _ else _) = _
    rw [if_pos (by omega), if_pos (by rw [stP_len]; omega)]
    have e1 : (j : Int) % 4294967296 = (j : Int) := Int.emod_eq_of_lt (by omega) (by omega)
    have e2 : wrap64 ((j : Int) + 1) = ((j + 1 : Nat) : Int) := by unfold wrap64; omega
    rw [e1, e2, stP_succ]
    exact ih (j + 1) (by omega)
theorem CheckStores : StatCheckStores.Stat := by
  intro l _ _ hq
  refine ⟨17, ?_⟩
  unfold doorwardlaw12_CheckStores.f
  obtain ⟨m1, m2, m3⟩ := mn60 l
  rw [if_pos m1, if_pos m2, m3]
  have hy : ∀ i ∈ l.take 60, IW i := fun i hi => iw_q (hq i (List.mem_of_mem_take hi))
  have ly : (l.take 60).length ≤ 60 := by rw [List.length_take]; omega
  simp only [Option.bind_some]
  generalize l.take 60 = y at *
  clear m1 m2 m3 hq
  rw [cells_f y (by omega) hy]
  simp only [Option.bind_some]
  have h := loop_st y (cellsV y).2 1 16 0 (by omega)
  have e0 : doorwardlaw12_CheckStores.l0 17 y (cellsV y).2 [] 0 = doorwardlaw12_CheckStores.l0 1 y (cellsV y).2 (stP 16) 16 := h
  rw [e0]
  show (if (16 : Int) < 16 then _ else (if (stP 16).length + y.length < 4398046511104 then _ else _)) = _
  rw [if_neg (by decide), if_pos (by rw [stP_len]; omega)]
  have es : stP 16 = stores := rfl
  rw [es, check_f (stores ++ y) (by rw [List.length_append, stores_len]; omega) (fun i hi => by
      rcases List.mem_append.1 hi with g | g
      · unfold stores at g
        obtain ⟨k, hk, rfl⟩ := List.mem_map.1 g
        have := List.mem_range.1 hk
        exact iw_one 2 (k : Int) (by decide) (by omega)
      · exact hy i g), check_f y (by omega) hy, alive_f]
  simp only [Option.bind_some, if_true]
  have hs := stores_ok y (u3_of hy) (by omega)
  have e1 : ((cellsV y).2 == 0) = ((checkV (stores ++ y)).2 == 0) := by
    rw [cellsV_err, Bool.eq_iff_iff, beq_iff_eq, beq_iff_eq]
    exact hs.symm
  rw [if_pos (by rw [e1]; exact beq_self_eq_true _)]
  by_cases h2 : (checkV y).2 = 0
  · rw [if_pos h2]
    obtain ⟨a, b, c, _⟩ := (checkV_ok y (u3_of hy)).1 h2
    rw [cellsV_err, (allV_ok y).2 ⟨a, b, c⟩]
    rfl
  · rw [if_neg h2]
end Go.Proofs.Ytefkhcijgiagdaa.Pure
end
section
namespace Go.Proofs.Ytefkhcijgiagdaa.checkStores
open Go.ChangeShapes Go.WideShapes Go.ChangeAt Go.RowKit Go.Proofs.Ytefkhcijgiagdaa.Open Go.Proofs.Ytefkhcijgiagdaa.StatCheckStores Go.Proofs.YtefkhcijgiagdaaW.PrintWords Go.Proofs.Ytefkhcijgiagdaa.PCheckStores Go.Proofs.Ytefkhcijgiagdaa.Le Go.Proofs.Ytefkhcijgiagdaa.HKnown Go.Proofs.Ytefkhcijgiagdaa.HPut Go.Proofs.Ytefkhcijgiagdaa.I1 Go.Proofs.Ytefkhcijgiagdaa.E1 Go.Proofs.Ytefkhcijgiagdaa.HAsm Go.Proofs.Ytefkhcijgiagdaa.E2 Go.Proofs.Ytefkhcijgiagdaa.HAll Go.Proofs.Ytefkhcijgiagdaa.V0 Go.Proofs.Ytefkhcijgiagdaa.HVm Go.Proofs.Ytefkhcijgiagdaa.K0 Go.Proofs.Ytefkhcijgiagdaa.HCk Go.Proofs.Ytefkhcijgiagdaa.K3
open Go.ChangeMaps (open_string shut_string)
set_option linter.unusedVariables false
open Go.Proofs.Ytefkhcijgiagdaa.Order (own laidOut)
open Go.Proofs.Ytefkhcijgiagdaa
set_option maxRecDepth 100000 in
set_option maxHeartbeats 1000000 in
theorem lifted (os : Os) (started : os.Started) (H : Type) (enc : TypeId × Value → H) :
    ReturnsInHanded {} Try.checked os 15 .any (Rows.checkStoresSpec.pre6 enc Try.prog Try.f15 Rows.checkStoresRow.domain false) (Rows.checkStoresSpec.post enc Try.prog Try.f15 false true false false) := by
  refine returnsInHanded_of_change_sized (C := Try.checked) own started (by kernel_rfl) Try.func15
    (ChangeSpec.witness6 (enc := enc) (C := Try.checked) false ⟨#[], #[.slice none 0 0], []⟩ 20 (by kernel_rfl) (by kernel_rfl) (by kernel_rfl) (by kernel_rfl)) ?_
  intro W base args ds gs before hval0 hW hcnd hsz0 _
  have hsz : (DataW.weightsEach Try.prog (Try.f15.params.toList ++ Rows.checkStoresSpec.plain.varTypes Try.prog) (ds ++ gs)).all (· ≤ reachBytes) = true := hsz0
  have hval : ∀ (j : Nat) t v, Try.f15.params[j]? = some t → args[j]? = some v → Value.okWide Try.prog W .any base t v := hval0
  have hW' := hW
  obtain ⟨p, q, hA0, hV, rfl, hfz, hnd⟩ := hW
  have hA : DataW.TrodAll enc Try.prog W 0 (fun _ => true) true Try.f15.params.toList args.toList ds p := hA0
  rw [Try.params15] at hA hval hsz
  obtain ⟨v0, vs0, d0, ds0, p0, q0, hargs, rfl, rfl, h0, r0⟩ := trodAll_cons hA
  obtain ⟨rfl, rfl, rfl⟩ := trodAll_nil r0
  obtain rfl : args = #[v0] := by cases args; simp_all
  obtain ⟨rfl, rfl⟩ := trodVars_none hV
  have k0_ := h0
  have lt0 : ∀ x ∈ p0, x.block < W.heap.size := by obtain ⟨m, hm⟩ := k0_; exact DataW.trod_lt m _ _ _ hm
  obtain ⟨A0, c0, x0, rfl, hc0, hr0, hm0, hq0⟩ := slice_of Try.underlying34 (by kernel_rfl) (hval 0 34 v0 rfl rfl) opens28 h0
  have y0 : x0.length * 32 ≤ 140737488351232 := slice_sized hsz (j := 0) (t := 34) rfl rfl Try.underlying34 (by kernel_rfl) h0
  clear hA0 hval0 hsz0 hsz
  obtain ⟨k, hk⟩ := Pure.CheckStores x0 hm0 y0 hq0
  refine (doorwardlaw12_CheckStores.calls (k := k) (hr0 := hr0) (hc0 := hc0) (r := true) (w := W) (h := hk)).mono ?_
  rintro e W' ⟨rfl, bel0⟩
  have bel := bel0
  exact ⟨_, rfl, _, _, _, [], _, [], hW', trodAll_mk1 (shut_bool Try.underlying4 _), (trodAll_cons_mk (Below.trod laidOut (by kernel_rfl) (of_decide_eq_true (by kernel_rfl)) k0_ bel lt0) trodAll_mk0), rfl, bel.frame _, fun h => by cases h⟩
set_option maxHeartbeats 4000000 in
theorem facts : joinedFacts Try.prog 15 Try.f15 Rows.checkStoresSpec Rows.checkStoresRow = true := by
  unfold joinedFacts
  repeat' (with_reducible refine (Bool.and_eq_true_iff).mpr ⟨?_, ?_⟩)
  all_goals first | (with_reducible exact Order.laidOut) | (with_reducible exact Order.mapsRowed) | (with_reducible exact Order.noStops) | (with_reducible exact Order.noKnobs) | (with_reducible exact Order.enter) | (with_reducible exact Order.heard) | (rw [Order.makes]; rfl) | (rw [Order.lifts]; rfl) | (as_aux_lemma => kernel_rfl)
theorem named : Try.prog.funcNamed "doorward/doorwardlaw12.CheckStores" = some 15 := by kernel_rfl
theorem inst : Try.f15.isInstance Try.prog Rows.checkStoresRow.origin Rows.checkStoresRow.targs := of_decide_eq_true (by kernel_rfl)
theorem wrap : Try.f15.isWrapper Try.prog Rows.checkStoresRow.wrapper Rows.checkStoresRow.mainSum := by unfold Func.isWrapper; first | (rw [if_pos (by decide +kernel)]; kernel_rfl) | (rw [if_neg (by decide +kernel)]; exact ⟨rfl, rfl⟩)
theorem over : Rows.checkStoresRow.holds Try.pinned (OpenSpec.ofChange Rows.checkStoresSpec) :=
  OpenClaim.holds_of_wide 15 Try.f15 rfl rfl rfl rfl rfl rfl rfl ⟨rfl, rfl, rfl, rfl, rfl⟩ rfl rfl rfl rfl rfl named Try.func15 facts inst wrap
    (fun os started H enc _ => lifted os started H enc)
theorem proved : Rows.CheckStoresSaid := over
#print axioms proved
end Go.Proofs.Ytefkhcijgiagdaa.checkStores
namespace Go.Proofs.Ytefkhcijgiagdaa
/-- The row, under a short name, for the claim. -/
theorem checkStores_holds : Rows.CheckStoresSaid := checkStores.proved
end Go.Proofs.Ytefkhcijgiagdaa
end
