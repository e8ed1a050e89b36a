/- call.Pack, walked: a closure that writes on in a captured text. -/
import Derived.Test.YtoeklekjhaigoaaProg
import Derived.Below
import Derived.Deep.Draws
import Derived.Deep.AppendLies
import Derived.Maps.AppendAt
import Derived.OwnWalk
import Derived.Laws.BytesArg
import Derived.Laws.MakeOwn
import Derived.Laws.OwnMore
import Derived.Deep.OwnRows
import Derived.Tactics
import Derived.Lib.ConvBytes
import Derived.Laws.Slices
import Derived.WalkKit
import Derived.KernelRfl
import Derived.RowKit3
import Derived.Deep.LoopGhost
import Derived.Deep.QuietTactic
import Derived.BigQuiet
import Derived.WideLaws
import Derived.Deep.DeepCutAuto
import Derived.Deep.CutBlock
import Derived.Deep.RegionHeld3
import Derived.Laws.Rows
import Derived.Lib.AppendStr
import Derived.ArgAppend
import Derived.Laws.IdiomCopy
import Derived.OrdersHeld
import Derived.Laws.BitsLemmas
import Derived.RowKit
import Derived.Test.YtoeklekjhaigoaaWWords
import Derived.Test.YtoeklekjhaigoaaWLast
import Derived.Test.YtoeklekjhaigoaaWTab
import Derived.Test.YtoeklekjhaigoaaWFour
import Derived.Test.YtoeklekjhaigoaaWQPut
import Derived.Test.YtoeklekjhaigoaaWApart
import Derived.Test.YtoeklekjhaigoaaWArr
import Derived.Test.YtoeklekjhaigoaaWZeros
import Derived.Test.YtoeklekjhaigoaaWFoot
import Derived.Test.YtoeklekjhaigoaaWKept
import Derived.Test.YtoeklekjhaigoaaWShare
import Derived.Test.YtoeklekjhaigoaaWN
import Derived.Test.YtoeklekjhaigoaaWFootNe
import Derived.Test.YtoeklekjhaigoaaWAt
import Derived.Test.YtoeklekjhaigoaaWEqStruct
import Derived.Test.YtoeklekjhaigoaaWRepsOne
import Derived.Test.YtoeklekjhaigoaaWInv
import Derived.Test.YtoeklekjhaigoaaWInvWords
import Derived.Test.YtoeklekjhaigoaaWGuard
import Derived.Test.YtoeklekjhaigoaaWNEv
import Derived.Test.YtoeklekjhaigoaaWMore
import Derived.Laws.Tables
import Derived.Laws.CopyOwn
import Derived.Deep.WholeRow
import Derived.ChangeKeysEq
import Derived.Shelf.Abstract
import Derived.Deep.RegionLaw
import Derived.Maps.OwnSet
import Derived.Test.YtoeklekjhaigoaaQNum
namespace Go.Proofs.Ytoeklekjhaigoaa.HPack
open Go.RowKit Go.Proofs.YtoeklekjhaigoaaW.PrintWords Go.Proofs.YtoeklekjhaigoaaW.PrintLast Go.Proofs.YtoeklekjhaigoaaW.PrintMore Go.Proofs.Ytoeklekjhaigoaa.Le Go.Proofs.Ytoeklekjhaigoaa.QLe Go.Proofs.Ytoeklekjhaigoaa.QNum
set_option linter.unusedVariables false
set_option linter.unusedSimpArgs false
set_option maxRecDepth 100000
theorem put_any (n : Int) (sz : Nat) (w : World) (h1 : 1 ≤ sz) (h8 : sz ≤ 8) (h0 : 0 ≤ n) (hn : sz = 8 ∨ n < 256 ^ sz) :
    Calls Try.prog 94 #[.int .u64 n, .int .i64 (sz : Int)] w fun e w' => e = .returned (.tuple #[.string (strOfNums (leB n sz)), .int .i64 0]) ∧ Below w.heap.size w w' :=
  le_Put.calls 10 n sz _ _ w (put_ok n sz h1 h8 h0 hn 10 (Nat.le_refl _))
/-- add: a number more. -/
def AddPost (ob : Nat) (s : ByteArray) (w : World) (e : Ending) (w' : World) : Prop := e = .returned (.tuple #[]) ∧ w'.heap[ob]? = some (.cells #[.string s] 9 (0, 0)) ∧ Below ob w w'
set_option maxHeartbeats 1000000 in
theorem add_c {w : World} {ob : Nat} {s0 : ByteArray} (hb : w.heap[ob]? = some (.cells #[.string s0] 9 (0, 0))) (n : Int) (sz : Nat) (h1 : 1 ≤ sz) (h8 : sz ≤ 8) (h0 : 0 ≤ n) (hn : sz = 8 ∨ n < 256 ^ sz) (hs : s0.size ≤ 1000) :
    Calls Try.prog 93 #[.int .u64 n, .int .i64 (sz : Int), .pointer (some ⟨ob, 0, none⟩)] w (AddPost ob (s0 ++ strOfNums (leB n sz)) w) := by
  have hput := put_any n sz w h1 h8 h0 hn
  have hlt := blk_lt hb
  have hsz : (strOfNums (leB n sz)).size ≤ 8 := by rw [sON_size, leB_length]; exact h8
  generalize strOfNums (leB n sz) = st at *
  have HB := Aside0.mk hb
  clear hb h0 hn
  go_enter Try.func93, Try.ntmps93
  go_wp2_with (go_at_call 94; refine hput.mono ?_; rintro e w1 ⟨rfl, hb1⟩; have hw1 := blk_below HB.out hb1; have k0 := blk_cell hw1 0; have f0 := blk_frozen hw1 0; have HW1 := Aside0.mk hw1; clear hw1)
  go_end0
  exact ⟨rfl, blk_put HW1.out 0 _ rfl, (below_then (Below.refl ob w) (Nat.le_of_lt hlt) hb1).setCell (p := ⟨ob, 0, none⟩) (Nat.le_refl _) _⟩
/-- The arguments of a call. -/
def ar (a0 a1 a2 a3 a4 a5 : Int) : Nat → Int
  | 0 => a0
  | 1 => a1
  | 2 => a2
  | 3 => a3
  | 4 => a4
  | _ => a5
def packTo (nr arch ip a0 a1 a2 a3 a4 a5 : Int) : Nat → ByteArray
  | 0 => ⟨#[]⟩ ++ strOfNums (leB nr 4) ++ strOfNums (leB arch 4) ++ strOfNums (leB ip 8)
  | j + 1 => packTo nr arch ip a0 a1 a2 a3 a4 a5 j ++ strOfNums (leB (ar a0 a1 a2 a3 a4 a5 j) 8)
theorem packTo_size (nr arch ip a0 a1 a2 a3 a4 a5 : Int) : ∀ j, (packTo nr arch ip a0 a1 a2 a3 a4 a5 j).size = 16 + 8 * j := by
  intro j
  induction j with
  | zero =>
    have e0 : (⟨#[]⟩ : ByteArray).size = 0 := rfl
    simp only [packTo, ByteArray.size_append, sON_size, leB_length, e0]
  | succ j ih => simp only [packTo, ByteArray.size_append, sON_size, leB_length, ih]; omega
theorem size30 : (Try.prog.info? 30).map (·.size) = some 1 := by kernel_rfl
theorem run_index1 {P : Program} (t e : TypeId) (n : Nat) (k : IntKind) (ht : P.underlying t = some (.array n e)) (hu : P.underlying e = some (.int k)) (i : Nat) (inf : TypeInfo) (hi : P.info? e = some inf) (hs : inf.size = 1) (cs : Array Value) (hn : i < n) (x : Value) (hx : cs[i]? = some x) (w : World) :
    (Instr.index t (.agg cs) (.int .i64 (i : Int))).run P w = .ok x w := by
  have h1 : (sizeOf e).run P w = .ok 1 w := by rw [run_sizeOf w hi]; simp [Program.cellsOf, hi, hs]
  have h2 : (isAgg e).run P w = .ok false w := by simp [isAgg, run_underlying hu, go_sem]
  have h3 : (0 : Int) ≤ (i : Int) ∧ (i : Int) < (n : Int) := by omega
  simp [Instr.index, run_underlying ht, asIntOf, h1, h2, h3, hn, Go.part, hx, go_sem]
theorem ar_index (a0 a1 a2 a3 a4 a5 : Int) (j : Nat) (h : j < 6) (w : World) :
    (Instr.index 47 (.agg #[.int .u64 a0, .int .u64 a1, .int .u64 a2, .int .u64 a3, .int .u64 a4, .int .u64 a5]) (.int .i64 (j : Int))).run Try.prog w = .ok (.int .u64 (ar a0 a1 a2 a3 a4 a5 j)) w := by
  obtain ⟨inf, hi, hs⟩ := Option.map_eq_some_iff.1 size30
  refine run_index1 47 30 6 .u64 Try.underlying47 Try.underlying30 j inf hi hs _ h _ ?_ w
  match j, h with
  | 0, _ | 1, _ | 2, _ | 3, _ | 4, _ | 5, _ => rfl
def packB (nr arch ip a0 a1 a2 a3 a4 a5 : Int) : ByteArray := packTo nr arch ip a0 a1 a2 a3 a4 a5 6
set_option maxHeartbeats 2000000 in
theorem pack_any (nr arch ip a0 a1 a2 a3 a4 a5 : Int) (w : World) (hnr : 0 ≤ nr ∧ nr < 4294967296) (har : 0 ≤ arch ∧ arch < 4294967296) (hip : 0 ≤ ip) (h0 : 0 ≤ a0) (h1 : 0 ≤ a1) (h2 : 0 ≤ a2) (h3 : 0 ≤ a3) (h4 : 0 ≤ a4) (h5 : 0 ≤ a5) :
    Calls Try.prog 53 #[.agg #[.int .u32 nr, .int .u32 arch, .int .u64 ip, .int .u64 a0, .int .u64 a1, .int .u64 a2, .int .u64 a3, .int .u64 a4, .int .u64 a5]] w fun e w' => e = .returned (.string (packB nr arch ip a0 a1 a2 a3 a4 a5)) ∧ Below w.heap.size w w' := by
  have hu49 := Try.underlying49
  have hu47 := Try.underlying47
  have hmf : ∀ (fn : Fn) (first cap : Array Value) (w : World), (Instr.makeFunc fn first cap).run Try.prog w = .ok (.func fn first cap) w := fun _ _ _ _ => rfl
  have p4 : (256 : Int) ^ 4 = 4294967296 := by decide
  have un : IntKind.u64.wrap nr = nr := u64_small nr (by omega) (by omega)
  have ua : IntKind.u64.wrap arch = arch := u64_small arch (by omega) (by omega)
  have e0 : (⟨#[]⟩ : ByteArray).size = 0 := rfl
  have hob0 := heap_alloc_new (w.alloc (.cells #[.int .u32 nr, .int .u32 arch, .int .u64 ip, .int .u64 a0, .int .u64 a1, .int .u64 a2, .int .u64 a3, .int .u64 a4, .int .u64 a5] 49)) (.cells #[.string ⟨#[]⟩] 9)
  have hcb0 := blk_alloc (heap_alloc_new w (.cells #[.int .u32 nr, .int .u32 arch, .int .u64 ip, .int .u64 a0, .int .u64 a1, .int .u64 a2, .int .u64 a3, .int .u64 a4, .int .u64 a5] 49)) (.cells #[.string ⟨#[]⟩] 9)
  have sz1 : (w.alloc (.cells #[.int .u32 nr, .int .u32 arch, .int .u64 ip, .int .u64 a0, .int .u64 a1, .int .u64 a2, .int .u64 a3, .int .u64 a4, .int .u64 a5] 49)).heap.size = w.heap.size + 1 := by simp
  rw [sz1] at hob0
  have hb0 : Below w.heap.size w ((w.alloc (.cells #[.int .u32 nr, .int .u32 arch, .int .u64 ip, .int .u64 a0, .int .u64 a1, .int .u64 a2, .int .u64 a3, .int .u64 a4, .int .u64 a5] 49)).alloc (.cells #[.string ⟨#[]⟩] 9)) := below_alloc (below_alloc (Below.refl _ _) _) _
  have hix := ar_index a0 a1 a2 a3 a4 a5
  generalize hwi : ((w.alloc (.cells #[.int .u32 nr, .int .u32 arch, .int .u64 ip, .int .u64 a0, .int .u64 a1, .int .u64 a2, .int .u64 a3, .int .u64 a4, .int .u64 a5] 49)).alloc (.cells #[.string ⟨#[]⟩] 9)) = wi at hob0 hcb0 hb0
  have tok1 : True := trivial
  have tok2 : True := trivial
  have tok3 : True := trivial
  have HWI := Aside0.mk hwi
  clear hwi
  have HO := Aside0.mk hob0
  have HC := Aside0.mk hcb0
  have HB0 := Aside0.mk hb0
  clear hob0 hcb0 hb0
  go_enter Try.func53, Try.ntmps53
  go_wp2_with (first | (go_at_call 93; have _t := tok1; rw [HWI.out]; refine (add_c HO.out nr 4 (by omega) (by omega) hnr.1 (.inr (by omega)) (by rw [e0]; omega)).mono ?_; rintro e w1 ⟨rfl, ho1, hb1⟩; have hc1 := (hb1.block w.heap.size (by omega)).trans HC.out; have k11 := blk_cell hc1 1; have HO1 := Aside0.mk ho1; have HC1 := Aside0.mk hc1; clear tok1 _t ho1 hc1) | (go_at_call 93; have _t := tok2; refine (add_c HO1.out arch 4 (by omega) (by omega) har.1 (.inr (by omega)) (by rw [ByteArray.size_append, e0, sON_size, leB_length]; omega)).mono ?_; rintro e w2 ⟨rfl, ho2, hb2⟩; have hc2 := (hb2.block w.heap.size (by omega)).trans HC1.out; have k22 := blk_cell hc2 2; have HO2 := Aside0.mk ho2; have HC2 := Aside0.mk hc2; clear tok2 _t ho2 hc2) | (go_at_call 93; have _t := tok3; refine (add_c HO2.out ip 8 (by omega) (by omega) hip (.inl rfl) (by simp only [ByteArray.size_append, e0, sON_size, leB_length]; omega)).mono ?_; rintro e w3 ⟨rfl, ho3, hb3⟩; have hc3 := (hb3.block w.heap.size (by omega)).trans HC2.out; have k33 := blk_cell hc3 3; have k34 := blk_cell hc3 4; have k35 := blk_cell hc3 5; have k36 := blk_cell hc3 6; have k37 := blk_cell hc3 7; have k38 := blk_cell hc3 8; have HO3 := Aside0.mk ho3; clear tok3 _t ho3 hc3))
  have HB3 := Aside0.mk (below_weaken (below_weaken (below_weaken HB0.out (Nat.le_succ _) hb1) (Nat.le_succ _) hb2) (Nat.le_succ _) hb3)
  have hj0 := Aside0.mk (show ∀ j, j < 6 → 0 ≤ ar a0 a1 a2 a3 a4 a5 j from fun j hj => by
    match j, hj with
    | 0, _ => exact h0
    | 1, _ => exact h1
    | 2, _ => exact h2
    | 3, _ => exact h3
    | 4, _ => exact h4
    | 5, _ => exact h5)
  clear hb1 hb2 hb3 k33 k34 k35 k36 k37 k38 un ua
  go_loopw [24] (fun i wr => ∃ j : Nat, j ≤ 6 ∧ i = .int .i64 j ∧ Aside0 (wr.heap[w.heap.size + 1]? = some (.cells #[.string (packTo nr arch ip a0 a1 a2 a3 a4 a5 j)] 9 (0, 0))) ∧ Aside0 (Below w.heap.size w wr)) (fun i _ => 6 - (intOf i).toNat)
  case atStart => exact ⟨0, by omega, rfl, ⟨HO3.out⟩, ⟨HB3.out⟩⟩
  case round =>
    clear HO3 HB3
    obtain ⟨j, hj, rfl, ho, hb⟩ := hrel
    by_cases hlt : j < 6
    · have hdj : decide ((j : Int) < 6) = true := decide_eq_true (by omega)
      have hx := hix j hlt
      have hn := hj0.out j hlt
      have hs := packTo_size nr arch ip a0 a1 a2 a3 a4 a5 j
      have hadd := add_c ho.out (ar a0 a1 a2 a3 a4 a5 j) 8 (by omega) (by omega) hn (.inl rfl) (by omega)
      clear hix
      have hsucc := Aside0.mk (show packTo nr arch ip a0 a1 a2 a3 a4 a5 j ++ strOfNums (leB (ar a0 a1 a2 a3 a4 a5 j) 8) = packTo nr arch ip a0 a1 a2 a3 a4 a5 (j + 1) from rfl)
      generalize ar a0 a1 a2 a3 a4 a5 j = n at *
      go_wp2_with (go_at_call 93; refine hadd.mono ?_; rintro e w4 ⟨rfl, ho4, hb4⟩)
      go_roundw
      case rel => exact ⟨j + 1, by omega, by go_num, ⟨hsucc.out ▸ ho4⟩, ⟨below_weaken hb.out (Nat.le_succ _) hb4⟩⟩
      case measure => simp [intOf]; omega
    · obtain rfl : j = 6 := by omega
      have hdj : decide (((6 : Nat) : Int) < 6) = false := rfl
      have k0 := blk_cell ho.out 0
      clear hix
      go_wp2
      go_ret
      exact ⟨rfl, hb.out⟩
/-! ### call.Pack: by hand -/
def call_Pack.f (a0 a1 a2 a3 a4 a5 a6 a7 a8 : Int) : Option ByteArray :=
  if (0 ≤ a0 ∧ a0 < 4294967296) ∧ (0 ≤ a1 ∧ a1 < 4294967296) ∧ 0 ≤ a2 ∧ 0 ≤ a3 ∧ 0 ≤ a4 ∧ 0 ≤ a5 ∧ 0 ≤ a6 ∧ 0 ≤ a7 ∧ 0 ≤ a8 then some (packB a0 a1 a2 a3 a4 a5 a6 a7 a8) else none
theorem call_Pack.calls (a0_0 a0_1 a0_2 a0_3 a0_4 a0_5 a0_6 a0_7 a0_8 : Int) (r : ByteArray) (w : World) (h : call_Pack.f a0_0 a0_1 a0_2 a0_3 a0_4 a0_5 a0_6 a0_7 a0_8 = some r) :
    Calls Try.prog 53 #[.agg #[.int .u32 a0_0, .int .u32 a0_1, .int .u64 a0_2, .int .u64 a0_3, .int .u64 a0_4, .int .u64 a0_5, .int .u64 a0_6, .int .u64 a0_7, .int .u64 a0_8]] w fun e w' => e = .returned (.string r) ∧ Below w.heap.size w w' := by
  unfold call_Pack.f at h
  split at h
  · rename_i hc
    have h2 := pack_any a0_0 a0_1 a0_2 a0_3 a0_4 a0_5 a0_6 a0_7 a0_8 w hc.1 hc.2.1 hc.2.2.1 hc.2.2.2.1 hc.2.2.2.2.1 hc.2.2.2.2.2.1 hc.2.2.2.2.2.2.1 hc.2.2.2.2.2.2.2.1 hc.2.2.2.2.2.2.2.2
    rw [Option.some.inj h] at h2
    exact h2
  · cases h
end Go.Proofs.Ytoeklekjhaigoaa.HPack
