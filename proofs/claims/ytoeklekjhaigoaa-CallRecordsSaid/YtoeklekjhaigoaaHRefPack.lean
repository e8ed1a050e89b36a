/- The reference's Pack and Unpack of calls (doorwardref13), walked. -/
import Derived.Test.YtoeklekjhaigoaaProg
import Derived.Below
import Derived.Deep.Draws
import Derived.Deep.AppendLies
import Derived.Maps.AppendAt
import Derived.OwnWalk
import Derived.Laws.BytesArg
import Derived.Laws.MakeOwn
import Derived.Laws.OwnMore
import Derived.Deep.OwnRows
import Derived.Tactics
import Derived.Lib.ConvBytes
import Derived.Laws.Slices
import Derived.WalkKit
import Derived.KernelRfl
import Derived.RowKit3
import Derived.Deep.LoopGhost
import Derived.Deep.QuietTactic
import Derived.BigQuiet
import Derived.WideLaws
import Derived.Deep.DeepCutAuto
import Derived.Deep.CutBlock
import Derived.Deep.RegionHeld3
import Derived.Laws.Rows
import Derived.Lib.AppendStr
import Derived.ArgAppend
import Derived.Laws.IdiomCopy
import Derived.OrdersHeld
import Derived.Laws.BitsLemmas
import Derived.RowKit
import Derived.Test.YtoeklekjhaigoaaWWords
import Derived.Test.YtoeklekjhaigoaaWLast
import Derived.Test.YtoeklekjhaigoaaWTab
import Derived.Test.YtoeklekjhaigoaaWFour
import Derived.Test.YtoeklekjhaigoaaWQPut
import Derived.Test.YtoeklekjhaigoaaWApart
import Derived.Test.YtoeklekjhaigoaaWArr
import Derived.Test.YtoeklekjhaigoaaWZeros
import Derived.Test.YtoeklekjhaigoaaWFoot
import Derived.Test.YtoeklekjhaigoaaWKept
import Derived.Test.YtoeklekjhaigoaaWShare
import Derived.Test.YtoeklekjhaigoaaWN
import Derived.Test.YtoeklekjhaigoaaWFootNe
import Derived.Test.YtoeklekjhaigoaaWAt
import Derived.Test.YtoeklekjhaigoaaWEqStruct
import Derived.Test.YtoeklekjhaigoaaWRepsOne
import Derived.Test.YtoeklekjhaigoaaWInv
import Derived.Test.YtoeklekjhaigoaaWInvWords
import Derived.Test.YtoeklekjhaigoaaWGuard
import Derived.Test.YtoeklekjhaigoaaWNEv
import Derived.Test.YtoeklekjhaigoaaWMore
import Derived.Laws.Tables
import Derived.Laws.CopyOwn
import Derived.Deep.WholeRow
import Derived.ChangeKeysEq
import Derived.Shelf.Abstract
import Derived.Deep.RegionLaw
import Derived.Maps.OwnSet
import Derived.Test.YtoeklekjhaigoaaHUnpack
import Derived.Test.YtoeklekjhaigoaaQRef01B
import Derived.Test.YtoeklekjhaigoaaQRef01
namespace Go.Proofs.Ytoeklekjhaigoaa.HRefPack
open Go.RowKit Go.Proofs.YtoeklekjhaigoaaW.PrintWords Go.Proofs.YtoeklekjhaigoaaW.PrintLast Go.Proofs.YtoeklekjhaigoaaW.PrintMore Go.Proofs.Ytoeklekjhaigoaa.Le Go.Proofs.Ytoeklekjhaigoaa.R01 Go.Proofs.Ytoeklekjhaigoaa.W0 Go.Proofs.Ytoeklekjhaigoaa.QRef01 Go.Proofs.Ytoeklekjhaigoaa.QRef01B Go.Proofs.Ytoeklekjhaigoaa.QLe Go.Proofs.Ytoeklekjhaigoaa.QNum Go.Proofs.Ytoeklekjhaigoaa.HPack Go.Proofs.Ytoeklekjhaigoaa.HUnpack
set_option linter.unusedVariables false
set_option linter.unusedSimpArgs false
set_option maxRecDepth 100000
theorem bytes_any (n : Int) (sz : Nat) (w : World) (h8 : sz ≤ 8) (h0 : 0 ≤ n) (h1 : n < 18446744073709551616) :
    ∃ q, Calls Try.prog 98 #[.int .u64 n, .int .i64 (sz : Int)] w fun e w' => e = .returned (.tuple #[.string (strOfNums (leB n sz)), .int .u64 q]) ∧ Below w.heap.size w w' := by
  obtain ⟨q, hq⟩ := bytes_ok n sz h8 h0 h1 20 (by omega)
  exact ⟨q, doorwardref01_Bytes.calls 20 n sz _ q w hq⟩
def BytesAny (n : Int) (sz : Nat) (st : ByteArray) : Prop := ∀ W : World, ∃ q, Calls Try.prog 98 #[.int .u64 n, .int .i64 (sz : Int)] W fun e w' => e = .returned (.tuple #[.string st, .int .u64 q]) ∧ Below W.heap.size W w'
theorem ba_nil (x : ByteArray) : (⟨#[]⟩ : ByteArray) ++ x = x := by
  apply ByteArray.ext
  simp
def CB (w : World) (cb : Nat) (nr arch ip a0 a1 a2 a3 a4 a5 : Int) : Prop := w.heap[cb]? = some (.cells #[.int .u32 nr, .int .u32 arch, .int .u64 ip, .int .u64 a0, .int .u64 a1, .int .u64 a2, .int .u64 a3, .int .u64 a4, .int .u64 a5] 49 (0, 0))
theorem CB.cell {w : World} {cb : Nat} {nr arch ip a0 a1 a2 a3 a4 a5 : Int} (h : CB w cb nr arch ip a0 a1 a2 a3 a4 a5) (j : Nat) (hj : j < 6) : w.cell? ⟨cb, 3 + j, none⟩ = some (.int .u64 (ar a0 a1 a2 a3 a4 a5 j)) := by
  refine (blk_cell h (3 + j)).trans ?_
  match j, hj with
  | 0, _ | 1, _ | 2, _ | 3, _ | 4, _ | 5, _ => rfl
set_option maxHeartbeats 2000000 in
theorem refPack_any (nr arch ip a0 a1 a2 a3 a4 a5 : Int) (w : World) (hnr : 0 ≤ nr ∧ nr < 4294967296) (har : 0 ≤ arch ∧ arch < 4294967296) (hip : 0 ≤ ip ∧ ip < 18446744073709551616) (h0 : 0 ≤ a0 ∧ a0 < 18446744073709551616) (h1 : 0 ≤ a1 ∧ a1 < 18446744073709551616) (h2 : 0 ≤ a2 ∧ a2 < 18446744073709551616) (h3 : 0 ≤ a3 ∧ a3 < 18446744073709551616) (h4 : 0 ≤ a4 ∧ a4 < 18446744073709551616) (h5 : 0 ≤ a5 ∧ a5 < 18446744073709551616) :
    Calls Try.prog 57 #[.agg #[.int .u32 nr, .int .u32 arch, .int .u64 ip, .int .u64 a0, .int .u64 a1, .int .u64 a2, .int .u64 a3, .int .u64 a4, .int .u64 a5]] w fun e w' => e = .returned (.string (packB nr arch ip a0 a1 a2 a3 a4 a5)) ∧ Below w.heap.size w w' := by
  have hu49 := Try.underlying49
  have hu47 := Try.underlying47
  have un : IntKind.u64.wrap nr = nr := u64_small nr (by omega) (by omega)
  have ua : IntKind.u64.wrap arch = arch := u64_small arch (by omega) (by omega)
  have hcb0 := Aside0.mk (heap_alloc_new w (.cells #[.int .u32 nr, .int .u32 arch, .int .u64 ip, .int .u64 a0, .int .u64 a1, .int .u64 a2, .int .u64 a3, .int .u64 a4, .int .u64 a5] 49))
  have hb0 := Aside0.mk (below_alloc (Below.refl w.heap.size w) (.cells #[.int .u32 nr, .int .u32 arch, .int .u64 ip, .int .u64 a0, .int .u64 a1, .int .u64 a2, .int .u64 a3, .int .u64 a4, .int .u64 a5] 49))
  have z1 : (strOfNums (leB nr 4)).size ≤ 8 := by rw [sON_size, leB_length]; omega
  have z2 : (strOfNums (leB arch 4)).size ≤ 8 := by rw [sON_size, leB_length]; omega
  have z3 : (strOfNums (leB ip 8)).size ≤ 8 := by rw [sON_size, leB_length]; omega
  have q1 := Aside0.mk (show BytesAny nr 4 (strOfNums (leB nr 4)) from fun W => bytes_any nr 4 W (by omega) hnr.1 (by omega))
  have q2 := Aside0.mk (show BytesAny arch 4 (strOfNums (leB arch 4)) from fun W => bytes_any arch 4 W (by omega) har.1 (by omega))
  have q3 := Aside0.mk (show BytesAny ip 8 (strOfNums (leB ip 8)) from fun W => bytes_any ip 8 W (by omega) hip.1 hip.2)
  have p0 := Aside0.mk (show strOfNums (leB nr 4) ++ strOfNums (leB arch 4) ++ strOfNums (leB ip 8) = packTo nr arch ip a0 a1 a2 a3 a4 a5 0 by simp only [packTo, ba_nil])
  generalize strOfNums (leB nr 4) = st1 at z1 q1 p0
  generalize strOfNums (leB arch 4) = st2 at z2 q2 p0
  generalize strOfNums (leB ip 8) = st3 at z3 q3 p0
  have hj0 := Aside0.mk (show ∀ j, j < 6 → BytesAny (ar a0 a1 a2 a3 a4 a5 j) 8 (strOfNums (leB (ar a0 a1 a2 a3 a4 a5 j) 8)) from fun j hj W => by
    refine bytes_any _ 8 W (by omega) ?_ ?_
    · match j, hj with
      | 0, _ => exact h0.1
      | 1, _ => exact h1.1
      | 2, _ => exact h2.1
      | 3, _ => exact h3.1
      | 4, _ => exact h4.1
      | 5, _ => exact h5.1
    · match j, hj with
      | 0, _ => exact h0.2
      | 1, _ => exact h1.2
      | 2, _ => exact h2.2
      | 3, _ => exact h3.2
      | 4, _ => exact h4.2
      | 5, _ => exact h5.2)
  clear hnr har hip h0 h1 h2 h3 h4 h5
  have tok1 : True := trivial
  have tok2 : True := trivial
  have tok3 : True := trivial
  go_enter Try.func57, Try.ntmps57
  go_wp2_with (first | (go_at_call 98; have _t := tok1; obtain ⟨x1, hx1⟩ := q1.out (w.alloc (.cells #[.int .u32 nr, .int .u32 arch, .int .u64 ip, .int .u64 a0, .int .u64 a1, .int .u64 a2, .int .u64 a3, .int .u64 a4, .int .u64 a5] 49)); refine hx1.mono ?_; rintro e w1 ⟨rfl, hb1⟩; have hc1 := blk_below hcb0.out hb1; have k11 := blk_cell hc1 1; have HC1 := Aside0.mk hc1; have HB1 := Aside0.mk (below_step hb0.out hb1); clear tok1 _t hc1 hx1 hb1) | (go_at_call 98; have _t := tok2; obtain ⟨x2, hx2⟩ := q2.out w1; refine hx2.mono ?_; rintro e w2 ⟨rfl, hb2⟩; have hc2 := blk_below HC1.out hb2; have k22 := blk_cell hc2 2; have HC2 := Aside0.mk hc2; have HB2 := Aside0.mk (below_step HB1.out hb2); clear tok2 _t hc2 hx2 hb2) | (go_at_call 98; have _t := tok3; obtain ⟨x3, hx3⟩ := q3.out w2; refine hx3.mono ?_; rintro e w3 ⟨rfl, hb3⟩; have hc3 := blk_below HC2.out hb3; have HC3 := Aside0.mk (show CB w3 w.heap.size nr arch ip a0 a1 a2 a3 a4 a5 from hc3); have HB3 := Aside0.mk (below_step HB2.out hb3); clear tok3 _t hc3 hx3 hb3))
  clear k11 k22 hcb0 hb0 HC1 HB1 HC2 HB2 q1 q2 q3 z1 z2 z3 un ua
  go_loopw [9, 10] (fun o i wr => ∃ j : Nat, j ≤ 6 ∧ i = .int .i64 j ∧ o = .string (packTo nr arch ip a0 a1 a2 a3 a4 a5 j) ∧ Aside0 (CB wr w.heap.size nr arch ip a0 a1 a2 a3 a4 a5) ∧ Aside0 (Below w.heap.size w wr)) (fun _ i _ => 6 - (intOf i).toNat)
  case atStart => exact ⟨0, by omega, rfl, by rw [p0.out], ⟨HC3.out⟩, ⟨HB3.out⟩⟩
  case round =>
    clear HC3 HB3
    obtain ⟨j, hj, rfl, rfl, ho, hb⟩ := hrel
    by_cases hlt : j < 6
    · have hdj : decide ((j : Int) < 6) = true := decide_eq_true (by omega)
      have hs := packTo_size nr arch ip a0 a1 a2 a3 a4 a5 j
      have hcj := ho.out.cell j hlt
      have hq := Aside0.mk (hj0.out j hlt)
      have hsucc := Aside0.mk (show packTo nr arch ip a0 a1 a2 a3 a4 a5 j ++ strOfNums (leB (ar a0 a1 a2 a3 a4 a5 j) 8) = packTo nr arch ip a0 a1 a2 a3 a4 a5 (j + 1) from rfl)
      have z4 : (strOfNums (leB (ar a0 a1 a2 a3 a4 a5 j) 8)).size ≤ 8 := by rw [sON_size, leB_length]; omega
      generalize strOfNums (leB (ar a0 a1 a2 a3 a4 a5 j) 8) = st4 at *
      generalize ar a0 a1 a2 a3 a4 a5 j = n at *
      generalize packTo nr arch ip a0 a1 a2 a3 a4 a5 j = pj at *
      go_wp2_with (go_at_call 98; obtain ⟨x4, hx4⟩ := hq.out wr; refine hx4.mono ?_; rintro e w4 ⟨rfl, hb4⟩; have HB4 := Aside0.mk hb4; clear hb4 hx4)
      go_roundw
      case rel => exact ⟨j + 1, by omega, by go_num, by rw [hsucc.out], ⟨blk_below ho.out HB4.out⟩, ⟨below_step hb.out HB4.out⟩⟩
      case measure => simp [intOf]; omega
    · obtain rfl : j = 6 := by omega
      have hdj : decide (((6 : Nat) : Int) < 6) = false := rfl
      go_wp2
      go_ret
      exact ⟨rfl, hb.out⟩
theorem num_any (s : ByteArray) (p : Nat) (sz : Nat) (W : World) (h8 : sz ≤ 8) (hp : p + sz ≤ s.size) :
    Calls Try.prog 97 #[.string (s.extract p (p + sz))] W fun e w' => e = .returned (.int .u64 (leval s (p : Int) sz)) ∧ Drawn0 W w' := by
  have hz : (s.extract p (p + sz)).size ≤ 8 := by rw [← len_data, ext_data]; simp; omega
  have e : num (s.extract p (p + sz)).data.toList = leval s (p : Int) sz := by
    rw [leval_num s p sz hp, ext_data, show p + sz - p = sz by omega]
  rw [← e]
  exact doorwardref01_Number.calls 20 _ _ W (number_ok _ hz 20 (by omega))
structure UR (w0 w : World) (cs : Array Value) : Prop where
  hr : w.heap[w0.heap.size]? = some (.cells #[.int .u32 0, .int .u32 0, .int .u64 0, .int .u64 0, .int .u64 0, .int .u64 0, .int .u64 0, .int .u64 0, .int .u64 0] 49 (0, 0))
  hc : w.heap[w0.heap.size + 1]? = some (.cells cs 49 (0, 0))
  hb : Below w0.heap.size w0 w
theorem UR.put {w0 w : World} {cs cs' : Array Value} (h : UR w0 w cs) (i : Nat) (u : Value) (e : cs.setIfInBounds i u = cs') : UR w0 (w.setCell ⟨w0.heap.size + 1, i, none⟩ u) cs' :=
  ⟨blk_far h.hr (show w0.heap.size ≠ w0.heap.size + 1 by omega) u, blk_put h.hc i u e, Below.setCell h.hb (p := ⟨w0.heap.size + 1, i, none⟩) (Nat.le_succ _) u⟩
theorem UR.drewN {w0 w : World} {cs : Array Value} (h : UR w0 w cs) (n : Nat) : UR w0 (w.drewN n) cs := ⟨blk_drewN h.hr n, blk_drewN h.hc n, pw_below_drewN h.hb n⟩
abbrev oZ : Obj := .cells #[.int .u32 0, .int .u32 0, .int .u64 0, .int .u64 0, .int .u64 0, .int .u64 0, .int .u64 0, .int .u64 0, .int .u64 0] 49
theorem UR.mk2 {w0 w1 : World} (cs : Array Value) (hb : Below w0.heap.size w0 w1) (hr : w1.heap[w0.heap.size]? = some oZ) (hs : w1.heap.size = w0.heap.size + 1) : UR w0 (w1.alloc (.cells cs 49)) cs :=
  ⟨blk_alloc hr _, by rw [← hs]; exact heap_alloc_new _ _, below_alloc hb _⟩
theorem UR.alloc2 (w0 : World) (n : Nat) (cs : Array Value) : UR w0 (((w0.alloc oZ).drewN n).alloc (.cells cs 49)) cs :=
  UR.mk2 cs (pw_below_drewN (below_alloc (Below.refl _ _) _) _) (blk_drewN (heap_alloc_new _ _) _) (by simp [World.drewN])
theorem UR.alloc1 (w0 : World) (cs : Array Value) : UR w0 ((w0.alloc oZ).alloc (.cells cs 49)) cs :=
  UR.mk2 cs (below_alloc (Below.refl _ _) _) (heap_alloc_new _ _) (by simp)
theorem UR.nine {w0 w : World} (h : UR w0 w #[.int .u32 0, .int .u32 0, .int .u64 0, .int .u64 0, .int .u64 0, .int .u64 0, .int .u64 0, .int .u64 0, .int .u64 0]) (v0 v1 v2 v3 v4 v5 v6 v7 v8 : Value) : UR w0 (((((((((w.setCell ⟨w0.heap.size + 1, 0, none⟩ v0).setCell ⟨w0.heap.size + 1, 1, none⟩ v1).setCell ⟨w0.heap.size + 1, 2, none⟩ v2).setCell ⟨w0.heap.size + 1, 3, none⟩ v3).setCell ⟨w0.heap.size + 1, 4, none⟩ v4).setCell ⟨w0.heap.size + 1, 5, none⟩ v5).setCell ⟨w0.heap.size + 1, 6, none⟩ v6).setCell ⟨w0.heap.size + 1, 7, none⟩ v7).setCell ⟨w0.heap.size + 1, 8, none⟩ v8) #[v0, v1, v2, v3, v4, v5, v6, v7, v8] :=
  ⟨blk_far (blk_far (blk_far (blk_far (blk_far (blk_far (blk_far (blk_far (blk_far h.hr (p := ⟨w0.heap.size + 1, 0, none⟩) (Nat.ne_of_lt (Nat.lt_succ_self _)) v0) (p := ⟨w0.heap.size + 1, 1, none⟩) (Nat.ne_of_lt (Nat.lt_succ_self _)) v1) (p := ⟨w0.heap.size + 1, 2, none⟩) (Nat.ne_of_lt (Nat.lt_succ_self _)) v2) (p := ⟨w0.heap.size + 1, 3, none⟩) (Nat.ne_of_lt (Nat.lt_succ_self _)) v3) (p := ⟨w0.heap.size + 1, 4, none⟩) (Nat.ne_of_lt (Nat.lt_succ_self _)) v4) (p := ⟨w0.heap.size + 1, 5, none⟩) (Nat.ne_of_lt (Nat.lt_succ_self _)) v5) (p := ⟨w0.heap.size + 1, 6, none⟩) (Nat.ne_of_lt (Nat.lt_succ_self _)) v6) (p := ⟨w0.heap.size + 1, 7, none⟩) (Nat.ne_of_lt (Nat.lt_succ_self _)) v7) (p := ⟨w0.heap.size + 1, 8, none⟩) (Nat.ne_of_lt (Nat.lt_succ_self _)) v8, Go.Proofs.Ytoeklekjhaigoaa.HUnpack.nine h.hc _ _ _ _ _ _ _ _ _, nine_below h.hb (Nat.le_succ _) _ _ _ _ _ _ _ _ _⟩
theorem ur_cut {w0 W : World} {cs : Array Value} {K : Act → World → Prop} {Q : Exit → Act → World → Prop} {a : Act} (hu : UR w0 W cs) (h : ∀ W', UR w0 W' cs → Exit.then K Q .normal a W') : Exit.then K Q .normal a W := h W hu
theorem slice_nat (s : ByteArray) (lo hi : Nat) (W : World) (h1 : lo ≤ hi) (h2 : hi ≤ s.size) : (Instr.slice 9 (.string s) (some (.int .i64 (lo : Int))) (some (.int .i64 (hi : Int))) none).run Try.prog W = .ok (.string (s.extract lo hi)) W := by
  exact run_slice_string W 9 s .i64 .i64 lo hi Try.underlying9 (by omega) (by omega) (by omega)
abbrev NumAny (t : ByteArray) (v : Int) : Prop := ∀ W : World, Calls Try.prog 97 #[.string t] W fun e w' => e = .returned (.int .u64 v) ∧ Drawn0 W w'
set_option maxHeartbeats 4000000 in
theorem refUnpack_any (s : ByteArray) (w : World) (hs : s.size ≤ 140737488355328) : Calls Try.prog 56 #[.string s] w (UnpPost (unp s) w) := by
  have hu49 := Try.underlying49
  have hu47 := Try.underlying47
  by_cases h64 : s.size = 64
  · unfold unp
    rw [if_pos h64]
    have q1 := Aside0.mk (show NumAny (s.extract 0 4) (leval s 0 4) from fun W => num_any s 0 4 W (by omega) (by omega))
    have q2 := Aside0.mk (show NumAny (s.extract 4 8) (leval s 4 4) from fun W => num_any s 4 4 W (by omega) (by omega))
    have q3 := Aside0.mk (show NumAny (s.extract 8 16) (leval s 8 8) from fun W => num_any s 8 8 W (by omega) (by omega))
    have qj := Aside0.mk (show ∀ j, j < 6 → NumAny (s.extract (16 + 8 * j) (16 + 8 * j + 8)) (leval s ((16 + 8 * j : Nat) : Int) 8) from fun j hj W => num_any s (16 + 8 * j) 8 W (by omega) (by omega))
    have hc0 := Aside0.mk (cArr_zero s)
    have hc6 := Aside0.mk (show cArr s 6 = #[.int .u32 (leval s 0 4 % 4294967296), .int .u32 (leval s 4 4 % 4294967296), .int .u64 (leval s 8 8), .int .u64 (leval s 16 8), .int .u64 (leval s 24 8), .int .u64 (leval s 32 8), .int .u64 (leval s 40 8), .int .u64 (leval s 48 8), .int .u64 (leval s 56 8)] from rfl)
    have hset := Aside0.mk (cArr_set s)
    generalize leval s 0 4 = v0 at *
    generalize leval s 4 4 = v1 at *
    generalize leval s 8 8 = v2 at *
    generalize leval s 16 8 = v3 at *
    generalize leval s 24 8 = v4 at *
    generalize leval s 32 8 = v5 at *
    generalize leval s 40 8 = v6 at *
    generalize leval s 48 8 = v7 at *
    generalize leval s 56 8 = v8 at *
    have g0 := Aside0.mk (heap_alloc_new w (.cells #[.int .u32 0, .int .u32 0, .int .u64 0, .int .u64 0, .int .u64 0, .int .u64 0, .int .u64 0, .int .u64 0, .int .u64 0] 49))
    have b0 := Aside0.mk (below_alloc (Below.refl w.heap.size w) (.cells #[.int .u32 0, .int .u32 0, .int .u64 0, .int .u64 0, .int .u64 0, .int .u64 0, .int .u64 0, .int .u64 0, .int .u64 0] 49))
    have sz1 : (w.alloc (.cells #[.int .u32 0, .int .u32 0, .int .u64 0, .int .u64 0, .int .u64 0, .int .u64 0, .int .u64 0, .int .u64 0, .int .u64 0] 49)).heap.size = w.heap.size + 1 := by simp
    go_enter Try.func56, Try.ntmps56
    go_wp2
    go_region_held3 (fun _ : World => True) (trivial) (first | (go_at_call 97; (with_reducible refine (q1.out _).mono ?_); rintro e w1 ⟨rfl, ⟨n1, rfl⟩⟩) | (go_at_call 97; (with_reducible refine (q2.out _).mono ?_); rintro e w1 ⟨rfl, ⟨n1, rfl⟩⟩) | (go_at_call 97; (with_reducible refine (q3.out _).mono ?_); rintro e w1 ⟨rfl, ⟨n1, rfl⟩⟩))
    all_goals refine ur_cut (w0 := w) (cs := #[.int .u32 (IntKind.u32.wrap v0), .int .u32 (IntKind.u32.wrap v1), .int .u64 v2, .int .u64 0, .int .u64 0, .int .u64 0, .int .u64 0, .int .u64 0, .int .u64 0]) (by with_reducible first | exact UR.alloc2 _ _ _ | exact UR.nine (UR.drewN (UR.alloc2 _ _ _) _) _ _ _ _ _ _ _ _ _ | exact UR.nine (UR.drewN (UR.alloc1 _ _) _) _ _ _ _ _ _ _ _ _) ?_
    all_goals (intro W hW; have hW0 := Aside0.mk (show UR w W (cArr s 0) from by rw [hc0.out]; exact hW); clear hW)
    all_goals clear q1 q2 q3 g0 b0 sz1 hc0
    all_goals (
      go_wp2
      go_loopw [5] (fun i wr => ∃ j : Nat, j ≤ 6 ∧ i = .int .i64 j ∧ Aside0 (UR w wr (cArr s j))) (fun i _ => 6 - (intOf i).toNat)
      case atStart => exact ⟨0, by omega, rfl, ⟨hW0.out⟩⟩
      case round =>
        clear hW0
        obtain ⟨j, hj, rfl, hu⟩ := hrel
        by_cases hlt : j < 6
        · have hdj : decide ((j : Int) < 6) = true := decide_eq_true (by omega)
          have hq := Aside0.mk (qj.out j hlt)
          have hst := Aside0.mk (hset.out j hlt)
          have hsl := fun W => slice_nat s (16 + 8 * j) (16 + 8 * j + 8) W (by omega) (by omega)
          rw [show ((16 + 8 * j : Nat) : Int) = 16 + 8 * (j : Int) by omega, show ((16 + 8 * j + 8 : Nat) : Int) = 24 + 8 * (j : Int) by omega] at hsl
          have hsz : (cArr s j).size = 9 := rfl
          obtain ⟨old, hold⟩ : ∃ old, (cArr s j)[3 + j]? = some old := ⟨_, Array.getElem?_eq_getElem (by omega)⟩
          have kc := (blk_cell hu.out.hc (3 + j)).trans hold
          have fc := blk_frozen hu.out.hc (3 + j)
          generalize leval s ((16 + 8 * j : Nat) : Int) 8 = n at hq hst
          generalize s.extract (16 + 8 * j) (16 + 8 * j + 8) = sx at hq hsl
          clear hsz hold
          go_wp2_with (go_at_call 97; (with_reducible refine (hq.out _).mono ?_); rintro e w1 ⟨rfl, ⟨n1, rfl⟩⟩; have hu1 := Aside0.mk ((hu.out.drewN n1).put (3 + j) (.int .u64 n) hst.out))
          go_roundw
          case rel => exact ⟨j + 1, by omega, by go_num, ⟨hu1.out⟩⟩
          case measure => simp [intOf]; omega
        · obtain rfl : j = 6 := by omega
          have hdj : decide (((6 : Nat) : Int) < 6) = false := rfl
          have hcc := hu.out.hc
          rw [hc6.out] at hcc
          have hrr := hu.out.hr
          have kc0 := blk_cell hcc 0
          have kr0 := blk_cell hrr 0
          have fr0 := blk_frozen hrr 0
          have kc1 := blk_cell hcc 1
          have kr1 := blk_cell hrr 1
          have fr1 := blk_frozen hrr 1
          have kc2 := blk_cell hcc 2
          have kr2 := blk_cell hrr 2
          have fr2 := blk_frozen hrr 2
          have kc3 := blk_cell hcc 3
          have kr3 := blk_cell hrr 3
          have fr3 := blk_frozen hrr 3
          have kc4 := blk_cell hcc 4
          have kr4 := blk_cell hrr 4
          have fr4 := blk_frozen hrr 4
          have kc5 := blk_cell hcc 5
          have kr5 := blk_cell hrr 5
          have fr5 := blk_frozen hrr 5
          have kc6 := blk_cell hcc 6
          have kr6 := blk_cell hrr 6
          have fr6 := blk_frozen hrr 6
          have kc7 := blk_cell hcc 7
          have kr7 := blk_cell hrr 7
          have fr7 := blk_frozen hrr 7
          have kc8 := blk_cell hcc 8
          have kr8 := blk_cell hrr 8
          have fr8 := blk_frozen hrr 8
          simp only [List.getElem?_toArray, List.getElem?_cons_succ, List.getElem?_cons_zero] at kc0 kc1 kc2 kc3 kc4 kc5 kc6 kc7 kc8
          have HR9 := Aside0.mk hrr
          have HB9 := Aside0.mk hu.out.hb
          clear hu hcc hrr
          go_wp2
          exact bodyPost_ret (results_ct rfl _ _ w.heap.size 49 _ (0, 0) _ rfl (Go.Proofs.Ytoeklekjhaigoaa.HUnpack.nine HR9.out _ _ _ _ _ _ _ _ _) Try.underlying49 rfl (by kernel_rfl)) rfl ⟨nine_below HB9.out (Nat.le_refl _) _ _ _ _ _ _ _ _ _, rfl⟩)
  · unfold unp
    rw [if_neg h64]
    have hn : ¬ (s.size : Int) = 64 := by omega
    go_enter Try.func56, Try.ntmps56
    go_wp2
    have hr0 := heap_alloc_new w (.cells #[.int .u32 0, .int .u32 0, .int .u64 0, .int .u64 0, .int .u64 0, .int .u64 0, .int .u64 0, .int .u64 0, .int .u64 0] 49)
    exact bodyPost_ret (results_ct rfl _ _ w.heap.size 49 _ (0, 0) _ rfl hr0 Try.underlying49 rfl (by kernel_rfl)) rfl ⟨below_alloc (Below.refl _ _) _, rfl⟩
/-! ### doorwardref13.Pack, Unpack: by hand -/
def doorwardref13_Pack.f (a0 a1 a2 a3 a4 a5 a6 a7 a8 : Int) : Option ByteArray :=
  if (0 ≤ a0 ∧ a0 < 4294967296) ∧ (0 ≤ a1 ∧ a1 < 4294967296) ∧ (0 ≤ a2 ∧ a2 < 18446744073709551616) ∧ (0 ≤ a3 ∧ a3 < 18446744073709551616) ∧ (0 ≤ a4 ∧ a4 < 18446744073709551616) ∧ (0 ≤ a5 ∧ a5 < 18446744073709551616) ∧ (0 ≤ a6 ∧ a6 < 18446744073709551616) ∧ (0 ≤ a7 ∧ a7 < 18446744073709551616) ∧ (0 ≤ a8 ∧ a8 < 18446744073709551616) then some (packB a0 a1 a2 a3 a4 a5 a6 a7 a8) else none
theorem doorwardref13_Pack.calls (a0_0 a0_1 a0_2 a0_3 a0_4 a0_5 a0_6 a0_7 a0_8 : Int) (r : ByteArray) (w : World) (h : doorwardref13_Pack.f a0_0 a0_1 a0_2 a0_3 a0_4 a0_5 a0_6 a0_7 a0_8 = some r) :
    Calls Try.prog 57 #[.agg #[.int .u32 a0_0, .int .u32 a0_1, .int .u64 a0_2, .int .u64 a0_3, .int .u64 a0_4, .int .u64 a0_5, .int .u64 a0_6, .int .u64 a0_7, .int .u64 a0_8]] w fun e w' => e = .returned (.string r) ∧ Below w.heap.size w w' := by
  unfold doorwardref13_Pack.f at h
  split at h
  · rename_i hc
    have h2 := refPack_any a0_0 a0_1 a0_2 a0_3 a0_4 a0_5 a0_6 a0_7 a0_8 w hc.1 hc.2.1 hc.2.2.1 hc.2.2.2.1 hc.2.2.2.2.1 hc.2.2.2.2.2.1 hc.2.2.2.2.2.2.1 hc.2.2.2.2.2.2.2.1 hc.2.2.2.2.2.2.2.2
    rw [Option.some.inj h] at h2
    exact h2
  · cases h
def doorwardref13_Unpack.f (a0 : ByteArray) : Option (Int × Int × Int × Int × Int × Int × Int × Int × Int × Int) :=
  if a0.size ≤ 140737488355328 then (match unp a0 with | none => some (0, 0, 0, 0, 0, 0, 0, 0, 0, 52) | some (a0, a1, a2, a3, a4, a5, a6, a7, a8) => some (a0, a1, a2, a3, a4, a5, a6, a7, a8, 0)) else none
theorem doorwardref13_Unpack.calls (a0 : ByteArray) (r1 r2 r3 r4 r5 r6 r7 r8 r9 r10 : Int) (w : World) (h : doorwardref13_Unpack.f a0 = some (r1, r2, r3, r4, r5, r6, r7, r8, r9, r10)) :
    Calls Try.prog 56 #[.string a0] w fun e w' => e = .returned (.tuple #[.agg #[.int .u32 r1, .int .u32 r2, .int .u64 r3, .int .u64 r4, .int .u64 r5, .int .u64 r6, .int .u64 r7, .int .u64 r8, .int .u64 r9], .int .i64 r10]) ∧ Below w.heap.size w w' := by
  unfold doorwardref13_Unpack.f at h
  split at h
  · rename_i hc
    refine (refUnpack_any a0 w hc).mono ?_
    rintro e w' ⟨hb, he⟩
    refine ⟨?_, hb⟩
    cases hu : unp a0 with
    | none =>
      rw [hu] at h he
      simp only [Option.some.injEq, Prod.mk.injEq] at h
      obtain ⟨rfl, rfl, rfl, rfl, rfl, rfl, rfl, rfl, rfl, rfl⟩ := h
      exact he
    | some x =>
      obtain ⟨x0, x1, x2, x3, x4, x5, x6, x7, x8⟩ := x
      rw [hu] at h he
      simp only [Option.some.injEq, Prod.mk.injEq] at h
      obtain ⟨rfl, rfl, rfl, rfl, rfl, rfl, rfl, rfl, rfl, rfl⟩ := h
      exact he
  · cases h
end Go.Proofs.Ytoeklekjhaigoaa.HRefPack
