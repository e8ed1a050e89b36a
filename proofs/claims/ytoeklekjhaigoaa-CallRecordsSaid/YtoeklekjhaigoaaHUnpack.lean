/- call.Unpack, walked: a closure that reads on in a captured text. -/
import Derived.Test.YtoeklekjhaigoaaProg
import Derived.Below
import Derived.Deep.Draws
import Derived.Deep.AppendLies
import Derived.Maps.AppendAt
import Derived.OwnWalk
import Derived.Laws.BytesArg
import Derived.Laws.MakeOwn
import Derived.Laws.OwnMore
import Derived.Deep.OwnRows
import Derived.Tactics
import Derived.Lib.ConvBytes
import Derived.Laws.Slices
import Derived.WalkKit
import Derived.KernelRfl
import Derived.RowKit3
import Derived.Deep.LoopGhost
import Derived.Deep.QuietTactic
import Derived.BigQuiet
import Derived.WideLaws
import Derived.Deep.DeepCutAuto
import Derived.Deep.CutBlock
import Derived.Deep.RegionHeld3
import Derived.Laws.Rows
import Derived.Lib.AppendStr
import Derived.ArgAppend
import Derived.Laws.IdiomCopy
import Derived.OrdersHeld
import Derived.Laws.BitsLemmas
import Derived.RowKit
import Derived.Test.YtoeklekjhaigoaaWWords
import Derived.Test.YtoeklekjhaigoaaWLast
import Derived.Test.YtoeklekjhaigoaaWTab
import Derived.Test.YtoeklekjhaigoaaWFour
import Derived.Test.YtoeklekjhaigoaaWQPut
import Derived.Test.YtoeklekjhaigoaaWApart
import Derived.Test.YtoeklekjhaigoaaWArr
import Derived.Test.YtoeklekjhaigoaaWZeros
import Derived.Test.YtoeklekjhaigoaaWFoot
import Derived.Test.YtoeklekjhaigoaaWKept
import Derived.Test.YtoeklekjhaigoaaWShare
import Derived.Test.YtoeklekjhaigoaaWN
import Derived.Test.YtoeklekjhaigoaaWFootNe
import Derived.Test.YtoeklekjhaigoaaWAt
import Derived.Test.YtoeklekjhaigoaaWEqStruct
import Derived.Test.YtoeklekjhaigoaaWRepsOne
import Derived.Test.YtoeklekjhaigoaaWInv
import Derived.Test.YtoeklekjhaigoaaWInvWords
import Derived.Test.YtoeklekjhaigoaaWGuard
import Derived.Test.YtoeklekjhaigoaaWNEv
import Derived.Test.YtoeklekjhaigoaaWMore
import Derived.Laws.Tables
import Derived.Laws.CopyOwn
import Derived.Deep.WholeRow
import Derived.ChangeKeysEq
import Derived.Shelf.Abstract
import Derived.Deep.RegionLaw
import Derived.Maps.OwnSet
import Derived.Test.YtoeklekjhaigoaaHPack
namespace Go.Proofs.Ytoeklekjhaigoaa.HUnpack
open Go.RowKit Go.Proofs.YtoeklekjhaigoaaW.PrintWords Go.Proofs.YtoeklekjhaigoaaW.PrintLast Go.Proofs.YtoeklekjhaigoaaW.PrintMore Go.Proofs.Ytoeklekjhaigoaa.Le Go.Proofs.Ytoeklekjhaigoaa.QLe Go.Proofs.Ytoeklekjhaigoaa.QNum Go.Proofs.Ytoeklekjhaigoaa.HPack
set_option linter.unusedVariables false
set_option linter.unusedSimpArgs false
set_option maxRecDepth 100000
theorem get_any (s : ByteArray) (p : Nat) (sz : Nat) (w : World) (h1 : 1 ≤ sz) (h8 : sz ≤ 8) (hp : p + sz ≤ s.size) (hz : s.size ≤ 1000) :
    Calls Try.prog 95 #[.string s, .int .i64 (p : Int), .int .i64 (sz : Int)] w fun e w' => e = .returned (.tuple #[.int .u64 (leval s p sz), .int .i64 ((p : Int) + (sz : Int)), .int .i64 0]) ∧ Below w.heap.size w w' :=
  (le_Get.calls 20 s (p : Int) (sz : Int) (leval s p sz) ((p : Int) + (sz : Int)) 0 w (get_ok s (p : Int) sz h1 h8 (by omega) (by omega) (by omega) 20 (by omega))).mono (fun e w' h => ⟨h.1, by obtain ⟨n, rfl⟩ := h.2.out; exact pw_below_drewN (Below.refl _ _) n⟩)
def NextPost (sb ab : Nat) (s : ByteArray) (p n : Int) (w : World) (e : Ending) (w' : World) : Prop := e = .returned (.int .u64 n) ∧ w'.heap[ab]? = some (.cells #[.int .i64 p] 3 (0, 0)) ∧ Below ab w w' ∧ KeepBut w w' ab none
set_option maxHeartbeats 1000000 in
theorem next_c {w : World} {sb ab : Nat} {s : ByteArray} {p : Nat} (hs : w.heap[sb]? = some (.cells #[.string s] 9 (0, 0))) (ha : w.heap[ab]? = some (.cells #[.int .i64 (p : Int)] 3 (0, 0))) (sz : Nat) (h1 : 1 ≤ sz) (h8 : sz ≤ 8) (hp : p + sz ≤ s.size) (hz : s.size ≤ 1000) :
    Calls Try.prog 96 #[.int .i64 (sz : Int), .pointer (some ⟨sb, 0, none⟩), .pointer (some ⟨ab, 0, none⟩)] w (NextPost sb ab s ((p : Int) + (sz : Int)) (leval s p sz) w) := by
  have hget := fun W => get_any s p sz W h1 h8 hp hz
  have k1 := blk_cell hs 0
  have k2 := blk_cell ha 0
  have l1 := blk_lt hs
  have l2 := blk_lt ha
  have HA := Aside0.mk ha
  clear hs ha
  generalize leval s p sz = n at *
  go_enter Try.func96, Try.ntmps96
  go_wp2_with (go_at_call 95; refine (hget _).mono ?_; rintro e w1 ⟨rfl, hb1⟩; have hw1 := blk_below HA.out hb1; have k0 := blk_cell hw1 0; have f0 := blk_frozen hw1 0; have HW1 := Aside0.mk hw1; clear hw1)
  go_ret
  exact ⟨rfl, blk_put HW1.out 0 _ rfl, (below_then (Below.refl ab w) (Nat.le_of_lt l2) hb1).setCell (p := ⟨ab, 0, none⟩) (Nat.le_refl _) _, by simp [World.setCell]; exact hb1.size, fun i hi hne _ => (Below.heap_setCell _ _ _ _ hne).trans (hb1.block i hi)⟩
structure US (w0 w : World) (cb : Nat) (s : ByteArray) (p : Nat) (cs : Array Value) : Prop where
  hs : w.heap[w0.heap.size]? = some (.cells #[.string s] 9 (0, 0))
  hr : w.heap[w0.heap.size + 1]? = some (.cells #[.int .u32 0, .int .u32 0, .int .u64 0, .int .u64 0, .int .u64 0, .int .u64 0, .int .u64 0, .int .u64 0, .int .u64 0] 49 (0, 0))
  ha : w.heap[w0.heap.size + 1 + 1]? = some (.cells #[.int .i64 (p : Int)] 3 (0, 0))
  hc : w.heap[cb]? = some (.cells cs 49 (0, 0))
  hb : Below w0.heap.size w0 w
  hlt : w0.heap.size + 1 + 1 < cb
theorem US.next {w0 w w' : World} {cb : Nat} {s : ByteArray} {p q : Nat} {cs : Array Value} {n : Int} {e : Ending} (h : US w0 w cb s p cs) (k : NextPost w0.heap.size (w0.heap.size + 1 + 1) s (q : Int) n w e w') : US w0 w' cb s q cs := by
  obtain ⟨_, k1, k2, k3⟩ := k
  have := h.hlt
  exact ⟨(k3.2 _ (blk_lt h.hs) (by omega) (by simp)).trans h.hs, (k3.2 _ (blk_lt h.hr) (by omega) (by simp)).trans h.hr, k1, (k3.2 _ (blk_lt h.hc) (by omega) (by simp)).trans h.hc, below_weaken h.hb (by omega) k2, h.hlt⟩
theorem US.put {w0 w : World} {cb : Nat} {s : ByteArray} {p : Nat} {cs cs' : Array Value} (h : US w0 w cb s p cs) (i : Nat) (u : Value) (e : cs.setIfInBounds i u = cs') : US w0 (w.setCell ⟨cb, i, none⟩ u) cb s p cs' := by
  have := h.hlt
  exact ⟨(Below.heap_setCell _ _ _ _ (by simp only; omega)).trans h.hs, (Below.heap_setCell _ _ _ _ (by simp only; omega)).trans h.hr, (Below.heap_setCell _ _ _ _ (by simp only; omega)).trans h.ha, blk_put h.hc i u e, h.hb.setCell (p := ⟨cb, i, none⟩) (by simp only; omega) _, h.hlt⟩
theorem US.call {w0 w : World} {cb : Nat} {s : ByteArray} {p : Nat} {cs : Array Value} (h : US w0 w cb s p cs) (sz : Nat) (h1 : 1 ≤ sz) (h8 : sz ≤ 8) (hp : p + sz ≤ s.size) (hz : s.size ≤ 1000) :
    Calls Try.prog 96 #[.int .i64 (sz : Int), .pointer (some ⟨w0.heap.size, 0, none⟩), .pointer (some ⟨w0.heap.size + 1 + 1, 0, none⟩)] w fun e w' => e = .returned (.int .u64 (leval s p sz)) ∧ US w0 w' cb s (p + sz) cs :=
  (next_c h.hs h.ha sz h1 h8 hp hz).mono (fun e w' k => ⟨k.1, h.next (q := p + sz) (n := leval s p sz) (by have k' := k; unfold NextPost at k' ⊢; rw [Int.natCast_add]; exact k')⟩)
def argU (s : ByteArray) (j i : Nat) : Int := if i < j then leval s ((16 + 8 * i : Nat) : Int) 8 else 0
def cArr (s : ByteArray) (j : Nat) : Array Value := #[.int .u32 (leval s 0 4 % 4294967296), .int .u32 (leval s 4 4 % 4294967296), .int .u64 (leval s 8 8), .int .u64 (argU s j 0), .int .u64 (argU s j 1), .int .u64 (argU s j 2), .int .u64 (argU s j 3), .int .u64 (argU s j 4), .int .u64 (argU s j 5)]
theorem cArr_set (s : ByteArray) (j : Nat) (h : j < 6) : (cArr s j).setIfInBounds (3 + j) (.int .u64 (leval s ((16 + 8 * j : Nat) : Int) 8)) = cArr s (j + 1) := by
  match j, h with
  | 0, _ | 1, _ | 2, _ | 3, _ | 4, _ | 5, _ => simp [cArr, argU]
theorem cArr_zero (s : ByteArray) : cArr s 0 = #[.int .u32 (leval s 0 4 % 4294967296), .int .u32 (leval s 4 4 % 4294967296), .int .u64 (leval s 8 8), .int .u64 0, .int .u64 0, .int .u64 0, .int .u64 0, .int .u64 0, .int .u64 0] := rfl
theorem nine {w : World} {g : Nat} (h : w.heap[g]? = some (.cells #[.int .u32 0, .int .u32 0, .int .u64 0, .int .u64 0, .int .u64 0, .int .u64 0, .int .u64 0, .int .u64 0, .int .u64 0] 49 (0, 0))) (v0 v1 v2 v3 v4 v5 v6 v7 v8 : Value) : (((((((((w.setCell ⟨g, 0, none⟩ v0).setCell ⟨g, 1, none⟩ v1).setCell ⟨g, 2, none⟩ v2).setCell ⟨g, 3, none⟩ v3).setCell ⟨g, 4, none⟩ v4).setCell ⟨g, 5, none⟩ v5).setCell ⟨g, 6, none⟩ v6).setCell ⟨g, 7, none⟩ v7).setCell ⟨g, 8, none⟩ v8).heap[g]? = some (.cells #[v0, v1, v2, v3, v4, v5, v6, v7, v8] 49 (0, 0)) := by
  have h0 := blk_put (cs' := #[v0, .int .u32 0, .int .u64 0, .int .u64 0, .int .u64 0, .int .u64 0, .int .u64 0, .int .u64 0, .int .u64 0]) h 0 v0 rfl
  have h1 := blk_put (cs' := #[v0, v1, .int .u64 0, .int .u64 0, .int .u64 0, .int .u64 0, .int .u64 0, .int .u64 0, .int .u64 0]) h0 1 v1 rfl
  have h2 := blk_put (cs' := #[v0, v1, v2, .int .u64 0, .int .u64 0, .int .u64 0, .int .u64 0, .int .u64 0, .int .u64 0]) h1 2 v2 rfl
  have h3 := blk_put (cs' := #[v0, v1, v2, v3, .int .u64 0, .int .u64 0, .int .u64 0, .int .u64 0, .int .u64 0]) h2 3 v3 rfl
  have h4 := blk_put (cs' := #[v0, v1, v2, v3, v4, .int .u64 0, .int .u64 0, .int .u64 0, .int .u64 0]) h3 4 v4 rfl
  have h5 := blk_put (cs' := #[v0, v1, v2, v3, v4, v5, .int .u64 0, .int .u64 0, .int .u64 0]) h4 5 v5 rfl
  have h6 := blk_put (cs' := #[v0, v1, v2, v3, v4, v5, v6, .int .u64 0, .int .u64 0]) h5 6 v6 rfl
  have h7 := blk_put (cs' := #[v0, v1, v2, v3, v4, v5, v6, v7, .int .u64 0]) h6 7 v7 rfl
  have h8 := blk_put (cs' := #[v0, v1, v2, v3, v4, v5, v6, v7, v8]) h7 8 v8 rfl
  exact h8
theorem nine_below {w0 w : World} {B g : Nat} (h : Below B w0 w) (hg : B ≤ g) (v0 v1 v2 v3 v4 v5 v6 v7 v8 : Value) : Below B w0 (((((((((w.setCell ⟨g, 0, none⟩ v0).setCell ⟨g, 1, none⟩ v1).setCell ⟨g, 2, none⟩ v2).setCell ⟨g, 3, none⟩ v3).setCell ⟨g, 4, none⟩ v4).setCell ⟨g, 5, none⟩ v5).setCell ⟨g, 6, none⟩ v6).setCell ⟨g, 7, none⟩ v7).setCell ⟨g, 8, none⟩ v8) :=
  (Below.setCell (Below.setCell (Below.setCell (Below.setCell (Below.setCell (Below.setCell (Below.setCell (Below.setCell (Below.setCell h (p := ⟨g, 0, none⟩) hg v0) (p := ⟨g, 1, none⟩) hg v1) (p := ⟨g, 2, none⟩) hg v2) (p := ⟨g, 3, none⟩) hg v3) (p := ⟨g, 4, none⟩) hg v4) (p := ⟨g, 5, none⟩) hg v5) (p := ⟨g, 6, none⟩) hg v6) (p := ⟨g, 7, none⟩) hg v7) (p := ⟨g, 8, none⟩) hg v8)
def UnpPost (r : Option (Int × Int × Int × Int × Int × Int × Int × Int × Int)) (w : World) (e : Ending) (w' : World) : Prop :=
  Below w.heap.size w w' ∧ match r with
  | none => e = .returned (.tuple #[.agg #[.int .u32 0, .int .u32 0, .int .u64 0, .int .u64 0, .int .u64 0, .int .u64 0, .int .u64 0, .int .u64 0, .int .u64 0], .int .i64 52])
  | some (a0, a1, a2, a3, a4, a5, a6, a7, a8) => e = .returned (.tuple #[.agg #[.int .u32 a0, .int .u32 a1, .int .u64 a2, .int .u64 a3, .int .u64 a4, .int .u64 a5, .int .u64 a6, .int .u64 a7, .int .u64 a8], .int .i64 0])
def unp (s : ByteArray) : Option (Int × Int × Int × Int × Int × Int × Int × Int × Int) :=
  if s.size = 64 then some (leval s 0 4 % 4294967296, leval s 4 4 % 4294967296, leval s 8 8, leval s 16 8, leval s 24 8, leval s 32 8, leval s 40 8, leval s 48 8, leval s 56 8) else none
set_option maxHeartbeats 4000000 in
theorem unpack_any (s : ByteArray) (w : World) (hs : s.size ≤ 140737488355328) : Calls Try.prog 55 #[.string s] w (UnpPost (unp s) w) := by
  have hu49 := Try.underlying49
  have hu47 := Try.underlying47
  by_cases h64 : s.size = 64
  · unfold unp
    rw [if_pos h64]
    have hd : ((s.size : Int) != 64) = false := by rw [h64]; rfl
    have H64 := Aside0.mk h64
    clear h64
    have sz1 : (w.alloc (.cells #[.string s] 9)).heap.size = w.heap.size + 1 := by simp
    have sz2 : ((w.alloc (.cells #[.string s] 9)).alloc (.cells #[.int .u32 0, .int .u32 0, .int .u64 0, .int .u64 0, .int .u64 0, .int .u64 0, .int .u64 0, .int .u64 0, .int .u64 0] 49)).heap.size = w.heap.size + 1 + 1 := by simp
    have hs0 := blk_alloc (blk_alloc (heap_alloc_new w (.cells #[.string s] 9)) (.cells #[.int .u32 0, .int .u32 0, .int .u64 0, .int .u64 0, .int .u64 0, .int .u64 0, .int .u64 0, .int .u64 0, .int .u64 0] 49)) (.cells #[.int .i64 0] 3)
    have hr0 := blk_alloc (heap_alloc_new (w.alloc (.cells #[.string s] 9)) (.cells #[.int .u32 0, .int .u32 0, .int .u64 0, .int .u64 0, .int .u64 0, .int .u64 0, .int .u64 0, .int .u64 0, .int .u64 0] 49)) (.cells #[.int .i64 0] 3)
    have ha0 := heap_alloc_new ((w.alloc (.cells #[.string s] 9)).alloc (.cells #[.int .u32 0, .int .u32 0, .int .u64 0, .int .u64 0, .int .u64 0, .int .u64 0, .int .u64 0, .int .u64 0, .int .u64 0] 49)) (.cells #[.int .i64 0] 3)
    rw [sz1] at hr0
    rw [sz2] at ha0
    have hb0 : Below w.heap.size w (((w.alloc (.cells #[.string s] 9)).alloc (.cells #[.int .u32 0, .int .u32 0, .int .u64 0, .int .u64 0, .int .u64 0, .int .u64 0, .int .u64 0, .int .u64 0, .int .u64 0] 49)).alloc (.cells #[.int .i64 0] 3)) := below_alloc (below_alloc (below_alloc (Below.refl _ _) _) _) _
    have hlt0 := blk_lt ha0
    generalize hwi : (((w.alloc (.cells #[.string s] 9)).alloc (.cells #[.int .u32 0, .int .u32 0, .int .u64 0, .int .u64 0, .int .u64 0, .int .u64 0, .int .u64 0, .int .u64 0, .int .u64 0] 49)).alloc (.cells #[.int .i64 0] 3)) = wi at hs0 hr0 ha0 hb0 hlt0
    have HWI := Aside0.mk hwi
    have HS := Aside0.mk hs0
    have HR := Aside0.mk hr0
    have HA := Aside0.mk ha0
    have HB := Aside0.mk hb0
    have HLT := Aside0.mk hlt0
    clear hwi hs0 hr0 ha0 hb0 hlt0 sz1 sz2
    have tok1 : True := trivial
    have tok2 : True := trivial
    have tok3 : True := trivial
    go_enter Try.func55, Try.ntmps55
    go_wp2_with (first | (go_at_call 96; have _t := tok1; rw [HWI.out]; refine (next_c (p := 0) HS.out HA.out 4 (by omega) (by omega) (by have := H64.out; omega) (by have := H64.out; omega)).mono ?_; rintro e w1 ⟨rfl, ha1, hb1, hk1⟩; have hus := Aside0.mk (show US w (w1.alloc (.cells #[.int .u32 (leval s 0 4 % 4294967296), .int .u32 0, .int .u64 0, .int .u64 0, .int .u64 0, .int .u64 0, .int .u64 0, .int .u64 0, .int .u64 0] 49)) w1.heap.size s 4 _ from ⟨blk_alloc ((hk1.2 _ (blk_lt HS.out) (by omega) (by simp)).trans HS.out) _, blk_alloc ((hk1.2 _ (blk_lt HR.out) (by omega) (by simp)).trans HR.out) _, blk_alloc ha1 _, heap_alloc_new _ _, below_alloc (below_weaken HB.out (by omega) hb1) _, blk_lt ha1⟩); clear tok1 _t ha1 hb1 hk1) | (go_at_call 96; have _t := tok2; refine (hus.out.call 4 (by omega) (by omega) (by have := H64.out; omega) (by have := H64.out; omega)).mono ?_; rintro e w2 ⟨rfl, hu2⟩; have kc2 := blk_cell hu2.hc 1; have fc2 := blk_frozen hu2.hc 1; have HU2 := Aside0.mk (US.put hu2 1 (.int .u32 (leval s 4 4 % 4294967296)) rfl); clear tok2 _t hu2) | (go_at_call 96; have _t := tok3; refine (HU2.out.call 8 (by omega) (by omega) (by have := H64.out; omega) (by have := H64.out; omega)).mono ?_; rintro e w3 ⟨rfl, hu3⟩; have kc3 := blk_cell hu3.hc 2; have fc3 := blk_frozen hu3.hc 2; have HU3 := Aside0.mk (US.put hu3 2 (.int .u64 (leval s 8 8)) rfl); clear tok3 _t hu3))
    have h0u := Aside0.mk (show US w _ w1.heap.size s 16 (cArr s 0) from HU3.out)
    clear kc2 fc2 kc3 fc3 hus HU2 HU3
    go_loopw [24] (fun i wr => ∃ j : Nat, j ≤ 6 ∧ i = .int .i64 j ∧ Aside0 (US w wr w1.heap.size s (16 + 8 * j) (cArr s j))) (fun i _ => 6 - (intOf i).toNat)
    case atStart => exact ⟨0, by omega, rfl, ⟨h0u.out⟩⟩
    case round =>
      clear h0u
      obtain ⟨j, hj, rfl, hu⟩ := hrel
      by_cases hlt : j < 6
      · have hdj : decide ((j : Int) < 6) = true := decide_eq_true (by omega)
        have hcall := hu.out.call 8 (by omega) (by omega) (by have := H64.out; omega) (by have := H64.out; omega)
        have hset := Aside0.mk (cArr_set s j hlt)
        have hsz : (cArr s j).size = 9 := rfl
        obtain ⟨old, hold⟩ : ∃ old, (cArr s j)[3 + j]? = some old := ⟨_, Array.getElem?_eq_getElem (by omega)⟩
        generalize leval s ((16 + 8 * j : Nat) : Int) 8 = n at hcall hset
        have HOLD := Aside0.mk hold
        clear hold hsz
        go_wp2_with (go_at_call 96; refine hcall.mono ?_; rintro e w4 ⟨rfl, hu4⟩; have kc4 := (blk_cell hu4.hc (3 + j)).trans HOLD.out; have fc4 := blk_frozen hu4.hc (3 + j); have HU4 := Aside0.mk (US.put hu4 (3 + j) (.int .u64 n) hset.out); clear hu4)
        go_roundw
        case rel => exact ⟨j + 1, by omega, by go_num, ⟨(show 16 + 8 * (j + 1) = 16 + 8 * j + 8 by omega) ▸ HU4.out⟩⟩
        case measure => simp [intOf]; omega
      · obtain rfl : j = 6 := by omega
        have hdj : decide (((6 : Nat) : Int) < 6) = false := rfl
        have kc0 := blk_cell hu.out.hc 0
        have kr0 := blk_cell hu.out.hr 0
        have fr0 := blk_frozen hu.out.hr 0
        have kc1 := blk_cell hu.out.hc 1
        have kr1 := blk_cell hu.out.hr 1
        have fr1 := blk_frozen hu.out.hr 1
        have kc2 := blk_cell hu.out.hc 2
        have kr2 := blk_cell hu.out.hr 2
        have fr2 := blk_frozen hu.out.hr 2
        have kc3 := blk_cell hu.out.hc 3
        have kr3 := blk_cell hu.out.hr 3
        have fr3 := blk_frozen hu.out.hr 3
        have kc4 := blk_cell hu.out.hc 4
        have kr4 := blk_cell hu.out.hr 4
        have fr4 := blk_frozen hu.out.hr 4
        have kc5 := blk_cell hu.out.hc 5
        have kr5 := blk_cell hu.out.hr 5
        have fr5 := blk_frozen hu.out.hr 5
        have kc6 := blk_cell hu.out.hc 6
        have kr6 := blk_cell hu.out.hr 6
        have fr6 := blk_frozen hu.out.hr 6
        have kc7 := blk_cell hu.out.hc 7
        have kr7 := blk_cell hu.out.hr 7
        have fr7 := blk_frozen hu.out.hr 7
        have kc8 := blk_cell hu.out.hc 8
        have kr8 := blk_cell hu.out.hr 8
        have fr8 := blk_frozen hu.out.hr 8
        unfold cArr argU at kc0 kc1 kc2 kc3 kc4 kc5 kc6 kc7 kc8
        simp only [List.getElem?_toArray, List.getElem?_cons_succ, List.getElem?_cons_zero, Nat.reduceLT, if_true, Nat.reduceMul, Nat.reduceAdd] at kc0 kc1 kc2 kc3 kc4 kc5 kc6 kc7 kc8
        have HR9 := Aside0.mk hu.out.hr
        have HB9 := Aside0.mk hu.out.hb
        clear hu
        go_wp2
        exact bodyPost_ret (results_ct rfl _ _ (w.heap.size + 1) 49 _ (0, 0) _ rfl (nine HR9.out _ _ _ _ _ _ _ _ _) Try.underlying49 rfl (by kernel_rfl)) rfl ⟨nine_below HB9.out (Nat.le_succ _) _ _ _ _ _ _ _ _ _, rfl⟩
  · unfold unp
    rw [if_neg h64]
    have hn : ¬ (s.size : Int) = 64 := by omega
    go_enter Try.func55, Try.ntmps55
    go_wp2
    have hr0 := heap_alloc_new (w.alloc (.cells #[.string s] 9)) (.cells #[.int .u32 0, .int .u32 0, .int .u64 0, .int .u64 0, .int .u64 0, .int .u64 0, .int .u64 0, .int .u64 0, .int .u64 0] 49)
    rw [show (w.alloc (.cells #[.string s] 9)).heap.size = w.heap.size + 1 by simp] at hr0
    exact bodyPost_ret (results_ct rfl _ _ (w.heap.size + 1) 49 _ (0, 0) _ rfl hr0 Try.underlying49 rfl (by kernel_rfl)) rfl ⟨below_alloc (below_alloc (Below.refl _ _) _) _, rfl⟩
/-! ### call.Unpack: by hand -/
def call_Unpack.f (a0 : ByteArray) : Option (Int × Int × Int × Int × Int × Int × Int × Int × Int × Int) :=
  if a0.size ≤ 140737488355328 then (match unp a0 with | none => some (0, 0, 0, 0, 0, 0, 0, 0, 0, 52) | some (a0, a1, a2, a3, a4, a5, a6, a7, a8) => some (a0, a1, a2, a3, a4, a5, a6, a7, a8, 0)) else none
theorem call_Unpack.calls (a0 : ByteArray) (r1 r2 r3 r4 r5 r6 r7 r8 r9 r10 : Int) (w : World) (h : call_Unpack.f a0 = some (r1, r2, r3, r4, r5, r6, r7, r8, r9, r10)) :
    Calls Try.prog 55 #[.string a0] w fun e w' => e = .returned (.tuple #[.agg #[.int .u32 r1, .int .u32 r2, .int .u64 r3, .int .u64 r4, .int .u64 r5, .int .u64 r6, .int .u64 r7, .int .u64 r8, .int .u64 r9], .int .i64 r10]) ∧ Below w.heap.size w w' := by
  unfold call_Unpack.f at h
  split at h
  · rename_i hc
    refine (unpack_any a0 w hc).mono ?_
    rintro e w' ⟨hb, he⟩
    refine ⟨?_, hb⟩
    cases hu : unp a0 with
    | none =>
      rw [hu] at h he
      simp only [Option.some.injEq, Prod.mk.injEq] at h
      obtain ⟨rfl, rfl, rfl, rfl, rfl, rfl, rfl, rfl, rfl, rfl⟩ := h
      exact he
    | some x =>
      obtain ⟨x0, x1, x2, x3, x4, x5, x6, x7, x8⟩ := x
      rw [hu] at h he
      simp only [Option.some.injEq, Prod.mk.injEq] at h
      obtain ⟨rfl, rfl, rfl, rfl, rfl, rfl, rfl, rfl, rfl, rfl⟩ := h
      exact he
  · cases h
end Go.Proofs.Ytoeklekjhaigoaa.HUnpack
