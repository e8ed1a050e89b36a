import Derived.Test.YtoeklekjhaigoaaProg
import Derived.Below
import Derived.Deep.Draws
import Derived.Deep.AppendLies
import Derived.Maps.AppendAt
import Derived.OwnWalk
import Derived.Laws.BytesArg
import Derived.Laws.MakeOwn
import Derived.Laws.OwnMore
import Derived.Deep.OwnRows
import Derived.Tactics
import Derived.Lib.ConvBytes
import Derived.Laws.Slices
import Derived.WalkKit
import Derived.KernelRfl
import Derived.RowKit3
import Derived.Deep.LoopGhost
import Derived.Deep.QuietTactic
import Derived.BigQuiet
import Derived.WideLaws
import Derived.Deep.DeepCutAuto
import Derived.Deep.CutBlock
import Derived.Deep.RegionHeld3
import Derived.Laws.Rows
import Derived.Lib.AppendStr
import Derived.ArgAppend
import Derived.Laws.IdiomCopy
import Derived.OrdersHeld
import Derived.Laws.BitsLemmas
import Derived.RowKit
import Derived.Test.YtoeklekjhaigoaaWWords
import Derived.Test.YtoeklekjhaigoaaWLast
import Derived.Test.YtoeklekjhaigoaaWTab
import Derived.Test.YtoeklekjhaigoaaWFour
import Derived.Test.YtoeklekjhaigoaaWQPut
import Derived.Test.YtoeklekjhaigoaaWApart
import Derived.Test.YtoeklekjhaigoaaWArr
import Derived.Test.YtoeklekjhaigoaaWZeros
import Derived.Test.YtoeklekjhaigoaaWFoot
import Derived.Test.YtoeklekjhaigoaaWKept
import Derived.Test.YtoeklekjhaigoaaWShare
import Derived.Test.YtoeklekjhaigoaaWN
import Derived.Test.YtoeklekjhaigoaaWFootNe
import Derived.Test.YtoeklekjhaigoaaWAt
import Derived.Test.YtoeklekjhaigoaaWEqStruct
import Derived.Test.YtoeklekjhaigoaaWRepsOne
import Derived.Test.YtoeklekjhaigoaaWInv
import Derived.Test.YtoeklekjhaigoaaWInvWords
import Derived.Test.YtoeklekjhaigoaaWGuard
import Derived.Test.YtoeklekjhaigoaaWNEv
import Derived.Test.YtoeklekjhaigoaaWMore
import Derived.Maps.OwnSet
import Derived.Test.YtoeklekjhaigoaaWMap
namespace Go.Proofs.Ytoeklekjhaigoaa.HAct
open Go.RowKit Go.Proofs.YtoeklekjhaigoaaW.PrintWords Go.Proofs.YtoeklekjhaigoaaW.PrintLast Go.Proofs.YtoeklekjhaigoaaW.PrintMore Go.Proofs.Ytoeklekjhaigoaa.WMap
set_option linter.unusedVariables false
set_option linter.unusedSimpArgs false
set_option maxRecDepth 100000
theorem keyed9 : Maps.Keyed Try.prog 9 := Maps.string_keyed Try.underlying9
theorem zero22 (w : World) : (zeroValue 22).run Try.prog w = .ok (.int .u32 0) w := by kernel_rfl
theorem keyS (s : ByteArray) (h : s.size ≤ maxLen) : keyOf Try.prog 9 (.string s) = some (.string s.data.toList) := by
  exact Go.WideMaps.keyOf_string_mk Try.underlying9 h
def archB (l : List UInt8) : Int × Bool := if l = [97, 97, 114, 99, 104, 54, 52] then (3221225655, true) else if l = [120, 56, 54, 95, 54, 52] then (3221225534, true) else (0, false)
set_option maxHeartbeats 1000000 in
theorem arch_any (s : ByteArray) (hs : s.size ≤ maxLen) (w : World) : Calls Try.prog 38 #[.string s] w fun e w' => e = .returned (.tuple #[.int .u32 (archB s.data.toList).1, .bool (archB s.data.toList).2]) ∧ Below w.heap.size w w' := by
  have hmm := @run_makeMap Try.prog
  have h0 := MapV.made Try.prog 9 w
  obtain ⟨w1, r1, h1, g1⟩ := h0.store (t := 123) (e := 22) (val := .int .u32 3221225534) keyed9 Try.underlying123 (by omega) (keyS ⟨#[120, 56, 54, 95, 54, 52]⟩ (by decide)) trivial
  obtain ⟨w2, r2, h2, g2⟩ := h1.store (t := 123) (e := 22) (val := .int .u32 3221225655) keyed9 Try.underlying123 (by omega) (keyS ⟨#[97, 97, 114, 99, 104, 54, 52]⟩ (by decide)) trivial
  have r3 := h2.look (t := 123) (e := 22) keyed9 Try.underlying123 (zero22 w2) (keyS s hs)
  have hb : Below w.heap.size w w2 := ((Below.alloc (Below.refl w.heap.size w) (Nat.le_refl _) _).grown g1 (by simp) (fun k hk => by cases hk; exact Nat.le_refl _)).grown g2 (by have := g1.size; simp at this; omega) (fun k hk => by cases hk; exact Nat.le_refl _)
  clear h0 h1 h2 g1 g2
  have e3 : ∀ z : Value, ((if (Lit.string s.data.toList).sameKey (Lit.string [97, 97, 114, 99, 104, 54, 52]) = true then some (Value.int .u32 3221225655) else if (Lit.string s.data.toList).sameKey (Lit.string [120, 56, 54, 95, 54, 52]) = true then some (Value.int .u32 3221225534) else none : Option Value)) = if (archB s.data.toList).2 = true then some (.int .u32 (archB s.data.toList).1) else none := by
    intro z
    unfold archB
    simp only [Lit.sameKey, beq_iff_eq]
    split
    · rfl
    · split <;> rfl
  have r4 : (Instr.lookup 123 (.map (some w.heap.size)) (.string s) true).run Try.prog w2 = .ok (.tuple #[.int .u32 (archB s.data.toList).1, .bool (archB s.data.toList).2]) w2 := by
    refine r3.trans ?_
    show Result.ok (Value.tuple #[(if (Lit.string s.data.toList).sameKey (Lit.string [97, 97, 114, 99, 104, 54, 52]) = true then some (Value.int .u32 3221225655) else if (Lit.string s.data.toList).sameKey (Lit.string [120, 56, 54, 95, 54, 52]) = true then some (Value.int .u32 3221225534) else none : Option Value).getD (.int .u32 0), .bool (if (Lit.string s.data.toList).sameKey (Lit.string [97, 97, 114, 99, 104, 54, 52]) = true then some (Value.int .u32 3221225655) else if (Lit.string s.data.toList).sameKey (Lit.string [120, 56, 54, 95, 54, 52]) = true then some (Value.int .u32 3221225534) else none : Option Value).isSome]) w2 = _
    rw [e3 undef]
    unfold archB
    split
    · rfl
    · split <;> rfl
  clear r3 e3
  generalize archB s.data.toList = r at *
  obtain ⟨ra, rb⟩ := r
  go_enter Try.func38, Try.ntmps38
  go_wp2
  go_ret2
  exact ⟨rfl, hb⟩
def acts : List (List UInt8 × Int × Int) := [([107, 105, 108, 108], 2147483648, 0), ([107, 105, 108, 108, 95, 116, 104, 114, 101, 97, 100], 0, 0), ([108, 111, 103], 2147221504, 0), ([97, 108, 108, 111, 119], 2147418112, 0), ([101, 114, 114, 110, 111], 327680, 4095), ([116, 114, 97, 112], 196608, 65535), ([116, 114, 97, 99, 101], 2146435072, 65535)]
/-- A map literal's view: what was stored last comes first. -/
def viewOf (v : Int × Int → Value) : List (List UInt8 × Int × Int) → Lit → Option Value
  | [], _ => none
  | p :: r, x => if x.sameKey (.string p.1) = true then some (v p.2) else viewOf v r x
def findAct (l : List UInt8) : List (List UInt8 × Int × Int) → Option (Int × Int)
  | [] => none
  | p :: r => if l = p.1 then some p.2 else findAct l r
theorem view_find (v : Int × Int → Value) (l : List UInt8) : ∀ ps, viewOf v ps (.string l) = (findAct l ps).map v := by
  intro ps
  induction ps with
  | nil => rfl
  | cons p r ih =>
    unfold viewOf findAct
    simp only [Lit.sameKey, beq_iff_eq]
    split
    · rfl
    · exact ih
def vAct (p : Int × Int) : Value := .agg #[.int .u32 p.1, .int .u64 p.2]
theorem zero115 (w : World) : (zeroValue 115).run Try.prog w = .ok (vAct (0, 0)) w := by kernel_rfl
def actB (l : List UInt8) : Option (Int × Int) := findAct l acts.reverse
/-- The map of the actions, in some world: no other block has turned. -/
theorem acts_map (w : World) (s : ByteArray) (hs : s.size ≤ maxLen) : ∃ w1 w2 w3 w4 w5 w6 w7 : World,
    (Instr.mapUpdate 117 (.map (some w.heap.size)) (.string ⟨#[107, 105, 108, 108]⟩) (.agg #[.int .u32 2147483648, .int .u64 0])).run Try.prog (w.alloc (.map #[] 0)) = .ok () w1 ∧
    (Instr.mapUpdate 117 (.map (some w.heap.size)) (.string ⟨#[107, 105, 108, 108, 95, 116, 104, 114, 101, 97, 100]⟩) (.agg #[.int .u32 0, .int .u64 0])).run Try.prog (w1) = .ok () w2 ∧
    (Instr.mapUpdate 117 (.map (some w.heap.size)) (.string ⟨#[108, 111, 103]⟩) (.agg #[.int .u32 2147221504, .int .u64 0])).run Try.prog (w2) = .ok () w3 ∧
    (Instr.mapUpdate 117 (.map (some w.heap.size)) (.string ⟨#[97, 108, 108, 111, 119]⟩) (.agg #[.int .u32 2147418112, .int .u64 0])).run Try.prog (w3) = .ok () w4 ∧
    (Instr.mapUpdate 117 (.map (some w.heap.size)) (.string ⟨#[101, 114, 114, 110, 111]⟩) (.agg #[.int .u32 327680, .int .u64 4095])).run Try.prog (w4) = .ok () w5 ∧
    (Instr.mapUpdate 117 (.map (some w.heap.size)) (.string ⟨#[116, 114, 97, 112]⟩) (.agg #[.int .u32 196608, .int .u64 65535])).run Try.prog (w5) = .ok () w6 ∧
    (Instr.mapUpdate 117 (.map (some w.heap.size)) (.string ⟨#[116, 114, 97, 99, 101]⟩) (.agg #[.int .u32 2146435072, .int .u64 65535])).run Try.prog (w6) = .ok () w7 ∧
    (Instr.lookup 117 (.map (some w.heap.size)) (.string s) true).run Try.prog w7 = .ok (.tuple #[((actB s.data.toList).map vAct).getD (vAct (0, 0)), .bool ((actB s.data.toList).map vAct).isSome]) w7 ∧ Below w.heap.size w w7 := by
  have h0 := MapV.made Try.prog 9 w
  obtain ⟨w1, r1, h1, g1⟩ := h0.store (t := 117) (e := 115) (val := .agg #[.int .u32 2147483648, .int .u64 0]) keyed9 Try.underlying117 (by omega) (keyS ⟨#[107, 105, 108, 108]⟩ (by decide)) trivial
  obtain ⟨w2, r2, h2, g2⟩ := h1.store (t := 117) (e := 115) (val := .agg #[.int .u32 0, .int .u64 0]) keyed9 Try.underlying117 (by omega) (keyS ⟨#[107, 105, 108, 108, 95, 116, 104, 114, 101, 97, 100]⟩ (by decide)) trivial
  obtain ⟨w3, r3, h3, g3⟩ := h2.store (t := 117) (e := 115) (val := .agg #[.int .u32 2147221504, .int .u64 0]) keyed9 Try.underlying117 (by omega) (keyS ⟨#[108, 111, 103]⟩ (by decide)) trivial
  obtain ⟨w4, r4, h4, g4⟩ := h3.store (t := 117) (e := 115) (val := .agg #[.int .u32 2147418112, .int .u64 0]) keyed9 Try.underlying117 (by omega) (keyS ⟨#[97, 108, 108, 111, 119]⟩ (by decide)) trivial
  obtain ⟨w5, r5, h5, g5⟩ := h4.store (t := 117) (e := 115) (val := .agg #[.int .u32 327680, .int .u64 4095]) keyed9 Try.underlying117 (by omega) (keyS ⟨#[101, 114, 114, 110, 111]⟩ (by decide)) trivial
  obtain ⟨w6, r6, h6, g6⟩ := h5.store (t := 117) (e := 115) (val := .agg #[.int .u32 196608, .int .u64 65535]) keyed9 Try.underlying117 (by omega) (keyS ⟨#[116, 114, 97, 112]⟩ (by decide)) trivial
  obtain ⟨w7, r7, h7, g7⟩ := h6.store (t := 117) (e := 115) (val := .agg #[.int .u32 2146435072, .int .u64 65535]) keyed9 Try.underlying117 (by omega) (keyS ⟨#[116, 114, 97, 99, 101]⟩ (by decide)) trivial
  have r := h7.look (t := 117) (e := 115) keyed9 Try.underlying117 (zero115 w7) (keyS s hs)
  have hb0 : Below w.heap.size w (w.alloc (.map #[] 0)) := Below.alloc (Below.refl w.heap.size w) (Nat.le_refl _) _
  have hb1 := hb0.grown g1 hb0.size (fun k hk => by cases hk; exact Nat.le_refl _)
  have hb2 := hb1.grown g2 hb1.size (fun k hk => by cases hk; exact Nat.le_refl _)
  have hb3 := hb2.grown g3 hb2.size (fun k hk => by cases hk; exact Nat.le_refl _)
  have hb4 := hb3.grown g4 hb3.size (fun k hk => by cases hk; exact Nat.le_refl _)
  have hb5 := hb4.grown g5 hb4.size (fun k hk => by cases hk; exact Nat.le_refl _)
  have hb6 := hb5.grown g6 hb5.size (fun k hk => by cases hk; exact Nat.le_refl _)
  have hb7 := hb6.grown g7 hb6.size (fun k hk => by cases hk; exact Nat.le_refl _)
  refine ⟨w1, w2, w3, w4, w5, w6, w7, r1, r2, r3, r4, r5, r6, r7, ?_, hb7⟩
  have e := view_find vAct s.data.toList acts.reverse
  have r' : _ = Result.ok (Value.tuple #[(viewOf vAct acts.reverse (.string s.data.toList)).getD (vAct (0, 0)), .bool (viewOf vAct acts.reverse (.string s.data.toList)).isSome]) w7 := r
  rw [e] at r'
  exact r'
def actOut (l : List UInt8) (d : Int) : Int × Bool := match actB l with
  | none => (0, false)
  | some p => if p.2 < d then (0, false) else (bits BinOp.or IntKind.u32 p.1 (d % 4294967296), true)
set_option maxHeartbeats 1000000 in
theorem act_any (s : ByteArray) (d : Int) (hs : s.size ≤ maxLen) (x : Int) (b : Bool) (hx : actOut s.data.toList d = (x, b)) (w : World) : Calls Try.prog 33 #[.string s, .int .u64 d] w fun e w' => e = .returned (.tuple #[.int .u32 x, .bool b]) ∧ Below w.heap.size w w' := by
  unfold actOut at hx
  have hmm := @run_makeMap Try.prog
  have hu115 := Try.underlying115
  obtain ⟨w1, w2, w3, w4, w5, w6, w7, r1, r2, r3, r4, r5, r6, r7, r8, hb⟩ := acts_map w s hs
  cases hA : actB s.data.toList with
  | none =>
    rw [hA] at r8 hx
    simp only at hx
    obtain ⟨rfl, rfl⟩ := Prod.mk.inj hx
    simp only [Option.map_none, Option.getD_none, Option.isSome_none] at r8
    unfold vAct at r8
    simp only at r8
    go_enter Try.func33, Try.ntmps33
    go_wp2
    go_ret2
    exact ⟨rfl, below_alloc hb _⟩
  | some p =>
    obtain ⟨n, most⟩ := p
    rw [hA] at r8 hx
    simp only at hx
    simp only [Option.map_some, Option.getD_some, Option.isSome_some] at r8
    unfold vAct at r8
    simp only at r8
    by_cases hd : most < d
    · rw [if_pos hd] at hx
      obtain ⟨rfl, rfl⟩ := Prod.mk.inj hx
      have hdd : decide (most < d) = true := decide_eq_true hd
      go_enter Try.func33, Try.ntmps33
      go_wp2
      go_ret2
      exact ⟨rfl, below_alloc hb _⟩
    · rw [if_neg hd] at hx
      obtain ⟨rfl, rfl⟩ := Prod.mk.inj hx
      have hdd : decide (most < d) = false := decide_eq_false hd
      go_enter Try.func33, Try.ntmps33
      go_wp2
      go_ret2
      exact ⟨rfl, below_alloc hb _⟩
/-! ### by hand: call.Arch (function 38), call.Action (function 33) -/
def call_Arch.f (a0 : ByteArray) : Option (Int × Bool) := if a0.size ≤ maxLen then some (archB a0.data.toList) else none
theorem call_Arch.calls (a0 : ByteArray) (r1 : Int) (r2 : Bool) (w : World) (h : call_Arch.f a0 = some (r1, r2)) :
    Calls Try.prog 38 #[.string a0] w fun e w' => e = .returned (.tuple #[.int .u32 r1, .bool r2]) ∧ Below w.heap.size w w' := by
  unfold call_Arch.f at h
  split at h
  · rename_i hs
    have h1 := arch_any a0 hs w
    rw [Option.some.inj h] at h1
    exact h1
  · cases h
def call_Action.f (a0 : ByteArray) (a1 : Int) : Option (Int × Bool) := if a0.size ≤ maxLen then some (actOut a0.data.toList a1) else none
theorem call_Action.calls (a0 : ByteArray) (a1 : Int) (r1 : Int) (r2 : Bool) (w : World) (h : call_Action.f a0 a1 = some (r1, r2)) :
    Calls Try.prog 33 #[.string a0, .int .u64 a1] w fun e w' => e = .returned (.tuple #[.int .u32 r1, .bool r2]) ∧ Below w.heap.size w w' := by
  unfold call_Action.f at h
  split at h
  · rename_i hs
    exact act_any a0 a1 hs r1 r2 (Option.some.inj h) w
  · cases h
end Go.Proofs.Ytoeklekjhaigoaa.HAct
