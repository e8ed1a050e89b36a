/- TypesNots: a condition may be just if the one that says it is not so may, as long as there are few in it; both have as many tests. -/
import Derived.Test.YtoeklekjhaigoaaProg
import Derived.Below
import Derived.Deep.Draws
import Derived.Deep.AppendLies
import Derived.Maps.AppendAt
import Derived.OwnWalk
import Derived.Laws.BytesArg
import Derived.Laws.MakeOwn
import Derived.Laws.OwnMore
import Derived.Deep.OwnRows
import Derived.Tactics
import Derived.Lib.ConvBytes
import Derived.Laws.Slices
import Derived.WalkKit
import Derived.KernelRfl
import Derived.RowKit3
import Derived.Deep.LoopGhost
import Derived.Deep.QuietTactic
import Derived.BigQuiet
import Derived.WideLaws
import Derived.Deep.DeepCutAuto
import Derived.Deep.CutBlock
import Derived.Deep.RegionHeld3
import Derived.Laws.Rows
import Derived.Lib.AppendStr
import Derived.ArgAppend
import Derived.Laws.IdiomCopy
import Derived.OrdersHeld
import Derived.Laws.BitsLemmas
import Derived.RowKit
import Derived.Test.YtoeklekjhaigoaaWWords
import Derived.Test.YtoeklekjhaigoaaWLast
import Derived.Test.YtoeklekjhaigoaaWTab
import Derived.Test.YtoeklekjhaigoaaWApart
import Derived.Test.YtoeklekjhaigoaaWFoot
import Derived.Test.YtoeklekjhaigoaaWKept
import Derived.Test.YtoeklekjhaigoaaWShare
import Derived.Test.YtoeklekjhaigoaaWN
import Derived.Test.YtoeklekjhaigoaaWRepsOne
import Derived.Test.YtoeklekjhaigoaaWGuard
import Derived.Test.YtoeklekjhaigoaaWNEv
import Derived.Test.YtoeklekjhaigoaaWMore
import Derived.Maps.OwnSet
import Derived.StringKeys
import Derived.Laws.Tables
import Derived.Laws.CopyOwn
import Derived.Deep.WholeRow
import Derived.ChangeKeysEq
import Derived.Shelf.Abstract
import Derived.Deep.RegionLaw
import Derived.Laws.EntriesVeiled
import Derived.DataReads
import Derived.DataElems
import Derived.SizedLaws
import Derived.ProofKit
import Derived.Test.YtoeklekjhaigoaaRows
import Derived.Test.YtoeklekjhaigoaaOrder
import Derived.OpenShut
import Derived.ShutString
import Derived.ChangeOld
namespace Go.Proofs.Ytoeklekjhaigoaa.Al
open Go.RowKit Go.Proofs.YtoeklekjhaigoaaW.PrintWords
theorem amk {p : Prop} (h : p) : Aside0 p := ⟨h⟩
theorem pbd {B : Nat} {w W : World} (h : Below B w W) (n : Nat) : Below B w (W.drewN n) := pw_below_drewN h n
theorem bal {w W : World} (h : Below w.heap.size w W) (o : Obj) : Below w.heap.size w (W.alloc o) := below_alloc h o
end Go.Proofs.Ytoeklekjhaigoaa.Al
section
namespace Go.Proofs.Ytoeklekjhaigoaa.Le
open Go.Proofs.Ytoeklekjhaigoaa.Al Go.RowKit Go.Proofs.YtoeklekjhaigoaaW.PrintWords Go.Proofs.YtoeklekjhaigoaaW.PrintLast Go.Proofs.YtoeklekjhaigoaaW.PrintMore
attribute [local go_sem] max2_int min2_int max_two min_two max_three min_three max_four min_four IntKind.wrap_u32 IntKind.wrap_u8   -- for this text's walks alone
set_option linter.unusedVariables false
set_option linter.unusedSimpArgs false
def errW : Option Int → Value
  | none => .nilIface
  | some c => .iface 0 (.int .i64 c)
theorem errW_none : errW none = .nilIface := rfl
theorem errW_some (c : Int) : errW (some c) = .iface 0 (.int .i64 c) := rfl
end Go.Proofs.Ytoeklekjhaigoaa.Le
end
section
namespace Go.Proofs.Ytoeklekjhaigoaa.C1
open Go.Proofs.Ytoeklekjhaigoaa.Al Go.RowKit Go.Proofs.YtoeklekjhaigoaaW.PrintWords Go.Proofs.YtoeklekjhaigoaaW.PrintLast Go.Proofs.YtoeklekjhaigoaaW.PrintMore
attribute [local go_sem] max2_int min2_int max_two min_two max_three min_three max_four min_four IntKind.wrap_u32 IntKind.wrap_u8   -- for this text's walks alone
set_option linter.unusedVariables false
open Go.Proofs.Ytoeklekjhaigoaa.Le
set_option linter.unusedSimpArgs false
def errW : Option Int → Value
  | none => .nilIface
  | some c => .iface 0 (.int .i64 c)
theorem errW_none : errW none = .nilIface := rfl
theorem errW_some (c : Int) : errW (some c) = .iface 0 (.int .i64 c) := rfl
end Go.Proofs.Ytoeklekjhaigoaa.C1
end
section
namespace Go.Proofs.Ytoeklekjhaigoaa.C2
open Go.Proofs.Ytoeklekjhaigoaa.Al Go.RowKit Go.Proofs.YtoeklekjhaigoaaW.PrintWords Go.Proofs.YtoeklekjhaigoaaW.PrintLast Go.Proofs.YtoeklekjhaigoaaW.PrintMore
attribute [local go_sem] max2_int min2_int max_two min_two max_three min_three max_four min_four IntKind.wrap_u32 IntKind.wrap_u8   -- for this text's walks alone
set_option linter.unusedVariables false
open Go.Proofs.Ytoeklekjhaigoaa.Le Go.Proofs.Ytoeklekjhaigoaa.C1
set_option linter.unusedSimpArgs false
def errW : Option Int → Value
  | none => .nilIface
  | some c => .iface 0 (.int .i64 c)
theorem errW_none : errW none = .nilIface := rfl
theorem errW_some (c : Int) : errW (some c) = .iface 0 (.int .i64 c) := rfl
end Go.Proofs.Ytoeklekjhaigoaa.C2
end
section
namespace Go.Proofs.Ytoeklekjhaigoaa.WMap
open Go.RowKit
set_option linter.unusedVariables false
/-- Block b of w is a map of at most n entries; at key k it has L k. -/
def MapV (P : Program) (K : TypeId) (w : World) (b n : Nat) (L : Lit → Option Value) : Prop :=
  ∃ D : DataW Value, w.ownsMap P K (fun v => some (.held v, [])) b n D ∧ Maps.IsMap D ∧ ∀ (k : Lit) (z : DataW Value), D.atKey k z = match L k with | some v => .held v | none => z
section
variable {P : Program} {K : TypeId} {w : World} {b n : Nat} {L : Lit → Option Value}
theorem MapV.made (P : Program) (K : TypeId) (w : World) : MapV P K (w.alloc (.map #[] 0)) w.heap.size 0 (fun _ => none) := ⟨.map [], World.ownsMap_made _ _ _ _, Maps.isMap_empty, fun _ _ => rfl⟩
theorem MapV.look {t e : TypeId} {z : Value} (h : MapV P K w b n L) (hK : Maps.Keyed P K) (ht : P.underlying t = some (.map K e)) (hz : (zeroValue e).run P w = .ok z w) {key : Value} {kl : Lit} (hkey : keyOf P K key = some kl) :
    (Instr.lookup t (.map (some b)) key true).run P w = .ok (.tuple #[(L kl).getD z, .bool (L kl).isSome]) w := by
  obtain ⟨D, ho, hm, hat⟩ := h
  obtain ⟨v, ps, hrun, hv⟩ := ho.look_ok (t := t) (e := e) hK ht hz (zd := .held z) (zp := []) rfl hkey
  rw [hrun]
  have e1 : Maps.has D kl = (L kl).isSome := by
    cases hL : L kl with
    | none => exact Maps.has_false_of_atKey (fun z => by rw [hat, hL])
    | some x => exact Maps.has_true_of_atKey (y := .held x) (fun z => by rw [hat, hL])
  have e2 : v = (L kl).getD z := by
    have hv' : (some (DataW.held v, []) : Option (DataW Value × List MemPlace)) = some (D.atKey kl (.held z), ps) := hv
    rw [hat] at hv'
    cases hL : L kl with
    | none => rw [hL] at hv'; injection hv' with hv'; injection hv' with h1 _; injection h1
    | some x => rw [hL] at hv'; injection hv' with hv'; injection hv' with h1 _; injection h1
  rw [e1, e2]
theorem MapV.store {t e : TypeId} (h : MapV P K w b n L) (hK : Maps.Keyed P K) (ht : P.underlying t = some (.map K e)) (hn : n < 1000000) {key val : Value} {kl : Lit} (hkey : keyOf P K key = some kl) (hk : WideAt.IsKeyLit kl) :
    ∃ w', (Instr.mapUpdate t (.map (some b)) key val).run P w = .ok () w' ∧ MapV P K w' b (n + 1) (fun x => if x.sameKey kl = true then some val else L x) ∧ w.grownBy w' (some b) := by
  obtain ⟨D, ho, hm, hat⟩ := h
  obtain ⟨w', hrun, ho', hg⟩ := ho.update (t := t) (e := e) hK ht (by unfold maxLen; omega) hkey (val := val) (d := .held val) (ps := []) rfl
  refine ⟨w', hrun, ⟨_, ho', hm.put _ _, fun x z => ?_⟩, hg⟩
  show _ = match (if x.sameKey kl = true then some val else L x) with | some v => _ | none => _
  by_cases hx : x = kl
  · subst hx
    rw [if_pos (WideAt.sameKey_self hk), Maps.atKey_put_same hm hk]
  · rw [if_neg (fun h => hx ((WideAt.sameKey_iff hk).1 h)), Maps.atKey_put_other hx, hat]
end
end Go.Proofs.Ytoeklekjhaigoaa.WMap
end
section
namespace Go.Proofs.Ytoeklekjhaigoaa.HAct
open Go.Proofs.Ytoeklekjhaigoaa.Al Go.RowKit Go.Proofs.YtoeklekjhaigoaaW.PrintWords Go.Proofs.YtoeklekjhaigoaaW.PrintLast Go.Proofs.YtoeklekjhaigoaaW.PrintMore Go.Proofs.Ytoeklekjhaigoaa.WMap
set_option linter.unusedVariables false
set_option linter.unusedSimpArgs false
set_option maxRecDepth 100000
theorem keyed9 : Maps.Keyed Try.prog 9 := Maps.string_keyed Try.underlying9
theorem zero22 (w : World) : (zeroValue 22).run Try.prog w = .ok (.int .u32 0) w := by kernel_rfl
theorem keyS (s : ByteArray) (h : s.size ≤ maxLen) : keyOf Try.prog 9 (.string s) = some (.string s.data.toList) := by
  exact Go.WideMaps.keyOf_string_mk Try.underlying9 h
def archB (l : List UInt8) : Int × Bool := if l = [97, 97, 114, 99, 104, 54, 52] then (3221225655, true) else if l = [120, 56, 54, 95, 54, 52] then (3221225534, true) else (0, false)
set_option maxHeartbeats 1000000 in
theorem arch_any (s : ByteArray) (hs : s.size ≤ maxLen) (w : World) : Calls Try.prog 38 #[.string s] w fun e w' => e = .returned (.tuple #[.int .u32 (archB s.data.toList).1, .bool (archB s.data.toList).2]) ∧ Below w.heap.size w w' := by
  have hmm := @run_makeMap Try.prog
  have h0 := MapV.made Try.prog 9 w
  obtain ⟨w1, r1, h1, g1⟩ := h0.store (t := 123) (e := 22) (val := .int .u32 3221225534) keyed9 Try.underlying123 (by omega) (keyS ⟨#[120, 56, 54, 95, 54, 52]⟩ (by decide)) trivial
  obtain ⟨w2, r2, h2, g2⟩ := h1.store (t := 123) (e := 22) (val := .int .u32 3221225655) keyed9 Try.underlying123 (by omega) (keyS ⟨#[97, 97, 114, 99, 104, 54, 52]⟩ (by decide)) trivial
  have r3 := h2.look (t := 123) (e := 22) keyed9 Try.underlying123 (zero22 w2) (keyS s hs)
  have hb : Below w.heap.size w w2 := ((Below.alloc (Below.refl w.heap.size w) (Nat.le_refl _) _).grown g1 (by simp) (fun k hk => by cases hk; exact Nat.le_refl _)).grown g2 (by have := g1.size; simp at this; omega) (fun k hk => by cases hk; exact Nat.le_refl _)
  clear h0 h1 h2 g1 g2
  have e3 : ∀ z : Value, ((if (Lit.string s.data.toList).sameKey (Lit.string [97, 97, 114, 99, 104, 54, 52]) = true then some (Value.int .u32 3221225655) else if (Lit.string s.data.toList).sameKey (Lit.string [120, 56, 54, 95, 54, 52]) = true then some (Value.int .u32 3221225534) else none : Option Value)) = if (archB s.data.toList).2 = true then some (.int .u32 (archB s.data.toList).1) else none := by
    intro z
    unfold archB
    simp only [Lit.sameKey, beq_iff_eq]
    split
    · rfl
    · split <;> rfl
  have r4 : (Instr.lookup 123 (.map (some w.heap.size)) (.string s) true).run Try.prog w2 = .ok (.tuple #[.int .u32 (archB s.data.toList).1, .bool (archB s.data.toList).2]) w2 := by
    refine r3.trans ?_
    show Result.ok (Value.tuple #[(if (Lit.string s.data.toList).sameKey (Lit.string [97, 97, 114, 99, 104, 54, 52]) = true then some (Value.int .u32 3221225655) else if (Lit.string s.data.toList).sameKey (Lit.string [120, 56, 54, 95, 54, 52]) = true then some (Value.int .u32 3221225534) else none : Option Value).getD (.int .u32 0), .bool (if (Lit.string s.data.toList).sameKey (Lit.string [97, 97, 114, 99, 104, 54, 52]) = true then some (Value.int .u32 3221225655) else if (Lit.string s.data.toList).sameKey (Lit.string [120, 56, 54, 95, 54, 52]) = true then some (Value.int .u32 3221225534) else none : Option Value).isSome]) w2 = _
    rw [e3 undef]
    unfold archB
    split
    · rfl
    · split <;> rfl
  clear r3 e3
  generalize archB s.data.toList = r at *
  obtain ⟨ra, rb⟩ := r
  go_enter Try.func38, Try.ntmps38
  go_wp2
  go_ret2
  exact ⟨rfl, hb⟩
def acts : List (List UInt8 × Int × Int) := [([107, 105, 108, 108], 2147483648, 0), ([107, 105, 108, 108, 95, 116, 104, 114, 101, 97, 100], 0, 0), ([108, 111, 103], 2147221504, 0), ([97, 108, 108, 111, 119], 2147418112, 0), ([101, 114, 114, 110, 111], 327680, 4095), ([116, 114, 97, 112], 196608, 65535), ([116, 114, 97, 99, 101], 2146435072, 65535)]
/-- A map literal's view: what was stored last comes first. -/
def viewOf (v : Int × Int → Value) : List (List UInt8 × Int × Int) → Lit → Option Value
  | [], _ => none
  | p :: r, x => if x.sameKey (.string p.1) = true then some (v p.2) else viewOf v r x
def findAct (l : List UInt8) : List (List UInt8 × Int × Int) → Option (Int × Int)
  | [] => none
  | p :: r => if l = p.1 then some p.2 else findAct l r
theorem view_find (v : Int × Int → Value) (l : List UInt8) : ∀ ps, viewOf v ps (.string l) = (findAct l ps).map v := by
  intro ps
  induction ps with
  | nil => rfl
  | cons p r ih =>
    unfold viewOf findAct
    simp only [Lit.sameKey, beq_iff_eq]
    split
    · rfl
    · exact ih
def vAct (p : Int × Int) : Value := .agg #[.int .u32 p.1, .int .u64 p.2]
theorem zero115 (w : World) : (zeroValue 115).run Try.prog w = .ok (vAct (0, 0)) w := by kernel_rfl
def actB (l : List UInt8) : Option (Int × Int) := findAct l acts.reverse
/-- The map of the actions, in some world: no other block has turned. -/
theorem acts_map (w : World) (s : ByteArray) (hs : s.size ≤ maxLen) : ∃ w1 w2 w3 w4 w5 w6 w7 : World,
    (Instr.mapUpdate 117 (.map (some w.heap.size)) (.string ⟨#[107, 105, 108, 108]⟩) (.agg #[.int .u32 2147483648, .int .u64 0])).run Try.prog (w.alloc (.map #[] 0)) = .ok () w1 ∧
    (Instr.mapUpdate 117 (.map (some w.heap.size)) (.string ⟨#[107, 105, 108, 108, 95, 116, 104, 114, 101, 97, 100]⟩) (.agg #[.int .u32 0, .int .u64 0])).run Try.prog (w1) = .ok () w2 ∧
    (Instr.mapUpdate 117 (.map (some w.heap.size)) (.string ⟨#[108, 111, 103]⟩) (.agg #[.int .u32 2147221504, .int .u64 0])).run Try.prog (w2) = .ok () w3 ∧
    (Instr.mapUpdate 117 (.map (some w.heap.size)) (.string ⟨#[97, 108, 108, 111, 119]⟩) (.agg #[.int .u32 2147418112, .int .u64 0])).run Try.prog (w3) = .ok () w4 ∧
    (Instr.mapUpdate 117 (.map (some w.heap.size)) (.string ⟨#[101, 114, 114, 110, 111]⟩) (.agg #[.int .u32 327680, .int .u64 4095])).run Try.prog (w4) = .ok () w5 ∧
    (Instr.mapUpdate 117 (.map (some w.heap.size)) (.string ⟨#[116, 114, 97, 112]⟩) (.agg #[.int .u32 196608, .int .u64 65535])).run Try.prog (w5) = .ok () w6 ∧
    (Instr.mapUpdate 117 (.map (some w.heap.size)) (.string ⟨#[116, 114, 97, 99, 101]⟩) (.agg #[.int .u32 2146435072, .int .u64 65535])).run Try.prog (w6) = .ok () w7 ∧
    (Instr.lookup 117 (.map (some w.heap.size)) (.string s) true).run Try.prog w7 = .ok (.tuple #[((actB s.data.toList).map vAct).getD (vAct (0, 0)), .bool ((actB s.data.toList).map vAct).isSome]) w7 ∧ Below w.heap.size w w7 := by
  have h0 := MapV.made Try.prog 9 w
  obtain ⟨w1, r1, h1, g1⟩ := h0.store (t := 117) (e := 115) (val := .agg #[.int .u32 2147483648, .int .u64 0]) keyed9 Try.underlying117 (by omega) (keyS ⟨#[107, 105, 108, 108]⟩ (by decide)) trivial
  obtain ⟨w2, r2, h2, g2⟩ := h1.store (t := 117) (e := 115) (val := .agg #[.int .u32 0, .int .u64 0]) keyed9 Try.underlying117 (by omega) (keyS ⟨#[107, 105, 108, 108, 95, 116, 104, 114, 101, 97, 100]⟩ (by decide)) trivial
  obtain ⟨w3, r3, h3, g3⟩ := h2.store (t := 117) (e := 115) (val := .agg #[.int .u32 2147221504, .int .u64 0]) keyed9 Try.underlying117 (by omega) (keyS ⟨#[108, 111, 103]⟩ (by decide)) trivial
  obtain ⟨w4, r4, h4, g4⟩ := h3.store (t := 117) (e := 115) (val := .agg #[.int .u32 2147418112, .int .u64 0]) keyed9 Try.underlying117 (by omega) (keyS ⟨#[97, 108, 108, 111, 119]⟩ (by decide)) trivial
  obtain ⟨w5, r5, h5, g5⟩ := h4.store (t := 117) (e := 115) (val := .agg #[.int .u32 327680, .int .u64 4095]) keyed9 Try.underlying117 (by omega) (keyS ⟨#[101, 114, 114, 110, 111]⟩ (by decide)) trivial
  obtain ⟨w6, r6, h6, g6⟩ := h5.store (t := 117) (e := 115) (val := .agg #[.int .u32 196608, .int .u64 65535]) keyed9 Try.underlying117 (by omega) (keyS ⟨#[116, 114, 97, 112]⟩ (by decide)) trivial
  obtain ⟨w7, r7, h7, g7⟩ := h6.store (t := 117) (e := 115) (val := .agg #[.int .u32 2146435072, .int .u64 65535]) keyed9 Try.underlying117 (by omega) (keyS ⟨#[116, 114, 97, 99, 101]⟩ (by decide)) trivial
  have r := h7.look (t := 117) (e := 115) keyed9 Try.underlying117 (zero115 w7) (keyS s hs)
  have hb0 : Below w.heap.size w (w.alloc (.map #[] 0)) := Below.alloc (Below.refl w.heap.size w) (Nat.le_refl _) _
  have hb1 := hb0.grown g1 hb0.size (fun k hk => by cases hk; exact Nat.le_refl _)
  have hb2 := hb1.grown g2 hb1.size (fun k hk => by cases hk; exact Nat.le_refl _)
  have hb3 := hb2.grown g3 hb2.size (fun k hk => by cases hk; exact Nat.le_refl _)
  have hb4 := hb3.grown g4 hb3.size (fun k hk => by cases hk; exact Nat.le_refl _)
  have hb5 := hb4.grown g5 hb4.size (fun k hk => by cases hk; exact Nat.le_refl _)
  have hb6 := hb5.grown g6 hb5.size (fun k hk => by cases hk; exact Nat.le_refl _)
  have hb7 := hb6.grown g7 hb6.size (fun k hk => by cases hk; exact Nat.le_refl _)
  refine ⟨w1, w2, w3, w4, w5, w6, w7, r1, r2, r3, r4, r5, r6, r7, ?_, hb7⟩
  have e := view_find vAct s.data.toList acts.reverse
  have r' : _ = Result.ok (Value.tuple #[(viewOf vAct acts.reverse (.string s.data.toList)).getD (vAct (0, 0)), .bool (viewOf vAct acts.reverse (.string s.data.toList)).isSome]) w7 := r
  rw [e] at r'
  exact r'
def actOut (l : List UInt8) (d : Int) : Int × Bool := match actB l with
  | none => (0, false)
  | some p => if p.2 < d then (0, false) else (bits BinOp.or IntKind.u32 p.1 (d % 4294967296), true)
set_option maxHeartbeats 1000000 in
theorem act_any (s : ByteArray) (d : Int) (hs : s.size ≤ maxLen) (x : Int) (b : Bool) (hx : actOut s.data.toList d = (x, b)) (w : World) : Calls Try.prog 33 #[.string s, .int .u64 d] w fun e w' => e = .returned (.tuple #[.int .u32 x, .bool b]) ∧ Below w.heap.size w w' := by
  unfold actOut at hx
  have hmm := @run_makeMap Try.prog
  have hu115 := Try.underlying115
  obtain ⟨w1, w2, w3, w4, w5, w6, w7, r1, r2, r3, r4, r5, r6, r7, r8, hb⟩ := acts_map w s hs
  cases hA : actB s.data.toList with
  | none =>
    rw [hA] at r8 hx
    simp only at hx
    obtain ⟨rfl, rfl⟩ := Prod.mk.inj hx
    simp only [Option.map_none, Option.getD_none, Option.isSome_none] at r8
    unfold vAct at r8
    simp only at r8
    go_enter Try.func33, Try.ntmps33
    go_wp2
    go_ret2
    exact ⟨rfl, bal hb _⟩
  | some p =>
    obtain ⟨n, most⟩ := p
    rw [hA] at r8 hx
    simp only at hx
    simp only [Option.map_some, Option.getD_some, Option.isSome_some] at r8
    unfold vAct at r8
    simp only at r8
    by_cases hd : most < d
    · rw [if_pos hd] at hx
      obtain ⟨rfl, rfl⟩ := Prod.mk.inj hx
      have hdd : decide (most < d) = true := decide_eq_true hd
      go_enter Try.func33, Try.ntmps33
      go_wp2
      go_ret2
      exact ⟨rfl, bal hb _⟩
    · rw [if_neg hd] at hx
      obtain ⟨rfl, rfl⟩ := Prod.mk.inj hx
      have hdd : decide (most < d) = false := decide_eq_false hd
      go_enter Try.func33, Try.ntmps33
      go_wp2
      go_ret2
      exact ⟨rfl, bal hb _⟩
def call_Arch.f (a0 : ByteArray) : Option (Int × Bool) := if a0.size ≤ maxLen then some (archB a0.data.toList) else none
theorem call_Arch.calls (a0 : ByteArray) (r1 : Int) (r2 : Bool) (w : World) (h : call_Arch.f a0 = some (r1, r2)) :
    Calls Try.prog 38 #[.string a0] w fun e w' => e = .returned (.tuple #[.int .u32 r1, .bool r2]) ∧ Below w.heap.size w w' := by
  unfold call_Arch.f at h
  split at h
  · rename_i hs
    have h1 := arch_any a0 hs w
    rw [Option.some.inj h] at h1
    exact h1
  · cases h
def call_Action.f (a0 : ByteArray) (a1 : Int) : Option (Int × Bool) := if a0.size ≤ maxLen then some (actOut a0.data.toList a1) else none
theorem call_Action.calls (a0 : ByteArray) (a1 : Int) (r1 : Int) (r2 : Bool) (w : World) (h : call_Action.f a0 a1 = some (r1, r2)) :
    Calls Try.prog 33 #[.string a0, .int .u64 a1] w fun e w' => e = .returned (.tuple #[.int .u32 r1, .bool r2]) ∧ Below w.heap.size w w' := by
  unfold call_Action.f at h
  split at h
  · rename_i hs
    exact act_any a0 a1 hs r1 r2 (Option.some.inj h) w
  · cases h
end Go.Proofs.Ytoeklekjhaigoaa.HAct
end
section
namespace Go.Proofs.Ytoeklekjhaigoaa.W0
open Go.Proofs.Ytoeklekjhaigoaa.Al Go.RowKit Go.Proofs.YtoeklekjhaigoaaW.PrintWords Go.Proofs.YtoeklekjhaigoaaW.PrintLast Go.Proofs.YtoeklekjhaigoaaW.PrintMore
attribute [local go_sem] max2_int min2_int max_two min_two max_three min_three max_four min_four IntKind.wrap_u32 IntKind.wrap_u8   -- for this text's walks alone
set_option linter.unusedVariables false
open Go.Proofs.Ytoeklekjhaigoaa.Le Go.Proofs.Ytoeklekjhaigoaa.C1 Go.Proofs.Ytoeklekjhaigoaa.C2 Go.Proofs.Ytoeklekjhaigoaa.HAct
set_option linter.unusedSimpArgs false
def errW : Option Int → Value
  | none => .nilIface
  | some c => .iface 0 (.int .i64 c)
theorem errW_none : errW none = .nilIface := rfl
theorem errW_some (c : Int) : errW (some c) = .iface 0 (.int .i64 c) := rfl
end Go.Proofs.Ytoeklekjhaigoaa.W0
end
section
namespace Go.Proofs.Ytoeklekjhaigoaa.W1
open Go.Proofs.Ytoeklekjhaigoaa.Al Go.RowKit Go.Proofs.YtoeklekjhaigoaaW.PrintWords Go.Proofs.YtoeklekjhaigoaaW.PrintLast Go.Proofs.YtoeklekjhaigoaaW.PrintMore
attribute [local go_sem] max2_int min2_int max_two min_two max_three min_three max_four min_four IntKind.wrap_u32 IntKind.wrap_u8   -- for this text's walks alone
set_option linter.unusedVariables false
open Go.Proofs.Ytoeklekjhaigoaa.Le Go.Proofs.Ytoeklekjhaigoaa.C1 Go.Proofs.Ytoeklekjhaigoaa.C2 Go.Proofs.Ytoeklekjhaigoaa.HAct Go.Proofs.Ytoeklekjhaigoaa.W0
set_option linter.unusedSimpArgs false
def errW : Option Int → Value
  | none => .nilIface
  | some c => .iface 0 (.int .i64 c)
theorem errW_none : errW none = .nilIface := rfl
theorem errW_some (c : Int) : errW (some c) = .iface 0 (.int .i64 c) := rfl
end Go.Proofs.Ytoeklekjhaigoaa.W1
end
section
namespace Go.Proofs.Ytoeklekjhaigoaa.R01
open Go.Proofs.Ytoeklekjhaigoaa.Al Go.RowKit Go.Proofs.YtoeklekjhaigoaaW.PrintWords Go.Proofs.YtoeklekjhaigoaaW.PrintLast Go.Proofs.YtoeklekjhaigoaaW.PrintMore
attribute [local go_sem] max2_int min2_int max_two min_two max_three min_three max_four min_four IntKind.wrap_u32 IntKind.wrap_u8   -- for this text's walks alone
set_option linter.unusedVariables false
open Go.Proofs.Ytoeklekjhaigoaa.Le Go.Proofs.Ytoeklekjhaigoaa.C1 Go.Proofs.Ytoeklekjhaigoaa.C2 Go.Proofs.Ytoeklekjhaigoaa.HAct Go.Proofs.Ytoeklekjhaigoaa.W0 Go.Proofs.Ytoeklekjhaigoaa.W1
set_option linter.unusedSimpArgs false
def errW : Option Int → Value
  | none => .nilIface
  | some c => .iface 0 (.int .i64 c)
theorem errW_none : errW none = .nilIface := rfl
theorem errW_some (c : Int) : errW (some c) = .iface 0 (.int .i64 c) := rfl
end Go.Proofs.Ytoeklekjhaigoaa.R01
end
section
namespace Go.Proofs.Ytoeklekjhaigoaa.HUnpack
open Go.Proofs.Ytoeklekjhaigoaa.Al Go.RowKit Go.Proofs.YtoeklekjhaigoaaW.PrintWords Go.Proofs.YtoeklekjhaigoaaW.PrintLast Go.Proofs.YtoeklekjhaigoaaW.PrintMore Go.Proofs.Ytoeklekjhaigoaa.Le
set_option linter.unusedVariables false
set_option linter.unusedSimpArgs false
set_option maxRecDepth 100000
def NextPost (sb ab : Nat) (s : ByteArray) (p n : Int) (w : World) (e : Ending) (w' : World) : Prop := e = .returned (.int .u64 n) ∧ w'.heap[ab]? = some (.cells #[.int .i64 p] 3 (0, 0)) ∧ Below ab w w' ∧ KeepBut w w' ab none
structure US (w0 w : World) (cb : Nat) (s : ByteArray) (p : Nat) (cs : Array Value) : Prop where
  hs : w.heap[w0.heap.size]? = some (.cells #[.string s] 9 (0, 0))
  hr : w.heap[w0.heap.size + 1]? = some (.cells #[.int .u32 0, .int .u32 0, .int .u64 0, .int .u64 0, .int .u64 0, .int .u64 0, .int .u64 0, .int .u64 0, .int .u64 0] 49 (0, 0))
  ha : w.heap[w0.heap.size + 1 + 1]? = some (.cells #[.int .i64 (p : Int)] 3 (0, 0))
  hc : w.heap[cb]? = some (.cells cs 49 (0, 0))
  hb : Below w0.heap.size w0 w
  hlt : w0.heap.size + 1 + 1 < cb
theorem US.next {w0 w w' : World} {cb : Nat} {s : ByteArray} {p q : Nat} {cs : Array Value} {n : Int} {e : Ending} (h : US w0 w cb s p cs) (k : NextPost w0.heap.size (w0.heap.size + 1 + 1) s (q : Int) n w e w') : US w0 w' cb s q cs := by
  obtain ⟨_, k1, k2, k3⟩ := k
  have := h.hlt
  exact ⟨(k3.2 _ (blk_lt h.hs) (by omega) (by simp)).trans h.hs, (k3.2 _ (blk_lt h.hr) (by omega) (by simp)).trans h.hr, k1, (k3.2 _ (blk_lt h.hc) (by omega) (by simp)).trans h.hc, below_weaken h.hb (by omega) k2, h.hlt⟩
theorem US.put {w0 w : World} {cb : Nat} {s : ByteArray} {p : Nat} {cs cs' : Array Value} (h : US w0 w cb s p cs) (i : Nat) (u : Value) (e : cs.setIfInBounds i u = cs') : US w0 (w.setCell ⟨cb, i, none⟩ u) cb s p cs' := by
  have := h.hlt
  exact ⟨(Below.heap_setCell _ _ _ _ (by simp only; omega)).trans h.hs, (Below.heap_setCell _ _ _ _ (by simp only; omega)).trans h.hr, (Below.heap_setCell _ _ _ _ (by simp only; omega)).trans h.ha, blk_put h.hc i u e, h.hb.setCell (p := ⟨cb, i, none⟩) (by simp only; omega) _, h.hlt⟩
end Go.Proofs.Ytoeklekjhaigoaa.HUnpack
end
section
namespace Go.Proofs.Ytoeklekjhaigoaa.HRefPack
open Go.Proofs.Ytoeklekjhaigoaa.Al Go.RowKit Go.Proofs.YtoeklekjhaigoaaW.PrintWords Go.Proofs.YtoeklekjhaigoaaW.PrintLast Go.Proofs.YtoeklekjhaigoaaW.PrintMore Go.Proofs.Ytoeklekjhaigoaa.Le Go.Proofs.Ytoeklekjhaigoaa.R01 Go.Proofs.Ytoeklekjhaigoaa.W0 Go.Proofs.Ytoeklekjhaigoaa.HUnpack
set_option linter.unusedVariables false
set_option linter.unusedSimpArgs false
set_option maxRecDepth 100000
structure UR (w0 w : World) (cs : Array Value) : Prop where
  hr : w.heap[w0.heap.size]? = some (.cells #[.int .u32 0, .int .u32 0, .int .u64 0, .int .u64 0, .int .u64 0, .int .u64 0, .int .u64 0, .int .u64 0, .int .u64 0] 49 (0, 0))
  hc : w.heap[w0.heap.size + 1]? = some (.cells cs 49 (0, 0))
  hb : Below w0.heap.size w0 w
theorem UR.put {w0 w : World} {cs cs' : Array Value} (h : UR w0 w cs) (i : Nat) (u : Value) (e : cs.setIfInBounds i u = cs') : UR w0 (w.setCell ⟨w0.heap.size + 1, i, none⟩ u) cs' :=
  ⟨blk_far h.hr (show w0.heap.size ≠ w0.heap.size + 1 by omega) u, blk_put h.hc i u e, Below.setCell h.hb (p := ⟨w0.heap.size + 1, i, none⟩) (Nat.le_succ _) u⟩
end Go.Proofs.Ytoeklekjhaigoaa.HRefPack
end
section
namespace Go.Proofs.Ytoeklekjhaigoaa.M0
open Go.Proofs.Ytoeklekjhaigoaa.Al Go.RowKit Go.Proofs.YtoeklekjhaigoaaW.PrintWords Go.Proofs.YtoeklekjhaigoaaW.PrintLast Go.Proofs.YtoeklekjhaigoaaW.PrintMore
attribute [local go_sem] max2_int min2_int max_two min_two max_three min_three max_four min_four IntKind.wrap_u32 IntKind.wrap_u8   -- for this text's walks alone
set_option linter.unusedVariables false
open Go.Proofs.Ytoeklekjhaigoaa.Le Go.Proofs.Ytoeklekjhaigoaa.C1 Go.Proofs.Ytoeklekjhaigoaa.C2 Go.Proofs.Ytoeklekjhaigoaa.HAct Go.Proofs.Ytoeklekjhaigoaa.W0 Go.Proofs.Ytoeklekjhaigoaa.W1 Go.Proofs.Ytoeklekjhaigoaa.R01 Go.Proofs.Ytoeklekjhaigoaa.HUnpack Go.Proofs.Ytoeklekjhaigoaa.HRefPack
set_option linter.unusedSimpArgs false
def errW : Option Int → Value
  | none => .nilIface
  | some c => .iface 0 (.int .i64 c)
theorem errW_none : errW none = .nilIface := rfl
theorem errW_some (c : Int) : errW (some c) = .iface 0 (.int .i64 c) := rfl
structure S46 where
  f0 : Int
  f1 : (List S46)
  f2 : Int
  f3 : Int
  f4 : ByteArray
  f5 : Int
def z46 : S46 := ⟨(0 : Int), ([] : List S46), (0 : Int), (0 : Int), (⟨#[]⟩ : ByteArray), (0 : Int)⟩
def F46 (d : Kd S46) : Kd S46 := Kd.iso (Kd.pair (Kd.int .i64) (Kd.pair (Kd.slice 46 d) (Kd.pair (Kd.int .i64) (Kd.pair (Kd.int .u64) (Kd.pair Kd.string (Kd.int .u64)))))) (fun x : S46 => (x.f0, x.f1, x.f2, x.f3, x.f4, x.f5))
theorem mono46 : Kd.Mono F46 := Kd.mono_iso _ (Kd.mono_pair (Kd.mono_const _) (Kd.mono_pair (Kd.mono_slice 46 Kd.mono_id) (Kd.mono_pair (Kd.mono_const _) (Kd.mono_pair (Kd.mono_const _) (Kd.mono_pair (Kd.mono_const _) (Kd.mono_const _))))))
theorem sub46 : Kd.Sub F46 [46] := Kd.sub_iso _ (Kd.sub_pair (Kd.sub_const _ (by decide)) (Kd.sub_pair (Kd.sub_slice 46 (by decide) Kd.sub_id) (Kd.sub_pair (Kd.sub_const _ (by decide)) (Kd.sub_pair (Kd.sub_const _ (by decide)) (Kd.sub_pair (Kd.sub_const _ (by decide)) (Kd.sub_const _ (by decide)))))))
theorem sz46 : ∀ n, (Kd.upto F46 6 [46] n).sz = 6 := Kd.upto_sz (fun _ => rfl)
def k46 : Kd S46 := Kd.fix F46 6 [46] sz46 (Kd.upto_E sub46)
theorem k46_heap : Kd.Heap k46 := Kd.heap_fix (fun _ h_ => Kd.heap_iso _ (Kd.heap_pair (Kd.heap_int .i64) (Kd.heap_pair (Kd.heap_slice 46 h_) (Kd.heap_pair (Kd.heap_int .i64) (Kd.heap_pair (Kd.heap_int .u64) (Kd.heap_pair Kd.heap_string (Kd.heap_int .u64)))))))
theorem k46_open {w : World} {x : S46} {cs : List Value} (h : k46.K w x cs) : ∃ A1 c1, cs = [.int .i64 x.f0, .slice A1 x.f1.length c1, .int .i64 x.f2, .int .u64 x.f3, .string x.f4, .int .u64 x.f5] ∧ x.f1.length ≤ c1 ∧ k46.C w A1 x.f1.length x.f1 := by
  obtain ⟨n, h⟩ := h
  cases n with
  | zero => exact h.elim
  | succ n =>
    obtain ⟨_, _, rfl, rfl, ⟨_, _, rfl, ⟨A1, c1, rfl, l1, g1⟩, ⟨_, _, rfl, rfl, ⟨_, _, rfl, rfl, ⟨_, _, rfl, rfl, rfl⟩⟩⟩⟩⟩ := h
    exact ⟨A1, c1, rfl, l1, Kd.fix_C g1⟩
theorem k46_mk (w : World) (x : S46) {A1 : Option Addr} {c1 : Nat} (l1 : x.f1.length ≤ c1) (g1 : k46.C w A1 x.f1.length x.f1) : k46.K w x [.int .i64 x.f0, .slice A1 x.f1.length c1, .int .i64 x.f2, .int .u64 x.f3, .string x.f4, .int .u64 x.f5] := by
  obtain ⟨n1, q1⟩ := Kd.fix_C_back mono46 g1
  have r1 := Kd.upto_C_le mono46 sz46 (show n1 ≤ n1 by omega) q1
  exact ⟨n1 + 1, ⟨[.int .i64 x.f0], [.slice A1 x.f1.length c1, .int .i64 x.f2, .int .u64 x.f3, .string x.f4, .int .u64 x.f5], rfl, rfl, ⟨[.slice A1 x.f1.length c1], [.int .i64 x.f2, .int .u64 x.f3, .string x.f4, .int .u64 x.f5], rfl, ⟨A1, c1, rfl, l1, r1⟩, ⟨[.int .i64 x.f2], [.int .u64 x.f3, .string x.f4, .int .u64 x.f5], rfl, rfl, ⟨[.int .u64 x.f3], [.string x.f4, .int .u64 x.f5], rfl, rfl, ⟨[.string x.f4], [.int .u64 x.f5], rfl, rfl, rfl⟩⟩⟩⟩⟩⟩
theorem k46_openF {W : World} {ok : Nat → Prop} {x : S46} {cs : List Value} (h : Kd.FK k46 W ok x cs) : ∃ A1 c1, cs = [.int .i64 x.f0, .slice A1 x.f1.length c1, .int .i64 x.f2, .int .u64 x.f3, .string x.f4, .int .u64 x.f5] ∧ x.f1.length ≤ c1 ∧ Kd.F k46 W ok A1 x.f1.length x.f1 := by
  obtain ⟨A1, c1, rfl, l1, _⟩ := k46_open (Kd.FK_now h)
  exact ⟨A1, c1, rfl, l1, (fun W' hW => by obtain ⟨A1_, c1_, he, l1_, g1_⟩ := k46_open (h W' hW); injection (Option.some.inj (show some (Value.slice A1 x.f1.length c1) = some (Value.slice A1_ x.f1.length c1_) from congrArg (fun l => l[1]?) he)) with ha_ _ _; rw [ha_]; exact g1_)⟩
theorem k46_mkF (W : World) (ok : Nat → Prop) (x : S46) {A1 : Option Addr} {c1 : Nat} (l1 : x.f1.length ≤ c1) (g1 : Kd.F k46 W ok A1 x.f1.length x.f1) : Kd.FK k46 W ok x [.int .i64 x.f0, .slice A1 x.f1.length c1, .int .i64 x.f2, .int .u64 x.f3, .string x.f4, .int .u64 x.f5] := fun W2 hW => k46_mk W2 x l1 (g1 W2 hW)
def rd_T46 (xs : List S46) (i : Int) : S46 := xs.getD i.toNat z46
end Go.Proofs.Ytoeklekjhaigoaa.M0
end
section
namespace Go.Proofs.Ytoeklekjhaigoaa.QCond
open Go.Proofs.Ytoeklekjhaigoaa.Al Go.RowKit Go.Proofs.YtoeklekjhaigoaaW.PrintWords Go.Proofs.YtoeklekjhaigoaaW.PrintLast Go.Proofs.YtoeklekjhaigoaaW.PrintMore Go.Proofs.Ytoeklekjhaigoaa.M0
set_option linter.unusedVariables false
set_option linter.unusedSimpArgs false
mutual
def nodes : S46 → Nat
  | ⟨_, ks, _, _, _, _⟩ => nodesL ks + 1
def nodesL : List S46 → Nat
  | [] => 0
  | c :: l => nodes c + nodesL l
end
theorem nodes_eq (c : S46) : nodes c = nodesL c.f1 + 1 := by cases c; rfl
theorem nodesL_append (a b : List S46) : nodesL (a ++ b) = nodesL a + nodesL b := by
  induction a with
  | nil => simp [nodesL]
  | cons c a ih => rw [List.cons_append, nodesL, nodesL, ih]; omega
theorem nodes_pos (c : S46) : 1 ≤ nodes c := by rw [nodes_eq]; omega
theorem len_nodes (l : List S46) : l.length ≤ nodesL l := by
  induction l with
  | nil => simp [nodesL]
  | cons c l ih => have := nodes_pos c; rw [nodesL, List.length_cons]; omega
def signs : List (List UInt8) := [[61, 61], [33, 61], [60], [60, 61], [62], [62, 61]]
def signOk (s : ByteArray) : Bool := signs.contains s.toList
def bareB (c : S46) : Bool := decide (c.f2 = 0) && decide (c.f3 = 0) && decide (c.f4.toList = []) && decide (c.f5 = 0)
/-- May a condition be, as far as it itself goes? -/
def oneB (c : S46) : Bool :=
  if c.f0 = 4 then decide (0 ≤ c.f2 ∧ c.f2 < 6) && signOk c.f4 && decide (c.f1.length = 0)
  else if c.f0 = 1 ∨ c.f0 = 2 then bareB c && decide (2 ≤ c.f1.length)
  else if c.f0 = 3 then bareB c && decide (c.f1.length = 1)
  else false
mutual
def fitsB : S46 → Bool
  | ⟨a, ks, b, c, d, e⟩ => oneB ⟨a, ks, b, c, d, e⟩ && fitsL ks
def fitsL : List S46 → Bool
  | [] => true
  | c :: l => fitsB c && fitsL l
end
theorem fits_eq (c : S46) : fitsB c = (oneB c && fitsL c.f1) := by cases c; rfl
theorem fitsL_append (a b : List S46) : fitsL (a ++ b) = (fitsL a && fitsL b) := by
  induction a with
  | nil => simp [fitsL]
  | cons c a ih => rw [List.cons_append, fitsL, fitsL, ih, Bool.and_assoc]
mutual
def testsN : S46 → Nat
  | ⟨a, ks, _, _, _, _⟩ => (if a = 4 then 1 else 0) + testsL ks
def testsL : List S46 → Nat
  | [] => 0
  | c :: l => testsN c + testsL l
end
theorem tests_eq (c : S46) : testsN c = (if c.f0 = 4 then 1 else 0) + testsL c.f1 := by cases c; rfl
theorem testsL_append (a b : List S46) : testsL (a ++ b) = testsL a + testsL b := by
  induction a with
  | nil => simp [testsL]
  | cons c a ih => rw [List.cons_append, testsL, testsL, ih]; omega
/-- May a condition be (types.Right)? -/
def rightB (c : S46) : Bool := fitsB c && decide (nodes c ≤ 100)
def countR (c : S46) : Int × Bool := if rightB c = true then ((testsN c : Int), true) else (0, false)
end Go.Proofs.Ytoeklekjhaigoaa.QCond
end
section
namespace Go.Proofs.Ytoeklekjhaigoaa.K49
open Go.Proofs.Ytoeklekjhaigoaa.Al Go.RowKit Go.Proofs.YtoeklekjhaigoaaW.PrintWords Go.Proofs.YtoeklekjhaigoaaW.PrintLast Go.Proofs.YtoeklekjhaigoaaW.PrintMore
structure S47 where
  f0 : Int
  f1 : Int
  f2 : Int
  f3 : Int
  f4 : Int
  f5 : Int
structure S49 where
  f0 : Int
  f1 : Int
  f2 : Int
  f3 : S47
end Go.Proofs.Ytoeklekjhaigoaa.K49
end
section
namespace Go.Proofs.Ytoeklekjhaigoaa.QMean
open Go.Proofs.Ytoeklekjhaigoaa.Al Go.RowKit Go.Proofs.YtoeklekjhaigoaaW.PrintWords Go.Proofs.YtoeklekjhaigoaaW.PrintLast Go.Proofs.YtoeklekjhaigoaaW.PrintMore Go.Proofs.Ytoeklekjhaigoaa.M0 Go.Proofs.Ytoeklekjhaigoaa.QCond Go.Proofs.Ytoeklekjhaigoaa.K49
set_option linter.unusedVariables false
set_option linter.unusedSimpArgs false
def notC (c : S46) : S46 := ⟨3, [c], 0, 0, ⟨#[]⟩, 0⟩
def manyC (k : Int) (l : List S46) : S46 := ⟨k, l, 0, 0, ⟨#[]⟩, 0⟩
theorem bare_many (k : Int) (l : List S46) : bareB (manyC k l) = true := by
  unfold bareB manyC; simp [ByteArray.toList_empty]
theorem nodes_many (k : Int) (l : List S46) : nodes (manyC k l) = nodesL l + 1 := nodes_eq _
theorem nodes_not (c : S46) : nodes (notC c) = nodes c + 1 := by
  rw [nodes_eq]; show nodesL [c] + 1 = _
  rw [nodesL, nodesL]
theorem fits_many {k : Int} {l : List S46} (hk : k = 1 ∨ k = 2) (hl : 2 ≤ l.length) (h : fitsL l = true) : fitsB (manyC k l) = true := by
  rw [fits_eq, show (manyC k l).f1 = l from rfl, h, Bool.and_true]
  unfold oneB
  rw [if_neg (show ¬ (manyC k l).f0 = 4 by show ¬ k = 4; omega), if_pos (show (manyC k l).f0 = 1 ∨ (manyC k l).f0 = 2 from hk), bare_many, Bool.true_and]
  exact decide_eq_true hl
theorem fits_not {c : S46} (h : fitsB c = true) : fitsB (notC c) = true := by
  rw [fits_eq]
  have e : fitsL (notC c).f1 = true := by show fitsL [c] = true; rw [fitsL, fitsL, h]; rfl
  rw [e, Bool.and_true]
  unfold oneB
  rw [if_neg (show ¬ (notC c).f0 = 4 from (show ¬ (3 : Int) = 4 by decide)), if_neg (show ¬ ((notC c).f0 = 1 ∨ (notC c).f0 = 2) from (show ¬ ((3 : Int) = 1 ∨ (3 : Int) = 2) by decide)), if_pos (show (notC c).f0 = 3 from rfl), show bareB (notC c) = true from bare_many 3 [c]]
  rfl
end Go.Proofs.Ytoeklekjhaigoaa.QMean
end
section
namespace Go.Proofs.Ytoeklekjhaigoaa.M0
open Go.Proofs.Ytoeklekjhaigoaa.Al Go.RowKit Go.Proofs.YtoeklekjhaigoaaW.PrintWords Go.Proofs.YtoeklekjhaigoaaW.PrintLast Go.Proofs.YtoeklekjhaigoaaW.PrintMore
attribute [local go_sem] max2_int min2_int max_two min_two max_three min_three max_four min_four IntKind.wrap_u32 IntKind.wrap_u8   -- for this text's walks alone
set_option linter.unusedVariables false
open Go.Proofs.Ytoeklekjhaigoaa.Le Go.Proofs.Ytoeklekjhaigoaa.C1 Go.Proofs.Ytoeklekjhaigoaa.C2 Go.Proofs.Ytoeklekjhaigoaa.HAct Go.Proofs.Ytoeklekjhaigoaa.W0 Go.Proofs.Ytoeklekjhaigoaa.W1 Go.Proofs.Ytoeklekjhaigoaa.R01 Go.Proofs.Ytoeklekjhaigoaa.HUnpack Go.Proofs.Ytoeklekjhaigoaa.HRefPack
set_option linter.unusedSimpArgs false
def slices_Index_string_string.l0 : Nat → List ByteArray → ByteArray → Int → Int → Option (Int)
  | 0, _, _, _, _ => none
  | k + 1, x0, x1, x7, x8 => if x8 < x7 then (if 0 ≤ x8 then (if x8 < (x0.length : Int) then (if x1.toList = (rdOf ByteArray.empty x0 x8).toList then (some x8) else (slices_Index_string_string.l0 k x0 x1 x7 (wrap64 (x8 + 1)))) else (none)) else (none)) else (some (-1))
def slices_Index_string_string.f (k : Nat) (l0 : List ByteArray) (a1 : ByteArray) : Option (Int) := slices_Index_string_string.l0 k l0 a1 (l0.length : Int) 0
set_option maxHeartbeats 8000000 in
set_option maxRecDepth 100000 in
theorem slices_Index_string_string.calls (k : Nat) (A0 : Option Addr) (c0 : Nat) (l0 : List ByteArray) (a1 : ByteArray) (r : Int) (w : World) (hr0 : Kd.C Kd.string w A0 l0.length l0) (hc0 : l0.length ≤ c0) (h : slices_Index_string_string.f k l0 a1 = some r) :
    Calls Try.prog 167 #[.slice A0 l0.length c0, .string a1] w fun e w' => e = .returned (.int .i64 r) ∧ Drawn0 w w' := by
  have HR0 := amk hr0
  have HC0 := amk hc0
  clear hr0 hc0
  have H : (slices_Index_string_string.l0 k l0 a1 (l0.length : Int) 0) = some r := h
  clear h
  have H' := amk H
  clear H
  go_enter Try.func167, Try.ntmps167
  go_wp2
  go_loopg [8] k (fun kq v8 w' => ∃ (x8_1 : Int), v8 = .int .i64 x8_1 ∧ Aside0 (slices_Index_string_string.l0 kq l0 a1 (l0.length : Int) x8_1 = some r) ∧ Aside0 (kq ≤ k) ∧ Drawn0 w w')
  case atStart => exact ⟨(0), (by first | rfl | (simp; done) | (simp [*]; done)), H', ⟨Nat.le_refl _⟩, by repeat (first | exact Drawn0.refl _ | apply Drawn0.step)⟩
  case round =>
    clear H'
    try clear c1
    try clear p2
    obtain ⟨x8_1, rfl, HA, HK1, ⟨m1, rfl⟩⟩ := hrel
    cases gk with
    | zero => exact absurd HA.out (by simp [slices_Index_string_string.l0])
    | succ k1 =>
      have H := HA.out
      clear HA
      simp only [slices_Index_string_string.l0] at H
      by_cases c3 : x8_1 < (l0.length : Int)
      · rw [if_pos c3] at H
        have c3b0 : decide (x8_1 < (l0.length : Int)) = true := decide_eq_true c3
        clear c3
        by_cases c4 : 0 ≤ x8_1
        · rw [if_pos c4] at H
          have c4b0 : decide (0 ≤ x8_1) = true := decide_eq_true c4
          clear c4
          by_cases c5 : x8_1 < (l0.length : Int)
          · rw [if_pos c5] at H
            have c5b0 : decide (x8_1 < (l0.length : Int)) = true := decide_eq_true c5
            clear c5
            by_cases c6 : a1.toList = (rdOf ByteArray.empty l0 x8_1).toList
            · rw [if_pos c6] at H
              have c6b0 : (a1.toList == (rdOf ByteArray.empty l0 x8_1).toList) = true := beq_iff_eq.mpr c6
              have c6b1 : (a1.toList != (rdOf ByteArray.empty l0 x8_1).toList) = false := bne_eq_false_iff_eq.mpr c6
              clear c6
              obtain rfl := Option.some.inj H
              have p123 : 0 ≤ (x8_1 : Int) := of_decide_eq_true (by first | (with_reducible assumption) | assumption)
              have q123 : x8_1 < (l0.length : Int) := of_decide_eq_true (by first | (with_reducible assumption) | assumption)
              obtain ⟨ad123, e123, hx123_0⟩ := Kd.at_string HR0.out x8_1 p123 q123
              cases e123
              replace p123 := eq_true p123
              replace q123 := eq_true q123
              go_wp2
              go_ret
              exact ⟨by first | rfl | (simp; done) | (simp [*]; done), by repeat (first | exact Drawn0.refl _ | apply Drawn0.step)⟩
            · rw [if_neg c6] at H
              have c6b0 : (a1.toList == (rdOf ByteArray.empty l0 x8_1).toList) = false := beq_eq_false_iff_ne.mpr c6
              have c6b1 : (a1.toList != (rdOf ByteArray.empty l0 x8_1).toList) = true := bne_iff_ne.mpr c6
              have H' := amk H
              clear H
              have p123 : 0 ≤ (x8_1 : Int) := of_decide_eq_true (by first | (with_reducible assumption) | assumption)
              have q123 : x8_1 < (l0.length : Int) := of_decide_eq_true (by first | (with_reducible assumption) | assumption)
              obtain ⟨ad123, e123, hx123_0⟩ := Kd.at_string HR0.out x8_1 p123 q123
              cases e123
              replace p123 := eq_true p123
              replace q123 := eq_true q123
              go_wp2
              go_roundg k1
              case measure => have := HK1.out; omega
              case rel => exact ⟨(wrap64 (x8_1 + 1)), (by first | rfl | (simp; done) | (simp [*]; done)), H', ⟨by have := HK1.out; omega⟩, by repeat (first | exact Drawn0.refl _ | apply Drawn0.step)⟩
          · rw [if_neg c5] at H
            exact absurd H (by simp)
        · rw [if_neg c4] at H
          exact absurd H (by simp)
      · rw [if_neg c3] at H
        have c3b0 : decide (x8_1 < (l0.length : Int)) = false := decide_eq_false c3
        clear c3
        obtain rfl := Option.some.inj H
        go_wp2
        go_ret
        exact ⟨by first | rfl | (simp; done) | (simp [*]; done), by repeat (first | exact Drawn0.refl _ | apply Drawn0.step)⟩
def slices_Contains_string_string.f (k : Nat) (l0 : List ByteArray) (a1 : ByteArray) : Option (Bool) := (slices_Index_string_string.f k l0 a1).bind fun t124 => (some (decide (t124 ≥ 0)))
set_option maxHeartbeats 8000000 in
set_option maxRecDepth 100000 in
theorem slices_Contains_string_string.calls (k : Nat) (A0 : Option Addr) (c0 : Nat) (l0 : List ByteArray) (a1 : ByteArray) (r : Bool) (w : World) (hr0 : Kd.C Kd.string w A0 l0.length l0) (hc0 : l0.length ≤ c0) (h : slices_Contains_string_string.f k l0 a1 = some r) :
    Calls Try.prog 153 #[.slice A0 l0.length c0, .string a1] w fun e w' => e = .returned (.bool r) ∧ Drawn0 w w' := by
  have HR0 := amk hr0
  have HC0 := amk hc0
  clear hr0 hc0
  have H : ((slices_Index_string_string.f k l0 a1).bind fun t124 => (some (decide (t124 ≥ 0)))) = some r := h
  clear h
  replace H := Option.bind_eq_some_iff.mp H
  obtain ⟨t124, A30, H⟩ := H
  replace H : (some (decide (t124 ≥ 0))) = some r := H
  have A3 := amk A30
  clear A30
  obtain rfl := Option.some.inj H
  go_enter Try.func153, Try.ntmps153
  go_wp2_with (first | ((with_reducible refine gate_callee (f := 167) rfl ?_); refine goesL_ (some 7) rfl rfl Try.func167 (by kernel_rfl) rfl #[.slice A0 l0.length c0, .string a1] rfl (by (try simp only [List.map_toArray, List.map_cons, List.map_nil]); first | done | rfl | (simp only [List.length_drop, List.length_take]; rfl)) ?_; (with_reducible refine (slices_Index_string_string.calls k _ _ l0 a1 t124 _ ?side1 ?side2 A3.out).mono ?_); (case side1 => repeat (first | exact HR0.out | (with_reducible refine Kd.C_alloc ?_ _) | (with_reducible refine Kd.C_drewN ?_ _) | (with_reducible refine Kd.C_drew ?_))); (case side2 => exact HC0.out); rintro e w' ⟨rfl, ⟨nd, rfl⟩⟩; refine ⟨_, rfl, ?_⟩))
  go_ret
  exact ⟨by first | rfl | (simp; done) | (simp [*]; done), by repeat (first | exact Drawn0.refl _ | apply Drawn0.step)⟩
def types_signs.f  : Option (List ByteArray) := some (([(⟨#[61, 61]⟩ : ByteArray), (⟨#[33, 61]⟩ : ByteArray), (⟨#[60]⟩ : ByteArray), (⟨#[60, 61]⟩ : ByteArray), (⟨#[62]⟩ : ByteArray), (⟨#[62, 61]⟩ : ByteArray)] : List ByteArray))
set_option maxHeartbeats 8000000 in
set_option maxRecDepth 100000 in
theorem types_signs.calls  (r : List ByteArray) (w : World) (h : types_signs.f  = some r) :
    Calls Try.prog 154 #[] w fun e w' => ∃ v0_ : Value, e = .returned (v0_) ∧ Kd.R Kd.string 9 w' w.heap.size (fun _ => True) v0_ r ∧ Below w.heap.size w w' := by
  have HB := amk (Below.refl w.heap.size w)
  have H : (some (([(⟨#[61, 61]⟩ : ByteArray), (⟨#[33, 61]⟩ : ByteArray), (⟨#[60]⟩ : ByteArray), (⟨#[60, 61]⟩ : ByteArray), (⟨#[62]⟩ : ByteArray), (⟨#[62, 61]⟩ : ByteArray)] : List ByteArray))) = some r := h
  clear h
  obtain ⟨y125, hy125⟩ : ∃ y_ : List ByteArray, y_ = (([(⟨#[61, 61]⟩ : ByteArray), (⟨#[33, 61]⟩ : ByteArray), (⟨#[60]⟩ : ByteArray), (⟨#[60, 61]⟩ : ByteArray), (⟨#[62]⟩ : ByteArray), (⟨#[62, 61]⟩ : ByteArray)] : List ByteArray)) := ⟨_, rfl⟩
  replace H : (some y125) = some r := by first | (rw [hy125]; with_reducible exact H) | (have H2_ := (Option.bind_some _ _).symm.trans H; rw [hy125]; with_reducible exact H2_) | (have H2_ := (Option.bind_some _ _).symm.trans H; with_reducible exact H2_) | with_reducible exact H | (rw [hy125]; exact H) | exact H
  have Ny125 := amk hy125
  clear hy125
  obtain rfl := Option.some.inj H
  go_enter Try.func154, Try.ntmps154
  go_wp2_with (first | ((with_reducible refine gate_dst (N := 1) rfl ?_); refine Kd.R_lit Kd.string _ 9 ?hg (N := 1) ?hd (xs := ([(⟨#[61, 61]⟩ : ByteArray), (⟨#[33, 61]⟩ : ByteArray), (⟨#[60]⟩ : ByteArray), (⟨#[60, 61]⟩ : ByteArray), (⟨#[62]⟩ : ByteArray), (⟨#[62, 61]⟩ : ByteArray)] : List ByteArray)) (inner := [.string (⟨#[61, 61]⟩ : ByteArray), .string (⟨#[33, 61]⟩ : ByteArray), .string (⟨#[60]⟩ : ByteArray), .string (⟨#[60, 61]⟩ : ByteArray), .string (⟨#[62]⟩ : ByteArray), .string (⟨#[62, 61]⟩ : ByteArray)]) (ok := fun _ => True) (okp := fun _ => True) ?hr ?hp (fun _ hk => hk) trivial (Below.refl _ _) (Nat.le_refl _) (by simp) ?_; (case hd => rfl); (case hg => rfl); (case hr => first | (go_simp; done) | (go_simp; rfl)); (case hp => exact (Reps.one (show Kd.M Kd.string _ _ _ (⟨#[61, 61]⟩ : ByteArray) [.string (⟨#[61, 61]⟩ : ByteArray)] from rfl) (Reps.one (show Kd.M Kd.string _ _ _ (⟨#[33, 61]⟩ : ByteArray) [.string (⟨#[33, 61]⟩ : ByteArray)] from rfl) (Reps.one (show Kd.M Kd.string _ _ _ (⟨#[60]⟩ : ByteArray) [.string (⟨#[60]⟩ : ByteArray)] from rfl) (Reps.one (show Kd.M Kd.string _ _ _ (⟨#[60, 61]⟩ : ByteArray) [.string (⟨#[60, 61]⟩ : ByteArray)] from rfl) (Reps.one (show Kd.M Kd.string _ _ _ (⟨#[62]⟩ : ByteArray) [.string (⟨#[62]⟩ : ByteArray)] from rfl) (Reps.one (show Kd.M Kd.string _ _ _ (⟨#[62, 61]⟩ : ByteArray) [.string (⟨#[62, 61]⟩ : ByteArray)] from rfl) (Reps.none _ _)))))))); intro v126 w1 ho2 hb hg_ hnew_; clear hg_ hnew_; (first | rw [← Ny125.out] at ho2 | (simp only [Int.reduceToNat] at ho2; rw [← Ny125.out] at ho2)); have n0_ := amk (Kd.R_lower ho2 (below_size (by repeat (first | (with_reducible first | exact HB.out | apply bal | apply pbd | apply below_drew1) | exact HB.out)))); have n1_ := amk (below_step (by repeat (first | (with_reducible first | exact HB.out | apply bal | apply pbd | apply below_drew1) | exact HB.out)) hb); clear HB; have HO127 := n0_; have HB := n1_; clear n0_ n1_; clear hb ho2))
  go_ret
  exact ⟨_, by first | rfl | (simp [errW_none, errW_some] <;> rfl) | (simp [*, errW_none, errW_some] <;> rfl), by (with_reducible repeat (first | apply Kd.R_alloc | apply Kd.R_drewN | apply Kd.R_drew)); exact HO127.out, by repeat (first | (with_reducible first | exact HB.out | apply bal | apply pbd | apply below_drew1) | exact HB.out)⟩
end Go.Proofs.Ytoeklekjhaigoaa.M0
end
section
namespace Go.Proofs.Ytoeklekjhaigoaa.M0
open Go.Proofs.Ytoeklekjhaigoaa.Al Go.RowKit Go.Proofs.YtoeklekjhaigoaaW.PrintWords Go.Proofs.YtoeklekjhaigoaaW.PrintLast Go.Proofs.YtoeklekjhaigoaaW.PrintMore
attribute [local go_sem] max2_int min2_int max_two min_two max_three min_three max_four min_four IntKind.wrap_u32 IntKind.wrap_u8   -- for this text's walks alone
set_option linter.unusedVariables false
open Go.Proofs.Ytoeklekjhaigoaa.Le Go.Proofs.Ytoeklekjhaigoaa.C1 Go.Proofs.Ytoeklekjhaigoaa.C2 Go.Proofs.Ytoeklekjhaigoaa.HAct Go.Proofs.Ytoeklekjhaigoaa.W0 Go.Proofs.Ytoeklekjhaigoaa.W1 Go.Proofs.Ytoeklekjhaigoaa.R01 Go.Proofs.Ytoeklekjhaigoaa.HUnpack Go.Proofs.Ytoeklekjhaigoaa.HRefPack
set_option linter.unusedSimpArgs false
mutual
def types_one.j0 : Nat → Bool → Int → List (S46) → Int → Int → ByteArray → Int → Option (Bool)
  | 0, _, _, _, _, _, _, _ => none
  | k + 1, x3, x129000, x129001, x129002, x129003, x129004, x129005 => if x129000 = 4 then (if x129002 ≥ 0 then (if x129002 < 6 then ((types_signs.f).bind fun t129 => ((slices_Contains_string_string.f k t129 x129004).bind fun t132 => (if t132 = true then (some ((x129001.length : Int) == 0)) else (some false)))) else (some false)) else (some false)) else (if x129000 = 1 then (types_one.j1 k x3 x129000 (x129000 == 1) x129000 x129001 x129002 x129003 x129004 x129005) else (types_one.j1 k x3 x129000 (x129000 == 2) x129000 x129001 x129002 x129003 x129004 x129005))
def types_one.j1 : Nat → Bool → Int → Bool → Int → List (S46) → Int → Int → ByteArray → Int → Option (Bool)
  | 0, _, _, _, _, _, _, _, _, _ => none
  | k + 1, x3, x23, x46, x129000, x129001, x129002, x129003, x129004, x129005 => if x46 = true then (if x3 = true then (some (decide ((x129001.length : Int) ≥ 2))) else (some false)) else (if x23 = 3 then (if x3 = true then (some ((x129001.length : Int) == 1)) else (some false)) else (some false))
end
def types_one.f (k : Nat) (a0_0 : Int) (l0_1 : List (S46)) (a0_2 : Int) (a0_3 : Int) (a0_4 : ByteArray) (a0_5 : Int) : Option (Bool) := if a0_2 = 0 then (if a0_3 = 0 then (if a0_4.toList = ([] : List UInt8) then (types_one.j0 k (a0_5 == 0) a0_0 l0_1 a0_2 a0_3 a0_4 a0_5) else (types_one.j0 k false a0_0 l0_1 a0_2 a0_3 a0_4 a0_5)) else (types_one.j0 k false a0_0 l0_1 a0_2 a0_3 a0_4 a0_5)) else (types_one.j0 k false a0_0 l0_1 a0_2 a0_3 a0_4 a0_5)
def types_one.T4 : Bool × List (List Nat × List Nat) := (true, [([], []), ([0], [0]), ([1], [1]), ([2], [2]), ([3], [3]), ([4, 3], [3, 4]), ([5, 3], [3, 5]), ([3, 6], [3, 6]), ([7, 3], [7]), ([8, 8], [8]), ([8], [8]), ([10, 8], [8, 10]), ([9, 11, 9, 8], [8, 9, 11]), ([8, 12], [8, 12]), ([13, 12], [13]), ([14], [14]), ([15, 14], [14, 15]), ([16, 14], [14, 16]), ([17, 14], [14, 17]), ([14, 18], [14, 18]), ([19, 14, 0, 1, 2, 3, 4, 5, 6, 7, 8, 9, 10, 11, 12, 13, 14, 15, 16, 17, 18, 19], [19])])
def types_one.B4 : List Nat := [0, 1, 3, 7, 15, 31, 63, 127, 255, 511, 511, 1535, 4095, 8191, 16383, 32767, 65535, 131071, 262143, 524287, 1048575]
theorem types_one.tab4 : rtab .any (opsOf Try.f133 4) = types_one.T4 := by kernel_rfl
theorem types_one.bits4 : waitsOk types_one.T4.2 types_one.B4 = true := by kernel_rfl
set_option maxHeartbeats 8000000 in
set_option maxRecDepth 100000 in
theorem types_one.calls (k : Nat) (a0_0 : Int) (A0_1 : Option Addr) (c0_1 : Nat) (l0_1 : List (S46)) (a0_2 : Int) (a0_3 : Int) (a0_4 : ByteArray) (a0_5 : Int) (r : Bool) (w : World) (hr0_1 : Kd.C k46 w A0_1 l0_1.length l0_1) (hc0_1 : l0_1.length ≤ c0_1) (h : types_one.f k a0_0 l0_1 a0_2 a0_3 a0_4 a0_5 = some r) :
    Calls Try.prog 133 #[.agg #[.int .i64 a0_0, .slice A0_1 l0_1.length c0_1, .int .i64 a0_2, .int .u64 a0_3, .string a0_4, .int .u64 a0_5]] w fun e w' => e = .returned (.bool r) ∧ Below w.heap.size w w' := by
  have hu46 := Try.underlying46
  have HR0_1 := amk hr0_1
  have HC0_1 := amk hc0_1
  clear hr0_1 hc0_1
  have HB := amk (Below.refl w.heap.size w)
  have H : (if a0_2 = 0 then (if a0_3 = 0 then (if a0_4.toList = ([] : List UInt8) then (types_one.j0 k (a0_5 == 0) a0_0 l0_1 a0_2 a0_3 a0_4 a0_5) else (types_one.j0 k false a0_0 l0_1 a0_2 a0_3 a0_4 a0_5)) else (types_one.j0 k false a0_0 l0_1 a0_2 a0_3 a0_4 a0_5)) else (types_one.j0 k false a0_0 l0_1 a0_2 a0_3 a0_4 a0_5)) = some r := h
  clear h
  have HC2 := amk H
  clear H
  go_enter Try.func133, Try.ntmps133
  go_upto_region 1 with (first | ((with_reducible refine gate_dst (N := 1) rfl ?_); (try (refine gate_guard (by rfl) ?_; dsimp only)); refine box_event ?hg (N := 1) ?hd (cs := #[.int .i64 a0_0, .slice A0_1 l0_1.length c0_1, .int .i64 a0_2, .int .u64 a0_3, .string a0_4, .int .u64 a0_5]) (t := 46) ?hr ?_; (case hd => rfl); (case hg => rfl); (case hr => first | (go_simp; done) | (go_simp; rfl)); intro gb128 hg w3 hbox hb; have n0_ := amk (below_step (by repeat (first | (with_reducible first | exact HB.out | apply bal | apply pbd | apply below_drew1) | exact HB.out)) hb); have n1_ := amk (hbox); have n2_ := amk ((by rw [hg]; exact (below_size (by repeat (first | (with_reducible first | exact HB.out | apply bal | apply pbd | apply below_drew1) | exact HB.out))) : w.heap.size ≤ gb128)); have n3_ := amk ((by rw [hg]; exact (below_size (by repeat (first | (with_reducible first | exact HB.out | apply bal | apply pbd | apply below_drew1) | exact HB.out))) : w.heap.size ≤ gb128)); clear HB; have HB := n0_; have BK128 := n1_; have GW128 := n2_; have GE128 := n3_; clear n0_ n1_ n2_ n3_; clear hb hbox hg))
  (try simp only [Act.put, List.setIfInBounds_toArray, List.set_cons_zero, List.set_cons_succ])
  go_cut [3] (fun v3 wc => ∃ (kq : Nat) (x3_1 : Bool), v3 = .bool x3_1 ∧ Aside0 (types_one.j0 kq x3_1 a0_0 l0_1 a0_2 a0_3 a0_4 a0_5 = some r) ∧ Aside0 (kq ≤ k) ∧ Aside0 (wc.heap[gb128]? = some (.cells #[.int .i64 a0_0, (.slice A0_1 l0_1.length c0_1), .int .i64 a0_2, .int .u64 a0_3, .string a0_4, .int .u64 a0_5] 46 (0, 0))) ∧ Aside0 (Below w.heap.size w wc))
  case first =>
    have H := HC2.out
    clear HC2
    by_cases c4 : a0_2 = 0
    · rw [if_pos c4] at H
      have c4b0 : (a0_2 == 0) = true := beq_iff_eq.mpr c4
      have c4b1 : (a0_2 != 0) = false := bne_eq_false_iff_eq.mpr c4
      clear c4
      (first | rw [c4b0] | (simp only [i64_w, i32_w]; rw [c4b0]) | skip)
      by_cases c5 : a0_3 = 0
      · rw [if_pos c5] at H
        have c5b0 : (a0_3 == 0) = true := beq_iff_eq.mpr c5
        have c5b1 : (a0_3 != 0) = false := bne_eq_false_iff_eq.mpr c5
        clear c5
        by_cases c6 : a0_4.toList = ([] : List UInt8)
        · rw [if_pos c6] at H
          have c6b0 : (a0_4.toList == ([] : List UInt8)) = true := beq_iff_eq.mpr c6
          have c6b1 : (a0_4.toList != ([] : List UInt8)) = false := bne_eq_false_iff_eq.mpr c6
          clear c6
          have H' := amk H
          clear H
          have hcz7_0 : w3.cell? ⟨gb128, 0, none⟩ = some (.int .i64 a0_0) := (blk_cell BK128.out 0).trans rfl
          have hcz7_1 : w3.cell? ⟨gb128, 1, none⟩ = some (.slice A0_1 l0_1.length c0_1) := (blk_cell BK128.out 1).trans rfl
          have hcz7_2 : w3.cell? ⟨gb128, 2, none⟩ = some (.int .i64 a0_2) := (blk_cell BK128.out 2).trans rfl
          have hcz7_3 : w3.cell? ⟨gb128, 3, none⟩ = some (.int .u64 a0_3) := (blk_cell BK128.out 3).trans rfl
          have hcz7_4 : w3.cell? ⟨gb128, 4, none⟩ = some (.string a0_4) := (blk_cell BK128.out 4).trans rfl
          have hcz7_5 : w3.cell? ⟨gb128, 5, none⟩ = some (.int .u64 a0_5) := (blk_cell BK128.out 5).trans rfl
          have hfz7_0 := blk_frozen BK128.out 0
          have hfz7_1 := blk_frozen BK128.out 1
          have hfz7_2 := blk_frozen BK128.out 2
          have hfz7_3 := blk_frozen BK128.out 3
          have hfz7_4 := blk_frozen BK128.out 4
          have hfz7_5 := blk_frozen BK128.out 5
          go_wp2
          go_meet
          case rel => exact ⟨_, ((a0_5 == 0)), (by first | rfl | (simp; done) | (simp [*]; done)), H', ⟨by first | omega | exact Nat.le_refl _⟩, ⟨by (with_reducible repeat (first | refine blk_drewN ?_ _ | refine blk_drew ?_ | refine blk_alloc ?_ _)); exact BK128.out⟩, ⟨by repeat (first | (with_reducible first | exact HB.out | apply bal | apply pbd | apply below_drew1 | refine below_set ?_ GE128.out) | exact HB.out)⟩⟩
        · rw [if_neg c6] at H
          have c6b0 : (a0_4.toList == ([] : List UInt8)) = false := beq_eq_false_iff_ne.mpr c6
          have c6b1 : (a0_4.toList != ([] : List UInt8)) = true := bne_iff_ne.mpr c6
          have H' := amk H
          clear H
          have hcz8_0 : w3.cell? ⟨gb128, 0, none⟩ = some (.int .i64 a0_0) := (blk_cell BK128.out 0).trans rfl
          have hcz8_1 : w3.cell? ⟨gb128, 1, none⟩ = some (.slice A0_1 l0_1.length c0_1) := (blk_cell BK128.out 1).trans rfl
          have hcz8_2 : w3.cell? ⟨gb128, 2, none⟩ = some (.int .i64 a0_2) := (blk_cell BK128.out 2).trans rfl
          have hcz8_3 : w3.cell? ⟨gb128, 3, none⟩ = some (.int .u64 a0_3) := (blk_cell BK128.out 3).trans rfl
          have hcz8_4 : w3.cell? ⟨gb128, 4, none⟩ = some (.string a0_4) := (blk_cell BK128.out 4).trans rfl
          have hcz8_5 : w3.cell? ⟨gb128, 5, none⟩ = some (.int .u64 a0_5) := (blk_cell BK128.out 5).trans rfl
          have hfz8_0 := blk_frozen BK128.out 0
          have hfz8_1 := blk_frozen BK128.out 1
          have hfz8_2 := blk_frozen BK128.out 2
          have hfz8_3 := blk_frozen BK128.out 3
          have hfz8_4 := blk_frozen BK128.out 4
          have hfz8_5 := blk_frozen BK128.out 5
          go_wp2
          go_meet
          case rel => exact ⟨_, (false), (by first | rfl | (simp; done) | (simp [*]; done)), H', ⟨by first | omega | exact Nat.le_refl _⟩, ⟨by (with_reducible repeat (first | refine blk_drewN ?_ _ | refine blk_drew ?_ | refine blk_alloc ?_ _)); exact BK128.out⟩, ⟨by repeat (first | (with_reducible first | exact HB.out | apply bal | apply pbd | apply below_drew1 | refine below_set ?_ GE128.out) | exact HB.out)⟩⟩
      · rw [if_neg c5] at H
        have c5b0 : (a0_3 == 0) = false := beq_eq_false_iff_ne.mpr c5
        have c5b1 : (a0_3 != 0) = true := bne_iff_ne.mpr c5
        have H' := amk H
        clear H
        have hcz9_0 : w3.cell? ⟨gb128, 0, none⟩ = some (.int .i64 a0_0) := (blk_cell BK128.out 0).trans rfl
        have hcz9_1 : w3.cell? ⟨gb128, 1, none⟩ = some (.slice A0_1 l0_1.length c0_1) := (blk_cell BK128.out 1).trans rfl
        have hcz9_2 : w3.cell? ⟨gb128, 2, none⟩ = some (.int .i64 a0_2) := (blk_cell BK128.out 2).trans rfl
        have hcz9_3 : w3.cell? ⟨gb128, 3, none⟩ = some (.int .u64 a0_3) := (blk_cell BK128.out 3).trans rfl
        have hcz9_4 : w3.cell? ⟨gb128, 4, none⟩ = some (.string a0_4) := (blk_cell BK128.out 4).trans rfl
        have hcz9_5 : w3.cell? ⟨gb128, 5, none⟩ = some (.int .u64 a0_5) := (blk_cell BK128.out 5).trans rfl
        have hfz9_0 := blk_frozen BK128.out 0
        have hfz9_1 := blk_frozen BK128.out 1
        have hfz9_2 := blk_frozen BK128.out 2
        have hfz9_3 := blk_frozen BK128.out 3
        have hfz9_4 := blk_frozen BK128.out 4
        have hfz9_5 := blk_frozen BK128.out 5
        go_wp2
        go_meet
        case rel => exact ⟨_, (false), (by first | rfl | (simp; done) | (simp [*]; done)), H', ⟨by first | omega | exact Nat.le_refl _⟩, ⟨by (with_reducible repeat (first | refine blk_drewN ?_ _ | refine blk_drew ?_ | refine blk_alloc ?_ _)); exact BK128.out⟩, ⟨by repeat (first | (with_reducible first | exact HB.out | apply bal | apply pbd | apply below_drew1 | refine below_set ?_ GE128.out) | exact HB.out)⟩⟩
    · rw [if_neg c4] at H
      have c4b0 : (a0_2 == 0) = false := beq_eq_false_iff_ne.mpr c4
      have c4b1 : (a0_2 != 0) = true := bne_iff_ne.mpr c4
      (first | rw [c4b0] | (simp only [i64_w, i32_w]; rw [c4b0]) | skip)
      have H' := amk H
      clear H
      have hcz10_0 : w3.cell? ⟨gb128, 0, none⟩ = some (.int .i64 a0_0) := (blk_cell BK128.out 0).trans rfl
      have hcz10_1 : w3.cell? ⟨gb128, 1, none⟩ = some (.slice A0_1 l0_1.length c0_1) := (blk_cell BK128.out 1).trans rfl
      have hcz10_2 : w3.cell? ⟨gb128, 2, none⟩ = some (.int .i64 a0_2) := (blk_cell BK128.out 2).trans rfl
      have hcz10_3 : w3.cell? ⟨gb128, 3, none⟩ = some (.int .u64 a0_3) := (blk_cell BK128.out 3).trans rfl
      have hcz10_4 : w3.cell? ⟨gb128, 4, none⟩ = some (.string a0_4) := (blk_cell BK128.out 4).trans rfl
      have hcz10_5 : w3.cell? ⟨gb128, 5, none⟩ = some (.int .u64 a0_5) := (blk_cell BK128.out 5).trans rfl
      have hfz10_0 := blk_frozen BK128.out 0
      have hfz10_1 := blk_frozen BK128.out 1
      have hfz10_2 := blk_frozen BK128.out 2
      have hfz10_3 := blk_frozen BK128.out 3
      have hfz10_4 := blk_frozen BK128.out 4
      have hfz10_5 := blk_frozen BK128.out 5
      go_wp2
      go_meet
      case rel => exact ⟨_, (false), (by first | rfl | (simp; done) | (simp [*]; done)), H', ⟨by first | omega | exact Nat.le_refl _⟩, ⟨by (with_reducible repeat (first | refine blk_drewN ?_ _ | refine blk_drew ?_ | refine blk_alloc ?_ _)); exact BK128.out⟩, ⟨by repeat (first | (with_reducible first | exact HB.out | apply bal | apply pbd | apply below_drew1 | refine below_set ?_ GE128.out) | exact HB.out)⟩⟩
  case rest =>
    clear HC2
    try clear c1
    try clear p2
    try clear c4
    try clear c4b0
    try clear c4b1
    try clear c5
    try clear c5b0
    try clear c5b1
    try clear c6
    try clear c6b0
    try clear c6b1
    try clear hcz10_0
    try clear hcz10_1
    try clear hcz10_2
    try clear hcz10_3
    try clear hcz10_4
    try clear hcz10_5
    try clear hcz7_0
    try clear hcz7_1
    try clear hcz7_2
    try clear hcz7_3
    try clear hcz7_4
    try clear hcz7_5
    try clear hcz8_0
    try clear hcz8_1
    try clear hcz8_2
    try clear hcz8_3
    try clear hcz8_4
    try clear hcz8_5
    try clear hcz9_0
    try clear hcz9_1
    try clear hcz9_2
    try clear hcz9_3
    try clear hcz9_4
    try clear hcz9_5
    try clear hfz10_0
    try clear hfz10_1
    try clear hfz10_2
    try clear hfz10_3
    try clear hfz10_4
    try clear hfz10_5
    try clear hfz7_0
    try clear hfz7_1
    try clear hfz7_2
    try clear hfz7_3
    try clear hfz7_4
    try clear hfz7_5
    try clear hfz8_0
    try clear hfz8_1
    try clear hfz8_2
    try clear hfz8_3
    try clear hfz8_4
    try clear hfz8_5
    try clear hfz9_0
    try clear hfz9_1
    try clear hfz9_2
    try clear hfz9_3
    try clear hfz9_4
    try clear hfz9_5
    obtain ⟨kq, x3_1, rfl, HA, HJ1, BK128, HB⟩ := hcut
    cases kq with
    | zero => exact absurd HA.out (by simp [types_one.j0])
    | succ kj1 =>
      have H := HA.out
      clear HA
      simp only [types_one.j0] at H
      by_cases c11 : a0_0 = 4
      · rw [if_pos c11] at H
        have c11b0 : (a0_0 == 4) = true := beq_iff_eq.mpr c11
        have c11b1 : (a0_0 != 4) = false := bne_eq_false_iff_eq.mpr c11
        clear c11
        by_cases c12 : a0_2 ≥ 0
        · rw [if_pos c12] at H
          have c12b0 : decide (0 ≤ a0_2) = true := decide_eq_true c12
          clear c12
          by_cases c13 : a0_2 < 6
          · rw [if_pos c13] at H
            have c13b0 : decide (a0_2 < 6) = true := decide_eq_true c13
            clear c13
            replace H := Option.bind_eq_some_iff.mp H
            obtain ⟨t129, A140, H⟩ := H
            replace H : ((slices_Contains_string_string.f kj1 t129 a0_4).bind fun t132 => (if t132 = true then (some ((l0_1.length : Int) == 0)) else (some false))) = some r := H
            have A14 := amk A140
            clear A140
            replace H := Option.bind_eq_some_iff.mp H
            obtain ⟨t132, A150, H⟩ := H
            replace H : (if t132 = true then (some ((l0_1.length : Int) == 0)) else (some false)) = some r := H
            have A15 := amk A150
            clear A150
            by_cases c16 : t132 = true
            · subst c16
              have H1 : (some ((l0_1.length : Int) == 0)) = some r := by rw [if_pos rfl] at H; exact H
              clear H
              have H := H1
              clear H1
              obtain rfl := Option.some.inj H
              have hcz17_0 : wc.cell? ⟨gb128, 0, none⟩ = some (.int .i64 a0_0) := (blk_cell BK128.out 0).trans rfl
              have hcz17_1 : wc.cell? ⟨gb128, 1, none⟩ = some (.slice A0_1 l0_1.length c0_1) := (blk_cell BK128.out 1).trans rfl
              have hcz17_2 : wc.cell? ⟨gb128, 2, none⟩ = some (.int .i64 a0_2) := (blk_cell BK128.out 2).trans rfl
              have hcz17_3 : wc.cell? ⟨gb128, 3, none⟩ = some (.int .u64 a0_3) := (blk_cell BK128.out 3).trans rfl
              have hcz17_4 : wc.cell? ⟨gb128, 4, none⟩ = some (.string a0_4) := (blk_cell BK128.out 4).trans rfl
              have hcz17_5 : wc.cell? ⟨gb128, 5, none⟩ = some (.int .u64 a0_5) := (blk_cell BK128.out 5).trans rfl
              have hfz17_0 := blk_frozen BK128.out 0
              have hfz17_1 := blk_frozen BK128.out 1
              have hfz17_2 := blk_frozen BK128.out 2
              have hfz17_3 := blk_frozen BK128.out 3
              have hfz17_4 := blk_frozen BK128.out 4
              have hfz17_5 := blk_frozen BK128.out 5
              try go_wp2
              have n0_ := amk (blk_drew BK128.out)
              have n1_ := amk (below_drew1 HB.out)
              clear BK128
              clear HB
              have BK128 := n0_
              have HB := n1_
              clear n0_ n1_
              refine start_ (n := 21) (S := fun w' => w'.cell? ⟨gb128, 0, none⟩ = some (.int .i64 a0_0) ∧ w'.cell? ⟨gb128, 1, none⟩ = some (.slice A0_1 l0_1.length c0_1) ∧ w'.cell? ⟨gb128, 2, none⟩ = some (.int .i64 a0_2) ∧ w'.cell? ⟨gb128, 3, none⟩ = some (.int .u64 a0_3) ∧ w'.cell? ⟨gb128, 4, none⟩ = some (.string a0_4) ∧ w'.cell? ⟨gb128, 5, none⟩ = some (.int .u64 a0_5)) (ds := []) #[false, false, false, false, false, false, false, false, false, false, false, false, false, false, false, false, false, false, false, false, false] (by kernel_rfl) rfl rfl ⟨(blk_cell BK128.out 0).trans rfl, (blk_cell BK128.out 1).trans rfl, (blk_cell BK128.out 2).trans rfl, (blk_cell BK128.out 3).trans rfl, (blk_cell BK128.out 4).trans rfl, (blk_cell BK128.out 5).trans rfl⟩ (fun hHeld => ?_); refine with_tabW types_one.tab4 types_one.bits4 (fun HT_ HW_ => ?_)
              generalize wc.drew = w18 at BK128 HB hHeld ⊢
              refine pure_ (i := 0) (N := some 26) (v := ?_) (a' := ?_) #[true, false, false, false, false, false, false, false, false, false, false, false, false, false, false, false, false, false, false, false, false] rfl rfl (any_of HT_.out (by kernel_rfl)) (fun _ _ _ h => h) (Or.inl ⟨by rfl, ?_⟩) ?_ ?_
              rotate_left
              · intro w'
                go_simp
                with_reducible rfl
              rotate_left
              · simp only [Act.put, List.setIfInBounds_toArray, List.set_cons_zero, List.set_cons_succ, i64_w, i32_w]
                rfl
              refine take_ (i := 1) (N := some 27) (v := ?_) (a' := ?_) #[true, true, false, false, false, false, false, false, false, false, false, false, false, false, false, false, false, false, false, false, false] rfl rfl (take_ofW HT_.out HW_.out (by kernel_rfl)) (fun _ _ _ h => h) (Or.inl ⟨by rfl, ?_⟩) hHeld ?_ ?_
              rotate_left
              · rintro w' ⟨s0, s1, s2, s3, s4, s5⟩
                go_simp
                with_reducible rfl
              rotate_left
              · simp only [Act.put, List.setIfInBounds_toArray, List.set_cons_zero, List.set_cons_succ, i64_w, i32_w]
                rfl
              refine pure_ (i := 2) (N := some 28) (v := ?_) (a' := ?_) #[true, true, true, false, false, false, false, false, false, false, false, false, false, false, false, false, false, false, false, false, false] rfl rfl (any_of HT_.out (by kernel_rfl)) (fun _ _ _ h => h) (Or.inl ⟨by rfl, ?_⟩) ?_ ?_
              rotate_left
              · intro w'
                go_simp
                with_reducible rfl
              rotate_left
              · simp only [Act.put, List.setIfInBounds_toArray, List.set_cons_zero, List.set_cons_succ, i64_w, i32_w]
                rfl
              refine pure_ (i := 3) (N := some 29) (v := ?_) (a' := ?_) #[true, true, true, true, false, false, false, false, false, false, false, false, false, false, false, false, false, false, false, false, false] rfl rfl (any_of HT_.out (by kernel_rfl)) (fun _ _ _ h => h) (Or.inl ⟨by rfl, ?_⟩) ?_ ?_
              rotate_left
              · intro w'
                go_simp
                with_reducible rfl
              rotate_left
              · simp only [Act.put, List.setIfInBounds_toArray, List.set_cons_zero, List.set_cons_succ, i64_w, i32_w]
                rfl
              refine pure_ (i := 4) (N := some 30) (v := ?_) (a' := ?_) #[true, true, true, true, true, false, false, false, false, false, false, false, false, false, false, false, false, false, false, false, false] rfl rfl (any_of HT_.out (by kernel_rfl)) (fun _ _ _ h => h) (Or.inl ⟨by rfl, ?_⟩) ?_ ?_
              rotate_left
              · intro w'
                go_simp
                with_reducible rfl
              rotate_left
              · simp only [Act.put, List.setIfInBounds_toArray, List.set_cons_zero, List.set_cons_succ, i64_w, i32_w]
                rfl
              refine take_ (i := 5) (N := some 31) (v := ?_) (a' := ?_) #[true, true, true, true, true, true, false, false, false, false, false, false, false, false, false, false, false, false, false, false, false] rfl rfl (take_ofW HT_.out HW_.out (by kernel_rfl)) (fun _ _ _ h => h) (Or.inl ⟨by rfl, ?_⟩) hHeld ?_ ?_
              rotate_left
              · rintro w' ⟨s0, s1, s2, s3, s4, s5⟩
                go_simp
                with_reducible rfl
              rotate_left
              · simp only [Act.put, List.setIfInBounds_toArray, List.set_cons_zero, List.set_cons_succ, i64_w, i32_w]
                rfl
              refine pure_ (i := 6) (N := some 32) (v := ?_) (a' := ?_) #[true, true, true, true, true, true, true, false, false, false, false, false, false, false, false, false, false, false, false, false, false] rfl rfl (any_of HT_.out (by kernel_rfl)) (fun _ _ _ h => h) (Or.inl ⟨by rfl, ?_⟩) ?_ ?_
              rotate_left
              · intro w'
                go_simp
                with_reducible rfl
              rotate_left
              · simp only [Act.put, List.setIfInBounds_toArray, List.set_cons_zero, List.set_cons_succ, i64_w, i32_w]
                rfl
              refine pure_ (i := 7) (N := some 33) (v := ?_) (a' := ?_) #[true, true, true, true, true, true, true, true, false, false, false, false, false, false, false, false, false, false, false, false, false] rfl rfl (any_of HT_.out (by kernel_rfl)) (fun _ _ _ h => h) (Or.inl ⟨by rfl, ?_⟩) ?_ ?_
              rotate_left
              · intro w'
                go_simp
                with_reducible rfl
              rotate_left
              · simp only [Act.put, List.setIfInBounds_toArray, List.set_cons_zero, List.set_cons_succ, i64_w, i32_w]
                rfl
              refine pure_ (i := 8) (N := some 34) (v := ?_) (a' := ?_) #[true, true, true, true, true, true, true, true, true, false, false, false, false, false, false, false, false, false, false, false, false] rfl rfl (any_of HT_.out (by kernel_rfl)) (fun _ _ _ h => h) (Or.inl ⟨by rfl, ?_⟩) ?_ ?_
              rotate_left
              · intro w'
                go_simp
                with_reducible rfl
              rotate_left
              · simp only [Act.put, List.setIfInBounds_toArray, List.set_cons_zero, List.set_cons_succ, i64_w, i32_w]
                rfl
              refine pure_ (i := 10) (N := some 36) (v := ?_) (a' := ?_) #[true, true, true, true, true, true, true, true, true, false, true, false, false, false, false, false, false, false, false, false, false] rfl rfl (any_of HT_.out (by kernel_rfl)) (fun _ _ _ h => h) (Or.inl ⟨by rfl, ?_⟩) ?_ ?_
              rotate_left
              · intro w'
                go_simp
                with_reducible rfl
              rotate_left
              · simp only [Act.put, List.setIfInBounds_toArray, List.set_cons_zero, List.set_cons_succ, i64_w, i32_w]
                rfl
              refine take_ (i := 11) (N := some 37) (v := ?_) (a' := ?_) #[true, true, true, true, true, true, true, true, true, false, true, true, false, false, false, false, false, false, false, false, false] rfl rfl (take_ofW HT_.out HW_.out (by kernel_rfl)) (fun _ _ _ h => h) (Or.inl ⟨by rfl, ?_⟩) hHeld ?_ ?_
              rotate_left
              · rintro w' ⟨s0, s1, s2, s3, s4, s5⟩
                go_simp
                with_reducible rfl
              rotate_left
              · simp only [Act.put, List.setIfInBounds_toArray, List.set_cons_zero, List.set_cons_succ, i64_w, i32_w]
                rfl
              refine one_ (i := 9) (N := some 35) #[true, true, true, true, true, true, true, true, true, true, true, true, false, false, false, false, false, false, false, false, false] rfl rfl (one_of HT_.out (by kernel_rfl)) (by decide) (fun K hK => ?_)
              refine goes_ Try.func154 (by kernel_rfl) rfl #[] (by rfl) rfl rfl (by (try simp only [List.map_toArray, List.map_cons, List.map_nil]); first | done | rfl | (simp only [List.length_drop, List.length_take]; rfl)) ?_
              with_reducible refine (types_signs.calls  t129 _ A14.out).mono ?_
              rintro e w19 ⟨v130, rfl, ho0, hb⟩
              refine ⟨_, rfl, ?_⟩
              have n0_ := amk (Kd.R_lower ho0 (below_size (by repeat (first | (with_reducible first | exact HB.out | apply bal | apply pbd | apply below_drew1 | refine below_set ?_ GE128.out) | exact HB.out))))
              have n1_ := amk (blk_below (g := gb128) (o := .cells #[.int .i64 a0_0, .slice A0_1 l0_1.length c0_1, .int .i64 a0_2, .int .u64 a0_3, .string a0_4, .int .u64 a0_5] 46 (0, 0)) (by (with_reducible repeat (first | refine blk_drewN ?_ _ | refine blk_drew ?_ | refine blk_alloc ?_ _)); exact BK128.out) hb)
              have n2_ := amk (below_step (by repeat (first | (with_reducible first | exact HB.out | apply bal | apply pbd | apply below_drew1 | refine below_set ?_ GE128.out) | exact HB.out)) hb)
              clear BK128
              clear HB
              have HO131 := n0_
              have BK128 := n1_
              have HB := n2_
              clear n0_ n1_ n2_
              (try clear hb)
              (try clear hb2)
              (try clear hk)
              (try clear hi)
              (try clear ho0)
              obtain ⟨Ao20, co20, eo20⟩ := Kd.R_slice HO131.out
              (first | subst eo20 | (injection eo20 with f1_ f2_ f3_; have f4_ := f1_.symm; have f5_ := f3_.symm; clear f1_ f2_ f3_; subst f4_; subst f5_))
              refine hK.out _ _ ⟨(blk_cell BK128.out 0).trans rfl, (blk_cell BK128.out 1).trans rfl, (blk_cell BK128.out 2).trans rfl, (blk_cell BK128.out 3).trans rfl, (blk_cell BK128.out 4).trans rfl, (blk_cell BK128.out 5).trans rfl⟩ (fun hHeld => ?_)
              clear hK K
              refine norm_ (a' := ?_) ?_ ?_
              rotate_left
              · show Act.put _ (some 35) _ = _
                simp only [Act.put, List.setIfInBounds_toArray, List.set_cons_zero, List.set_cons_succ, i64_w, i32_w]
                rfl
              refine one_ (i := 12) (N := some 38) #[true, true, true, true, true, true, true, true, true, true, true, true, true, false, false, false, false, false, false, false, false] rfl rfl (one_of HT_.out (by kernel_rfl)) (by decide) (fun K hK => ?_)
              refine goes_ Try.func153 (by kernel_rfl) rfl #[.slice Ao20 t129.length co20, .string a0_4] (by rfl) rfl rfl (by (try simp only [List.map_toArray, List.map_cons, List.map_nil]); first | done | rfl | (simp only [List.length_drop, List.length_take]; rfl)) ?_
              with_reducible refine (slices_Contains_string_string.calls kj1 _ _ t129 a0_4 true _ ?side1 ?side2 A15.out).mono ?_
              (case side1 => repeat (first | exact (Kd.R_reads' HO131.out).2.2 | (with_reducible refine Kd.C_alloc ?_ _) | (with_reducible refine Kd.C_drewN ?_ _) | (with_reducible refine Kd.C_drew ?_)))
              (case side2 => exact (Kd.R_reads' HO131.out).2.1)
              rintro e w' ⟨rfl, ⟨nd, rfl⟩⟩
              refine ⟨_, rfl, ?_⟩
              refine hK.out _ _ ⟨(blk_cell BK128.out 0).trans rfl, (blk_cell BK128.out 1).trans rfl, (blk_cell BK128.out 2).trans rfl, (blk_cell BK128.out 3).trans rfl, (blk_cell BK128.out 4).trans rfl, (blk_cell BK128.out 5).trans rfl⟩ (fun hHeld => ?_)
              clear hK K
              refine norm_ (a' := ?_) ?_ ?_
              rotate_left
              · show Act.put _ (some 38) _ = _
                simp only [Act.put, List.setIfInBounds_toArray, List.set_cons_zero, List.set_cons_succ, i64_w, i32_w]
                rfl
              refine pure_ (i := 13) (N := some 39) (v := ?_) (a' := ?_) #[true, true, true, true, true, true, true, true, true, true, true, true, true, true, false, false, false, false, false, false, false] rfl rfl (any_of HT_.out (by kernel_rfl)) (fun _ _ _ h => h) (Or.inl ⟨by rfl, ?_⟩) ?_ ?_
              rotate_left
              · intro w'
                go_simp
                with_reducible rfl
              rotate_left
              · simp only [Act.put, List.setIfInBounds_toArray, List.set_cons_zero, List.set_cons_succ, i64_w, i32_w]
                rfl
              refine pure_ (i := 14) (N := some 40) (v := ?_) (a' := ?_) #[true, true, true, true, true, true, true, true, true, true, true, true, true, true, true, false, false, false, false, false, false] rfl rfl (any_of HT_.out (by kernel_rfl)) (fun _ _ _ h => h) (Or.inl ⟨by rfl, ?_⟩) ?_ ?_
              rotate_left
              · intro w'
                go_simp
                with_reducible rfl
              rotate_left
              · simp only [Act.put, List.setIfInBounds_toArray, List.set_cons_zero, List.set_cons_succ, i64_w, i32_w]
                rfl
              refine pure_ (i := 15) (N := some 41) (v := ?_) (a' := ?_) #[true, true, true, true, true, true, true, true, true, true, true, true, true, true, true, true, false, false, false, false, false] rfl rfl (any_of HT_.out (by kernel_rfl)) (fun _ _ _ h => h) (Or.inl ⟨by rfl, ?_⟩) ?_ ?_
              rotate_left
              · intro w'
                go_simp
                with_reducible rfl
              rotate_left
              · simp only [Act.put, List.setIfInBounds_toArray, List.set_cons_zero, List.set_cons_succ, i64_w, i32_w]
                rfl
              refine take_ (i := 16) (N := some 42) (v := ?_) (a' := ?_) #[true, true, true, true, true, true, true, true, true, true, true, true, true, true, true, true, true, false, false, false, false] rfl rfl (take_ofW HT_.out HW_.out (by kernel_rfl)) (fun _ _ _ h => h) (Or.inl ⟨by rfl, ?_⟩) hHeld ?_ ?_
              rotate_left
              · rintro w' ⟨s0, s1, s2, s3, s4, s5⟩
                go_simp
                with_reducible rfl
              rotate_left
              · simp only [Act.put, List.setIfInBounds_toArray, List.set_cons_zero, List.set_cons_succ, i64_w, i32_w]
                rfl
              refine pure_ (i := 17) (N := some 43) (v := ?_) (a' := ?_) #[true, true, true, true, true, true, true, true, true, true, true, true, true, true, true, true, true, true, false, false, false] rfl rfl (any_of HT_.out (by kernel_rfl)) (fun _ _ _ h => h) (Or.inl ⟨by rfl, ?_⟩) ?_ ?_
              rotate_left
              · intro w'
                go_simp
                with_reducible rfl
              rotate_left
              · simp only [Act.put, List.setIfInBounds_toArray, List.set_cons_zero, List.set_cons_succ, i64_w, i32_w]
                rfl
              refine pure_ (i := 18) (N := some 44) (v := ?_) (a' := ?_) #[true, true, true, true, true, true, true, true, true, true, true, true, true, true, true, true, true, true, true, false, false] rfl rfl (any_of HT_.out (by kernel_rfl)) (fun _ _ _ h => h) (Or.inl ⟨by rfl, ?_⟩) ?_ ?_
              rotate_left
              · intro w'
                go_simp
                with_reducible rfl
              rotate_left
              · simp only [Act.put, List.setIfInBounds_toArray, List.set_cons_zero, List.set_cons_succ, i64_w, i32_w]
                rfl
              refine pure_ (i := 19) (N := some 45) (v := ?_) (a' := ?_) #[true, true, true, true, true, true, true, true, true, true, true, true, true, true, true, true, true, true, true, true, false] rfl rfl (any_of HT_.out (by kernel_rfl)) (fun _ _ _ h => h) (Or.inl ⟨by rfl, ?_⟩) ?_ ?_
              rotate_left
              · intro w'
                go_simp
                with_reducible rfl
              rotate_left
              · simp only [Act.put, List.setIfInBounds_toArray, List.set_cons_zero, List.set_cons_succ, i64_w, i32_w]
                rfl
              refine pure_ (i := 20) (N := some 2) (v := ?_) (a' := ?_) #[true, true, true, true, true, true, true, true, true, true, true, true, true, true, true, true, true, true, true, true, true] rfl rfl (any_of HT_.out (by kernel_rfl)) (fun _ _ _ h => h) (Or.inl ⟨by rfl, ?_⟩) ?_ ?_
              rotate_left
              · intro w'
                go_simp
                with_reducible rfl
              rotate_left
              · simp only [Act.put, List.setIfInBounds_toArray, List.set_cons_zero, List.set_cons_succ, i64_w, i32_w]
                rfl
              refine done_ (done_of HT_.out (by kernel_rfl)) ?_
              try go_wp2
              go_ret
              exact ⟨by first | rfl | (simp [errW_none, errW_some] <;> rfl) | (simp [*, errW_none, errW_some] <;> rfl), by repeat (first | (with_reducible first | exact HB.out | apply bal | apply pbd | apply below_drew1 | refine below_set ?_ GE128.out) | exact HB.out)⟩
            · replace c16 := Bool.eq_false_iff.mpr c16
              subst c16
              have H1 : (some false) = some r := by rw [if_neg (show ¬ (false = true) by decide)] at H; exact H
              clear H
              have H := H1
              clear H1
              obtain rfl := Option.some.inj H
              have hcz21_0 : wc.cell? ⟨gb128, 0, none⟩ = some (.int .i64 a0_0) := (blk_cell BK128.out 0).trans rfl
              have hcz21_1 : wc.cell? ⟨gb128, 1, none⟩ = some (.slice A0_1 l0_1.length c0_1) := (blk_cell BK128.out 1).trans rfl
              have hcz21_2 : wc.cell? ⟨gb128, 2, none⟩ = some (.int .i64 a0_2) := (blk_cell BK128.out 2).trans rfl
              have hcz21_3 : wc.cell? ⟨gb128, 3, none⟩ = some (.int .u64 a0_3) := (blk_cell BK128.out 3).trans rfl
              have hcz21_4 : wc.cell? ⟨gb128, 4, none⟩ = some (.string a0_4) := (blk_cell BK128.out 4).trans rfl
              have hcz21_5 : wc.cell? ⟨gb128, 5, none⟩ = some (.int .u64 a0_5) := (blk_cell BK128.out 5).trans rfl
              have hfz21_0 := blk_frozen BK128.out 0
              have hfz21_1 := blk_frozen BK128.out 1
              have hfz21_2 := blk_frozen BK128.out 2
              have hfz21_3 := blk_frozen BK128.out 3
              have hfz21_4 := blk_frozen BK128.out 4
              have hfz21_5 := blk_frozen BK128.out 5
              try go_wp2
              have n0_ := amk (blk_drew BK128.out)
              have n1_ := amk (below_drew1 HB.out)
              clear BK128
              clear HB
              have BK128 := n0_
              have HB := n1_
              clear n0_ n1_
              refine start_ (n := 21) (S := fun w' => w'.cell? ⟨gb128, 0, none⟩ = some (.int .i64 a0_0) ∧ w'.cell? ⟨gb128, 1, none⟩ = some (.slice A0_1 l0_1.length c0_1) ∧ w'.cell? ⟨gb128, 2, none⟩ = some (.int .i64 a0_2) ∧ w'.cell? ⟨gb128, 3, none⟩ = some (.int .u64 a0_3) ∧ w'.cell? ⟨gb128, 4, none⟩ = some (.string a0_4) ∧ w'.cell? ⟨gb128, 5, none⟩ = some (.int .u64 a0_5)) (ds := []) #[false, false, false, false, false, false, false, false, false, false, false, false, false, false, false, false, false, false, false, false, false] (by kernel_rfl) rfl rfl ⟨(blk_cell BK128.out 0).trans rfl, (blk_cell BK128.out 1).trans rfl, (blk_cell BK128.out 2).trans rfl, (blk_cell BK128.out 3).trans rfl, (blk_cell BK128.out 4).trans rfl, (blk_cell BK128.out 5).trans rfl⟩ (fun hHeld => ?_); refine with_tabW types_one.tab4 types_one.bits4 (fun HT_ HW_ => ?_)
              generalize wc.drew = w22 at BK128 HB hHeld ⊢
              refine pure_ (i := 0) (N := some 26) (v := ?_) (a' := ?_) #[true, false, false, false, false, false, false, false, false, false, false, false, false, false, false, false, false, false, false, false, false] rfl rfl (any_of HT_.out (by kernel_rfl)) (fun _ _ _ h => h) (Or.inl ⟨by rfl, ?_⟩) ?_ ?_
              rotate_left
              · intro w'
                go_simp
                with_reducible rfl
              rotate_left
              · simp only [Act.put, List.setIfInBounds_toArray, List.set_cons_zero, List.set_cons_succ, i64_w, i32_w]
                rfl
              refine take_ (i := 1) (N := some 27) (v := ?_) (a' := ?_) #[true, true, false, false, false, false, false, false, false, false, false, false, false, false, false, false, false, false, false, false, false] rfl rfl (take_ofW HT_.out HW_.out (by kernel_rfl)) (fun _ _ _ h => h) (Or.inl ⟨by rfl, ?_⟩) hHeld ?_ ?_
              rotate_left
              · rintro w' ⟨s0, s1, s2, s3, s4, s5⟩
                go_simp
                with_reducible rfl
              rotate_left
              · simp only [Act.put, List.setIfInBounds_toArray, List.set_cons_zero, List.set_cons_succ, i64_w, i32_w]
                rfl
              refine pure_ (i := 2) (N := some 28) (v := ?_) (a' := ?_) #[true, true, true, false, false, false, false, false, false, false, false, false, false, false, false, false, false, false, false, false, false] rfl rfl (any_of HT_.out (by kernel_rfl)) (fun _ _ _ h => h) (Or.inl ⟨by rfl, ?_⟩) ?_ ?_
              rotate_left
              · intro w'
                go_simp
                with_reducible rfl
              rotate_left
              · simp only [Act.put, List.setIfInBounds_toArray, List.set_cons_zero, List.set_cons_succ, i64_w, i32_w]
                rfl
              refine pure_ (i := 3) (N := some 29) (v := ?_) (a' := ?_) #[true, true, true, true, false, false, false, false, false, false, false, false, false, false, false, false, false, false, false, false, false] rfl rfl (any_of HT_.out (by kernel_rfl)) (fun _ _ _ h => h) (Or.inl ⟨by rfl, ?_⟩) ?_ ?_
              rotate_left
              · intro w'
                go_simp
                with_reducible rfl
              rotate_left
              · simp only [Act.put, List.setIfInBounds_toArray, List.set_cons_zero, List.set_cons_succ, i64_w, i32_w]
                rfl
              refine pure_ (i := 4) (N := some 30) (v := ?_) (a' := ?_) #[true, true, true, true, true, false, false, false, false, false, false, false, false, false, false, false, false, false, false, false, false] rfl rfl (any_of HT_.out (by kernel_rfl)) (fun _ _ _ h => h) (Or.inl ⟨by rfl, ?_⟩) ?_ ?_
              rotate_left
              · intro w'
                go_simp
                with_reducible rfl
              rotate_left
              · simp only [Act.put, List.setIfInBounds_toArray, List.set_cons_zero, List.set_cons_succ, i64_w, i32_w]
                rfl
              refine take_ (i := 5) (N := some 31) (v := ?_) (a' := ?_) #[true, true, true, true, true, true, false, false, false, false, false, false, false, false, false, false, false, false, false, false, false] rfl rfl (take_ofW HT_.out HW_.out (by kernel_rfl)) (fun _ _ _ h => h) (Or.inl ⟨by rfl, ?_⟩) hHeld ?_ ?_
              rotate_left
              · rintro w' ⟨s0, s1, s2, s3, s4, s5⟩
                go_simp
                with_reducible rfl
              rotate_left
              · simp only [Act.put, List.setIfInBounds_toArray, List.set_cons_zero, List.set_cons_succ, i64_w, i32_w]
                rfl
              refine pure_ (i := 6) (N := some 32) (v := ?_) (a' := ?_) #[true, true, true, true, true, true, true, false, false, false, false, false, false, false, false, false, false, false, false, false, false] rfl rfl (any_of HT_.out (by kernel_rfl)) (fun _ _ _ h => h) (Or.inl ⟨by rfl, ?_⟩) ?_ ?_
              rotate_left
              · intro w'
                go_simp
                with_reducible rfl
              rotate_left
              · simp only [Act.put, List.setIfInBounds_toArray, List.set_cons_zero, List.set_cons_succ, i64_w, i32_w]
                rfl
              refine pure_ (i := 7) (N := some 33) (v := ?_) (a' := ?_) #[true, true, true, true, true, true, true, true, false, false, false, false, false, false, false, false, false, false, false, false, false] rfl rfl (any_of HT_.out (by kernel_rfl)) (fun _ _ _ h => h) (Or.inl ⟨by rfl, ?_⟩) ?_ ?_
              rotate_left
              · intro w'
                go_simp
                with_reducible rfl
              rotate_left
              · simp only [Act.put, List.setIfInBounds_toArray, List.set_cons_zero, List.set_cons_succ, i64_w, i32_w]
                rfl
              refine pure_ (i := 8) (N := some 34) (v := ?_) (a' := ?_) #[true, true, true, true, true, true, true, true, true, false, false, false, false, false, false, false, false, false, false, false, false] rfl rfl (any_of HT_.out (by kernel_rfl)) (fun _ _ _ h => h) (Or.inl ⟨by rfl, ?_⟩) ?_ ?_
              rotate_left
              · intro w'
                go_simp
                with_reducible rfl
              rotate_left
              · simp only [Act.put, List.setIfInBounds_toArray, List.set_cons_zero, List.set_cons_succ, i64_w, i32_w]
                rfl
              refine pure_ (i := 10) (N := some 36) (v := ?_) (a' := ?_) #[true, true, true, true, true, true, true, true, true, false, true, false, false, false, false, false, false, false, false, false, false] rfl rfl (any_of HT_.out (by kernel_rfl)) (fun _ _ _ h => h) (Or.inl ⟨by rfl, ?_⟩) ?_ ?_
              rotate_left
              · intro w'
                go_simp
                with_reducible rfl
              rotate_left
              · simp only [Act.put, List.setIfInBounds_toArray, List.set_cons_zero, List.set_cons_succ, i64_w, i32_w]
                rfl
              refine take_ (i := 11) (N := some 37) (v := ?_) (a' := ?_) #[true, true, true, true, true, true, true, true, true, false, true, true, false, false, false, false, false, false, false, false, false] rfl rfl (take_ofW HT_.out HW_.out (by kernel_rfl)) (fun _ _ _ h => h) (Or.inl ⟨by rfl, ?_⟩) hHeld ?_ ?_
              rotate_left
              · rintro w' ⟨s0, s1, s2, s3, s4, s5⟩
                go_simp
                with_reducible rfl
              rotate_left
              · simp only [Act.put, List.setIfInBounds_toArray, List.set_cons_zero, List.set_cons_succ, i64_w, i32_w]
                rfl
              refine one_ (i := 9) (N := some 35) #[true, true, true, true, true, true, true, true, true, true, true, true, false, false, false, false, false, false, false, false, false] rfl rfl (one_of HT_.out (by kernel_rfl)) (by decide) (fun K hK => ?_)
              refine goes_ Try.func154 (by kernel_rfl) rfl #[] (by rfl) rfl rfl (by (try simp only [List.map_toArray, List.map_cons, List.map_nil]); first | done | rfl | (simp only [List.length_drop, List.length_take]; rfl)) ?_
              with_reducible refine (types_signs.calls  t129 _ A14.out).mono ?_
              rintro e w23 ⟨v130, rfl, ho0, hb⟩
              refine ⟨_, rfl, ?_⟩
              have n0_ := amk (Kd.R_lower ho0 (below_size (by repeat (first | (with_reducible first | exact HB.out | apply bal | apply pbd | apply below_drew1 | refine below_set ?_ GE128.out) | exact HB.out))))
              have n1_ := amk (blk_below (g := gb128) (o := .cells #[.int .i64 a0_0, .slice A0_1 l0_1.length c0_1, .int .i64 a0_2, .int .u64 a0_3, .string a0_4, .int .u64 a0_5] 46 (0, 0)) (by (with_reducible repeat (first | refine blk_drewN ?_ _ | refine blk_drew ?_ | refine blk_alloc ?_ _)); exact BK128.out) hb)
              have n2_ := amk (below_step (by repeat (first | (with_reducible first | exact HB.out | apply bal | apply pbd | apply below_drew1 | refine below_set ?_ GE128.out) | exact HB.out)) hb)
              clear BK128
              clear HB
              have HO131 := n0_
              have BK128 := n1_
              have HB := n2_
              clear n0_ n1_ n2_
              (try clear hb)
              (try clear hb2)
              (try clear hk)
              (try clear hi)
              (try clear ho0)
              obtain ⟨Ao24, co24, eo24⟩ := Kd.R_slice HO131.out
              (first | subst eo24 | (injection eo24 with f1_ f2_ f3_; have f4_ := f1_.symm; have f5_ := f3_.symm; clear f1_ f2_ f3_; subst f4_; subst f5_))
              refine hK.out _ _ ⟨(blk_cell BK128.out 0).trans rfl, (blk_cell BK128.out 1).trans rfl, (blk_cell BK128.out 2).trans rfl, (blk_cell BK128.out 3).trans rfl, (blk_cell BK128.out 4).trans rfl, (blk_cell BK128.out 5).trans rfl⟩ (fun hHeld => ?_)
              clear hK K
              refine norm_ (a' := ?_) ?_ ?_
              rotate_left
              · show Act.put _ (some 35) _ = _
                simp only [Act.put, List.setIfInBounds_toArray, List.set_cons_zero, List.set_cons_succ, i64_w, i32_w]
                rfl
              refine one_ (i := 12) (N := some 38) #[true, true, true, true, true, true, true, true, true, true, true, true, true, false, false, false, false, false, false, false, false] rfl rfl (one_of HT_.out (by kernel_rfl)) (by decide) (fun K hK => ?_)
              refine goes_ Try.func153 (by kernel_rfl) rfl #[.slice Ao24 t129.length co24, .string a0_4] (by rfl) rfl rfl (by (try simp only [List.map_toArray, List.map_cons, List.map_nil]); first | done | rfl | (simp only [List.length_drop, List.length_take]; rfl)) ?_
              with_reducible refine (slices_Contains_string_string.calls kj1 _ _ t129 a0_4 false _ ?side1 ?side2 A15.out).mono ?_
              (case side1 => repeat (first | exact (Kd.R_reads' HO131.out).2.2 | (with_reducible refine Kd.C_alloc ?_ _) | (with_reducible refine Kd.C_drewN ?_ _) | (with_reducible refine Kd.C_drew ?_)))
              (case side2 => exact (Kd.R_reads' HO131.out).2.1)
              rintro e w' ⟨rfl, ⟨nd, rfl⟩⟩
              refine ⟨_, rfl, ?_⟩
              refine hK.out _ _ ⟨(blk_cell BK128.out 0).trans rfl, (blk_cell BK128.out 1).trans rfl, (blk_cell BK128.out 2).trans rfl, (blk_cell BK128.out 3).trans rfl, (blk_cell BK128.out 4).trans rfl, (blk_cell BK128.out 5).trans rfl⟩ (fun hHeld => ?_)
              clear hK K
              refine norm_ (a' := ?_) ?_ ?_
              rotate_left
              · show Act.put _ (some 38) _ = _
                simp only [Act.put, List.setIfInBounds_toArray, List.set_cons_zero, List.set_cons_succ, i64_w, i32_w]
                rfl
              refine pure_ (i := 13) (N := some 39) (v := ?_) (a' := ?_) #[true, true, true, true, true, true, true, true, true, true, true, true, true, true, false, false, false, false, false, false, false] rfl rfl (any_of HT_.out (by kernel_rfl)) (fun _ _ _ h => h) (Or.inl ⟨by rfl, ?_⟩) ?_ ?_
              rotate_left
              · intro w'
                go_simp
                with_reducible rfl
              rotate_left
              · simp only [Act.put, List.setIfInBounds_toArray, List.set_cons_zero, List.set_cons_succ, i64_w, i32_w]
                rfl
              refine pure_ (i := 14) (N := some 40) (v := ?_) (a' := ?_) #[true, true, true, true, true, true, true, true, true, true, true, true, true, true, true, false, false, false, false, false, false] rfl rfl (any_of HT_.out (by kernel_rfl)) (fun _ _ _ h => h) (Or.inl ⟨by rfl, ?_⟩) ?_ ?_
              rotate_left
              · intro w'
                go_simp
                with_reducible rfl
              rotate_left
              · simp only [Act.put, List.setIfInBounds_toArray, List.set_cons_zero, List.set_cons_succ, i64_w, i32_w]
                rfl
              refine pure_ (i := 15) (N := some 41) (v := undef) (a' := ?_) #[true, true, true, true, true, true, true, true, true, true, true, true, true, true, true, true, false, false, false, false, false] rfl rfl (any_of HT_.out (by kernel_rfl)) (fun _ _ _ h => h) (Or.inr ⟨by rfl, rfl⟩) ?_ ?_
              rotate_left
              · simp only [Act.put, List.setIfInBounds_toArray, List.set_cons_zero, List.set_cons_succ, i64_w, i32_w]
                rfl
              refine pure_ (i := 16) (N := some 42) (v := undef) (a' := ?_) #[true, true, true, true, true, true, true, true, true, true, true, true, true, true, true, true, true, false, false, false, false] rfl rfl (any_of HT_.out (by kernel_rfl)) (fun _ _ _ h => h) (Or.inr ⟨by rfl, rfl⟩) ?_ ?_
              rotate_left
              · simp only [Act.put, List.setIfInBounds_toArray, List.set_cons_zero, List.set_cons_succ, i64_w, i32_w]
                rfl
              refine pure_ (i := 17) (N := some 43) (v := undef) (a' := ?_) #[true, true, true, true, true, true, true, true, true, true, true, true, true, true, true, true, true, true, false, false, false] rfl rfl (any_of HT_.out (by kernel_rfl)) (fun _ _ _ h => h) (Or.inr ⟨by rfl, rfl⟩) ?_ ?_
              rotate_left
              · simp only [Act.put, List.setIfInBounds_toArray, List.set_cons_zero, List.set_cons_succ, i64_w, i32_w]
                rfl
              refine pure_ (i := 18) (N := some 44) (v := undef) (a' := ?_) #[true, true, true, true, true, true, true, true, true, true, true, true, true, true, true, true, true, true, true, false, false] rfl rfl (any_of HT_.out (by kernel_rfl)) (fun _ _ _ h => h) (Or.inr ⟨by rfl, rfl⟩) ?_ ?_
              rotate_left
              · simp only [Act.put, List.setIfInBounds_toArray, List.set_cons_zero, List.set_cons_succ, i64_w, i32_w]
                rfl
              refine pure_ (i := 19) (N := some 45) (v := ?_) (a' := ?_) #[true, true, true, true, true, true, true, true, true, true, true, true, true, true, true, true, true, true, true, true, false] rfl rfl (any_of HT_.out (by kernel_rfl)) (fun _ _ _ h => h) (Or.inl ⟨by rfl, ?_⟩) ?_ ?_
              rotate_left
              · intro w'
                go_simp
                with_reducible rfl
              rotate_left
              · simp only [Act.put, List.setIfInBounds_toArray, List.set_cons_zero, List.set_cons_succ, i64_w, i32_w]
                rfl
              refine pure_ (i := 20) (N := some 2) (v := ?_) (a' := ?_) #[true, true, true, true, true, true, true, true, true, true, true, true, true, true, true, true, true, true, true, true, true] rfl rfl (any_of HT_.out (by kernel_rfl)) (fun _ _ _ h => h) (Or.inl ⟨by rfl, ?_⟩) ?_ ?_
              rotate_left
              · intro w'
                go_simp
                with_reducible rfl
              rotate_left
              · simp only [Act.put, List.setIfInBounds_toArray, List.set_cons_zero, List.set_cons_succ, i64_w, i32_w]
                rfl
              refine done_ (done_of HT_.out (by kernel_rfl)) ?_
              try go_wp2
              go_ret
              exact ⟨by first | rfl | (simp [errW_none, errW_some] <;> rfl) | (simp [*, errW_none, errW_some] <;> rfl), by repeat (first | (with_reducible first | exact HB.out | apply bal | apply pbd | apply below_drew1 | refine below_set ?_ GE128.out) | exact HB.out)⟩
          · rw [if_neg c13] at H
            have c13b0 : decide (a0_2 < 6) = false := decide_eq_false c13
            clear c13
            obtain rfl := Option.some.inj H
            have hcz25_0 : wc.cell? ⟨gb128, 0, none⟩ = some (.int .i64 a0_0) := (blk_cell BK128.out 0).trans rfl
            have hcz25_1 : wc.cell? ⟨gb128, 1, none⟩ = some (.slice A0_1 l0_1.length c0_1) := (blk_cell BK128.out 1).trans rfl
            have hcz25_2 : wc.cell? ⟨gb128, 2, none⟩ = some (.int .i64 a0_2) := (blk_cell BK128.out 2).trans rfl
            have hcz25_3 : wc.cell? ⟨gb128, 3, none⟩ = some (.int .u64 a0_3) := (blk_cell BK128.out 3).trans rfl
            have hcz25_4 : wc.cell? ⟨gb128, 4, none⟩ = some (.string a0_4) := (blk_cell BK128.out 4).trans rfl
            have hcz25_5 : wc.cell? ⟨gb128, 5, none⟩ = some (.int .u64 a0_5) := (blk_cell BK128.out 5).trans rfl
            have hfz25_0 := blk_frozen BK128.out 0
            have hfz25_1 := blk_frozen BK128.out 1
            have hfz25_2 := blk_frozen BK128.out 2
            have hfz25_3 := blk_frozen BK128.out 3
            have hfz25_4 := blk_frozen BK128.out 4
            have hfz25_5 := blk_frozen BK128.out 5
            try go_wp2
            have n0_ := amk (blk_drew BK128.out)
            have n1_ := amk (below_drew1 HB.out)
            clear BK128
            clear HB
            have BK128 := n0_
            have HB := n1_
            clear n0_ n1_
            refine start_ (n := 21) (S := fun w' => w'.cell? ⟨gb128, 0, none⟩ = some (.int .i64 a0_0) ∧ w'.cell? ⟨gb128, 1, none⟩ = some (.slice A0_1 l0_1.length c0_1) ∧ w'.cell? ⟨gb128, 2, none⟩ = some (.int .i64 a0_2) ∧ w'.cell? ⟨gb128, 3, none⟩ = some (.int .u64 a0_3) ∧ w'.cell? ⟨gb128, 4, none⟩ = some (.string a0_4) ∧ w'.cell? ⟨gb128, 5, none⟩ = some (.int .u64 a0_5)) (ds := []) #[false, false, false, false, false, false, false, false, false, false, false, false, false, false, false, false, false, false, false, false, false] (by kernel_rfl) rfl rfl ⟨(blk_cell BK128.out 0).trans rfl, (blk_cell BK128.out 1).trans rfl, (blk_cell BK128.out 2).trans rfl, (blk_cell BK128.out 3).trans rfl, (blk_cell BK128.out 4).trans rfl, (blk_cell BK128.out 5).trans rfl⟩ (fun hHeld => ?_); refine with_tabW types_one.tab4 types_one.bits4 (fun HT_ HW_ => ?_)
            generalize wc.drew = w26 at BK128 HB hHeld ⊢
            refine pure_ (i := 0) (N := some 26) (v := ?_) (a' := ?_) #[true, false, false, false, false, false, false, false, false, false, false, false, false, false, false, false, false, false, false, false, false] rfl rfl (any_of HT_.out (by kernel_rfl)) (fun _ _ _ h => h) (Or.inl ⟨by rfl, ?_⟩) ?_ ?_
            rotate_left
            · intro w'
              go_simp
              with_reducible rfl
            rotate_left
            · simp only [Act.put, List.setIfInBounds_toArray, List.set_cons_zero, List.set_cons_succ, i64_w, i32_w]
              rfl
            refine take_ (i := 1) (N := some 27) (v := ?_) (a' := ?_) #[true, true, false, false, false, false, false, false, false, false, false, false, false, false, false, false, false, false, false, false, false] rfl rfl (take_ofW HT_.out HW_.out (by kernel_rfl)) (fun _ _ _ h => h) (Or.inl ⟨by rfl, ?_⟩) hHeld ?_ ?_
            rotate_left
            · rintro w' ⟨s0, s1, s2, s3, s4, s5⟩
              go_simp
              with_reducible rfl
            rotate_left
            · simp only [Act.put, List.setIfInBounds_toArray, List.set_cons_zero, List.set_cons_succ, i64_w, i32_w]
              rfl
            refine pure_ (i := 2) (N := some 28) (v := ?_) (a' := ?_) #[true, true, true, false, false, false, false, false, false, false, false, false, false, false, false, false, false, false, false, false, false] rfl rfl (any_of HT_.out (by kernel_rfl)) (fun _ _ _ h => h) (Or.inl ⟨by rfl, ?_⟩) ?_ ?_
            rotate_left
            · intro w'
              go_simp
              with_reducible rfl
            rotate_left
            · simp only [Act.put, List.setIfInBounds_toArray, List.set_cons_zero, List.set_cons_succ, i64_w, i32_w]
              rfl
            refine pure_ (i := 3) (N := some 29) (v := ?_) (a' := ?_) #[true, true, true, true, false, false, false, false, false, false, false, false, false, false, false, false, false, false, false, false, false] rfl rfl (any_of HT_.out (by kernel_rfl)) (fun _ _ _ h => h) (Or.inl ⟨by rfl, ?_⟩) ?_ ?_
            rotate_left
            · intro w'
              go_simp
              with_reducible rfl
            rotate_left
            · simp only [Act.put, List.setIfInBounds_toArray, List.set_cons_zero, List.set_cons_succ, i64_w, i32_w]
              rfl
            refine pure_ (i := 4) (N := some 30) (v := ?_) (a' := ?_) #[true, true, true, true, true, false, false, false, false, false, false, false, false, false, false, false, false, false, false, false, false] rfl rfl (any_of HT_.out (by kernel_rfl)) (fun _ _ _ h => h) (Or.inl ⟨by rfl, ?_⟩) ?_ ?_
            rotate_left
            · intro w'
              go_simp
              with_reducible rfl
            rotate_left
            · simp only [Act.put, List.setIfInBounds_toArray, List.set_cons_zero, List.set_cons_succ, i64_w, i32_w]
              rfl
            refine take_ (i := 5) (N := some 31) (v := ?_) (a' := ?_) #[true, true, true, true, true, true, false, false, false, false, false, false, false, false, false, false, false, false, false, false, false] rfl rfl (take_ofW HT_.out HW_.out (by kernel_rfl)) (fun _ _ _ h => h) (Or.inl ⟨by rfl, ?_⟩) hHeld ?_ ?_
            rotate_left
            · rintro w' ⟨s0, s1, s2, s3, s4, s5⟩
              go_simp
              with_reducible rfl
            rotate_left
            · simp only [Act.put, List.setIfInBounds_toArray, List.set_cons_zero, List.set_cons_succ, i64_w, i32_w]
              rfl
            refine pure_ (i := 6) (N := some 32) (v := ?_) (a' := ?_) #[true, true, true, true, true, true, true, false, false, false, false, false, false, false, false, false, false, false, false, false, false] rfl rfl (any_of HT_.out (by kernel_rfl)) (fun _ _ _ h => h) (Or.inl ⟨by rfl, ?_⟩) ?_ ?_
            rotate_left
            · intro w'
              go_simp
              with_reducible rfl
            rotate_left
            · simp only [Act.put, List.setIfInBounds_toArray, List.set_cons_zero, List.set_cons_succ, i64_w, i32_w]
              rfl
            refine pure_ (i := 7) (N := some 33) (v := ?_) (a' := ?_) #[true, true, true, true, true, true, true, true, false, false, false, false, false, false, false, false, false, false, false, false, false] rfl rfl (any_of HT_.out (by kernel_rfl)) (fun _ _ _ h => h) (Or.inl ⟨by rfl, ?_⟩) ?_ ?_
            rotate_left
            · intro w'
              go_simp
              with_reducible rfl
            rotate_left
            · simp only [Act.put, List.setIfInBounds_toArray, List.set_cons_zero, List.set_cons_succ, i64_w, i32_w]
              rfl
            refine pure_ (i := 8) (N := some 34) (v := ?_) (a' := ?_) #[true, true, true, true, true, true, true, true, true, false, false, false, false, false, false, false, false, false, false, false, false] rfl rfl (any_of HT_.out (by kernel_rfl)) (fun _ _ _ h => h) (Or.inl ⟨by rfl, ?_⟩) ?_ ?_
            rotate_left
            · intro w'
              go_simp
              with_reducible rfl
            rotate_left
            · simp only [Act.put, List.setIfInBounds_toArray, List.set_cons_zero, List.set_cons_succ, i64_w, i32_w]
              rfl
            refine pure_ (i := 9) (N := some 35) (v := undef) (a' := ?_) #[true, true, true, true, true, true, true, true, true, true, false, false, false, false, false, false, false, false, false, false, false] rfl rfl (any_of HT_.out (by kernel_rfl)) (fun _ _ _ h => h) (Or.inr ⟨by rfl, rfl⟩) ?_ ?_
            rotate_left
            · simp only [Act.put, List.setIfInBounds_toArray, List.set_cons_zero, List.set_cons_succ, i64_w, i32_w]
              rfl
            refine pure_ (i := 10) (N := some 36) (v := undef) (a' := ?_) #[true, true, true, true, true, true, true, true, true, true, true, false, false, false, false, false, false, false, false, false, false] rfl rfl (any_of HT_.out (by kernel_rfl)) (fun _ _ _ h => h) (Or.inr ⟨by rfl, rfl⟩) ?_ ?_
            rotate_left
            · simp only [Act.put, List.setIfInBounds_toArray, List.set_cons_zero, List.set_cons_succ, i64_w, i32_w]
              rfl
            refine pure_ (i := 11) (N := some 37) (v := undef) (a' := ?_) #[true, true, true, true, true, true, true, true, true, true, true, true, false, false, false, false, false, false, false, false, false] rfl rfl (any_of HT_.out (by kernel_rfl)) (fun _ _ _ h => h) (Or.inr ⟨by rfl, rfl⟩) ?_ ?_
            rotate_left
            · simp only [Act.put, List.setIfInBounds_toArray, List.set_cons_zero, List.set_cons_succ, i64_w, i32_w]
              rfl
            refine pure_ (i := 12) (N := some 38) (v := undef) (a' := ?_) #[true, true, true, true, true, true, true, true, true, true, true, true, true, false, false, false, false, false, false, false, false] rfl rfl (any_of HT_.out (by kernel_rfl)) (fun _ _ _ h => h) (Or.inr ⟨by rfl, rfl⟩) ?_ ?_
            rotate_left
            · simp only [Act.put, List.setIfInBounds_toArray, List.set_cons_zero, List.set_cons_succ, i64_w, i32_w]
              rfl
            refine pure_ (i := 13) (N := some 39) (v := ?_) (a' := ?_) #[true, true, true, true, true, true, true, true, true, true, true, true, true, true, false, false, false, false, false, false, false] rfl rfl (any_of HT_.out (by kernel_rfl)) (fun _ _ _ h => h) (Or.inl ⟨by rfl, ?_⟩) ?_ ?_
            rotate_left
            · intro w'
              go_simp
              with_reducible rfl
            rotate_left
            · simp only [Act.put, List.setIfInBounds_toArray, List.set_cons_zero, List.set_cons_succ, i64_w, i32_w]
              rfl
            refine pure_ (i := 14) (N := some 40) (v := ?_) (a' := ?_) #[true, true, true, true, true, true, true, true, true, true, true, true, true, true, true, false, false, false, false, false, false] rfl rfl (any_of HT_.out (by kernel_rfl)) (fun _ _ _ h => h) (Or.inl ⟨by rfl, ?_⟩) ?_ ?_
            rotate_left
            · intro w'
              go_simp
              with_reducible rfl
            rotate_left
            · simp only [Act.put, List.setIfInBounds_toArray, List.set_cons_zero, List.set_cons_succ, i64_w, i32_w]
              rfl
            refine pure_ (i := 15) (N := some 41) (v := undef) (a' := ?_) #[true, true, true, true, true, true, true, true, true, true, true, true, true, true, true, true, false, false, false, false, false] rfl rfl (any_of HT_.out (by kernel_rfl)) (fun _ _ _ h => h) (Or.inr ⟨by rfl, rfl⟩) ?_ ?_
            rotate_left
            · simp only [Act.put, List.setIfInBounds_toArray, List.set_cons_zero, List.set_cons_succ, i64_w, i32_w]
              rfl
            refine pure_ (i := 16) (N := some 42) (v := undef) (a' := ?_) #[true, true, true, true, true, true, true, true, true, true, true, true, true, true, true, true, true, false, false, false, false] rfl rfl (any_of HT_.out (by kernel_rfl)) (fun _ _ _ h => h) (Or.inr ⟨by rfl, rfl⟩) ?_ ?_
            rotate_left
            · simp only [Act.put, List.setIfInBounds_toArray, List.set_cons_zero, List.set_cons_succ, i64_w, i32_w]
              rfl
            refine pure_ (i := 17) (N := some 43) (v := undef) (a' := ?_) #[true, true, true, true, true, true, true, true, true, true, true, true, true, true, true, true, true, true, false, false, false] rfl rfl (any_of HT_.out (by kernel_rfl)) (fun _ _ _ h => h) (Or.inr ⟨by rfl, rfl⟩) ?_ ?_
            rotate_left
            · simp only [Act.put, List.setIfInBounds_toArray, List.set_cons_zero, List.set_cons_succ, i64_w, i32_w]
              rfl
            refine pure_ (i := 18) (N := some 44) (v := undef) (a' := ?_) #[true, true, true, true, true, true, true, true, true, true, true, true, true, true, true, true, true, true, true, false, false] rfl rfl (any_of HT_.out (by kernel_rfl)) (fun _ _ _ h => h) (Or.inr ⟨by rfl, rfl⟩) ?_ ?_
            rotate_left
            · simp only [Act.put, List.setIfInBounds_toArray, List.set_cons_zero, List.set_cons_succ, i64_w, i32_w]
              rfl
            refine pure_ (i := 19) (N := some 45) (v := ?_) (a' := ?_) #[true, true, true, true, true, true, true, true, true, true, true, true, true, true, true, true, true, true, true, true, false] rfl rfl (any_of HT_.out (by kernel_rfl)) (fun _ _ _ h => h) (Or.inl ⟨by rfl, ?_⟩) ?_ ?_
            rotate_left
            · intro w'
              go_simp
              with_reducible rfl
            rotate_left
            · simp only [Act.put, List.setIfInBounds_toArray, List.set_cons_zero, List.set_cons_succ, i64_w, i32_w]
              rfl
            refine pure_ (i := 20) (N := some 2) (v := ?_) (a' := ?_) #[true, true, true, true, true, true, true, true, true, true, true, true, true, true, true, true, true, true, true, true, true] rfl rfl (any_of HT_.out (by kernel_rfl)) (fun _ _ _ h => h) (Or.inl ⟨by rfl, ?_⟩) ?_ ?_
            rotate_left
            · intro w'
              go_simp
              with_reducible rfl
            rotate_left
            · simp only [Act.put, List.setIfInBounds_toArray, List.set_cons_zero, List.set_cons_succ, i64_w, i32_w]
              rfl
            refine done_ (done_of HT_.out (by kernel_rfl)) ?_
            try go_wp2
            go_ret
            exact ⟨by first | rfl | (simp [errW_none, errW_some] <;> rfl) | (simp [*, errW_none, errW_some] <;> rfl), by repeat (first | (with_reducible first | exact HB.out | apply bal | apply pbd | apply below_drew1 | refine below_set ?_ GE128.out) | exact HB.out)⟩
        · rw [if_neg c12] at H
          have c12b0 : decide (0 ≤ a0_2) = false := decide_eq_false c12
          clear c12
          obtain rfl := Option.some.inj H
          have hcz27_0 : wc.cell? ⟨gb128, 0, none⟩ = some (.int .i64 a0_0) := (blk_cell BK128.out 0).trans rfl
          have hcz27_1 : wc.cell? ⟨gb128, 1, none⟩ = some (.slice A0_1 l0_1.length c0_1) := (blk_cell BK128.out 1).trans rfl
          have hcz27_2 : wc.cell? ⟨gb128, 2, none⟩ = some (.int .i64 a0_2) := (blk_cell BK128.out 2).trans rfl
          have hcz27_3 : wc.cell? ⟨gb128, 3, none⟩ = some (.int .u64 a0_3) := (blk_cell BK128.out 3).trans rfl
          have hcz27_4 : wc.cell? ⟨gb128, 4, none⟩ = some (.string a0_4) := (blk_cell BK128.out 4).trans rfl
          have hcz27_5 : wc.cell? ⟨gb128, 5, none⟩ = some (.int .u64 a0_5) := (blk_cell BK128.out 5).trans rfl
          have hfz27_0 := blk_frozen BK128.out 0
          have hfz27_1 := blk_frozen BK128.out 1
          have hfz27_2 := blk_frozen BK128.out 2
          have hfz27_3 := blk_frozen BK128.out 3
          have hfz27_4 := blk_frozen BK128.out 4
          have hfz27_5 := blk_frozen BK128.out 5
          try go_wp2
          have n0_ := amk (blk_drew BK128.out)
          have n1_ := amk (below_drew1 HB.out)
          clear BK128
          clear HB
          have BK128 := n0_
          have HB := n1_
          clear n0_ n1_
          refine start_ (n := 21) (S := fun w' => w'.cell? ⟨gb128, 0, none⟩ = some (.int .i64 a0_0) ∧ w'.cell? ⟨gb128, 1, none⟩ = some (.slice A0_1 l0_1.length c0_1) ∧ w'.cell? ⟨gb128, 2, none⟩ = some (.int .i64 a0_2) ∧ w'.cell? ⟨gb128, 3, none⟩ = some (.int .u64 a0_3) ∧ w'.cell? ⟨gb128, 4, none⟩ = some (.string a0_4) ∧ w'.cell? ⟨gb128, 5, none⟩ = some (.int .u64 a0_5)) (ds := []) #[false, false, false, false, false, false, false, false, false, false, false, false, false, false, false, false, false, false, false, false, false] (by kernel_rfl) rfl rfl ⟨(blk_cell BK128.out 0).trans rfl, (blk_cell BK128.out 1).trans rfl, (blk_cell BK128.out 2).trans rfl, (blk_cell BK128.out 3).trans rfl, (blk_cell BK128.out 4).trans rfl, (blk_cell BK128.out 5).trans rfl⟩ (fun hHeld => ?_); refine with_tabW types_one.tab4 types_one.bits4 (fun HT_ HW_ => ?_)
          generalize wc.drew = w28 at BK128 HB hHeld ⊢
          refine pure_ (i := 0) (N := some 26) (v := ?_) (a' := ?_) #[true, false, false, false, false, false, false, false, false, false, false, false, false, false, false, false, false, false, false, false, false] rfl rfl (any_of HT_.out (by kernel_rfl)) (fun _ _ _ h => h) (Or.inl ⟨by rfl, ?_⟩) ?_ ?_
          rotate_left
          · intro w'
            go_simp
            with_reducible rfl
          rotate_left
          · simp only [Act.put, List.setIfInBounds_toArray, List.set_cons_zero, List.set_cons_succ, i64_w, i32_w]
            rfl
          refine take_ (i := 1) (N := some 27) (v := ?_) (a' := ?_) #[true, true, false, false, false, false, false, false, false, false, false, false, false, false, false, false, false, false, false, false, false] rfl rfl (take_ofW HT_.out HW_.out (by kernel_rfl)) (fun _ _ _ h => h) (Or.inl ⟨by rfl, ?_⟩) hHeld ?_ ?_
          rotate_left
          · rintro w' ⟨s0, s1, s2, s3, s4, s5⟩
            go_simp
            with_reducible rfl
          rotate_left
          · simp only [Act.put, List.setIfInBounds_toArray, List.set_cons_zero, List.set_cons_succ, i64_w, i32_w]
            rfl
          refine pure_ (i := 2) (N := some 28) (v := ?_) (a' := ?_) #[true, true, true, false, false, false, false, false, false, false, false, false, false, false, false, false, false, false, false, false, false] rfl rfl (any_of HT_.out (by kernel_rfl)) (fun _ _ _ h => h) (Or.inl ⟨by rfl, ?_⟩) ?_ ?_
          rotate_left
          · intro w'
            go_simp
            with_reducible rfl
          rotate_left
          · simp only [Act.put, List.setIfInBounds_toArray, List.set_cons_zero, List.set_cons_succ, i64_w, i32_w]
            rfl
          refine pure_ (i := 3) (N := some 29) (v := ?_) (a' := ?_) #[true, true, true, true, false, false, false, false, false, false, false, false, false, false, false, false, false, false, false, false, false] rfl rfl (any_of HT_.out (by kernel_rfl)) (fun _ _ _ h => h) (Or.inl ⟨by rfl, ?_⟩) ?_ ?_
          rotate_left
          · intro w'
            go_simp
            with_reducible rfl
          rotate_left
          · simp only [Act.put, List.setIfInBounds_toArray, List.set_cons_zero, List.set_cons_succ, i64_w, i32_w]
            rfl
          refine pure_ (i := 4) (N := some 30) (v := undef) (a' := ?_) #[true, true, true, true, true, false, false, false, false, false, false, false, false, false, false, false, false, false, false, false, false] rfl rfl (any_of HT_.out (by kernel_rfl)) (fun _ _ _ h => h) (Or.inr ⟨by rfl, rfl⟩) ?_ ?_
          rotate_left
          · simp only [Act.put, List.setIfInBounds_toArray, List.set_cons_zero, List.set_cons_succ, i64_w, i32_w]
            rfl
          refine pure_ (i := 5) (N := some 31) (v := undef) (a' := ?_) #[true, true, true, true, true, true, false, false, false, false, false, false, false, false, false, false, false, false, false, false, false] rfl rfl (any_of HT_.out (by kernel_rfl)) (fun _ _ _ h => h) (Or.inr ⟨by rfl, rfl⟩) ?_ ?_
          rotate_left
          · simp only [Act.put, List.setIfInBounds_toArray, List.set_cons_zero, List.set_cons_succ, i64_w, i32_w]
            rfl
          refine pure_ (i := 6) (N := some 32) (v := undef) (a' := ?_) #[true, true, true, true, true, true, true, false, false, false, false, false, false, false, false, false, false, false, false, false, false] rfl rfl (any_of HT_.out (by kernel_rfl)) (fun _ _ _ h => h) (Or.inr ⟨by rfl, rfl⟩) ?_ ?_
          rotate_left
          · simp only [Act.put, List.setIfInBounds_toArray, List.set_cons_zero, List.set_cons_succ, i64_w, i32_w]
            rfl
          refine pure_ (i := 7) (N := some 33) (v := ?_) (a' := ?_) #[true, true, true, true, true, true, true, true, false, false, false, false, false, false, false, false, false, false, false, false, false] rfl rfl (any_of HT_.out (by kernel_rfl)) (fun _ _ _ h => h) (Or.inl ⟨by rfl, ?_⟩) ?_ ?_
          rotate_left
          · intro w'
            go_simp
            with_reducible rfl
          rotate_left
          · simp only [Act.put, List.setIfInBounds_toArray, List.set_cons_zero, List.set_cons_succ, i64_w, i32_w]
            rfl
          refine pure_ (i := 8) (N := some 34) (v := ?_) (a' := ?_) #[true, true, true, true, true, true, true, true, true, false, false, false, false, false, false, false, false, false, false, false, false] rfl rfl (any_of HT_.out (by kernel_rfl)) (fun _ _ _ h => h) (Or.inl ⟨by rfl, ?_⟩) ?_ ?_
          rotate_left
          · intro w'
            go_simp
            with_reducible rfl
          rotate_left
          · simp only [Act.put, List.setIfInBounds_toArray, List.set_cons_zero, List.set_cons_succ, i64_w, i32_w]
            rfl
          refine pure_ (i := 9) (N := some 35) (v := undef) (a' := ?_) #[true, true, true, true, true, true, true, true, true, true, false, false, false, false, false, false, false, false, false, false, false] rfl rfl (any_of HT_.out (by kernel_rfl)) (fun _ _ _ h => h) (Or.inr ⟨by rfl, rfl⟩) ?_ ?_
          rotate_left
          · simp only [Act.put, List.setIfInBounds_toArray, List.set_cons_zero, List.set_cons_succ, i64_w, i32_w]
            rfl
          refine pure_ (i := 10) (N := some 36) (v := undef) (a' := ?_) #[true, true, true, true, true, true, true, true, true, true, true, false, false, false, false, false, false, false, false, false, false] rfl rfl (any_of HT_.out (by kernel_rfl)) (fun _ _ _ h => h) (Or.inr ⟨by rfl, rfl⟩) ?_ ?_
          rotate_left
          · simp only [Act.put, List.setIfInBounds_toArray, List.set_cons_zero, List.set_cons_succ, i64_w, i32_w]
            rfl
          refine pure_ (i := 11) (N := some 37) (v := undef) (a' := ?_) #[true, true, true, true, true, true, true, true, true, true, true, true, false, false, false, false, false, false, false, false, false] rfl rfl (any_of HT_.out (by kernel_rfl)) (fun _ _ _ h => h) (Or.inr ⟨by rfl, rfl⟩) ?_ ?_
          rotate_left
          · simp only [Act.put, List.setIfInBounds_toArray, List.set_cons_zero, List.set_cons_succ, i64_w, i32_w]
            rfl
          refine pure_ (i := 12) (N := some 38) (v := undef) (a' := ?_) #[true, true, true, true, true, true, true, true, true, true, true, true, true, false, false, false, false, false, false, false, false] rfl rfl (any_of HT_.out (by kernel_rfl)) (fun _ _ _ h => h) (Or.inr ⟨by rfl, rfl⟩) ?_ ?_
          rotate_left
          · simp only [Act.put, List.setIfInBounds_toArray, List.set_cons_zero, List.set_cons_succ, i64_w, i32_w]
            rfl
          refine pure_ (i := 13) (N := some 39) (v := ?_) (a' := ?_) #[true, true, true, true, true, true, true, true, true, true, true, true, true, true, false, false, false, false, false, false, false] rfl rfl (any_of HT_.out (by kernel_rfl)) (fun _ _ _ h => h) (Or.inl ⟨by rfl, ?_⟩) ?_ ?_
          rotate_left
          · intro w'
            go_simp
            with_reducible rfl
          rotate_left
          · simp only [Act.put, List.setIfInBounds_toArray, List.set_cons_zero, List.set_cons_succ, i64_w, i32_w]
            rfl
          refine pure_ (i := 14) (N := some 40) (v := ?_) (a' := ?_) #[true, true, true, true, true, true, true, true, true, true, true, true, true, true, true, false, false, false, false, false, false] rfl rfl (any_of HT_.out (by kernel_rfl)) (fun _ _ _ h => h) (Or.inl ⟨by rfl, ?_⟩) ?_ ?_
          rotate_left
          · intro w'
            go_simp
            with_reducible rfl
          rotate_left
          · simp only [Act.put, List.setIfInBounds_toArray, List.set_cons_zero, List.set_cons_succ, i64_w, i32_w]
            rfl
          refine pure_ (i := 15) (N := some 41) (v := undef) (a' := ?_) #[true, true, true, true, true, true, true, true, true, true, true, true, true, true, true, true, false, false, false, false, false] rfl rfl (any_of HT_.out (by kernel_rfl)) (fun _ _ _ h => h) (Or.inr ⟨by rfl, rfl⟩) ?_ ?_
          rotate_left
          · simp only [Act.put, List.setIfInBounds_toArray, List.set_cons_zero, List.set_cons_succ, i64_w, i32_w]
            rfl
          refine pure_ (i := 16) (N := some 42) (v := undef) (a' := ?_) #[true, true, true, true, true, true, true, true, true, true, true, true, true, true, true, true, true, false, false, false, false] rfl rfl (any_of HT_.out (by kernel_rfl)) (fun _ _ _ h => h) (Or.inr ⟨by rfl, rfl⟩) ?_ ?_
          rotate_left
          · simp only [Act.put, List.setIfInBounds_toArray, List.set_cons_zero, List.set_cons_succ, i64_w, i32_w]
            rfl
          refine pure_ (i := 17) (N := some 43) (v := undef) (a' := ?_) #[true, true, true, true, true, true, true, true, true, true, true, true, true, true, true, true, true, true, false, false, false] rfl rfl (any_of HT_.out (by kernel_rfl)) (fun _ _ _ h => h) (Or.inr ⟨by rfl, rfl⟩) ?_ ?_
          rotate_left
          · simp only [Act.put, List.setIfInBounds_toArray, List.set_cons_zero, List.set_cons_succ, i64_w, i32_w]
            rfl
          refine pure_ (i := 18) (N := some 44) (v := undef) (a' := ?_) #[true, true, true, true, true, true, true, true, true, true, true, true, true, true, true, true, true, true, true, false, false] rfl rfl (any_of HT_.out (by kernel_rfl)) (fun _ _ _ h => h) (Or.inr ⟨by rfl, rfl⟩) ?_ ?_
          rotate_left
          · simp only [Act.put, List.setIfInBounds_toArray, List.set_cons_zero, List.set_cons_succ, i64_w, i32_w]
            rfl
          refine pure_ (i := 19) (N := some 45) (v := ?_) (a' := ?_) #[true, true, true, true, true, true, true, true, true, true, true, true, true, true, true, true, true, true, true, true, false] rfl rfl (any_of HT_.out (by kernel_rfl)) (fun _ _ _ h => h) (Or.inl ⟨by rfl, ?_⟩) ?_ ?_
          rotate_left
          · intro w'
            go_simp
            with_reducible rfl
          rotate_left
          · simp only [Act.put, List.setIfInBounds_toArray, List.set_cons_zero, List.set_cons_succ, i64_w, i32_w]
            rfl
          refine pure_ (i := 20) (N := some 2) (v := ?_) (a' := ?_) #[true, true, true, true, true, true, true, true, true, true, true, true, true, true, true, true, true, true, true, true, true] rfl rfl (any_of HT_.out (by kernel_rfl)) (fun _ _ _ h => h) (Or.inl ⟨by rfl, ?_⟩) ?_ ?_
          rotate_left
          · intro w'
            go_simp
            with_reducible rfl
          rotate_left
          · simp only [Act.put, List.setIfInBounds_toArray, List.set_cons_zero, List.set_cons_succ, i64_w, i32_w]
            rfl
          refine done_ (done_of HT_.out (by kernel_rfl)) ?_
          try go_wp2
          go_ret
          exact ⟨by first | rfl | (simp [errW_none, errW_some] <;> rfl) | (simp [*, errW_none, errW_some] <;> rfl), by repeat (first | (with_reducible first | exact HB.out | apply bal | apply pbd | apply below_drew1 | refine below_set ?_ GE128.out) | exact HB.out)⟩
      · rw [if_neg c11] at H
        have c11b0 : (a0_0 == 4) = false := beq_eq_false_iff_ne.mpr c11
        have c11b1 : (a0_0 != 4) = true := bne_iff_ne.mpr c11
        have HC29 := amk H
        clear H
        have hcz30_0 : wc.cell? ⟨gb128, 0, none⟩ = some (.int .i64 a0_0) := (blk_cell BK128.out 0).trans rfl
        have hcz30_1 : wc.cell? ⟨gb128, 1, none⟩ = some (.slice A0_1 l0_1.length c0_1) := (blk_cell BK128.out 1).trans rfl
        have hcz30_2 : wc.cell? ⟨gb128, 2, none⟩ = some (.int .i64 a0_2) := (blk_cell BK128.out 2).trans rfl
        have hcz30_3 : wc.cell? ⟨gb128, 3, none⟩ = some (.int .u64 a0_3) := (blk_cell BK128.out 3).trans rfl
        have hcz30_4 : wc.cell? ⟨gb128, 4, none⟩ = some (.string a0_4) := (blk_cell BK128.out 4).trans rfl
        have hcz30_5 : wc.cell? ⟨gb128, 5, none⟩ = some (.int .u64 a0_5) := (blk_cell BK128.out 5).trans rfl
        have hfz30_0 := blk_frozen BK128.out 0
        have hfz30_1 := blk_frozen BK128.out 1
        have hfz30_2 := blk_frozen BK128.out 2
        have hfz30_3 := blk_frozen BK128.out 3
        have hfz30_4 := blk_frozen BK128.out 4
        have hfz30_5 := blk_frozen BK128.out 5
        go_upto_if 46 with (fail)
        go_cut [46] (fun v46 wc => ∃ (kq : Nat) (x46_28 : Bool), v46 = .bool x46_28 ∧ Aside0 (types_one.j1 kq x3_1 a0_0 x46_28 a0_0 l0_1 a0_2 a0_3 a0_4 a0_5 = some r) ∧ Aside0 (kq ≤ kj1) ∧ Aside0 (wc.heap[gb128]? = some (.cells #[.int .i64 a0_0, (.slice A0_1 l0_1.length c0_1), .int .i64 a0_2, .int .u64 a0_3, .string a0_4, .int .u64 a0_5] 46 (0, 0))) ∧ Aside0 (Below w.heap.size w wc))
        case first =>
          have H := HC29.out
          clear HC29
          by_cases c31 : a0_0 = 1
          · rw [if_pos c31] at H
            have c31b0 : (a0_0 == 1) = true := beq_iff_eq.mpr c31
            have c31b1 : (a0_0 != 1) = false := bne_eq_false_iff_eq.mpr c31
            clear c31
            (first | rw [c31b0] | (simp only [i64_w, i32_w]; rw [c31b0]) | skip)
            have H' := amk H
            clear H
            go_wp2
            go_meet
            case rel => exact ⟨_, ((a0_0 == 1)), (by first | rfl | (simp; done) | (simp [*]; done)), H', ⟨by have := HJ1.out; first | omega | exact Nat.le_refl _⟩, ⟨by (with_reducible repeat (first | refine blk_drewN ?_ _ | refine blk_drew ?_ | refine blk_alloc ?_ _)); exact BK128.out⟩, ⟨by repeat (first | (with_reducible first | exact HB.out | apply bal | apply pbd | apply below_drew1 | refine below_set ?_ GE128.out) | exact HB.out)⟩⟩
          · rw [if_neg c31] at H
            have c31b0 : (a0_0 == 1) = false := beq_eq_false_iff_ne.mpr c31
            have c31b1 : (a0_0 != 1) = true := bne_iff_ne.mpr c31
            (first | rw [c31b0] | (simp only [i64_w, i32_w]; rw [c31b0]) | skip)
            have H' := amk H
            clear H
            go_wp2
            go_meet
            case rel => exact ⟨_, ((a0_0 == 2)), (by first | rfl | (simp; done) | (simp [*]; done)), H', ⟨by have := HJ1.out; first | omega | exact Nat.le_refl _⟩, ⟨by (with_reducible repeat (first | refine blk_drewN ?_ _ | refine blk_drew ?_ | refine blk_alloc ?_ _)); exact BK128.out⟩, ⟨by repeat (first | (with_reducible first | exact HB.out | apply bal | apply pbd | apply below_drew1 | refine below_set ?_ GE128.out) | exact HB.out)⟩⟩
        case rest =>
          clear HC29
          try clear c1
          try clear p2
          try clear c3
          try clear c11
          try clear c11b0
          try clear c11b1
          try clear c12
          try clear c12b0
          try clear c13
          try clear c13b0
          try clear c15
          try clear c16
          try clear c31
          try clear c31b0
          try clear c31b1
          try clear hcz21_0
          try clear hcz21_1
          try clear hcz21_2
          try clear hcz21_3
          try clear hcz21_4
          try clear hcz21_5
          try clear hcz25_0
          try clear hcz25_1
          try clear hcz25_2
          try clear hcz25_3
          try clear hcz25_4
          try clear hcz25_5
          try clear hcz27_0
          try clear hcz27_1
          try clear hcz27_2
          try clear hcz27_3
          try clear hcz27_4
          try clear hcz27_5
          try clear hcz30_0
          try clear hcz30_1
          try clear hcz30_2
          try clear hcz30_3
          try clear hcz30_4
          try clear hcz30_5
          try clear hfz21_0
          try clear hfz21_1
          try clear hfz21_2
          try clear hfz21_3
          try clear hfz21_4
          try clear hfz21_5
          try clear hfz25_0
          try clear hfz25_1
          try clear hfz25_2
          try clear hfz25_3
          try clear hfz25_4
          try clear hfz25_5
          try clear hfz27_0
          try clear hfz27_1
          try clear hfz27_2
          try clear hfz27_3
          try clear hfz27_4
          try clear hfz27_5
          try clear hfz30_0
          try clear hfz30_1
          try clear hfz30_2
          try clear hfz30_3
          try clear hfz30_4
          try clear hfz30_5
          obtain ⟨kq, x46_28, rfl, HA, HJ28, BK128, HB⟩ := hcut
          cases kq with
          | zero => exact absurd HA.out (by simp [types_one.j1])
          | succ kj28 =>
            have H := HA.out
            clear HA
            simp only [types_one.j1] at H
            by_cases c32 : x46_28 = true
            · subst c32
              have H1 : (if x3_1 = true then (some (decide ((l0_1.length : Int) ≥ 2))) else (some false)) = some r := by rw [if_pos rfl] at H; exact H
              clear H
              have H := H1
              clear H1
              by_cases c33 : x3_1 = true
              · subst c33
                have H1 : (some (decide ((l0_1.length : Int) ≥ 2))) = some r := by rw [if_pos rfl] at H; exact H
                clear H
                have H := H1
                clear H1
                obtain rfl := Option.some.inj H
                have hcz34_0 : wc.cell? ⟨gb128, 0, none⟩ = some (.int .i64 a0_0) := (blk_cell BK128.out 0).trans rfl
                have hcz34_1 : wc.cell? ⟨gb128, 1, none⟩ = some (.slice A0_1 l0_1.length c0_1) := (blk_cell BK128.out 1).trans rfl
                have hcz34_2 : wc.cell? ⟨gb128, 2, none⟩ = some (.int .i64 a0_2) := (blk_cell BK128.out 2).trans rfl
                have hcz34_3 : wc.cell? ⟨gb128, 3, none⟩ = some (.int .u64 a0_3) := (blk_cell BK128.out 3).trans rfl
                have hcz34_4 : wc.cell? ⟨gb128, 4, none⟩ = some (.string a0_4) := (blk_cell BK128.out 4).trans rfl
                have hcz34_5 : wc.cell? ⟨gb128, 5, none⟩ = some (.int .u64 a0_5) := (blk_cell BK128.out 5).trans rfl
                have hfz34_0 := blk_frozen BK128.out 0
                have hfz34_1 := blk_frozen BK128.out 1
                have hfz34_2 := blk_frozen BK128.out 2
                have hfz34_3 := blk_frozen BK128.out 3
                have hfz34_4 := blk_frozen BK128.out 4
                have hfz34_5 := blk_frozen BK128.out 5
                go_wp2
                go_ret
                exact ⟨by first | rfl | (simp [errW_none, errW_some] <;> rfl) | (simp [*, errW_none, errW_some] <;> rfl), by repeat (first | (with_reducible first | exact HB.out | apply bal | apply pbd | apply below_drew1 | refine below_set ?_ GE128.out) | exact HB.out)⟩
              · replace c33 := Bool.eq_false_iff.mpr c33
                subst c33
                have H1 : (some false) = some r := by rw [if_neg (show ¬ (false = true) by decide)] at H; exact H
                clear H
                have H := H1
                clear H1
                obtain rfl := Option.some.inj H
                go_wp2
                go_ret
                exact ⟨by first | rfl | (simp [errW_none, errW_some] <;> rfl) | (simp [*, errW_none, errW_some] <;> rfl), by repeat (first | (with_reducible first | exact HB.out | apply bal | apply pbd | apply below_drew1 | refine below_set ?_ GE128.out) | exact HB.out)⟩
            · replace c32 := Bool.eq_false_iff.mpr c32
              subst c32
              have H1 : (if a0_0 = 3 then (if x3_1 = true then (some ((l0_1.length : Int) == 1)) else (some false)) else (some false)) = some r := by rw [if_neg (show ¬ (false = true) by decide)] at H; exact H
              clear H
              have H := H1
              clear H1
              by_cases c35 : a0_0 = 3
              · rw [if_pos c35] at H
                have c35b0 : (a0_0 == 3) = true := beq_iff_eq.mpr c35
                have c35b1 : (a0_0 != 3) = false := bne_eq_false_iff_eq.mpr c35
                clear c35
                by_cases c36 : x3_1 = true
                · subst c36
                  have H1 : (some ((l0_1.length : Int) == 1)) = some r := by rw [if_pos rfl] at H; exact H
                  clear H
                  have H := H1
                  clear H1
                  obtain rfl := Option.some.inj H
                  have hcz37_0 : wc.cell? ⟨gb128, 0, none⟩ = some (.int .i64 a0_0) := (blk_cell BK128.out 0).trans rfl
                  have hcz37_1 : wc.cell? ⟨gb128, 1, none⟩ = some (.slice A0_1 l0_1.length c0_1) := (blk_cell BK128.out 1).trans rfl
                  have hcz37_2 : wc.cell? ⟨gb128, 2, none⟩ = some (.int .i64 a0_2) := (blk_cell BK128.out 2).trans rfl
                  have hcz37_3 : wc.cell? ⟨gb128, 3, none⟩ = some (.int .u64 a0_3) := (blk_cell BK128.out 3).trans rfl
                  have hcz37_4 : wc.cell? ⟨gb128, 4, none⟩ = some (.string a0_4) := (blk_cell BK128.out 4).trans rfl
                  have hcz37_5 : wc.cell? ⟨gb128, 5, none⟩ = some (.int .u64 a0_5) := (blk_cell BK128.out 5).trans rfl
                  have hfz37_0 := blk_frozen BK128.out 0
                  have hfz37_1 := blk_frozen BK128.out 1
                  have hfz37_2 := blk_frozen BK128.out 2
                  have hfz37_3 := blk_frozen BK128.out 3
                  have hfz37_4 := blk_frozen BK128.out 4
                  have hfz37_5 := blk_frozen BK128.out 5
                  go_wp2
                  go_ret
                  exact ⟨by first | rfl | (simp [errW_none, errW_some] <;> rfl) | (simp [*, errW_none, errW_some] <;> rfl), by repeat (first | (with_reducible first | exact HB.out | apply bal | apply pbd | apply below_drew1 | refine below_set ?_ GE128.out) | exact HB.out)⟩
                · replace c36 := Bool.eq_false_iff.mpr c36
                  subst c36
                  have H1 : (some false) = some r := by rw [if_neg (show ¬ (false = true) by decide)] at H; exact H
                  clear H
                  have H := H1
                  clear H1
                  obtain rfl := Option.some.inj H
                  go_wp2
                  go_ret
                  exact ⟨by first | rfl | (simp [errW_none, errW_some] <;> rfl) | (simp [*, errW_none, errW_some] <;> rfl), by repeat (first | (with_reducible first | exact HB.out | apply bal | apply pbd | apply below_drew1 | refine below_set ?_ GE128.out) | exact HB.out)⟩
              · rw [if_neg c35] at H
                have c35b0 : (a0_0 == 3) = false := beq_eq_false_iff_ne.mpr c35
                have c35b1 : (a0_0 != 3) = true := bne_iff_ne.mpr c35
                obtain rfl := Option.some.inj H
                go_wp2
                go_ret
                exact ⟨by first | rfl | (simp [errW_none, errW_some] <;> rfl) | (simp [*, errW_none, errW_some] <;> rfl), by repeat (first | (with_reducible first | exact HB.out | apply bal | apply pbd | apply below_drew1 | refine below_set ?_ GE128.out) | exact HB.out)⟩
end Go.Proofs.Ytoeklekjhaigoaa.M0
end
section
namespace Go.Proofs.Ytoeklekjhaigoaa.QOne
open Go.Proofs.Ytoeklekjhaigoaa.Al Go.RowKit Go.Proofs.YtoeklekjhaigoaaW.PrintWords Go.Proofs.YtoeklekjhaigoaaW.PrintLast Go.Proofs.YtoeklekjhaigoaaW.PrintMore Go.Proofs.Ytoeklekjhaigoaa.M0 Go.Proofs.Ytoeklekjhaigoaa.QCond Go.Proofs.Ytoeklekjhaigoaa.QMean
set_option linter.unusedVariables false
set_option linter.unusedSimpArgs false
theorem rd46 (l : List S46) (i : Nat) (h : i < l.length) : rd_T46 l (i : Int) = l[i] := by
  unfold rd_T46; simp [List.getD, h]
theorem wr_succ (i : Nat) (h : i ≤ 100000) : wrap64 ((i : Int) + 1) = ((i + 1 : Nat) : Int) := by unfold wrap64; omega
theorem idx_loop (s : ByteArray) : ∀ (n i : Nat), 6 - i ≤ n → i ≤ 6 → ∀ k, n < k →
    (slices_Index_string_string.l0 k ([(⟨#[61, 61]⟩ : ByteArray), (⟨#[33, 61]⟩ : ByteArray), (⟨#[60]⟩ : ByteArray), (⟨#[60, 61]⟩ : ByteArray), (⟨#[62]⟩ : ByteArray), (⟨#[62, 61]⟩ : ByteArray)]) s 6 (i : Int)).map (fun t => decide (t ≥ 0)) = some ((signs.drop i).contains s.toList) := by
  intro n
  induction n with
  | zero =>
    intro i h1 h2 k hk
    obtain ⟨k, rfl⟩ : ∃ m, k = m + 1 := ⟨k - 1, by omega⟩
    obtain rfl : i = 6 := by omega
    simp only [slices_Index_string_string.l0]
    rw [if_neg (by omega)]
    rfl
  | succ n ih =>
    intro i h1 h2 k hk
    obtain ⟨k, rfl⟩ : ∃ m, k = m + 1 := ⟨k - 1, by omega⟩
    by_cases h6 : i = 6
    · subst h6
      simp only [slices_Index_string_string.l0]
      rw [if_neg (by omega)]
      rfl
    · have hi := ih (i + 1) (by omega) (by omega) k (by omega)
      simp only [slices_Index_string_string.l0]
      rw [if_pos (by omega), if_pos (by omega), if_pos (by simp; omega), wr_succ i (by omega)]
      have hd : signs.drop i = (rdOf ByteArray.empty [(⟨#[61, 61]⟩ : ByteArray), (⟨#[33, 61]⟩ : ByteArray), (⟨#[60]⟩ : ByteArray), (⟨#[60, 61]⟩ : ByteArray), (⟨#[62]⟩ : ByteArray), (⟨#[62, 61]⟩ : ByteArray)] (i : Int)).toList :: signs.drop (i + 1) := by
        have hi6 : i = 0 ∨ i = 1 ∨ i = 2 ∨ i = 3 ∨ i = 4 ∨ i = 5 := by omega
        rcases hi6 with rfl | rfl | rfl | rfl | rfl | rfl <;> (rw [ByteArray.toList_eq]; rfl)
      rw [hd, List.contains_cons]
      generalize (rdOf ByteArray.empty [(⟨#[61, 61]⟩ : ByteArray), (⟨#[33, 61]⟩ : ByteArray), (⟨#[60]⟩ : ByteArray), (⟨#[60, 61]⟩ : ByteArray), (⟨#[62]⟩ : ByteArray), (⟨#[62, 61]⟩ : ByteArray)] (i : Int)).toList = q
      by_cases hs : s.toList = q
      · rw [if_pos hs, hs]
        simp
      · rw [if_neg hs, hi]
        have : (s.toList == q) = false := by simpa using hs
        rw [this, Bool.false_or]
theorem signs_f (s : ByteArray) (k : Nat) (hk : 7 ≤ k) : (types_signs.f).bind (fun t => slices_Contains_string_string.f k t s) = some (signOk s) := by
  unfold types_signs.f slices_Contains_string_string.f slices_Index_string_string.f
  have h := idx_loop s 6 0 (by omega) (by omega) k (by omega)
  rw [Option.bind_some]
  show (slices_Index_string_string.l0 k _ s 6 0).bind (fun t => some (decide (t ≥ 0))) = _
  have hb : ∀ o : Option Int, (o.bind fun t => some (decide (t ≥ 0))) = o.map fun t => decide (t ≥ 0) := by intro o; cases o <;> rfl
  rw [hb]
  exact h
theorem one_f (c : S46) (k : Nat) (hk : 10 ≤ k) : types_one.f k c.f0 c.f1 c.f2 c.f3 c.f4 c.f5 = some (oneB c) := by
  have j : ∀ b : Bool, b = bareB c → types_one.j0 k b c.f0 c.f1 c.f2 c.f3 c.f4 c.f5 = some (oneB c) := by
    intro b hb
    obtain ⟨k, rfl⟩ : ∃ m, k = m + 1 + 1 := ⟨k - 2, by omega⟩
    simp only [types_one.j0, types_one.j1]
    unfold oneB
    rw [← hb]
    by_cases h4 : c.f0 = 4
    · rw [if_pos h4, if_pos h4]
      by_cases g0 : 0 ≤ c.f2
      · rw [if_pos g0]
        by_cases g6 : c.f2 < 6
        · rw [if_pos g6, decide_eq_true (show 0 ≤ c.f2 ∧ c.f2 < 6 from ⟨g0, g6⟩)]
          have hs := signs_f c.f4 (k + 1) (by omega)
          unfold types_signs.f at hs ⊢
          rw [Option.bind_some] at hs ⊢
          rw [hs, Option.bind_some, Bool.eq_iff_iff.2 (show ((c.f1.length : Int) == 0) = true ↔ decide (c.f1.length = 0) = true by simp)]
          cases signOk c.f4 <;> rfl
        · rw [if_neg g6, decide_eq_false (show ¬ (0 ≤ c.f2 ∧ c.f2 < 6) by omega)]; rfl
      · rw [if_neg g0, decide_eq_false (show ¬ (0 ≤ c.f2 ∧ c.f2 < 6) by omega)]; rfl
    · rw [if_neg h4, if_neg h4]
      by_cases h1 : c.f0 = 1
      · rw [if_pos h1, if_pos (by rw [h1]; rfl), if_pos (Or.inl h1)]
        cases b
        · rfl
        · rw [if_pos rfl, Bool.true_and, decide_eq_decide.2 (show ((c.f1.length : Int) ≥ 2) ↔ 2 ≤ c.f1.length by omega)]
      · rw [if_neg h1]
        by_cases h2 : c.f0 = 2
        · rw [if_pos (by rw [h2]; rfl), if_pos (Or.inr h2)]
          cases b
          · rfl
          · rw [if_pos rfl, Bool.true_and, decide_eq_decide.2 (show ((c.f1.length : Int) ≥ 2) ↔ 2 ≤ c.f1.length by omega)]
        · rw [if_neg (by simpa using h2), if_neg (show ¬ (c.f0 = 1 ∨ c.f0 = 2) by omega)]
          by_cases h3 : c.f0 = 3
          · rw [if_pos h3, if_pos h3]
            cases b
            · rfl
            · rw [if_pos rfl, Bool.true_and, Bool.eq_iff_iff.2 (show ((c.f1.length : Int) == 1) = true ↔ decide (c.f1.length = 1) = true by simp; omega)]
          · rw [if_neg h3, if_neg h3]
  unfold types_one.f
  by_cases h2 : c.f2 = 0
  · rw [if_pos h2]
    by_cases h3 : c.f3 = 0
    · rw [if_pos h3]
      by_cases h4 : c.f4.toList = []
      · rw [if_pos h4]
        refine j _ ?_
        unfold bareB
        rw [decide_eq_true h2, decide_eq_true h3, decide_eq_true h4]
        simp only [Bool.true_and]
        by_cases h5 : c.f5 = 0 <;> simp [h5]
      · rw [if_neg h4]
        exact j _ (by unfold bareB; rw [decide_eq_false h4]; simp)
    · rw [if_neg h3]
      exact j _ (by unfold bareB; rw [decide_eq_false h3]; simp)
  · rw [if_neg h2]
    exact j _ (by unfold bareB; rw [decide_eq_false h2]; simp)
theorem tests_nodes : ∀ (n : Nat) (c : S46), nodes c ≤ n → testsN c ≤ nodes c := by
  intro n
  induction n with
  | zero => intro c h; have := nodes_pos c; omega
  | succ n ih =>
    intro c h
    have hL : ∀ l : List S46, nodesL l ≤ n → testsL l ≤ nodesL l := by
      intro l
      induction l with
      | nil => intro _; exact Nat.le_refl _
      | cons d l ih2 =>
        intro h2
        rw [nodesL] at h2 ⊢
        rw [testsL]
        have := ih d (by omega); have := ih2 (by omega); omega
    have e1 := nodes_eq c
    have := hL c.f1 (by omega)
    rw [tests_eq]; split <;> omega
end Go.Proofs.Ytoeklekjhaigoaa.QOne
end
section
namespace Go.Proofs.Ytoeklekjhaigoaa.HMany
open Go.Proofs.Ytoeklekjhaigoaa.Al Go.RowKit Go.Proofs.YtoeklekjhaigoaaW.PrintWords Go.Proofs.YtoeklekjhaigoaaW.PrintLast Go.Proofs.YtoeklekjhaigoaaW.PrintMore Go.Proofs.Ytoeklekjhaigoaa.M0 Go.Proofs.Ytoeklekjhaigoaa.QCond
set_option linter.unusedVariables false
set_option linter.unusedSimpArgs false
set_option maxRecDepth 100000
attribute [local go_sem] max2_int min2_int max_two min_two
theorem hInfo46 : (Try.prog.info? 46).map (fun i => (i.zero, i.size, i.bytes)) = some (some (.agg #[(.int .i64 0), (.slice none 0 0), (.int .i64 0), (.int .u64 0), (.string ⟨#[]⟩), (.int .u64 0)]), 6, 72) := by kernel_rfl
abbrev cells46 (c : S46) (A : Option Addr) (n : Nat) : List Value := [.int .i64 c.f0, .slice A c.f1.length n, .int .i64 c.f2, .int .u64 c.f3, .string c.f4, .int .u64 c.f5]
/-- A condition that is read, as an element that may stand in a row: it leads to elder blocks. -/
theorem elder46 {w : World} {c : S46} {A : Option Addr} {n : Nat} (hC : Kd.C k46 w A c.f1.length c.f1) (hn : c.f1.length ≤ n) : Kd.FK k46 w (fun k => k < w.heap.size) c (cells46 c A n) :=
  k46_mkF w _ c hn (Kd.C_F k46_heap hC)
theorem reps_one46 {W : World} {ok : Nat → Prop} {c : S46} {A : Option Addr} {n : Nat} (h : Kd.FK k46 W ok c (cells46 c A n)) : Reps (Kd.FK k46 W ok) k46.sz [c] (cells46 c A n) := by
  have := Reps.snoc (Reps.none (Kd.FK k46 W ok) k46.sz) h rfl
  simpa using this
/-- The queue. -/
structure Qu (w wr : World) (v : Value) (xs : List S46) : Prop where
  N : Kd.N k46 46 wr w.heap.size (fun _ => True) v xs
  B : Below w.heap.size w wr
theorem nodesL_take (l : List S46) (d : Nat) (h : d < l.length) : nodesL (l.drop d) = nodes (rd_T46 l d) + nodesL (l.drop (d + 1)) := by
  rw [List.drop_eq_getElem_cons h, nodesL]
  unfold rd_T46; simp [List.getD, h]
def cutQ (L : Nat) (xs : List S46) : List S46 := xs.take (L + 1)
theorem cut_len (L : Nat) (xs : List S46) : (cutQ L xs).length = min (L + 1) xs.length := by unfold cutQ; rw [List.length_take]
theorem cut_put (L : Nat) (xs ks ys : List S46) (k : Nat) (hk : k < ks.length) (h : cutQ L (xs ++ ks.take k) = ys) (hl : ys.length ≤ L) : cutQ L (xs ++ ks.take (k + 1)) = ys ++ [rd_T46 ks k] := by
  have e := cut_len L (xs ++ ks.take k)
  rw [h] at e
  have hy : ys = xs ++ ks.take k := by rw [← h]; unfold cutQ; rw [List.take_of_length_le]; omega
  have e2 : ks.take (k + 1) = ks.take k ++ [rd_T46 ks k] := by
    rw [List.take_succ_eq_append_getElem hk]; unfold rd_T46; simp [List.getD, hk]
  rw [e2, ← List.append_assoc, ← hy]
  unfold cutQ; rw [List.take_of_length_le]; rw [List.length_append, List.length_singleton]; omega
theorem cut_stay (L : Nat) (xs ks ys : List S46) (k : Nat) (hk : k < ks.length) (h : cutQ L (xs ++ ks.take k) = ys) (hl : L < ys.length) : cutQ L (xs ++ ks.take (k + 1)) = ys := by
  have e := cut_len L (xs ++ ks.take k)
  rw [h] at e
  have e2 : ks.take (k + 1) = ks.take k ++ [rd_T46 ks k] := by
    rw [List.take_succ_eq_append_getElem hk]; unfold rd_T46; simp [List.getD, hk]
  rw [e2, ← List.append_assoc, ← h]
  unfold cutQ; rw [List.take_append_of_le_length (by omega)]
structure Inv (c : S46) (L : Nat) (xs : List S46) (d : Nat) : Prop where
  h1 : xs.length ≤ L + 1
  h2 : 1 ≤ xs.length
  h3 : d ≤ xs.length
  h4 : xs.length ≤ L → d + nodesL (xs.drop d) = nodes c
  h5 : L < xs.length → L + 1 ≤ nodes c
theorem Inv.start (c : S46) (L : Nat) (hL : 1 ≤ L) : Inv c L [c] 0 :=
  ⟨by simp, by simp, by simp, fun _ => by rw [List.drop_zero, nodesL, nodesL]; omega, fun h => by simp at h; omega⟩
theorem Inv.next {c : S46} {L : Nat} {xs ys ks : List S46} {d : Nat} (h : Inv c L xs d) (hd : d < xs.length) (hl : xs.length ≤ L) (hk : (rd_T46 xs d).f1 = ks) (hy : cutQ L (xs ++ ks.take ks.length) = ys) : Inv c L ys (d + 1) := by
  rw [List.take_length] at hy
  have e := cut_len L (xs ++ ks)
  rw [hy, List.length_append] at e
  have e1 := h.h4 hl
  rw [nodesL_take xs d hd, nodes_eq, hk] at e1
  have e2 := len_nodes ks
  have e3 := len_nodes (xs.drop (d + 1))
  rw [List.length_drop] at e3
  refine ⟨by omega, by omega, by omega, fun g => ?_, fun g => by omega⟩
  have hy2 : ys = xs ++ ks := by rw [← hy]; unfold cutQ; rw [List.take_of_length_le]; rw [List.length_append]; omega
  rw [hy2, List.drop_append_of_le_length (by omega), nodesL_append]; omega
theorem Inv.done {c : S46} {L : Nat} {xs : List S46} {d : Nat} (h : Inv c L xs d) (hd : xs.length ≤ d ∨ L < xs.length) : xs.length = min (nodes c) (L + 1) := by
  by_cases hl : xs.length ≤ L
  · have e1 := h.h4 hl
    have : d = xs.length := by have := h.h3; omega
    rw [List.drop_eq_nil_of_le (by omega), nodesL] at e1; omega
  · have := h.h5 (by omega); have := h.h1; omega
theorem own_of (g n c k : Nat) : (some k ≠ (Value.slice (some ⟨g, 0, none⟩) n c).ownBlock) = (k ≠ g) := by simp [Value.ownBlock]
theorem atF46 {w : World} {ok : Nat → Prop} {A : Option Addr} {n : Nat} {xs : List S46} (h : Kd.F k46 w ok A n xs) (i : Int) (h0 : 0 ≤ i) (h1 : i < n) : ∃ ad A1 c1, A = some ad ∧ w.cell? (ad.add (i.toNat * 6)) = some (.int .i64 (rd_T46 xs i).f0) ∧ w.cell? ⟨(ad.add (i.toNat * 6)).block, (ad.add (i.toNat * 6)).off + 1, none⟩ = some (.slice A1 (rd_T46 xs i).f1.length c1) ∧ w.cell? ⟨(ad.add (i.toNat * 6)).block, (ad.add (i.toNat * 6)).off + 2, none⟩ = some (.int .i64 (rd_T46 xs i).f2) ∧ w.cell? ⟨(ad.add (i.toNat * 6)).block, (ad.add (i.toNat * 6)).off + 3, none⟩ = some (.int .u64 (rd_T46 xs i).f3) ∧ w.cell? ⟨(ad.add (i.toNat * 6)).block, (ad.add (i.toNat * 6)).off + 4, none⟩ = some (.string (rd_T46 xs i).f4) ∧ w.cell? ⟨(ad.add (i.toNat * 6)).block, (ad.add (i.toNat * 6)).off + 5, none⟩ = some (.int .u64 (rd_T46 xs i).f5) ∧ (rd_T46 xs i).f1.length ≤ c1 ∧ Kd.FK k46 w ok (rd_T46 xs i) (cells46 (rd_T46 xs i) A1 c1) := by
  obtain ⟨ad, c, e, _, hK, hc0, _⟩ := Kd.F_get h z46 i h0 h1
  have hc : ∀ j u, c[j]? = some u → w.cell? (ad.add (i.toNat * 6 + j)) = some u := hc0
  obtain ⟨A1, c1, rfl, l1, g1⟩ := k46_openF hK
  exact ⟨ad, A1, c1, e, hc 0 _ rfl, by rw [← add_field _ _ 1 (by omega)]; exact hc 1 _ rfl, by rw [← add_field _ _ 2 (by omega)]; exact hc 2 _ rfl, by rw [← add_field _ _ 3 (by omega)]; exact hc 3 _ rfl, by rw [← add_field _ _ 4 (by omega)]; exact hc 4 _ rfl, by rw [← add_field _ _ 5 (by omega)]; exact hc 5 _ rfl, l1, hK⟩
set_option maxHeartbeats 2000000 in
theorem many_any (c : S46) (A1 : Option Addr) (c1 : Nat) (L : Nat) (w : World) (hC : Kd.C k46 w A1 c.f1.length c.f1) (hc1 : c.f1.length ≤ c1) (hL : 1 ≤ L) (hL2 : L ≤ 1000) :
    Calls Try.prog 43 #[.agg #[.int .i64 c.f0, .slice A1 c.f1.length c1, .int .i64 c.f2, .int .u64 c.f3, .string c.f4, .int .u64 c.f5], .int .i64 (L : Int)] w fun e w' => e = .returned (.int .i64 ((min (nodes c) (L + 1) : Nat) : Int)) ∧ Below w.heap.size w w' := by
  have hu46 := Try.underlying46
  have hFK := elder46 hC hc1
  have HB0 := amk (bal (Below.refl w.heap.size w) (.cells #[.int .i64 c.f0, .slice A1 c.f1.length c1, .int .i64 c.f2, .int .u64 c.f3, .string c.f4, .int .u64 c.f5] 46))
  have HF0 := amk (Kd.FK_below hFK HB0.out)
  have HS := amk (Inv.start c L hL)
  clear hC hFK
  go_enter Try.func43, Try.ntmps43
  go_wp2_with ((with_reducible refine gate_dst (N := 10) rfl ?_); refine Kd.N_lit k46 w.heap.size 46 ?hg (N' := 10) ?hd (xs := [c]) (inner := cells46 c A1 c1) (ok := fun _ => True) (okp := fun k => k < w.heap.size) ?hr ?hp (fun _ _ => trivial) trivial HB0.out HB0.out.size (by simp) ?_; (case hd => rfl); (case hg => rfl); (case hr => first | (go_simp; done) | (go_simp; rfl)); (case hp => exact reps_one46 HF0.out); intro v1 w1 hN hb hg hat; have HQ := amk (Qu.mk hN hb); clear hN hb hg hat)
  go_loopw [5, 6] (fun v i wr => ∃ (xs : List S46) (d : Nat), i = .int .i64 d ∧ Aside0 (Qu w wr v xs) ∧ Aside0 (Inv c L xs d)) (fun _ i _ => L + 2 - (intOf i).toNat)
  case atStart => exact ⟨[c], 0, rfl, HQ, HS⟩
  case round =>
    clear HQ HS HF0
    obtain ⟨xs, d, rfl, hq, hi⟩ := hrel
    have hi1 := hi.out.h1
    have hi2 := hi.out.h2
    have hi3 := hi.out.h3
    obtain ⟨g, cap, rfl, hg, hgl, _⟩ := Kd.N_form hq.out.N (by omega)
    by_cases hlt : d < xs.length ∧ xs.length ≤ L
    · obtain ⟨hd, hl⟩ := hlt
      have d1 : decide ((d : Int) < (xs.length : Int)) = true := decide_eq_true (by omega)
      have d2 : decide ((xs.length : Int) ≤ (L : Int)) = true := decide_eq_true (by omega)
      obtain ⟨c', hcl, hFK, hcc, _⟩ := Kd.N_elem hq.out.N z46 (d : Int) (by omega) (by omega)
      obtain ⟨A', n', rfl, hn', hFk⟩ := k46_openF hFK
      have hx1 := hcc 1 _ rfl
      have hrd : xs.getD (d : Int).toNat z46 = rd_T46 xs (d : Int) := rfl
      rw [hrd] at hFK hn' hFk hx1
      simp only [Int.toNat_natCast] at hx1
      rw [show k46.sz = 6 from rfl] at hx1
      generalize hks : (rd_T46 xs (d : Int)).f1 = ks at *
      have HN := amk (fun ys (hy : cutQ L (xs ++ ks.take ks.length) = ys) => hi.out.next hd hl hks hy)
      have HF := amk (show Kd.F k46 wr (fun b => True ∧ some b ≠ (Value.slice (some ⟨g, 0, none⟩) xs.length cap).ownBlock) A' ks.length ks from Kd.F_mono hFk (fun b hb => ⟨trivial, by rw [own_of]; exact hb.2⟩))
      have HY := amk (show cutQ L (xs ++ ks.take 0) = xs from by rw [List.take_zero, List.append_nil]; unfold cutQ; rw [List.take_of_length_le (by omega)])
      have i0 : (0 : Int) ≤ (d : Int) := by omega
      have i1 : (d : Int) < (xs.length : Int) := by omega
      have HD := amk hi3
      have HL := amk hL2
      have hki := Kd.F_max hFk
      clear hks hFK hFk hcc hcl hrd hi hi1 hi2 hi3 hg hgl
      go_wp2
      generalize hv : Value.slice (some ⟨g, 0, none⟩) xs.length cap = v at *
      clear hv
      go_loopw [5, 29] (fun v2 j w2 => ∃ (k : Nat) (ys : List S46), k ≤ ks.length ∧ j = .int .i64 k ∧ Aside0 (cutQ L (xs ++ ks.take k) = ys) ∧ Aside0 (Qu w w2 v2 ys) ∧ Aside0 (Kd.F k46 w2 (fun b => True ∧ some b ≠ v2.ownBlock) A' ks.length ks)) (fun _ j _ => ks.length - (intOf j).toNat)
      case atStart => exact ⟨0, xs, Nat.zero_le _, rfl, HY, hq, HF⟩
      case round =>
        clear HF HY hq hx1
        obtain ⟨k, ys, hk, rfl, hy, hq, hf⟩ := hrel
        by_cases hkl : k < ks.length
        · have e1 : decide ((k : Int) < (ks.length : Int)) = true := decide_eq_true (by omega)
          obtain ⟨ad, Ax, nx, rfl, hx0, hx1, hx2, hx3, hx4, hx5, hnx, hFK⟩ := atF46 hf.out (k : Int) (by omega) (by omega)
          simp only [Int.toNat_natCast] at hx0 hx1 hx2 hx3 hx4 hx5
          have j0 : (0 : Int) ≤ (k : Int) := by omega
          have j1 : (k : Int) < (ks.length : Int) := by omega
          have jw : wrap64 ((k : Int) + 1) = (k : Int) + 1 := by unfold wrap64; omega
          obtain ⟨Ay, cy, rfl⟩ := Kd.N_slice hq.out.N
          by_cases hyl : ys.length ≤ L
          · have e2 : decide ((ys.length : Int) ≤ (L : Int)) = true := decide_eq_true (by omega)
            have HP := amk (cut_put L xs ks ys k hkl hy.out hyl)
            rw [show rd_T46 ks ((k : Nat) : Int) = rd_T46 ks (k : Int) from rfl] at HP
            generalize rd_T46 ks (k : Int) = x at *
            have HA := amk (bal hq.out.B (.cells #[.int .i64 x.f0, .slice Ax x.f1.length nx, .int .i64 x.f2, .int .u64 x.f3, .string x.f4, .int .u64 x.f5] 46))
            have HN1 := amk (Kd.N_alloc hq.out.N (.cells #[.int .i64 x.f0, .slice Ax x.f1.length nx, .int .i64 x.f2, .int .u64 x.f3, .string x.f4, .int .u64 x.f5] 46))
            have HK1 := amk (Kd.FK_below hFK (bal (Below.refl wr.heap.size wr) (.cells #[.int .i64 x.f0, .slice Ax x.f1.length nx, .int .i64 x.f2, .int .u64 x.f3, .string x.f4, .int .u64 x.f5] 46)))
            have HF1 := amk (Kd.F_alloc hf.out (.cells #[.int .i64 x.f0, .slice Ax x.f1.length nx, .int .i64 x.f2, .int .u64 x.f3, .string x.f4, .int .u64 x.f5] 46))
            clear hFK hy hq hf
            go_wp2_with (at_builtin; refine Kd.N_append k46 (w0 := w) w.heap.size rfl (.tmp 37) (.tmp 39) 44 46 _ 72 rfl Try.underlying44 hInfo46 rfl (by decide) (by decide) _ ys x (cells46 x Ax nx) (fun _ => True) _ rfl (by simp [Act.eval, Act.put]) HK1.out (fun _ hk => hk) (fun _ _ => trivial) HN1.out HA.out HA.out.size (by omega) ?_; intro v1 w1 hN1 hb1 hg1 hat1; have HQ1 := amk (Qu.mk hN1 hb1); have HF2 := amk (Kd.F_after HF1.out hg1 hat1); clear hN1 hb1 hg1 hat1)
            refine ⟨⟨k + 1, ys ++ [x], by omega, by rfl, ⟨HP.out⟩, HQ1, HF2⟩, ?_⟩
            simp [intOf]; omega
          · have e2 : decide ((ys.length : Int) ≤ (L : Int)) = false := decide_eq_false (by omega)
            have HP := amk (cut_stay L xs ks ys k hkl hy.out (by omega))
            generalize rd_T46 ks (k : Int) = x at *
            have HQ1 := amk (Qu.mk (Kd.N_alloc hq.out.N (.cells #[.int .i64 x.f0, .slice Ax x.f1.length nx, .int .i64 x.f2, .int .u64 x.f3, .string x.f4, .int .u64 x.f5] 46)) (bal hq.out.B _))
            have HF2 := amk (Kd.F_alloc hf.out (.cells #[.int .i64 x.f0, .slice Ax x.f1.length nx, .int .i64 x.f2, .int .u64 x.f3, .string x.f4, .int .u64 x.f5] 46))
            clear hFK hy hq hf
            go_wp2
            refine ⟨⟨k + 1, ys, by omega, by rfl, ⟨HP.out⟩, HQ1, HF2⟩, ?_⟩
            simp [intOf]; omega
        · obtain rfl : k = ks.length := by omega
          have e1 : decide ((ks.length : Int) < (ks.length : Int)) = false := decide_eq_false (by omega)
          have HI := amk (HN.out ys hy.out)
          have dw : wrap64 ((d : Int) + 1) = (d : Int) + 1 := by have := HD.out; have := HL.out; unfold wrap64; omega
          clear hy hf HN
          go_wp2
          refine ⟨⟨ys, d + 1, by rfl, hq, HI⟩, ?_⟩
          have := HD.out
          simp [intOf]; omega
    · have HE := amk (hi.out.done (by omega))
      have HB := amk hq.out.B
      clear hg hgl hq hi
      by_cases hd : d < xs.length
      · have d1 : decide ((d : Int) < (xs.length : Int)) = true := decide_eq_true (by omega)
        have d2 : decide ((xs.length : Int) ≤ (L : Int)) = false := decide_eq_false (by omega)
        go_wp2
        go_ret
        exact ⟨congrArg (fun n : Nat => Ending.returned (.int .i64 (n : Int))) HE.out, HB.out⟩
      · have d1 : decide ((d : Int) < (xs.length : Int)) = false := decide_eq_false (by omega)
        go_wp2
        go_ret
        exact ⟨congrArg (fun n : Nat => Ending.returned (.int .i64 (n : Int))) HE.out, HB.out⟩
def doorwardref15_Many.f (a0_0 : Int) (l0_1 : List (S46)) (a0_2 : Int) (a0_3 : Int) (a0_4 : ByteArray) (a0_5 : Int) (a1 : Int) : Option (Int) :=
  if 1 ≤ a1 ∧ a1 ≤ 1000 then some ((min (nodes ⟨a0_0, l0_1, a0_2, a0_3, a0_4, a0_5⟩) (a1.toNat + 1) : Nat) : Int) else none
theorem doorwardref15_Many.calls (a0_0 : Int) (A0_1 : Option Addr) (c0_1 : Nat) (l0_1 : List (S46)) (a0_2 : Int) (a0_3 : Int) (a0_4 : ByteArray) (a0_5 : Int) (a1 : Int) (r : Int) (w : World) (hr0_1 : Kd.C k46 w A0_1 l0_1.length l0_1) (hc0_1 : l0_1.length ≤ c0_1) (h : doorwardref15_Many.f a0_0 l0_1 a0_2 a0_3 a0_4 a0_5 a1 = some r) :
    Calls Try.prog 43 #[.agg #[.int .i64 a0_0, .slice A0_1 l0_1.length c0_1, .int .i64 a0_2, .int .u64 a0_3, .string a0_4, .int .u64 a0_5], .int .i64 a1] w fun e w' => e = .returned (.int .i64 r) ∧ Below w.heap.size w w' := by
  unfold doorwardref15_Many.f at h
  split at h
  · rename_i hc
    have h2 := many_any ⟨a0_0, l0_1, a0_2, a0_3, a0_4, a0_5⟩ A0_1 c0_1 a1.toNat w hr0_1 hc0_1 (by omega) (by omega)
    rw [show ((a1.toNat : Nat) : Int) = a1 by omega, Option.some.inj h] at h2
    exact h2
  · cases h
end Go.Proofs.Ytoeklekjhaigoaa.HMany
end
section
namespace Go.Proofs.Ytoeklekjhaigoaa.HCount
open Go.Proofs.Ytoeklekjhaigoaa.Al Go.RowKit Go.Proofs.YtoeklekjhaigoaaW.PrintWords Go.Proofs.YtoeklekjhaigoaaW.PrintLast Go.Proofs.YtoeklekjhaigoaaW.PrintMore Go.Proofs.Ytoeklekjhaigoaa.M0 Go.Proofs.Ytoeklekjhaigoaa.QCond Go.Proofs.Ytoeklekjhaigoaa.QMean Go.Proofs.Ytoeklekjhaigoaa.QOne Go.Proofs.Ytoeklekjhaigoaa.HMany
set_option linter.unusedVariables false
set_option linter.unusedSimpArgs false
set_option maxRecDepth 100000
attribute [local go_sem] max2_int min2_int max_two min_two
/-- The captured queue and the tests counted so far. -/
structure Sq (w0 w : World) (tb qb : Nat) (t : Nat) (v : Value) (xs : List S46) : Prop where
  ht : w.heap[tb]? = some (.cells #[.int .i64 (t : Int)] 3 (0, 0))
  hq : w.heap[qb]? = some (.cells #[v] 44 (0, 0))
  N : Kd.N k46 46 w w0.heap.size (fun k => k ≠ tb ∧ k ≠ qb) v xs
  B : Below w0.heap.size w0 w
  bt : w0.heap.size ≤ tb
  bq : w0.heap.size ≤ qb
  ne : tb ≠ qb
theorem Sq.below {w0 w w1 : World} {tb qb t : Nat} {v : Value} {xs : List S46} (h : Sq w0 w tb qb t v xs) (hb : Below w.heap.size w w1) : Sq w0 w1 tb qb t v xs :=
  ⟨(hb.block _ (blk_lt h.ht)).trans h.ht, (hb.block _ (blk_lt h.hq)).trans h.hq, Kd.N_below h.N hb, below_step h.B hb, h.bt, h.bq, h.ne⟩
theorem Sq.tick {w0 w : World} {tb qb t : Nat} {v : Value} {xs : List S46} (h : Sq w0 w tb qb t v xs) : Sq w0 (w.setCell ⟨tb, 0, none⟩ (.int .i64 ((t : Int) + 1))) tb qb (t + 1) v xs :=
  ⟨by have := blk_put h.ht 0 (.int .i64 ((t : Int) + 1)) rfl; exact this, (Below.heap_setCell _ _ _ _ h.ne.symm).trans h.hq, Kd.N_far h.N (fun k hk => hk.1) _, h.B.setCell (p := ⟨tb, 0, none⟩) h.bt _, h.bt, h.bq, h.ne⟩
theorem Sq.put {w0 w w1 : World} {tb qb t : Nat} {v v1 : Value} {xs ys : List S46} (h : Sq w0 w tb qb t v xs) (hN : Kd.N k46 46 w1 w0.heap.size (fun k => k ≠ tb ∧ k ≠ qb) v1 (xs ++ ys)) (hB : Below w0.heap.size w0 w1) (hg : w.grownBy w1 v.ownBlock) : Sq w0 (w1.setCell ⟨qb, 0, none⟩ v1) tb qb t v1 (xs ++ ys) := by
  have n1 := Kd.N_ne h.N h.ht (by decide)
  have n2 := Kd.N_ne h.N h.hq (by decide)
  have h1 := (hg.block tb (blk_lt h.ht) n1).trans h.ht
  have h2 := (hg.block qb (blk_lt h.hq) n2).trans h.hq
  exact ⟨(Below.heap_setCell _ _ _ _ h.ne).trans h1, blk_put h2 0 _ rfl, Kd.N_far hN (fun k hk => hk.2) _, hB.setCell (p := ⟨qb, 0, none⟩) h.bq _, h.bt, h.bq, h.ne⟩
theorem one_any (c : S46) (A : Option Addr) (n : Nat) (w : World) (hC : Kd.C k46 w A c.f1.length c.f1) (hn : c.f1.length ≤ n) :
    Calls Try.prog 133 #[.agg #[.int .i64 c.f0, .slice A c.f1.length n, .int .i64 c.f2, .int .u64 c.f3, .string c.f4, .int .u64 c.f5]] w fun e w' => e = .returned (.bool (oneB c)) ∧ Below w.heap.size w w' :=
  types_one.calls 10 c.f0 A n c.f1 c.f2 c.f3 c.f4 c.f5 (oneB c) w hC hn (one_f c 10 (Nat.le_refl _))
theorem new_blk (w : World) (a : Addr) (v : Value) (o : Obj) : ((w.setCell a v).alloc o).heap[w.heap.size]? = some o := by
  have e : (w.setCell a v).heap.size = w.heap.size := by simp [World.setCell]
  have := heap_alloc_new (w.setCell a v) o
  rw [e] at this; exact this
/-- What the closure leaves. -/
def SeePost (w0 : World) (tb qb t : Nat) (v : Value) (xs : List S46) (c : S46) (e : Ending) (w' : World) : Prop :=
  if 100 < c.f1.length + xs.length then e = .returned (.bool false) ∧ Sq w0 w' tb qb (t + (if c.f0 = 4 then 1 else 0)) v xs
  else ∃ v', e = .returned (.bool (oneB c)) ∧ Sq w0 w' tb qb (t + (if c.f0 = 4 then 1 else 0)) v' (xs ++ c.f1)
set_option maxHeartbeats 2000000 in
theorem see_c {w0 w : World} {tb qb t : Nat} {v : Value} {xs : List S46} (h : Sq w0 w tb qb t v xs) (c : S46) (A : Option Addr) (n : Nat) (hn : c.f1.length ≤ n) (hF : Kd.F k46 w (fun k => (k ≠ tb ∧ k ≠ qb) ∧ some k ≠ v.ownBlock) A c.f1.length c.f1) (ht : t ≤ 1000) (hx : xs.length ≤ 1000) :
    Calls Try.prog 132 #[.agg #[.int .i64 c.f0, .slice A c.f1.length n, .int .i64 c.f2, .int .u64 c.f3, .string c.f4, .int .u64 c.f5], .pointer (some ⟨tb, 0, none⟩), .pointer (some ⟨qb, 0, none⟩)] w (SeePost w0 tb qb t v xs c) := by
  have hu46 := Try.underlying46
  have hb0 := bal (Below.refl w.heap.size w) (.cells #[.int .i64 c.f0, .slice A c.f1.length n, .int .i64 c.f2, .int .u64 c.f3, .string c.f4, .int .u64 c.f5] 46)
  have HS := amk (h.below hb0)
  have HF := amk (Kd.F_below hF hb0)
  have HX := amk (heap_alloc_new w (.cells #[.int .i64 c.f0, .slice A c.f1.length n, .int .i64 c.f2, .int .u64 c.f3, .string c.f4, .int .u64 c.f5] 46))
  have HU := amk (h.tick.below (bal (Below.refl _ _) (.cells #[.int .i64 c.f0, .slice A c.f1.length n, .int .i64 c.f2, .int .u64 c.f3, .string c.f4, .int .u64 c.f5] 46)))
  have HV := amk (Kd.F_alloc (Kd.F_far hF (p := ⟨tb, 0, none⟩) (fun k hk => hk.1.1) (.int .i64 ((t : Int) + 1))) (.cells #[.int .i64 c.f0, .slice A c.f1.length n, .int .i64 c.f2, .int .u64 c.f3, .string c.f4, .int .u64 c.f5] 46))
  have HY := amk (new_blk w ⟨tb, 0, none⟩ (.int .i64 ((t : Int) + 1)) (.cells #[.int .i64 c.f0, .slice A c.f1.length n, .int .i64 c.f2, .int .u64 c.f3, .string c.f4, .int .u64 c.f5] 46))
  have l1 := blk_lt h.ht
  have l2 := blk_lt h.hq
  have k1 := blk_cell h.ht 0
  have f1 := blk_frozen h.ht 0
  obtain ⟨Av, cv, rfl⟩ := Kd.N_slice h.N
  have hm := Kd.F_max hF
  have tw : wrap64 ((t : Int) + 1) = (t : Int) + 1 := by unfold wrap64; omega
  have sw : wrap64 (100 - (xs.length : Int)) = 100 - (xs.length : Int) := by unfold wrap64; omega
  have HT := amk ht
  have HXL := amk hx
  have HN := amk hn
  have HLT := amk (Kd.N_lt h.N)
  have HLQ := amk l2
  clear h hF hb0 ht hx
  unfold SeePost
  generalize hT : (if c.f0 = 4 then t + 1 else t) = T
  have hT' : t + (if c.f0 = 4 then 1 else 0) = T := by rw [← hT]; split <;> rfl
  rw [hT']
  clear hT'
  by_cases h4 : c.f0 = 4
  · have d4 : (c.f0 == 4) = true := by rw [h4]; rfl
    rw [if_pos h4] at hT
    rw [hT] at HU
    clear hT h4 HS HF HX
    go_enter Try.func132, Try.ntmps132
    go_upto_region 3 with (fail)
    clear k1 f1
    generalize ((w.setCell ⟨tb, 0, none⟩ (.int .i64 ((t : Int) + 1))).alloc (.cells #[.int .i64 c.f0, .slice A c.f1.length n, .int .i64 c.f2, .int .u64 c.f3, .string c.f4, .int .u64 c.f5] 46)) = W at *
    have HS := HU
    have HF := HV
    have HX := HY
    clear HU HV HY tw
    have kq := blk_cell HS.out.hq 0
    have kb1 := blk_cell HX.out 1
    have kb0 := blk_cell HX.out 0
    have kb2 := blk_cell HX.out 2
    have kb3 := blk_cell HX.out 3
    have kb4 := blk_cell HX.out 4
    have kb5 := blk_cell HX.out 5
    by_cases hov : 100 < c.f1.length + xs.length
    · have d5 : decide (100 - (xs.length : Int) < (c.f1.length : Int)) = true := decide_eq_true (by omega)
      have HE := amk HS.out
      have HO := amk hov
      clear HS HF HX hov
      go_wp2
      · go_ret
        exact ⟨rfl, HE.out⟩
      · exact absurd HO.out (by assumption)
    · have d5 : decide (100 - (xs.length : Int) < (c.f1.length : Int)) = false := decide_eq_false (by omega)
      have HO := amk hov
      have hl100 : xs.length + c.f1.length ≤ 100 := by omega
      clear hov
      have HB := amk HS.out.B
      have HNN := amk HS.out.N
      have HFR := amk (fun k (hk : W.heap.size ≤ k) => (show k ≠ tb ∧ k ≠ qb from ⟨by have := blk_lt HS.out.ht; omega, by have := blk_lt HS.out.hq; omega⟩))
      have HPUT := amk (fun w1 v1 => HS.out.put (w1 := w1) (v1 := v1) (ys := c.f1))
      have HX2 := HX
      clear HX
      go_upto_region 6 with (at_builtin; refine Kd.N_append_rows k46 (w0 := w0) w0.heap.size rfl (.tmp 17) (.tmp 19) 44 46 _ 72 rfl Try.underlying44 hInfo46 rfl (by decide) (by decide) _ xs c.f1 A c.f1.length n (fun k => k ≠ tb ∧ k ≠ qb) _ rfl rfl HNN.out HF.out (fun _ hk => hk) HFR.out HB.out HB.out.size (by omega) ?_; intro v1 w1 hN1 hb1 hg1 hat1; obtain ⟨Aq, cq, rfl⟩ := Kd.N_slice hN1; rw [List.length_append] at hN1; have hh2 := (hg1.block qb (blk_lt HS.out.hq) (Kd.N_ne HNN.out HS.out.hq (by decide))).trans HS.out.hq; have k2 := blk_cell hh2 0; have f2 := blk_frozen hh2 0; have HP := amk (HPUT.out w1 _ hN1 hb1 hg1); have HF3 := amk (Kd.F_now (Kd.F_far (Kd.F_grown HF.out hg1 (fun k hk => hk.2)) (p := ⟨qb, 0, none⟩) (fun k hk => hk.1.2) (.slice Aq (xs.length + c.f1.length) cq))); have HX3 := amk ((Below.heap_setCell w1 ⟨qb, 0, none⟩ (.slice Aq (xs.length + c.f1.length) cq) w.heap.size (by have := HLQ.out; simp only; omega)).trans ((hg1.block w.heap.size (blk_lt HX2.out) (fun e => by have := HLT.out _ e.symm; omega)).trans HX2.out)); clear hh2 hN1 hb1 hg1 hat1)
      clear k2 f2 kq kb0 kb1 kb2 kb3 kb4 kb5 HS HF HX2 HB HNN HPUT HFR
      generalize w1.setCell ⟨qb, 0, none⟩ (.slice Aq (xs.length + c.f1.length) cq) = W2 at *
      have kb1 := blk_cell HX3.out 1
      have kb0 := blk_cell HX3.out 0
      have kb2 := blk_cell HX3.out 2
      have kb3 := blk_cell HX3.out 3
      have kb4 := blk_cell HX3.out 4
      have kb5 := blk_cell HX3.out 5
      go_wp2_with (go_at_call 133; refine (one_any c A n _ HF3.out HN.out).mono ?_; rintro e w3 ⟨rfl, hb3⟩; have HE := amk (HP.out.below hb3); clear hb3)
      go_ret
      first | exact ⟨rfl, _, HE.out⟩ | exact ⟨_, rfl, HE.out⟩ | (rw [if_neg HO.out]; exact ⟨_, rfl, HE.out⟩)
  · have d4 : (c.f0 == 4) = false := by simpa using h4
    rw [if_neg h4] at hT
    rw [hT] at HS
    clear hT h4 HU HV HY k1 f1
    go_enter Try.func132, Try.ntmps132
    go_upto_region 3 with (fail)
    generalize (w.alloc (.cells #[.int .i64 c.f0, .slice A c.f1.length n, .int .i64 c.f2, .int .u64 c.f3, .string c.f4, .int .u64 c.f5] 46)) = W at *
    clear tw
    have kq := blk_cell HS.out.hq 0
    have kb1 := blk_cell HX.out 1
    have kb0 := blk_cell HX.out 0
    have kb2 := blk_cell HX.out 2
    have kb3 := blk_cell HX.out 3
    have kb4 := blk_cell HX.out 4
    have kb5 := blk_cell HX.out 5
    by_cases hov : 100 < c.f1.length + xs.length
    · have d5 : decide (100 - (xs.length : Int) < (c.f1.length : Int)) = true := decide_eq_true (by omega)
      have HE := amk HS.out
      have HO := amk hov
      clear HS HF HX hov
      go_wp2
      · go_ret
        exact ⟨rfl, HE.out⟩
      · exact absurd HO.out (by assumption)
    · have d5 : decide (100 - (xs.length : Int) < (c.f1.length : Int)) = false := decide_eq_false (by omega)
      have HO := amk hov
      have hl100 : xs.length + c.f1.length ≤ 100 := by omega
      clear hov
      have HB := amk HS.out.B
      have HNN := amk HS.out.N
      have HFR := amk (fun k (hk : W.heap.size ≤ k) => (show k ≠ tb ∧ k ≠ qb from ⟨by have := blk_lt HS.out.ht; omega, by have := blk_lt HS.out.hq; omega⟩))
      have HPUT := amk (fun w1 v1 => HS.out.put (w1 := w1) (v1 := v1) (ys := c.f1))
      have HX2 := HX
      clear HX
      go_upto_region 6 with (at_builtin; refine Kd.N_append_rows k46 (w0 := w0) w0.heap.size rfl (.tmp 17) (.tmp 19) 44 46 _ 72 rfl Try.underlying44 hInfo46 rfl (by decide) (by decide) _ xs c.f1 A c.f1.length n (fun k => k ≠ tb ∧ k ≠ qb) _ rfl rfl HNN.out HF.out (fun _ hk => hk) HFR.out HB.out HB.out.size (by omega) ?_; intro v1 w1 hN1 hb1 hg1 hat1; obtain ⟨Aq, cq, rfl⟩ := Kd.N_slice hN1; rw [List.length_append] at hN1; have hh2 := (hg1.block qb (blk_lt HS.out.hq) (Kd.N_ne HNN.out HS.out.hq (by decide))).trans HS.out.hq; have k2 := blk_cell hh2 0; have f2 := blk_frozen hh2 0; have HP := amk (HPUT.out w1 _ hN1 hb1 hg1); have HF3 := amk (Kd.F_now (Kd.F_far (Kd.F_grown HF.out hg1 (fun k hk => hk.2)) (p := ⟨qb, 0, none⟩) (fun k hk => hk.1.2) (.slice Aq (xs.length + c.f1.length) cq))); have HX3 := amk ((Below.heap_setCell w1 ⟨qb, 0, none⟩ (.slice Aq (xs.length + c.f1.length) cq) w.heap.size (by have := HLQ.out; simp only; omega)).trans ((hg1.block w.heap.size (blk_lt HX2.out) (fun e => by have := HLT.out _ e.symm; omega)).trans HX2.out)); clear hh2 hN1 hb1 hg1 hat1)
      clear k2 f2 kq kb0 kb1 kb2 kb3 kb4 kb5 HS HF HX2 HB HNN HPUT HFR
      generalize w1.setCell ⟨qb, 0, none⟩ (.slice Aq (xs.length + c.f1.length) cq) = W2 at *
      have kb1 := blk_cell HX3.out 1
      have kb0 := blk_cell HX3.out 0
      have kb2 := blk_cell HX3.out 2
      have kb3 := blk_cell HX3.out 3
      have kb4 := blk_cell HX3.out 4
      have kb5 := blk_cell HX3.out 5
      go_wp2_with (go_at_call 133; refine (one_any c A n _ HF3.out HN.out).mono ?_; rintro e w3 ⟨rfl, hb3⟩; have HE := amk (HP.out.below hb3); clear hb3)
      go_ret
      first | exact ⟨rfl, _, HE.out⟩ | exact ⟨_, rfl, HE.out⟩ | (rw [if_neg HO.out]; exact ⟨_, rfl, HE.out⟩)
def rest (xs : List S46) (d t : Nat) : Option Nat := if (fitsL (xs.drop d) && decide (d + nodesL (xs.drop d) ≤ 100)) = true then some (t + testsL (xs.drop d)) else none
theorem rest_cons (xs : List S46) (d t : Nat) (hd : d < xs.length) : rest xs d t = if (fitsB (rd_T46 xs d) && fitsL (xs.drop (d + 1)) && decide (d + (nodes (rd_T46 xs d) + nodesL (xs.drop (d + 1))) ≤ 100)) = true then some (t + (testsN (rd_T46 xs d) + testsL (xs.drop (d + 1)))) else none := by
  unfold rest
  have e : rd_T46 xs (d : Int) = xs[d] := rd46 xs d hd
  rw [List.drop_eq_getElem_cons hd, fitsL, nodesL, testsL, e]
theorem rest_over (xs : List S46) (d t : Nat) (hd : d < xs.length) (ho : 100 < (rd_T46 xs d).f1.length + xs.length) : rest xs d t = none := by
  rw [rest_cons xs d t hd, if_neg]
  intro h
  rw [Bool.and_eq_true, decide_eq_true_eq] at h
  have h := h.2
  have e1 := nodes_eq (rd_T46 xs d)
  have e2 := len_nodes (rd_T46 xs d).f1
  have e3 := len_nodes (xs.drop (d + 1))
  rw [List.length_drop] at e3
  omega
theorem rest_bad (xs : List S46) (d t : Nat) (hd : d < xs.length) (ho : oneB (rd_T46 xs d) = false) : rest xs d t = none := by
  rw [rest_cons xs d t hd, if_neg]
  intro h
  rw [fits_eq, ho] at h
  simp at h
theorem rest_next (xs : List S46) (d t : Nat) (hd : d < xs.length) (ho : oneB (rd_T46 xs d) = true) : rest xs d t = rest (xs ++ (rd_T46 xs d).f1) (d + 1) (t + (if (rd_T46 xs d).f0 = 4 then 1 else 0)) := by
  rw [rest_cons xs d t hd]
  unfold rest
  rw [List.drop_append_of_le_length (by omega), fitsL_append, nodesL_append, testsL_append, fits_eq, ho, Bool.true_and, nodes_eq, tests_eq]
  generalize nodesL (rd_T46 xs d).f1 = a
  generalize nodesL (xs.drop (d + 1)) = b
  generalize testsL (rd_T46 xs d).f1 = x
  generalize testsL (xs.drop (d + 1)) = y
  generalize (if (rd_T46 xs d).f0 = 4 then 1 else 0) = z
  rw [decide_eq_decide.2 (show d + (a + 1 + b) ≤ 100 ↔ d + 1 + (b + a) ≤ 100 by omega), show t + (z + x + y) = t + z + (y + x) by omega, Bool.and_comm (fitsL (rd_T46 xs d).f1)]
theorem rest_done (xs : List S46) (t : Nat) (h : xs.length ≤ 100) : rest xs xs.length t = some t := by
  unfold rest
  rw [List.drop_eq_nil_of_le (Nat.le_refl _), fitsL, nodesL, testsL, decide_eq_true (by omega)]; rfl
theorem rest_all (c : S46) : rest [c] 0 0 = if rightB c = true then some (testsN c) else none := by
  unfold rest rightB
  rw [List.drop_zero, fitsL, fitsL, nodesL, nodesL, testsL, testsL, Bool.and_true, Nat.zero_add, Nat.zero_add, Nat.add_zero, Nat.add_zero]
theorem count_some {c : S46} {t : Nat} (h : rest [c] 0 0 = some t) : countR c = ((t : Int), true) := by
  rw [rest_all] at h
  unfold countR
  split at h
  · rename_i hr
    rw [if_pos hr, Option.some.inj h]
  · cases h
theorem count_none {c : S46} (h : rest [c] 0 0 = none) : countR c = (0, false) := by
  rw [rest_all] at h
  unfold countR
  split at h
  · cases h
  · rename_i hr
    rw [if_neg hr]
structure CI (c : S46) (xs : List S46) (d t : Nat) : Prop where
  h1 : xs.length ≤ 100
  h2 : 1 ≤ xs.length
  h3 : d ≤ xs.length
  h4 : t ≤ d
  h5 : rest xs d t = rest [c] 0 0
set_option maxHeartbeats 2000000 in
theorem count_any (c : S46) (A1 : Option Addr) (c1 : Nat) (w : World) (hC : Kd.C k46 w A1 c.f1.length c.f1) (hc1 : c.f1.length ≤ c1) :
    Calls Try.prog 101 #[.agg #[.int .i64 c.f0, .slice A1 c.f1.length c1, .int .i64 c.f2, .int .u64 c.f3, .string c.f4, .int .u64 c.f5]] w fun e w' => e = .returned (.tuple #[.int .i64 (countR c).1, .bool (countR c).2]) ∧ Below w.heap.size w w' := by
  have hu46 := Try.underlying46
  have hmf : ∀ (fn : Fn) (first cap : Array Value) (w : World), (Instr.makeFunc fn first cap).run Try.prog w = .ok (.func fn first cap) w := fun _ _ _ _ => rfl
  have hFK := elder46 hC hc1
  have HB0 := amk (bal (Below.refl w.heap.size w) (.cells #[.int .i64 c.f0, .slice A1 c.f1.length c1, .int .i64 c.f2, .int .u64 c.f3, .string c.f4, .int .u64 c.f5] 46))
  have HF0 := amk (Kd.FK_below hFK HB0.out)
  clear hC hFK
  go_enter Try.func101, Try.ntmps101
  go_wp2_with ((with_reducible refine gate_dst (N := 9) rfl ?_); refine Kd.N_lit k46 w.heap.size 46 ?hg (N' := 9) ?hd (xs := [c]) (inner := cells46 c A1 c1) (ok := fun _ => True) (okp := fun k => k < w.heap.size) ?hr ?hp (fun _ _ => trivial) trivial HB0.out HB0.out.size (by simp) ?_; (case hd => rfl); (case hg => rfl); (case hr => first | (go_simp; done) | (go_simp; rfl)); (case hp => exact reps_one46 HF0.out); intro v1 w1 hN hb hg hat; have HQ := amk (Qu.mk hN hb); obtain ⟨Aq, cq, rfl⟩ := Kd.N_slice hN; clear hN hb hg hat)
  have HS := amk (show Sq w ((w1.alloc (.cells #[.slice Aq 1 cq] 44)).alloc (.cells #[.int .i64 0] 3)) (w1.heap.size + 1) w1.heap.size 0 (.slice Aq 1 cq) [c] from by
    have hq := HQ.out
    have e : (w1.alloc (.cells #[.slice Aq 1 cq] 44)).heap.size = w1.heap.size + 1 := by simp
    refine ⟨?_, ?_, ?_, bal (bal hq.B _) _, ?_, hq.B.size, by omega⟩
    · have := heap_alloc_new (w1.alloc (.cells #[.slice Aq 1 cq] 44)) (.cells #[.int .i64 0] 3)
      rw [e] at this; exact this
    · have h1 := heap_alloc_new w1 (.cells #[.slice Aq 1 cq] 44)
      exact (Below.heap_alloc _ _ _ (by rw [e]; omega)).trans h1
    · have h1 := Kd.N_elderB (Kd.N_elderB hq.N w1.heap.size (Nat.le_refl _)) (w1.heap.size + 1) (by omega)
      exact Kd.N_alloc (Kd.N_alloc (Kd.N_mono h1 (fun k hk => ⟨hk.2, hk.1.2⟩)) _) _
    · have := hq.B.size; omega)
  have HI := amk (show CI c [c] 0 0 from ⟨by simp, by simp, by simp, Nat.le_refl _, rfl⟩)
  clear HQ HF0 HB0
  generalize htb : w1.heap.size + 1 = tb at *
  generalize hqb : w1.heap.size = qb at *
  generalize hwr : (w1.alloc (.cells #[.slice Aq 1 cq] 44)).alloc (.cells #[.int .i64 0] 3) = w2 at *
  clear hwr htb hqb
  go_loopw [7] (fun i wr => ∃ (d t : Nat) (v : Value) (xs : List S46), i = .int .i64 d ∧ Aside0 (Sq w wr tb qb t v xs) ∧ Aside0 (CI c xs d t)) (fun i _ => 101 - (intOf i).toNat)
  case atStart => exact ⟨0, 0, _, _, rfl, HS, HI⟩
  case round =>
    clear HS HI
    obtain ⟨d, t, v, xs, rfl, hs, hi⟩ := hrel
    have hi1 := hi.out.h1
    have hi3 := hi.out.h3
    have hi4 := hi.out.h4
    obtain ⟨g, cap, rfl, hg, hgl, _⟩ := Kd.N_form hs.out.N (by have := hi.out.h2; omega)
    have kq := blk_cell hs.out.hq 0
    by_cases hlt : d < xs.length
    · have d1 : decide ((d : Int) < (xs.length : Int)) = true := decide_eq_true (by omega)
      obtain ⟨c', hcl, hFK, hcc, _⟩ := Kd.N_elem hs.out.N z46 (d : Int) (by omega) (by omega)
      obtain ⟨A', n', rfl, hn', hFk⟩ := k46_openF hFK
      have hx0 := hcc 0 _ rfl
      have hx1 := hcc 1 _ rfl
      have hx2 := hcc 2 _ rfl
      have hx3 := hcc 3 _ rfl
      have hx4 := hcc 4 _ rfl
      have hx5 := hcc 5 _ rfl
      have hrd : xs.getD (d : Int).toNat z46 = rd_T46 xs (d : Int) := rfl
      rw [hrd] at hFK hn' hFk hx0 hx1 hx2 hx3 hx4 hx5
      simp only [Int.toNat_natCast] at hx0 hx1 hx2 hx3 hx4 hx5
      rw [show k46.sz = 6 from rfl] at hx0 hx1 hx2 hx3 hx4 hx5
      rw [Nat.add_zero] at hx0
      have HR1 := amk (rest_over xs d t hlt)
      have HR2 := amk (rest_bad xs d t hlt)
      have HR3 := amk (rest_next xs d t hlt)
      have i0 : (0 : Int) ≤ (d : Int) := by omega
      have i1 : (d : Int) < (xs.length : Int) := by omega
      have HF := amk (show Kd.F k46 wr (fun b => (b ≠ tb ∧ b ≠ qb) ∧ some b ≠ (Value.slice (some ⟨g, 0, none⟩) xs.length cap).ownBlock) A' _ _ from Kd.F_mono hFk (fun b hb => ⟨hb.1, by rw [own_of]; exact hb.2⟩))
      generalize hx : rd_T46 xs (d : Int) = x at *
      clear hx
      have HSEE := amk (see_c hs.out x A' n' hn' HF.out (by omega) (by omega))
      have hln : xs.length ≤ 100 := hi1
      have HIS := amk (⟨hlt, hi1, hi4⟩ : d < xs.length ∧ xs.length ≤ 100 ∧ t ≤ d)
      clear hFK hFk hcc hcl hrd hs hi1 hi3 hi4 hg hgl HF hlt
      by_cases hov : 100 < x.f1.length + xs.length
      · have HN := amk (count_none (hi.out.h5.symm.trans (HR1.out hov)))
        unfold SeePost at HSEE
        simp only [if_pos hov] at HSEE
        clear HR1 HR2 HR3 hi
        go_wp2_with (go_at_call 132; refine HSEE.out.mono ?_; rintro e w3 ⟨rfl, hs3⟩; have HE := amk hs3.B; clear hs3)
        go_ret2
        exact ⟨congrArg (fun r : Int × Bool => Ending.returned (.tuple #[.int .i64 r.1, .bool r.2])) HN.out.symm, HE.out⟩
      · unfold SeePost at HSEE
        simp only [if_neg hov] at HSEE
        clear HR1
        cases ho : oneB x with
        | false =>
          have HN := amk (count_none (hi.out.h5.symm.trans (HR2.out ho)))
          rw [ho] at HSEE
          clear HR2 HR3 hi ho hov
          go_wp2_with (go_at_call 132; refine HSEE.out.mono ?_; rintro e w3 ⟨v3, rfl, hs3⟩; have HE := amk hs3.B; clear hs3)
          go_ret2
          exact ⟨congrArg (fun r : Int × Bool => Ending.returned (.tuple #[.int .i64 r.1, .bool r.2])) HN.out.symm, HE.out⟩
        | true =>
          have HN := amk (hi.out.h5.symm.trans (HR3.out ho))
          have HOV := amk hov
          have HI2 := amk hi.out.h2
          rw [ho] at HSEE
          clear HR2 HR3 hi ho hov
          go_wp2_with (go_at_call 132; refine HSEE.out.mono ?_; rintro e w3 ⟨v3, rfl, hs3⟩; have HE := amk hs3; clear hs3)
          refine ⟨⟨d + 1, _, v3, xs ++ x.f1, by rfl, HE, ⟨?_, ?_, ?_, ?_, HN.out.symm⟩⟩, ?_⟩
          · have := HOV.out; rw [List.length_append]; omega
          · have := HI2.out; rw [List.length_append]; omega
          · have := HIS.out; rw [List.length_append]; omega
          · have := HIS.out; split <;> omega
          · have := HIS.out
            simp [intOf]; omega
    · have d1 : decide ((d : Int) < (xs.length : Int)) = false := decide_eq_false (by omega)
      obtain rfl : d = xs.length := by omega
      have HN := amk (count_some (hi.out.h5.symm.trans (rest_done xs t hi1)))
      have kt := blk_cell hs.out.ht 0
      have HE := amk hs.out.B
      clear hi hs hg hgl
      go_wp2
      go_ret2
      exact ⟨congrArg (fun r : Int × Bool => Ending.returned (.tuple #[.int .i64 r.1, .bool r.2])) HN.out.symm, HE.out⟩
def types_count.f (a0_0 : Int) (l0_1 : List (S46)) (a0_2 : Int) (a0_3 : Int) (a0_4 : ByteArray) (a0_5 : Int) : Option (Int × Bool) := some (countR ⟨a0_0, l0_1, a0_2, a0_3, a0_4, a0_5⟩)
theorem types_count.calls (a0_0 : Int) (A0_1 : Option Addr) (c0_1 : Nat) (l0_1 : List (S46)) (a0_2 : Int) (a0_3 : Int) (a0_4 : ByteArray) (a0_5 : Int) (r1 : Int) (r2 : Bool) (w : World) (hr0_1 : Kd.C k46 w A0_1 l0_1.length l0_1) (hc0_1 : l0_1.length ≤ c0_1) (h : types_count.f a0_0 l0_1 a0_2 a0_3 a0_4 a0_5 = some (r1, r2)) :
    Calls Try.prog 101 #[.agg #[.int .i64 a0_0, .slice A0_1 l0_1.length c0_1, .int .i64 a0_2, .int .u64 a0_3, .string a0_4, .int .u64 a0_5]] w fun e w' => e = .returned (.tuple #[.int .i64 r1, .bool r2]) ∧ Below w.heap.size w w' := by
  have h2 := count_any ⟨a0_0, l0_1, a0_2, a0_3, a0_4, a0_5⟩ A0_1 c0_1 w hr0_1 hc0_1
  rw [Option.some.inj h] at h2
  exact h2
end Go.Proofs.Ytoeklekjhaigoaa.HCount
end
section
namespace Go.Proofs.Ytoeklekjhaigoaa.M1
open Go.Proofs.Ytoeklekjhaigoaa.Al Go.RowKit Go.Proofs.YtoeklekjhaigoaaW.PrintWords Go.Proofs.YtoeklekjhaigoaaW.PrintLast Go.Proofs.YtoeklekjhaigoaaW.PrintMore
attribute [local go_sem] max2_int min2_int max_two min_two max_three min_three max_four min_four IntKind.wrap_u32 IntKind.wrap_u8   -- for this text's walks alone
set_option linter.unusedVariables false
open Go.Proofs.Ytoeklekjhaigoaa.Le Go.Proofs.Ytoeklekjhaigoaa.C1 Go.Proofs.Ytoeklekjhaigoaa.C2 Go.Proofs.Ytoeklekjhaigoaa.HAct Go.Proofs.Ytoeklekjhaigoaa.W0 Go.Proofs.Ytoeklekjhaigoaa.W1 Go.Proofs.Ytoeklekjhaigoaa.R01 Go.Proofs.Ytoeklekjhaigoaa.HUnpack Go.Proofs.Ytoeklekjhaigoaa.HRefPack Go.Proofs.Ytoeklekjhaigoaa.M0 Go.Proofs.Ytoeklekjhaigoaa.HMany Go.Proofs.Ytoeklekjhaigoaa.HCount
set_option linter.unusedSimpArgs false
def errW : Option Int → Value
  | none => .nilIface
  | some c => .iface 0 (.int .i64 c)
theorem errW_none : errW none = .nilIface := rfl
theorem errW_some (c : Int) : errW (some c) = .iface 0 (.int .i64 c) := rfl
end Go.Proofs.Ytoeklekjhaigoaa.M1
end
section
namespace Go.Proofs.Ytoeklekjhaigoaa.M1
open Go.Proofs.Ytoeklekjhaigoaa.Al Go.RowKit Go.Proofs.YtoeklekjhaigoaaW.PrintWords Go.Proofs.YtoeklekjhaigoaaW.PrintLast Go.Proofs.YtoeklekjhaigoaaW.PrintMore
attribute [local go_sem] max2_int min2_int max_two min_two max_three min_three max_four min_four IntKind.wrap_u32 IntKind.wrap_u8   -- for this text's walks alone
set_option linter.unusedVariables false
open Go.Proofs.Ytoeklekjhaigoaa.Le Go.Proofs.Ytoeklekjhaigoaa.C1 Go.Proofs.Ytoeklekjhaigoaa.C2 Go.Proofs.Ytoeklekjhaigoaa.HAct Go.Proofs.Ytoeklekjhaigoaa.W0 Go.Proofs.Ytoeklekjhaigoaa.W1 Go.Proofs.Ytoeklekjhaigoaa.R01 Go.Proofs.Ytoeklekjhaigoaa.HUnpack Go.Proofs.Ytoeklekjhaigoaa.HRefPack Go.Proofs.Ytoeklekjhaigoaa.M0 Go.Proofs.Ytoeklekjhaigoaa.HMany Go.Proofs.Ytoeklekjhaigoaa.HCount
set_option linter.unusedSimpArgs false
def types_Right.f (a0_0 : Int) (l0_1 : List (S46)) (a0_2 : Int) (a0_3 : Int) (a0_4 : ByteArray) (a0_5 : Int) : Option (Bool) := (types_count.f a0_0 l0_1 a0_2 a0_3 a0_4 a0_5).bind fun bt108 => (some bt108.2)
set_option maxHeartbeats 8000000 in
set_option maxRecDepth 100000 in
theorem types_Right.calls (a0_0 : Int) (A0_1 : Option Addr) (c0_1 : Nat) (l0_1 : List (S46)) (a0_2 : Int) (a0_3 : Int) (a0_4 : ByteArray) (a0_5 : Int) (r : Bool) (w : World) (hr0_1 : Kd.C k46 w A0_1 l0_1.length l0_1) (hc0_1 : l0_1.length ≤ c0_1) (h : types_Right.f a0_0 l0_1 a0_2 a0_3 a0_4 a0_5 = some r) :
    Calls Try.prog 65 #[.agg #[.int .i64 a0_0, .slice A0_1 l0_1.length c0_1, .int .i64 a0_2, .int .u64 a0_3, .string a0_4, .int .u64 a0_5]] w fun e w' => e = .returned (.bool r) ∧ Below w.heap.size w w' := by
  have hu46 := Try.underlying46
  have HR0_1 := amk hr0_1
  have HC0_1 := amk hc0_1
  clear hr0_1 hc0_1
  have HB := amk (Below.refl w.heap.size w)
  have H : ((types_count.f a0_0 l0_1 a0_2 a0_3 a0_4 a0_5).bind fun bt108 => (some bt108.2)) = some r := h
  clear h
  replace H := Option.bind_eq_some_iff.mp H
  obtain ⟨⟨t108, t109⟩, A20, H⟩ := H
  replace H : (some t109) = some r := H
  have A2 := amk A20
  clear A20
  obtain rfl := Option.some.inj H
  go_enter Try.func65, Try.ntmps65
  go_wp2_with (first | ((with_reducible refine gate_dst (N := 1) rfl ?_); refine box_event ?hg (N := 1) ?hd (cs := #[.int .i64 a0_0, .slice A0_1 l0_1.length c0_1, .int .i64 a0_2, .int .u64 a0_3, .string a0_4, .int .u64 a0_5]) (t := 46) ?hr ?_; (case hd => rfl); (case hg => rfl); (case hr => first | (go_simp; done) | (go_simp; rfl)); intro gb107 hg w3 hbox hb; have n0_ := amk (below_step (by repeat (first | (with_reducible first | exact HB.out | apply bal | apply pbd | apply below_drew1) | exact HB.out)) hb); have n1_ := amk (hbox); have n2_ := amk ((by rw [hg]; exact (below_size (by repeat (first | (with_reducible first | exact HB.out | apply bal | apply pbd | apply below_drew1) | exact HB.out))) : w.heap.size ≤ gb107)); have n3_ := amk ((by rw [hg]; exact (below_size (by repeat (first | (with_reducible first | exact HB.out | apply bal | apply pbd | apply below_drew1) | exact HB.out))) : w.heap.size ≤ gb107)); clear HB; have HB := n0_; have BK107 := n1_; have GW107 := n2_; have GE107 := n3_; clear n0_ n1_ n2_ n3_; clear hb hbox hg; have hcz4_0 : w3.cell? ⟨gb107, 0, none⟩ = some (.int .i64 a0_0) := (blk_cell BK107.out 0).trans rfl; have hcz4_1 : w3.cell? ⟨gb107, 1, none⟩ = some (.slice A0_1 l0_1.length c0_1) := (blk_cell BK107.out 1).trans rfl; have hcz4_2 : w3.cell? ⟨gb107, 2, none⟩ = some (.int .i64 a0_2) := (blk_cell BK107.out 2).trans rfl; have hcz4_3 : w3.cell? ⟨gb107, 3, none⟩ = some (.int .u64 a0_3) := (blk_cell BK107.out 3).trans rfl; have hcz4_4 : w3.cell? ⟨gb107, 4, none⟩ = some (.string a0_4) := (blk_cell BK107.out 4).trans rfl; have hcz4_5 : w3.cell? ⟨gb107, 5, none⟩ = some (.int .u64 a0_5) := (blk_cell BK107.out 5).trans rfl; have hfz4_0 := blk_frozen BK107.out 0; have hfz4_1 := blk_frozen BK107.out 1; have hfz4_2 := blk_frozen BK107.out 2; have hfz4_3 := blk_frozen BK107.out 3; have hfz4_4 := blk_frozen BK107.out 4; have hfz4_5 := blk_frozen BK107.out 5) | ((with_reducible refine gate_callee (f := 101) rfl ?_); refine goesL_ (some 7) rfl rfl Try.func101 (by kernel_rfl) rfl #[.agg #[.int .i64 a0_0, .slice A0_1 l0_1.length c0_1, .int .i64 a0_2, .int .u64 a0_3, .string a0_4, .int .u64 a0_5]] rfl (by (try simp only [List.map_toArray, List.map_cons, List.map_nil]); first | done | rfl | (simp only [List.length_drop, List.length_take]; rfl)) ?_; (with_reducible refine (types_count.calls a0_0 _ _ l0_1 a0_2 a0_3 a0_4 a0_5 t108 t109 _ ?side1 ?side2 A2.out).mono ?_); (case side1 => repeat (first | exact (Kd.C_below HR0_1.out HB.out) | (with_reducible refine Kd.C_alloc ?_ _) | (with_reducible refine Kd.C_drewN ?_ _) | (with_reducible refine Kd.C_drew ?_))); (case side2 => exact HC0_1.out); rintro e w5 ⟨rfl, hb⟩; refine ⟨_, rfl, ?_⟩; have n0_ := amk (blk_below (g := gb107) (o := .cells #[.int .i64 a0_0, .slice A0_1 l0_1.length c0_1, .int .i64 a0_2, .int .u64 a0_3, .string a0_4, .int .u64 a0_5] 46 (0, 0)) (by (with_reducible repeat (first | refine blk_drewN ?_ _ | refine blk_drew ?_ | refine blk_alloc ?_ _)); exact BK107.out) hb); have n1_ := amk (below_step (by repeat (first | (with_reducible first | exact HB.out | apply bal | apply pbd | apply below_drew1 | refine below_set ?_ GE107.out) | exact HB.out)) hb); clear BK107; clear HB; have BK107 := n0_; have HB := n1_; clear n0_ n1_; (try clear hb); (try clear hb2); (try clear hk); (try clear hi)))
  go_ret
  exact ⟨by first | rfl | (simp [errW_none, errW_some] <;> rfl) | (simp [*, errW_none, errW_some] <;> rfl), by repeat (first | (with_reducible first | exact HB.out | apply bal | apply pbd | apply below_drew1 | refine below_set ?_ GE107.out) | exact HB.out)⟩
def types_Tests.f (a0_0 : Int) (l0_1 : List (S46)) (a0_2 : Int) (a0_3 : Int) (a0_4 : ByteArray) (a0_5 : Int) : Option (Int) := (types_count.f a0_0 l0_1 a0_2 a0_3 a0_4 a0_5).bind fun bt111 => (some bt111.1)
set_option maxHeartbeats 8000000 in
set_option maxRecDepth 100000 in
theorem types_Tests.calls (a0_0 : Int) (A0_1 : Option Addr) (c0_1 : Nat) (l0_1 : List (S46)) (a0_2 : Int) (a0_3 : Int) (a0_4 : ByteArray) (a0_5 : Int) (r : Int) (w : World) (hr0_1 : Kd.C k46 w A0_1 l0_1.length l0_1) (hc0_1 : l0_1.length ≤ c0_1) (h : types_Tests.f a0_0 l0_1 a0_2 a0_3 a0_4 a0_5 = some r) :
    Calls Try.prog 66 #[.agg #[.int .i64 a0_0, .slice A0_1 l0_1.length c0_1, .int .i64 a0_2, .int .u64 a0_3, .string a0_4, .int .u64 a0_5]] w fun e w' => e = .returned (.int .i64 r) ∧ Below w.heap.size w w' := by
  have hu46 := Try.underlying46
  have HR0_1 := amk hr0_1
  have HC0_1 := amk hc0_1
  clear hr0_1 hc0_1
  have HB := amk (Below.refl w.heap.size w)
  have H : ((types_count.f a0_0 l0_1 a0_2 a0_3 a0_4 a0_5).bind fun bt111 => (some bt111.1)) = some r := h
  clear h
  replace H := Option.bind_eq_some_iff.mp H
  obtain ⟨⟨t111, t112⟩, A20, H⟩ := H
  replace H : (some t111) = some r := H
  have A2 := amk A20
  clear A20
  obtain rfl := Option.some.inj H
  go_enter Try.func66, Try.ntmps66
  go_wp2_with (first | ((with_reducible refine gate_dst (N := 1) rfl ?_); refine box_event ?hg (N := 1) ?hd (cs := #[.int .i64 a0_0, .slice A0_1 l0_1.length c0_1, .int .i64 a0_2, .int .u64 a0_3, .string a0_4, .int .u64 a0_5]) (t := 46) ?hr ?_; (case hd => rfl); (case hg => rfl); (case hr => first | (go_simp; done) | (go_simp; rfl)); intro gb110 hg w3 hbox hb; have n0_ := amk (below_step (by repeat (first | (with_reducible first | exact HB.out | apply bal | apply pbd | apply below_drew1) | exact HB.out)) hb); have n1_ := amk (hbox); have n2_ := amk ((by rw [hg]; exact (below_size (by repeat (first | (with_reducible first | exact HB.out | apply bal | apply pbd | apply below_drew1) | exact HB.out))) : w.heap.size ≤ gb110)); have n3_ := amk ((by rw [hg]; exact (below_size (by repeat (first | (with_reducible first | exact HB.out | apply bal | apply pbd | apply below_drew1) | exact HB.out))) : w.heap.size ≤ gb110)); clear HB; have HB := n0_; have BK110 := n1_; have GW110 := n2_; have GE110 := n3_; clear n0_ n1_ n2_ n3_; clear hb hbox hg; have hcz4_0 : w3.cell? ⟨gb110, 0, none⟩ = some (.int .i64 a0_0) := (blk_cell BK110.out 0).trans rfl; have hcz4_1 : w3.cell? ⟨gb110, 1, none⟩ = some (.slice A0_1 l0_1.length c0_1) := (blk_cell BK110.out 1).trans rfl; have hcz4_2 : w3.cell? ⟨gb110, 2, none⟩ = some (.int .i64 a0_2) := (blk_cell BK110.out 2).trans rfl; have hcz4_3 : w3.cell? ⟨gb110, 3, none⟩ = some (.int .u64 a0_3) := (blk_cell BK110.out 3).trans rfl; have hcz4_4 : w3.cell? ⟨gb110, 4, none⟩ = some (.string a0_4) := (blk_cell BK110.out 4).trans rfl; have hcz4_5 : w3.cell? ⟨gb110, 5, none⟩ = some (.int .u64 a0_5) := (blk_cell BK110.out 5).trans rfl; have hfz4_0 := blk_frozen BK110.out 0; have hfz4_1 := blk_frozen BK110.out 1; have hfz4_2 := blk_frozen BK110.out 2; have hfz4_3 := blk_frozen BK110.out 3; have hfz4_4 := blk_frozen BK110.out 4; have hfz4_5 := blk_frozen BK110.out 5) | ((with_reducible refine gate_callee (f := 101) rfl ?_); refine goesL_ (some 7) rfl rfl Try.func101 (by kernel_rfl) rfl #[.agg #[.int .i64 a0_0, .slice A0_1 l0_1.length c0_1, .int .i64 a0_2, .int .u64 a0_3, .string a0_4, .int .u64 a0_5]] rfl (by (try simp only [List.map_toArray, List.map_cons, List.map_nil]); first | done | rfl | (simp only [List.length_drop, List.length_take]; rfl)) ?_; (with_reducible refine (types_count.calls a0_0 _ _ l0_1 a0_2 a0_3 a0_4 a0_5 t111 t112 _ ?side1 ?side2 A2.out).mono ?_); (case side1 => repeat (first | exact (Kd.C_below HR0_1.out HB.out) | (with_reducible refine Kd.C_alloc ?_ _) | (with_reducible refine Kd.C_drewN ?_ _) | (with_reducible refine Kd.C_drew ?_))); (case side2 => exact HC0_1.out); rintro e w5 ⟨rfl, hb⟩; refine ⟨_, rfl, ?_⟩; have n0_ := amk (blk_below (g := gb110) (o := .cells #[.int .i64 a0_0, .slice A0_1 l0_1.length c0_1, .int .i64 a0_2, .int .u64 a0_3, .string a0_4, .int .u64 a0_5] 46 (0, 0)) (by (with_reducible repeat (first | refine blk_drewN ?_ _ | refine blk_drew ?_ | refine blk_alloc ?_ _)); exact BK110.out) hb); have n1_ := amk (below_step (by repeat (first | (with_reducible first | exact HB.out | apply bal | apply pbd | apply below_drew1 | refine below_set ?_ GE110.out) | exact HB.out)) hb); clear BK110; clear HB; have BK110 := n0_; have HB := n1_; clear n0_ n1_; (try clear hb); (try clear hb2); (try clear hk); (try clear hi)))
  go_ret
  exact ⟨by first | rfl | (simp [errW_none, errW_some] <;> rfl) | (simp [*, errW_none, errW_some] <;> rfl), by repeat (first | (with_reducible first | exact HB.out | apply bal | apply pbd | apply below_drew1 | refine below_set ?_ GE110.out) | exact HB.out)⟩
end Go.Proofs.Ytoeklekjhaigoaa.M1
end
section
namespace Go.Proofs.Ytoeklekjhaigoaa.M2
open Go.Proofs.Ytoeklekjhaigoaa.Al Go.RowKit Go.Proofs.YtoeklekjhaigoaaW.PrintWords Go.Proofs.YtoeklekjhaigoaaW.PrintLast Go.Proofs.YtoeklekjhaigoaaW.PrintMore
attribute [local go_sem] max2_int min2_int max_two min_two max_three min_three max_four min_four IntKind.wrap_u32 IntKind.wrap_u8   -- for this text's walks alone
set_option linter.unusedVariables false
open Go.Proofs.Ytoeklekjhaigoaa.Le Go.Proofs.Ytoeklekjhaigoaa.C1 Go.Proofs.Ytoeklekjhaigoaa.C2 Go.Proofs.Ytoeklekjhaigoaa.HAct Go.Proofs.Ytoeklekjhaigoaa.W0 Go.Proofs.Ytoeklekjhaigoaa.W1 Go.Proofs.Ytoeklekjhaigoaa.R01 Go.Proofs.Ytoeklekjhaigoaa.HUnpack Go.Proofs.Ytoeklekjhaigoaa.HRefPack Go.Proofs.Ytoeklekjhaigoaa.M0 Go.Proofs.Ytoeklekjhaigoaa.HMany Go.Proofs.Ytoeklekjhaigoaa.HCount Go.Proofs.Ytoeklekjhaigoaa.M1
set_option linter.unusedSimpArgs false
def errW : Option Int → Value
  | none => .nilIface
  | some c => .iface 0 (.int .i64 c)
theorem errW_none : errW none = .nilIface := rfl
theorem errW_some (c : Int) : errW (some c) = .iface 0 (.int .i64 c) := rfl
end Go.Proofs.Ytoeklekjhaigoaa.M2
end
section
namespace Go.Proofs.Ytoeklekjhaigoaa.QHolds
open Go.Proofs.Ytoeklekjhaigoaa.Al Go.RowKit Go.Proofs.YtoeklekjhaigoaaW.PrintWords Go.Proofs.YtoeklekjhaigoaaW.PrintLast Go.Proofs.YtoeklekjhaigoaaW.PrintMore Go.Proofs.Ytoeklekjhaigoaa.M0 Go.Proofs.Ytoeklekjhaigoaa.M1 Go.Proofs.Ytoeklekjhaigoaa.M2 Go.Proofs.Ytoeklekjhaigoaa.HMany Go.Proofs.Ytoeklekjhaigoaa.HCount Go.Proofs.Ytoeklekjhaigoaa.QCond Go.Proofs.Ytoeklekjhaigoaa.QMean Go.Proofs.Ytoeklekjhaigoaa.QOne Go.Proofs.Ytoeklekjhaigoaa.K49
set_option linter.unusedVariables false
set_option linter.unusedSimpArgs false
theorem eta46 (c : S46) : (⟨c.f0, c.f1, c.f2, c.f3, c.f4, c.f5⟩ : S46) = c := by cases c; rfl
theorem many_f (c : S46) (L : Int) (h1 : 1 ≤ L) (h2 : L ≤ 1000) : doorwardref15_Many.f c.f0 c.f1 c.f2 c.f3 c.f4 c.f5 L = some ((min (nodes c) (L.toNat + 1) : Nat) : Int) := by
  unfold doorwardref15_Many.f
  rw [if_pos ⟨h1, h2⟩, eta46]
theorem typesRight_f (c : S46) : types_Right.f c.f0 c.f1 c.f2 c.f3 c.f4 c.f5 = some (rightB c) := by
  unfold types_Right.f types_count.f
  rw [Option.bind_some, eta46]
  show some (countR c).2 = _
  unfold countR
  cases rightB c <;> rfl
theorem typesTests_f (c : S46) : types_Tests.f c.f0 c.f1 c.f2 c.f3 c.f4 c.f5 = some (if rightB c = true then (testsN c : Int) else 0) := by
  unfold types_Tests.f types_count.f
  rw [Option.bind_some, eta46]
  show some (countR c).1 = _
  unfold countR
  cases rightB c <;> rfl
theorem count_none {α : Type} (p : α → Bool) (l : List α) : (((l.countP p : Nat) : Int) == 0) = !l.any p := by
  rw [Bool.eq_iff_iff, beq_iff_eq, Bool.not_eq_true', List.any_eq_false]
  have := List.countP_eq_zero (p := p) (l := l)
  constructor
  · intro h a ha
    simpa using this.1 (by omega) a ha
  · intro h
    have := this.2 (fun a ha => by simpa using h a ha)
    omega
theorem count_some {α : Type} (p : α → Bool) (l : List α) : decide (((l.countP p : Nat) : Int) > 0) = l.any p := by
  have h := count_none p l
  cases ha : l.any p with
  | true => rw [ha] at h; rw [decide_eq_true_eq]; have : ¬ ((l.countP p : Nat) : Int) = 0 := by simpa using h
            omega
  | false => rw [ha] at h; rw [decide_eq_false_iff_not]; have : ((l.countP p : Nat) : Int) = 0 := by simpa using h
             omega
end Go.Proofs.Ytoeklekjhaigoaa.QHolds
end
section
namespace Go.Proofs.Ytoeklekjhaigoaa.HKit
open Go.Proofs.Ytoeklekjhaigoaa.Al Go.RowKit Go.Proofs.YtoeklekjhaigoaaW.PrintWords Go.Proofs.YtoeklekjhaigoaaW.PrintLast Go.Proofs.YtoeklekjhaigoaaW.PrintMore Go.Proofs.Ytoeklekjhaigoaa.M0 Go.Proofs.Ytoeklekjhaigoaa.M1 Go.Proofs.Ytoeklekjhaigoaa.M2 Go.Proofs.Ytoeklekjhaigoaa.QCond Go.Proofs.Ytoeklekjhaigoaa.QMean Go.Proofs.Ytoeklekjhaigoaa.QOne Go.Proofs.Ytoeklekjhaigoaa.HMany Go.Proofs.Ytoeklekjhaigoaa.HCount Go.Proofs.Ytoeklekjhaigoaa.QHolds Go.Proofs.Ytoeklekjhaigoaa.K49
set_option linter.unusedVariables false
set_option linter.unusedSimpArgs false
set_option maxRecDepth 100000
attribute [local go_sem] max2_int min2_int max_two min_two
structure Bx (W : World) (b : Nat) (c : S46) (A : Option Addr) (n : Nat) : Prop where
  H : W.heap[b]? = some (.cells #[.int .i64 c.f0, .slice A c.f1.length n, .int .i64 c.f2, .int .u64 c.f3, .string c.f4, .int .u64 c.f5] 46 (0, 0))
  C : Kd.C k46 W A c.f1.length c.f1
  L : c.f1.length ≤ n
def Xx (W : World) (b : Nat) (x : S49) : Prop := W.heap[b]? = some (.cells #[.int .u32 x.f0, .int .u32 x.f1, .int .u64 x.f2, .int .u64 x.f3.f0, .int .u64 x.f3.f1, .int .u64 x.f3.f2, .int .u64 x.f3.f3, .int .u64 x.f3.f4, .int .u64 x.f3.f5] 49 (0, 0))
section
variable {w W W1 : World} {b b2 xb n n2 : Nat} {c d : S46} {A A2 : Option Addr} {x : S49}
theorem Bx.below (h : Bx W b c A n) (hb : Below W.heap.size W W1) : Bx W1 b c A n := ⟨(hb.block _ (blk_lt h.H)).trans h.H, Kd.C_below h.C hb, h.L⟩
theorem Bx.drew (h : Bx W b c A n) : Bx W.drew b c A n := h.below (below_drew (Below.refl _ _))
theorem Xx.below (h : Xx W b x) (hb : Below W.heap.size W W1) : Xx W1 b x := (hb.block _ (blk_lt h)).trans h
theorem Xx.drew (h : Xx W b x) : Xx W.drew b x := h
theorem Bx.new (w : World) (hC : Kd.C k46 w A c.f1.length c.f1) (hn : c.f1.length ≤ n) : Bx (w.alloc (.cells #[.int .i64 c.f0, .slice A c.f1.length n, .int .i64 c.f2, .int .u64 c.f3, .string c.f4, .int .u64 c.f5] 46)) w.heap.size c A n :=
  ⟨heap_alloc_new _ _, Kd.C_below hC (bal (Below.refl _ _) _), hn⟩
theorem Xx.new (w : World) (x : S49) : Xx (w.alloc (.cells #[.int .u32 x.f0, .int .u32 x.f1, .int .u64 x.f2, .int .u64 x.f3.f0, .int .u64 x.f3.f1, .int .u64 x.f3.f2, .int .u64 x.f3.f3, .int .u64 x.f3.f4, .int .u64 x.f3.f5] 49)) w.heap.size x := heap_alloc_new _ _
theorem Bx.alloc (h : Bx W b c A n) (o : Obj) : Bx (W.alloc o) b c A n := h.below (bal (Below.refl _ _) o)
theorem Xx.alloc (h : Xx W b x) (o : Obj) : Xx (W.alloc o) b x := h.below (bal (Below.refl _ _) o)
theorem Bx.six (h : Bx W b c A n) : W.cell? ⟨b, 0, none⟩ = some (.int .i64 c.f0) ∧ W.cell? ⟨b, 1, none⟩ = some (.slice A c.f1.length n) ∧ W.cell? ⟨b, 2, none⟩ = some (.int .i64 c.f2) ∧ W.cell? ⟨b, 3, none⟩ = some (.int .u64 c.f3) ∧ W.cell? ⟨b, 4, none⟩ = some (.string c.f4) ∧ W.cell? ⟨b, 5, none⟩ = some (.int .u64 c.f5) :=
  ⟨blk_cell h.H 0, blk_cell h.H 1, blk_cell h.H 2, blk_cell h.H 3, blk_cell h.H 4, blk_cell h.H 5⟩
theorem many_w (hC : Kd.C k46 W A c.f1.length c.f1) (hn : c.f1.length ≤ n) (L : Int) (h1 : 1 ≤ L) (h2 : L ≤ 1000) :
    Calls Try.prog 43 #[.agg #[.int .i64 c.f0, .slice A c.f1.length n, .int .i64 c.f2, .int .u64 c.f3, .string c.f4, .int .u64 c.f5], .int .i64 L] W fun e w' => e = .returned (.int .i64 ((min (nodes c) (L.toNat + 1) : Nat) : Int)) ∧ Below W.heap.size W w' :=
  doorwardref15_Many.calls c.f0 A n c.f1 c.f2 c.f3 c.f4 c.f5 L _ W hC hn (many_f c L h1 h2)
theorem tRight_w (hC : Kd.C k46 W A c.f1.length c.f1) (hn : c.f1.length ≤ n) : Calls Try.prog 65 #[.agg #[.int .i64 c.f0, .slice A c.f1.length n, .int .i64 c.f2, .int .u64 c.f3, .string c.f4, .int .u64 c.f5]] W fun e w' => e = .returned (.bool (rightB c)) ∧ Below W.heap.size W w' :=
  types_Right.calls c.f0 A n c.f1 c.f2 c.f3 c.f4 c.f5 _ W hC hn (typesRight_f c)
theorem tTests_w (hC : Kd.C k46 W A c.f1.length c.f1) (hn : c.f1.length ≤ n) : Calls Try.prog 66 #[.agg #[.int .i64 c.f0, .slice A c.f1.length n, .int .i64 c.f2, .int .u64 c.f3, .string c.f4, .int .u64 c.f5]] W fun e w' => e = .returned (.int .i64 (if rightB c = true then (testsN c : Int) else 0)) ∧ Below W.heap.size W w' :=
  types_Tests.calls c.f0 A n c.f1 c.f2 c.f3 c.f4 c.f5 _ W hC hn (typesTests_f c)
end
theorem rep_two {W : World} {ok : Nat → Prop} {c d : S46} {A A2 : Option Addr} {n n2 : Nat} (h : Kd.FK k46 W ok c (cells46 c A n)) (g : Kd.FK k46 W ok d (cells46 d A2 n2)) : Reps (Kd.FK k46 W ok) k46.sz [c, d] [.int .i64 c.f0, .slice A c.f1.length n, .int .i64 c.f2, .int .u64 c.f3, .string c.f4, .int .u64 c.f5, .int .i64 d.f0, .slice A2 d.f1.length n2, .int .i64 d.f2, .int .u64 d.f3, .string d.f4, .int .u64 d.f5] := by
  have := Reps.snoc (Reps.snoc (Reps.none (Kd.FK k46 W ok) k46.sz) h rfl) g rfl
  simpa using this
end Go.Proofs.Ytoeklekjhaigoaa.HKit
end
section
namespace Go.Proofs.Ytoeklekjhaigoaa.HAlive16
open Go.Proofs.Ytoeklekjhaigoaa.Al Go.RowKit Go.Proofs.YtoeklekjhaigoaaW.PrintWords Go.Proofs.YtoeklekjhaigoaaW.PrintLast Go.Proofs.YtoeklekjhaigoaaW.PrintMore Go.Proofs.Ytoeklekjhaigoaa.M0 Go.Proofs.Ytoeklekjhaigoaa.HAct Go.Proofs.Ytoeklekjhaigoaa.HUnpack
set_option linter.unusedVariables false
set_option linter.unusedSimpArgs false
set_option maxRecDepth 100000
attribute [local go_sem] max2_int min2_int max_two min_two
theorem idx_none (f : Value) (w : World) : Calls Try.prog 134 #[.slice none 0 0, f] w fun e w' => e = .returned (.int .i64 (-1)) ∧ Below w.heap.size w w' := by
  go_enter Try.func134, Try.ntmps134
  go_wp2
  go_loopw [8] (fun i wr => i = .int .i64 0 ∧ Aside0 (Below w.heap.size w wr)) (fun i _ => 0)
  case atStart => exact ⟨rfl, ⟨Below.refl _ _⟩⟩
  case round =>
    obtain ⟨rfl, hb⟩ := hrel
    go_wp2
    go_ret
    exact ⟨rfl, hb.out⟩
theorem contains_none (f : Value) (w : World) : Calls Try.prog 102 #[.slice none 0 0, f] w fun e w' => e = .returned (.bool false) ∧ Below w.heap.size w w' := by
  have h := idx_none f
  go_enter Try.func102, Try.ntmps102
  go_wp2_with (go_at_call 134; refine (h _).mono ?_; rintro e w1 ⟨rfl, hb1⟩)
  go_ret
  exact ⟨rfl, hb1⟩
structure PE (w0 w : World) (s a : ByteArray) (d : Int) : Prop where
  hb : w.heap[w0.heap.size]? = some (.cells #[.string s, .string a, .int .u64 d, .slice none 0 0] 89 (0, 0))
  hr : w.heap[w0.heap.size + 1]? = some (.cells #[.int .u32 0, .int .u32 0, .slice none 0 0] 56 (0, 0))
  B : Below w0.heap.size w0 w
theorem PE.below {w0 w w1 : World} {s a : ByteArray} {d : Int} (h : PE w0 w s a d) (hb : Below w.heap.size w w1) : PE w0 w1 s a d :=
  ⟨(hb.block _ (blk_lt h.hb)).trans h.hb, (hb.block _ (blk_lt h.hr)).trans h.hr, below_step h.B hb⟩
theorem PE.start (w : World) (s a : ByteArray) (d : Int) : PE w ((w.alloc (.cells #[.string s, .string a, .int .u64 d, .slice none 0 0] 89)).alloc (.cells #[.int .u32 0, .int .u32 0, .slice none 0 0] 56)) s a d := by
  have s1 : (w.alloc (.cells #[.string s, .string a, .int .u64 d, .slice none 0 0] 89)).heap.size = w.heap.size + 1 := by simp
  have h1 := heap_alloc_new w (.cells #[.string s, .string a, .int .u64 d, .slice none 0 0] 89)
  have h2 := heap_alloc_new (w.alloc (.cells #[.string s, .string a, .int .u64 d, .slice none 0 0] 89)) (.cells #[.int .u32 0, .int .u32 0, .slice none 0 0] 56)
  rw [s1] at h2
  exact ⟨(Below.heap_alloc _ _ _ (by rw [s1]; omega)).trans h1, h2, bal (bal (Below.refl _ _) _) _⟩
theorem PE.done {w0 w : World} {s a : ByteArray} {d x y : Int} (h : PE w0 w s a d) : (((w.setCell ⟨w0.heap.size + 1, 0, none⟩ (.int .u32 x)).setCell ⟨w0.heap.size + 1, 1, none⟩ (.int .u32 y)).setCell ⟨w0.heap.size + 1, 2, none⟩ (.slice none 0 0)).heap[w0.heap.size + 1]? = some (.cells #[.int .u32 x, .int .u32 y, .slice none 0 0] 56 (0, 0)) ∧
    Below w0.heap.size w0 (((w.setCell ⟨w0.heap.size + 1, 0, none⟩ (.int .u32 x)).setCell ⟨w0.heap.size + 1, 1, none⟩ (.int .u32 y)).setCell ⟨w0.heap.size + 1, 2, none⟩ (.slice none 0 0)) :=
  ⟨blk_put (blk_put (blk_put h.hr 0 (.int .u32 x) rfl) 1 (.int .u32 y) rfl) 2 (.slice none 0 0) rfl,
   ((h.B.setCell (p := ⟨w0.heap.size + 1, 0, none⟩) (by simp only; omega) _).setCell (p := ⟨w0.heap.size + 1, 1, none⟩) (by simp only; omega) _).setCell (p := ⟨w0.heap.size + 1, 2, none⟩) (by simp only; omega) _⟩
def polB (s : ByteArray) (a : ByteArray) (d : Int) : Option (Int × Int) := match archB s.data.toList, actOut a.data.toList d with | (x, true), (y, true) => some (x, y) | _, _ => none
set_option maxHeartbeats 2000000 in
theorem check_bare (s a : ByteArray) (d : Int) (x y : Int) (w : World) (hs : s.size ≤ maxLen) (ha : a.size ≤ maxLen) (h : polB s a d = some (x, y)) :
    Calls Try.prog 68 #[.agg #[.string s, .string a, .int .u64 d, .slice none 0 0]] w fun e w' => e = .returned (.tuple #[.agg #[.int .u32 x, .int .u32 y, .slice none 0 0], .int .i64 0]) ∧ Below w.heap.size w w' := by
  have hu89 := Try.underlying89
  have hu56 := Try.underlying56
  have h1 : archB s.data.toList = (x, true) ∧ actOut a.data.toList d = (y, true) := by
    unfold polB at h
    split at h
    · rename_i e1 e2
      injection h with h; injection h with ha hb
      rw [e1, e2, ha, hb]; exact ⟨rfl, rfl⟩
    · cases h
  have q1 := amk (fun W => call_Arch.calls s x true W (by unfold call_Arch.f; rw [if_pos hs, h1.1]))
  have q2 := amk (fun W => call_Action.calls a d y true W (by unfold call_Action.f; rw [if_pos ha, h1.2]))
  have q0 := amk contains_none
  clear h h1 hs ha
  have HP := amk (PE.start w s a d)
  go_enter Try.func68, Try.ntmps68
  go_upto_region 3 with (go_at_call 102; refine (q0.out _ _).mono ?_; rintro e w1 ⟨rfl, hb1⟩; have HP1 := amk (HP.out.below hb1); clear hb1)
  have k0 := blk_cell HP1.out.hb 0
  go_upto_region 4 with (go_at_call 38; refine (q1.out _).mono ?_; rintro e w2 ⟨rfl, hb2⟩; have HP2 := amk (HP1.out.below hb2); clear hb2)
  have p1 := blk_cell HP2.out.hb 1
  have p2 := blk_cell HP2.out.hb 2
  go_upto_region 7 with (go_at_call 33; refine (q2.out _).mono ?_; rintro e w3 ⟨rfl, hb3⟩; have HP3 := amk (HP2.out.below hb3); clear hb3)
  have p3 := blk_cell HP3.out.hb 3
  have HP4 := amk (HP3.out.below (bal (Below.refl _ _) (.cells #[.int .u32 x, .int .u32 y, .slice none 0 0] 56)))
  have HN := amk (heap_alloc_new w3 (.cells #[.int .u32 x, .int .u32 y, .slice none 0 0] 56))
  have p4 := blk_cell HP4.out.hb 3
  go_wp2
  go_loopw [50] (fun i wr => i = .int .i64 0 ∧ Aside0 (PE w wr s a d) ∧ Aside0 (wr.heap[w3.heap.size]? = some (.cells #[.int .u32 x, .int .u32 y, .slice none 0 0] 56 (0, 0)))) (fun i _ => 0)
  case atStart => exact ⟨rfl, HP4, HN⟩
  case round =>
    clear HP1 HP2 HP3 HP4 HN HP k0 p1 p2 p3 p4 q0 q1 q2
    obtain ⟨rfl, hp, hn⟩ := hrel
    have m0 := blk_cell hn.out 0
    have m1 := blk_cell hn.out 1
    have m2 := blk_cell hn.out 2
    have r0 := blk_cell hp.out.hr 0
    have r1 := blk_cell hp.out.hr 1
    have r2 := blk_cell hp.out.hr 2
    have f0 := blk_frozen hp.out.hr 0
    have f1 := blk_frozen hp.out.hr 1
    have f2 := blk_frozen hp.out.hr 2
    have HD := amk (hp.out.done (x := x) (y := y))
    clear hp hn
    go_wp2
    refine bodyPost_ret (results_ct rfl _ _ (w.heap.size + 1) 56 _ (0, 0) _ rfl HD.out.1 Try.underlying56 rfl (by kernel_rfl)) rfl ⟨rfl, HD.out.2⟩
theorem alive_any (W : World) : Calls Try.prog 64 #[] W fun e w' => e = .returned (.bool true) ∧ Below W.heap.size W w' := by
  have hu56 := Try.underlying56
  have q := amk (check_bare ⟨#[120, 56, 54, 95, 54, 52]⟩ ⟨#[97, 108, 108, 111, 119]⟩ 0 3221225534 2147418112 W (by decide) (by decide) (by decide))
  go_enter Try.func64, Try.ntmps64
  go_wp2_with (go_at_call 68; refine q.out.mono ?_; rintro e w1 ⟨rfl, hb1⟩; have HB := amk (bal (below_step (Below.refl _ _) hb1) (.cells #[.int .u32 3221225534, .int .u32 2147418112, .slice none 0 0] 56)); clear hb1)
  go_ret
  exact ⟨rfl, HB.out⟩
end Go.Proofs.Ytoeklekjhaigoaa.HAlive16
end
section
namespace Go.Proofs.Ytoeklekjhaigoaa.PTypesNots
open Go.Proofs.Ytoeklekjhaigoaa.Al Go.RowKit Go.Proofs.YtoeklekjhaigoaaW.PrintWords Go.Proofs.YtoeklekjhaigoaaW.PrintLast Go.Proofs.YtoeklekjhaigoaaW.PrintMore Go.Proofs.Ytoeklekjhaigoaa.M0 Go.Proofs.Ytoeklekjhaigoaa.M1 Go.Proofs.Ytoeklekjhaigoaa.M2 Go.Proofs.Ytoeklekjhaigoaa.QCond Go.Proofs.Ytoeklekjhaigoaa.QMean Go.Proofs.Ytoeklekjhaigoaa.QOne Go.Proofs.Ytoeklekjhaigoaa.HMany Go.Proofs.Ytoeklekjhaigoaa.HCount Go.Proofs.Ytoeklekjhaigoaa.QHolds Go.Proofs.Ytoeklekjhaigoaa.HKit Go.Proofs.Ytoeklekjhaigoaa.K49
set_option linter.unusedVariables false
set_option linter.unusedSimpArgs false
set_option maxRecDepth 100000
attribute [local go_sem] max2_int min2_int max_two min_two
theorem below_of_grown {W W1 : World} (hg : W.grownBy W1 none) : Below W.heap.size W W1 := ⟨hg.os, hg.tape, hg.output, hg.size, fun k hk => hg.block k hk (by simp)⟩
def lessC : S46 := ⟨4, [], 0, 0, ⟨#[60]⟩, 0⟩
theorem fits_not' (c : S46) : fitsB (notC c) = fitsB c := by
  cases h : fitsB c with
  | true => exact fits_not h
  | false =>
    rw [fits_eq]
    have e : fitsL (notC c).f1 = false := by show fitsL [c] = false; rw [fitsL, fitsL, h]; rfl
    rw [e, Bool.and_false]
theorem fits_less : fitsB lessC = true := by
  rw [fits_eq]
  have e : fitsL lessC.f1 = true := rfl
  rw [e, Bool.and_true]
  unfold oneB
  rw [if_pos (show lessC.f0 = 4 from rfl)]
  have h : signOk lessC.f4 = true := by
    unfold signOk
    rw [ByteArray.toList_eq]; rfl
  rw [h]; rfl
theorem fits_two' (c : S46) : fitsB (manyC 1 [notC c, lessC]) = fitsB c := by
  cases h : fitsB c with
  | true => exact fits_many (Or.inl rfl) (by simp) (by rw [fitsL, fitsL, fitsL, fits_not', h, fits_less]; rfl)
  | false =>
    rw [fits_eq]
    have e : fitsL (manyC 1 [notC c, lessC]).f1 = false := by show fitsL [notC c, lessC] = false; rw [fitsL, fits_not', h]; rfl
    rw [e, Bool.and_false]
theorem right_not' (c : S46) (h : nodes c ≤ 90) : rightB (notC c) = rightB c := by
  unfold rightB
  rw [fits_not', nodes_not, decide_eq_true (by omega), decide_eq_true (by omega)]
theorem nodes_two (c : S46) : nodes (manyC 1 [notC c, lessC]) = nodes c + 3 := by
  rw [nodes_many, nodesL, nodesL, nodesL, nodes_not]
  have : nodes lessC = 1 := by rw [nodes_eq]; rfl
  omega
theorem right_two' (c : S46) (h : nodes c ≤ 90) : rightB (manyC 1 [notC c, lessC]) = rightB c := by
  unfold rightB
  rw [fits_two', nodes_two, decide_eq_true (by omega), decide_eq_true (by omega)]
theorem tests_not' (c : S46) : testsN (notC c) = testsN c := by
  rw [tests_eq, if_neg (show ¬ (notC c).f0 = 4 from (show ¬ (3 : Int) = 4 by decide))]
  show 0 + testsL [c] = _
  rw [testsL, testsL]; omega
theorem tests_two' (c : S46) : testsN (manyC 1 [notC c, lessC]) = testsN c + 1 := by
  rw [tests_eq, if_neg (show ¬ (manyC 1 [notC c, lessC]).f0 = 4 from (show ¬ (1 : Int) = 4 by decide))]
  show 0 + testsL [notC c, lessC] = _
  rw [testsL, testsL, testsL, tests_not']
  have : testsN lessC = 1 := by rw [tests_eq]; rfl
  omega
set_option maxHeartbeats 8000000 in
theorem nots_any (c : S46) (A : Option Addr) (n : Nat) (w : World) (hC : Kd.C k46 w A c.f1.length c.f1) (hn : c.f1.length ≤ n) :
    Calls Try.prog 23 #[.agg #[.int .i64 c.f0, .slice A c.f1.length n, .int .i64 c.f2, .int .u64 c.f3, .string c.f4, .int .u64 c.f5]] w fun e w' => e = .returned (.bool true) ∧ Below w.heap.size w w' := by
  have hu46 := Try.underlying46
  have HC := amk (Bx.new w hC hn)
  have HB := amk (bal (Below.refl w.heap.size w) (.cells #[.int .i64 c.f0, .slice A c.f1.length n, .int .i64 c.f2, .int .u64 c.f3, .string c.f4, .int .u64 c.f5] 46))
  have HM := amk (fun (W : World) (h : Kd.C k46 W A c.f1.length c.f1) => many_w h hn 90 (by omega) (by omega))
  have HA := amk HAlive16.alive_any
  have HNL := amk hn
  have nc : decide (90 < ((min (nodes c) ((90 : Int).toNat + 1) : Nat) : Int)) = decide (90 < nodes c) := decide_eq_decide.2 (by simp only [Int.reduceToNat]; omega)
  clear hC hn
  go_enter Try.func23, Try.ntmps23
  go_upto_region 1 with (fail)
  generalize w.alloc (.cells #[.int .i64 c.f0, .slice A c.f1.length n, .int .i64 c.f2, .int .u64 c.f3, .string c.f4, .int .u64 c.f5] 46) = W at *
  obtain ⟨k0, k1, k2, k3, k4, k5⟩ := HC.out.six
  generalize ((min (nodes c) ((90 : Int).toNat + 1) : Nat) : Int) = mc at *
  by_cases hcb : 90 < nodes c
  · have e1 : decide (90 < mc) = true := nc.trans (decide_eq_true hcb)
    clear nc hcb
    go_wp2_with (first | (go_at_call 43; (with_reducible refine (HM.out _ HC.out.C).mono ?_); rintro e w1 ⟨rfl, hb1⟩; have HB := amk (below_step HB.out hb1); clear hb1) | (go_at_call 64; (with_reducible refine (HA.out _).mono ?_); rintro e w9 ⟨rfl, hb9⟩; have HB := amk (below_step HB.out hb9); clear hb9))
    go_ret
    exact ⟨rfl, HB.out⟩
  · have e1 : decide (90 < mc) = false := nc.trans (decide_eq_false hcb)
    have HNB := amk (show nodes c ≤ 90 by omega)
    clear nc hcb
    go_upto_region 3 with (go_at_call 43; (with_reducible refine (HM.out _ HC.out.C).mono ?_); rintro e w1 ⟨rfl, hb1⟩; have HC := amk (HC.out.below hb1); have HB := amk (below_step HB.out hb1); obtain ⟨k0, k1, k2, k3, k4, k5⟩ := HC.out.six; have HF := amk (elder46 HC.out.C HC.out.L); clear hb1)
    go_upto_region 4 with ((with_reducible refine gate_dst (N := 11) rfl ?_); refine Kd.N_lit k46 w.heap.size 46 ?hg (N' := 11) ?hd (xs := [c]) (inner := cells46 c A n) (ok := fun _ => True) (okp := fun k => k < w1.heap.size) ?hr ?hp (fun _ _ => trivial) trivial HB.out HB.out.size (by simp) ?_; (case hd => rfl); (case hg => rfl); (case hr => first | (go_simp; done) | (go_simp; rfl)); (case hp => exact reps_one46 HF.out); intro v1 w2 hN hb1 hg1 hat; obtain ⟨A1, n1, rfl⟩ := Kd.N_slice hN; have HR := amk (Kd.N_reads' hN).2; have HC := amk (HC.out.below (below_of_grown hg1)); have HB := amk hb1; clear hN hb1 hg1 hat)
    have HN := amk (show Bx (w2.alloc (.cells #[.int .i64 3, .slice A1 1 n1, .int .i64 0, .int .u64 0, .string ⟨#[]⟩, .int .u64 0] 46)) w2.heap.size (notC c) A1 n1 from Bx.new (c := notC c) w2 HR.out.2 HR.out.1)
    have HC := amk (HC.out.alloc (.cells #[.int .i64 3, .slice A1 1 n1, .int .i64 0, .int .u64 0, .string ⟨#[]⟩, .int .u64 0] 46))
    have HB := amk (bal (below_step HB.out (Below.refl w2.heap.size w2)) (.cells #[.int .i64 3, .slice A1 1 n1, .int .i64 0, .int .u64 0, .string ⟨#[]⟩, .int .u64 0] 46))
    have HFN := amk (elder46 HN.out.C HN.out.L)
    have HFL := amk (show Kd.FK k46 (w2.alloc (.cells #[.int .i64 3, .slice A1 1 n1, .int .i64 0, .int .u64 0, .string ⟨#[]⟩, .int .u64 0] 46)) (fun k => k < (w2.alloc (.cells #[.int .i64 3, .slice A1 1 n1, .int .i64 0, .int .u64 0, .string ⟨#[]⟩, .int .u64 0] 46)).heap.size) lessC (cells46 lessC none 0) from elder46 (Kd.C_nil k46 _) (Nat.le_refl _))
    generalize w2.alloc (.cells #[.int .i64 3, .slice A1 1 n1, .int .i64 0, .int .u64 0, .string ⟨#[]⟩, .int .u64 0] 46) = w3 at *
    generalize w2.heap.size = nb at *
    have p0 := blk_cell HN.out.H 0
    have p1 : w3.cell? ⟨nb, 1, none⟩ = some (.slice A1 1 n1) := blk_cell HN.out.H 1
    have p2 := blk_cell HN.out.H 2
    have p3 := blk_cell HN.out.H 3
    have p4 := blk_cell HN.out.H 4
    have p5 := blk_cell HN.out.H 5
    go_upto_region 5 with ((with_reducible refine gate_dst (N := 15) rfl ?_); refine Kd.N_lit k46 w.heap.size 46 ?hg (N' := 15) ?hd (xs := [notC c, lessC]) (inner := [.int .i64 3, .slice A1 1 n1, .int .i64 0, .int .u64 0, .string ⟨#[]⟩, .int .u64 0, .int .i64 4, .slice none 0 0, .int .i64 0, .int .u64 0, .string ⟨#[60]⟩, .int .u64 0]) (ok := fun _ => True) (okp := fun k => k < w3.heap.size) ?hr ?hp (fun _ _ => trivial) trivial HB.out HB.out.size (by simp) ?_; (case hd => rfl); (case hg => rfl); (case hr => first | (go_simp; done) | (go_simp; rfl)); (case hp => exact rep_two HFN.out HFL.out); intro v1 w4 hN hb1 hg1 hat; obtain ⟨A2, n2, rfl⟩ := Kd.N_slice hN; have HR2 := amk (Kd.N_reads' hN).2; have HC := amk (HC.out.below (below_of_grown hg1)); have HN := amk (HN.out.below (below_of_grown hg1)); have HB := amk hb1; clear hN hb1 hg1 hat)
    have HT := amk (show Bx (w4.alloc (.cells #[.int .i64 1, .slice A2 2 n2, .int .i64 0, .int .u64 0, .string ⟨#[]⟩, .int .u64 0] 46)) w4.heap.size (manyC 1 [notC c, lessC]) A2 n2 from Bx.new (c := manyC 1 [notC c, lessC]) w4 HR2.out.2 HR2.out.1)
    have HC := amk (HC.out.alloc (.cells #[.int .i64 1, .slice A2 2 n2, .int .i64 0, .int .u64 0, .string ⟨#[]⟩, .int .u64 0] 46))
    have HN := amk (HN.out.alloc (.cells #[.int .i64 1, .slice A2 2 n2, .int .i64 0, .int .u64 0, .string ⟨#[]⟩, .int .u64 0] 46))
    have HB := amk (bal (below_step HB.out (Below.refl w4.heap.size w4)) (.cells #[.int .i64 1, .slice A2 2 n2, .int .i64 0, .int .u64 0, .string ⟨#[]⟩, .int .u64 0] 46))
    generalize w4.alloc (.cells #[.int .i64 1, .slice A2 2 n2, .int .i64 0, .int .u64 0, .string ⟨#[]⟩, .int .u64 0] 46) = w5 at *
    generalize w4.heap.size = tb at *
    clear p0 p1 p2 p3 p4 p5 HFN HFL HR HR2 HF
    obtain ⟨k0, k1, k2, k3, k4, k5⟩ := HC.out.six
    obtain ⟨p0, p1, p2, p3, p4, p5⟩ := HN.out.six
    obtain ⟨q0, q1, q2, q3, q4, q5⟩ := HT.out.six
    have HTN := amk (tests_nodes _ c (Nat.le_refl _))
    have K1 := amk (fun (W : World) (h : Bx W w.heap.size c A n) => tRight_w h.C h.L)
    have K2 := amk (fun (W : World) (h : Bx W w.heap.size c A n) => tTests_w h.C h.L)
    have K3 := amk (fun (W : World) (h : Bx W nb (notC c) A1 n1) => by have h2 := tRight_w h.C h.L; rw [right_not' c HNB.out] at h2; exact h2)
    have K4 := amk (fun (W : World) (h : Bx W nb (notC c) A1 n1) => by have h2 := tTests_w h.C h.L; rw [right_not' c HNB.out, tests_not'] at h2; exact h2)
    have K5 := amk (fun (W : World) (h : Bx W tb (manyC 1 [notC c, lessC]) A2 n2) => by have h2 := tRight_w h.C h.L; rw [right_two' c HNB.out] at h2; exact h2)
    have K6 := amk (fun (W : World) (h : Bx W tb (manyC 1 [notC c, lessC]) A2 n2) => by have h2 := tTests_w h.C h.L; rw [right_two' c HNB.out, tests_two'] at h2; exact h2)
    have hm90 := HNB.out
    have ht90 := HTN.out
    generalize testsN c = m at *
    have hm2 : m ≤ 90 := by omega
    clear ht90 hm90 HTN
    generalize rightB c = r at *
    cases r with
    | false =>
      simp only [Bool.false_eq_true, if_false] at K2 K4 K6
      go_wp2_with (first | (go_at_call 64; (with_reducible refine (HA.out _).mono ?_); rintro e w1 ⟨rfl, hb1⟩; have HC := amk (HC.out.below hb1); have HN := amk (HN.out.below hb1); have HT := amk (HT.out.below hb1); have HB := amk (below_step HB.out hb1); obtain ⟨k0, k1, k2, k3, k4, k5⟩ := HC.out.six; obtain ⟨p0, p1, p2, p3, p4, p5⟩ := HN.out.six; obtain ⟨q0, q1, q2, q3, q4, q5⟩ := HT.out.six; clear hb1) | (go_at_call 65; (first | (with_reducible refine (K1.out _ HC.out).mono ?_) | (with_reducible refine (K3.out _ HN.out).mono ?_) | (with_reducible refine (K5.out _ HT.out).mono ?_)); rintro e w1 ⟨rfl, hb1⟩; have HC := amk (HC.out.below hb1); have HN := amk (HN.out.below hb1); have HT := amk (HT.out.below hb1); have HB := amk (below_step HB.out hb1); obtain ⟨k0, k1, k2, k3, k4, k5⟩ := HC.out.six; obtain ⟨p0, p1, p2, p3, p4, p5⟩ := HN.out.six; obtain ⟨q0, q1, q2, q3, q4, q5⟩ := HT.out.six; clear hb1) | (go_at_call 66; (first | (with_reducible refine (K2.out _ HC.out).mono ?_) | (with_reducible refine (K4.out _ HN.out).mono ?_) | (with_reducible refine (K6.out _ HT.out).mono ?_)); rintro e w1 ⟨rfl, hb1⟩; have HC := amk (HC.out.below hb1); have HN := amk (HN.out.below hb1); have HT := amk (HT.out.below hb1); have HB := amk (below_step HB.out hb1); obtain ⟨k0, k1, k2, k3, k4, k5⟩ := HC.out.six; obtain ⟨p0, p1, p2, p3, p4, p5⟩ := HN.out.six; obtain ⟨q0, q1, q2, q3, q4, q5⟩ := HT.out.six; clear hb1))
      go_ret
      exact ⟨rfl, HB.out⟩
    | true =>
      simp only [if_true] at K2 K4 K6
      have mw : wrap64 ((m : Int) + 1) = ((m + 1 : Nat) : Int) := by unfold wrap64; omega
      go_wp2_with (first | (go_at_call 64; (with_reducible refine (HA.out _).mono ?_); rintro e w1 ⟨rfl, hb1⟩; have HC := amk (HC.out.below hb1); have HN := amk (HN.out.below hb1); have HT := amk (HT.out.below hb1); have HB := amk (below_step HB.out hb1); obtain ⟨k0, k1, k2, k3, k4, k5⟩ := HC.out.six; obtain ⟨p0, p1, p2, p3, p4, p5⟩ := HN.out.six; obtain ⟨q0, q1, q2, q3, q4, q5⟩ := HT.out.six; clear hb1) | (go_at_call 65; (first | (with_reducible refine (K1.out _ HC.out).mono ?_) | (with_reducible refine (K3.out _ HN.out).mono ?_) | (with_reducible refine (K5.out _ HT.out).mono ?_)); rintro e w1 ⟨rfl, hb1⟩; have HC := amk (HC.out.below hb1); have HN := amk (HN.out.below hb1); have HT := amk (HT.out.below hb1); have HB := amk (below_step HB.out hb1); obtain ⟨k0, k1, k2, k3, k4, k5⟩ := HC.out.six; obtain ⟨p0, p1, p2, p3, p4, p5⟩ := HN.out.six; obtain ⟨q0, q1, q2, q3, q4, q5⟩ := HT.out.six; clear hb1) | (go_at_call 66; (first | (with_reducible refine (K2.out _ HC.out).mono ?_) | (with_reducible refine (K4.out _ HN.out).mono ?_) | (with_reducible refine (K6.out _ HT.out).mono ?_)); rintro e w1 ⟨rfl, hb1⟩; have HC := amk (HC.out.below hb1); have HN := amk (HN.out.below hb1); have HT := amk (HT.out.below hb1); have HB := amk (below_step HB.out hb1); obtain ⟨k0, k1, k2, k3, k4, k5⟩ := HC.out.six; obtain ⟨p0, p1, p2, p3, p4, p5⟩ := HN.out.six; obtain ⟨q0, q1, q2, q3, q4, q5⟩ := HT.out.six; clear hb1))
      go_ret

      exact ⟨rfl, HB.out⟩
def doorwardlaw16_TypesNots.f (a0_0 : Int) (l0_1 : List (S46)) (a0_2 : Int) (a0_3 : Int) (a0_4 : ByteArray) (a0_5 : Int) : Option (Bool) := some true
theorem doorwardlaw16_TypesNots.calls (a0_0 : Int) (A0_1 : Option Addr) (c0_1 : Nat) (l0_1 : List (S46)) (a0_2 : Int) (a0_3 : Int) (a0_4 : ByteArray) (a0_5 : Int) (r : Bool) (w : World) (hr0_1 : Kd.C k46 w A0_1 l0_1.length l0_1) (hc0_1 : l0_1.length ≤ c0_1) (h : doorwardlaw16_TypesNots.f a0_0 l0_1 a0_2 a0_3 a0_4 a0_5 = some r) :
    Calls Try.prog 23 #[.agg #[.int .i64 a0_0, .slice A0_1 l0_1.length c0_1, .int .i64 a0_2, .int .u64 a0_3, .string a0_4, .int .u64 a0_5]] w fun e w' => e = .returned (.bool r) ∧ Below w.heap.size w w' := by
  have h2 := nots_any ⟨a0_0, l0_1, a0_2, a0_3, a0_4, a0_5⟩ A0_1 c0_1 w hr0_1 hc0_1
  rw [← Option.some.inj h]
  exact h2
end Go.Proofs.Ytoeklekjhaigoaa.PTypesNots
end
section
namespace Go.Proofs.Ytoeklekjhaigoaa.Open
open Go.Proofs.Ytoeklekjhaigoaa.Al Go.RowKit Go.Proofs.YtoeklekjhaigoaaW.PrintWords
set_option linter.unusedVariables false
set_option linter.unusedSimpArgs false
variable {α β : Type}
/-- A reading (of so much fuel at most) of cells at type t tells a value of kind d, of which Q. -/
def OpensN (P : Program) (fuel : Nat) (d : Kd α) (t : TypeId) (Q : α → Prop) : Prop :=
  P.cellsOf t = d.sz ∧ ∀ (H : Type) (enc : TypeId × Value → H) (W : World) (cs : List Value) (x : DataW H × List MemPlace),
    DataW.trod enc P W 0 (fun _ => true) true fuel t cs = some x → ∃ y, d.K W y cs ∧ Q y
def Opens (P : Program) (d : Kd α) (t : TypeId) (Q : α → Prop) : Prop := ∀ fuel, OpensN P fuel d t Q
section
variable {P : Program} {t e : TypeId} {d : Kd α} {Q : α → Prop} {fuel : Nat}
theorem OpensN.none (h : P.cellsOf t = d.sz) : OpensN P 0 d t Q := ⟨h, fun H enc W cs x hx => by simp [DataW.trod] at hx⟩
theorem one_cell {H : Type} {enc : TypeId × Value → H} {W : World} {cs : List Value} {x : DataW H × List MemPlace} {u : TypeDesc} (hu : P.underlying t = some u) (h1 : (match u with | .struct _ | .array _ _ => true | _ => false) = false)
    (hx : DataW.trod enc P W 0 (fun _ => true) true (fuel + 1) t cs = some x) : ∃ c, cs = [c] := by
  unfold DataW.trod at hx
  rcases cs with _ | ⟨c, _ | ⟨c2, r⟩⟩
  · cases u <;> simp [hu] at hx h1
  · exact ⟨c, rfl⟩
  · cases u <;> simp [hu] at hx h1
theorem Opens.int (k : IntKind) (hu : P.underlying t = some (.int k)) (hc : P.cellsOf t = 1) : Opens P (Kd.int k) t (fun x => (Lit.int k x).wf = true) := by
  intro fuel
  cases fuel with
  | zero => exact OpensN.none hc
  | succ fuel =>
    refine ⟨hc, fun H enc W cs x hx => ?_⟩
    obtain ⟨c, rfl⟩ := one_cell hu rfl hx
    unfold DataW.trod at hx
    cases c <;> simp [hu] at hx
    rename_i k' n
    obtain ⟨⟨rfl, hw⟩, _⟩ := hx
    exact ⟨n, rfl, hw⟩
theorem Opens.bool (hu : P.underlying t = some .bool) (hc : P.cellsOf t = 1) : Opens P Kd.bool t (fun _ => True) := by
  intro fuel
  cases fuel with
  | zero => exact OpensN.none hc
  | succ fuel =>
    refine ⟨hc, fun H enc W cs x hx => ?_⟩
    obtain ⟨c, rfl⟩ := one_cell hu rfl hx
    unfold DataW.trod at hx
    cases c <;> simp [hu] at hx
    rename_i b
    exact ⟨b, rfl, trivial⟩
theorem Opens.string (hu : P.underlying t = some .string) (hc : P.cellsOf t = 1) : Opens P Kd.string t (fun s => s.size ≤ maxLen) := by
  intro fuel
  cases fuel with
  | zero => exact OpensN.none hc
  | succ fuel =>
    refine ⟨hc, fun H enc W cs x hx => ?_⟩
    obtain ⟨c, rfl⟩ := one_cell hu rfl hx
    unfold DataW.trod at hx
    cases c <;> simp [hu] at hx
    rename_i s
    exact ⟨s, rfl, hx.1⟩
/-- The cells of a slice. -/
theorem slice_cell {H : Type} {enc : TypeId × Value → H} {W : World} {cs : List Value} {x : DataW H × List MemPlace} (hu : P.underlying t = some (.slice e)) (hx : DataW.trod enc P W 0 (fun _ => true) true (fuel + 1) t cs = some x) :
    cs = [.slice none 0 0] ∨ ∃ a len cap, cs = [.slice (some a) len cap] ∧ len ≤ cap ∧ cap ≤ maxLen ∧
      ∃ els rest, (List.range len).mapM (fun i => (W.cells? 0 (a.add (i * P.cellsOf e)) (P.cellsOf e)).bind (DataW.trod enc P W 0 (fun _ => true) true fuel e)) = some els ∧ x.1 = .slice (els.map (·.1)) rest := by
  obtain ⟨c, rfl⟩ := one_cell hu rfl hx
  unfold DataW.trod at hx
  cases c <;> try (simp [hu] at hx; done)
  rename_i A len cap
  cases A with
  | none =>
    by_cases h0 : len = 0 ∧ cap = 0
    · obtain ⟨rfl, rfl⟩ := h0
      exact .inl rfl
    · exfalso
      rcases len with _ | len <;> rcases cap with _ | cap <;> simp [hu] at hx h0
  | some a =>
    right
    simp only [hu] at hx
    split at hx
    · rename_i hcnd
      rw [Option.bind_eq_some_iff] at hx
      obtain ⟨els, hels, hx⟩ := hx
      rw [Option.map_eq_some_iff] at hx
      obtain ⟨rest, _, hx⟩ := hx
      exact ⟨a, len, cap, rfl, hcnd.2.1, hcnd.2.2, els, rest.map (·.1), hels, by rw [← hx]⟩
    · simp at hx
theorem OpensN.slice (hu : P.underlying t = some (.slice e)) (hc : P.cellsOf t = 1) (h : OpensN P fuel d e Q) : OpensN P (fuel + 1) (Kd.slice e d) t (fun xs => xs.length ≤ maxLen ∧ ∀ x ∈ xs, Q x) := by
  obtain ⟨hsz, h⟩ := h
  refine ⟨hc, fun H enc W cs x hx => ?_⟩
  rcases slice_cell hu hx with rfl | ⟨a, len, cap, rfl, hlc, hcm, els, rest, hels, _⟩
  · refine ⟨[], ⟨Option.none, 0, rfl, Nat.le_refl _, ?_⟩, by simp, by simp⟩
    exact ⟨rfl, by simp, fun h => absurd h (by simp)⟩
  · skip
    · skip
      have hlen : els.length = len := by simpa using mapM_some_length hels
      have hget := fun i (hi : i < len) => mapM_some_get hels i i (by simp [hi])
      have hall : ∀ i, i < len → ∃ (y : α) (c : List Value), d.K W y c ∧ Q y ∧ c.length = d.sz ∧ ∀ j u, c[j]? = some u → W.cell? (a.add (i * d.sz + j)) = some u := by
        intro i hi
        have hi2 := hget i hi
        rw [List.getElem?_eq_getElem (by omega : i < els.length), Option.bind_eq_some_iff] at hi2
        obtain ⟨c, hcs, hr⟩ := hi2
        obtain ⟨y, hy, hq⟩ := h H enc W c _ hr
        obtain ⟨_, hcl, hcell⟩ := World.cells?_some hcs
        refine ⟨y, c, hy, hq, d.K_len hy, fun j u hj => ?_⟩
        have hjl : j < P.cellsOf e := by
          have : j < c.length := by
            rcases Nat.lt_or_ge j c.length with hlt | hge
            · exact hlt
            · rw [List.getElem?_eq_none hge] at hj; simp at hj
          omega
        have := hcell j hjl
        rw [hj, hsz, Addr.add_add] at this
        exact this
      obtain ⟨ys, hys⟩ : ∃ ys : List α, ys.length = len ∧ ∀ i (hi : i < ys.length), (∃ c : List Value, d.K W ys[i] c ∧ Q ys[i] ∧ c.length = d.sz ∧ ∀ j u, c[j]? = some u → W.cell? (a.add (i * d.sz + j)) = some u) := by
        clear hels hget hlen hlc hcm hx
        induction len with
        | zero => exact ⟨[], rfl, fun i hi => absurd hi (by simp)⟩
        | succ n ih =>
          obtain ⟨ys, hl, hy⟩ := ih (fun i hi => hall i (by omega))
          obtain ⟨y, c, hk, hq, hcl, hcc⟩ := hall n (by omega)
          refine ⟨ys ++ [y], by simp [hl], fun i hi => ?_⟩
          by_cases hin : i < ys.length
          · have := hy i hin
            rw [List.getElem_append_left hin]
            exact this
          · have hie : i = n := by simp at hi; omega
            subst hie
            rw [List.getElem_append_right (by omega)]
            simp only [hl, Nat.sub_self, List.getElem_cons_zero]
            exact ⟨c, hk, hq, hcl, hcc⟩
      obtain ⟨hyl, hy⟩ := hys
      refine ⟨ys, ⟨some a, cap, by rw [hyl], by omega, ?_⟩, by omega, ?_⟩
      · refine ⟨rfl, by rw [hyl]; exact Nat.le_trans hlc hcm, fun _ => ⟨a, rfl, fun j p hj => ?_⟩⟩
        have hjl : j < ys.length := by
          rcases Nat.lt_or_ge j ys.length with hlt | hge
          · exact hlt
          · rw [List.getElem?_eq_none hge] at hj; simp at hj
        obtain ⟨c, hk, hq, hcl, hcc⟩ := hy j hjl
        rw [List.getElem?_eq_getElem hjl] at hj
        obtain rfl := Option.some.inj hj
        exact ⟨c, hcl, hk, hcc⟩
      · intro x hx
        obtain ⟨i, hi, rfl⟩ := List.getElem_of_mem hx
        obtain ⟨c, hk, hq, _⟩ := hy i hi
        exact hq
theorem Opens.slice (hu : P.underlying t = some (.slice e)) (hc : P.cellsOf t = 1) (h : Opens P d e Q) : Opens P (Kd.slice e d) t (fun xs => xs.length ≤ maxLen ∧ ∀ x ∈ xs, Q x) := by
  intro fuel
  cases fuel with
  | zero => exact OpensN.none hc
  | succ fuel => exact OpensN.slice hu hc (h fuel)
end
/-- The fields from one on, read one by one, tell a value of kind d out of the cells from o on. -/
def OpensF (P : Program) (fuel : Nat) (fs : List Field) (o : Nat) (d : Kd α) (Q : α → Prop) : Prop :=
  ∀ (H : Type) (enc : TypeId × Value → H) (W : World) (cs : List Value) (xs : List (DataW H × List MemPlace)),
    (fs.mapM fun f => DataW.trod enc P W 0 (fun _ => true) true fuel f.type ((cs.drop f.offset).take (P.cellsOf f.type))) = some xs → cs.length = o + d.sz → ∃ y, d.K W y (cs.drop o) ∧ Q y
section
variable {P : Program} {t : TypeId} {a : Kd α} {b : Kd β} {Q : α → Prop} {R : β → Prop} {fuel o : Nat} {f : Field} {fs : List Field}
theorem OpensF.last (ho : f.offset = o) (h : OpensN P fuel a f.type Q) : OpensF P fuel [f] o a Q := by
  intro H enc W cs xs hx hl
  simp only [List.mapM_cons, List.mapM_nil] at hx
  rw [Option.bind_eq_bind, Option.bind_eq_some_iff] at hx
  obtain ⟨y, hy, _⟩ := hx
  rw [ho, h.1, List.take_of_length_le (by rw [List.length_drop]; omega)] at hy
  exact h.2 H enc W _ _ hy
theorem OpensF.cons (ho : f.offset = o) (h : OpensN P fuel a f.type Q) (hs : OpensF P fuel fs (o + a.sz) b R) : OpensF P fuel (f :: fs) o (Kd.pair a b) (fun x => Q x.1 ∧ R x.2) := by
  intro H enc W cs xs hx hl
  simp only [List.mapM_cons] at hx
  rw [Option.bind_eq_bind, Option.bind_eq_some_iff] at hx
  obtain ⟨y, hy, hx⟩ := hx
  rw [Option.bind_eq_bind, Option.bind_eq_some_iff] at hx
  obtain ⟨ys, hys, _⟩ := hx
  rw [ho, h.1] at hy
  obtain ⟨u, hu, hq⟩ := h.2 H enc W _ _ hy
  obtain ⟨v, hv, hr⟩ := hs H enc W cs ys hys (by have : (Kd.pair a b).sz = a.sz + b.sz := rfl; omega)
  refine ⟨(u, v), ⟨(cs.drop o).take a.sz, (cs.drop o).drop a.sz, (List.take_append_drop _ _).symm, hu, ?_⟩, hq, hr⟩
  rw [List.drop_drop]
  exact hv
theorem OpensF.iso {γ : Type} (g : γ → α) (inv : α → γ) (hg : ∀ x, g (inv x) = x) (h : OpensF P fuel fs o a Q) : OpensF P fuel fs o (Kd.iso a g) (fun x => Q (g x)) := by
  intro H enc W cs xs hx hl
  obtain ⟨y, hy, hq⟩ := h H enc W cs xs hx hl
  exact ⟨inv y, by show a.K W (g (inv y)) _; rw [hg]; exact hy, by show Q (g (inv y)); rw [hg]; exact hq⟩
theorem OpensN.struct {gs : Array Field} (hu : P.underlying t = some (.struct gs)) (hc : P.cellsOf t = a.sz) (h : OpensF P fuel gs.toList 0 a Q) : OpensN P (fuel + 1) a t Q := by
  refine ⟨hc, fun H enc W cs x hx => ?_⟩
  have hx2 : (if cs.length = P.cellsOf t then (gs.toList.mapM fun f => DataW.trod enc P W 0 (fun _ => true) true fuel f.type ((cs.drop f.offset).take (P.cellsOf f.type))).map fun xs => (DataW.agg (xs.map (·.1)), xs.flatMap (·.2)) else Option.none) = some x := by
    rw [← hx]
    conv => rhs; unfold DataW.trod
    simp only [hu]
  split at hx2
  · rename_i hl
    rw [Option.map_eq_some_iff] at hx2
    obtain ⟨xs, hxs, _⟩ := hx2
    have := h H enc W cs xs hxs (by omega)
    simpa using this
  · simp at hx2
/-- The places of an array, read one by one. -/
def OpensA (P : Program) (fuel : Nat) (e : TypeId) (is : List Nat) (o : Nat) (d : Kd α) (Q : α → Prop) : Prop :=
  ∀ (H : Type) (enc : TypeId × Value → H) (W : World) (cs : List Value) (xs : List (DataW H × List MemPlace)),
    (is.mapM fun i => DataW.trod enc P W 0 (fun _ => true) true fuel e ((cs.drop (i * P.cellsOf e)).take (P.cellsOf e))) = some xs → cs.length = o + d.sz → ∃ y, d.K W y (cs.drop o) ∧ Q y
theorem OpensA.last {e : TypeId} {i : Nat} (ho : i * P.cellsOf e = o) (h : OpensN P fuel a e Q) : OpensA P fuel e [i] o a Q := by
  intro H enc W cs xs hx hl
  simp only [List.mapM_cons, List.mapM_nil] at hx
  rw [Option.bind_eq_bind, Option.bind_eq_some_iff] at hx
  obtain ⟨y, hy, _⟩ := hx
  rw [ho, h.1, List.take_of_length_le (by rw [List.length_drop]; omega)] at hy
  exact h.2 H enc W _ _ hy
theorem OpensA.cons {e : TypeId} {i : Nat} {is : List Nat} (ho : i * P.cellsOf e = o) (h : OpensN P fuel a e Q) (hs : OpensA P fuel e is (o + a.sz) b R) : OpensA P fuel e (i :: is) o (Kd.pair a b) (fun x => Q x.1 ∧ R x.2) := by
  intro H enc W cs xs hx hl
  simp only [List.mapM_cons] at hx
  rw [Option.bind_eq_bind, Option.bind_eq_some_iff] at hx
  obtain ⟨y, hy, hx⟩ := hx
  rw [Option.bind_eq_bind, Option.bind_eq_some_iff] at hx
  obtain ⟨ys, hys, _⟩ := hx
  rw [ho, h.1] at hy
  obtain ⟨u, hu, hq⟩ := h.2 H enc W _ _ hy
  obtain ⟨v, hv, hr⟩ := hs H enc W cs ys hys (by have : (Kd.pair a b).sz = a.sz + b.sz := rfl; omega)
  refine ⟨(u, v), ⟨(cs.drop o).take a.sz, (cs.drop o).drop a.sz, (List.take_append_drop _ _).symm, hu, ?_⟩, hq, hr⟩
  rw [List.drop_drop]
  exact hv
theorem OpensA.iso {γ : Type} {e : TypeId} {is : List Nat} (g : γ → α) (inv : α → γ) (hg : ∀ x, g (inv x) = x) (h : OpensA P fuel e is o a Q) : OpensA P fuel e is o (Kd.iso a g) (fun x => Q (g x)) := by
  intro H enc W cs xs hx hl
  obtain ⟨y, hy, hq⟩ := h H enc W cs xs hx hl
  exact ⟨inv y, by show a.K W (g (inv y)) _; rw [hg]; exact hy, by show Q (g (inv y)); rw [hg]; exact hq⟩
theorem OpensN.array {n : Nat} {e : TypeId} (hu : P.underlying t = some (.array n e)) (hc : P.cellsOf t = a.sz) (h : OpensA P fuel e (List.range n) 0 a Q) : OpensN P (fuel + 1) a t Q := by
  refine ⟨hc, fun H enc W cs x hx => ?_⟩
  have hx2 : (if cs.length = P.cellsOf t then ((List.range n).mapM fun i => DataW.trod enc P W 0 (fun _ => true) true fuel e ((cs.drop (i * P.cellsOf e)).take (P.cellsOf e))).map fun xs => (DataW.agg (xs.map (·.1)), xs.flatMap (·.2)) else Option.none) = some x := by
    rw [← hx]
    conv => rhs; unfold DataW.trod
    simp only [hu]
  split at hx2
  · rename_i hl
    rw [Option.map_eq_some_iff] at hx2
    obtain ⟨xs, hxs, _⟩ := hx2
    have := h H enc W cs xs hxs (by omega)
    simpa using this
  · simp at hx2
end
section
variable {P : Program} {t e : TypeId} {d : Kd α} {Q : α → Prop} {H : Type} {enc : TypeId × Value → H} {W : World} {D : DataW H} {p : List MemPlace} {v : Value}
/-- A struct that came in by value. -/
theorem agg_of {r : Reach} {base : Nat} {fs : Array Field} (hu : P.underlying t = some (.struct fs)) (hv : Value.okWide P W r base t v) (ho : Opens P d t Q) (h : DataW.Trod enc P W 0 (fun _ => true) true t v D p) : ∃ cs x, v = .agg cs ∧ d.K W x cs.toList ∧ Q x := by
  obtain ⟨cs, rfl, _⟩ := Go.WideShapes.okWide_struct hu hv
  obtain ⟨fuel, hf⟩ := h
  obtain ⟨x, hx, hq⟩ := (ho fuel).2 H enc W _ _ hf
  exact ⟨cs, x, rfl, hx, hq⟩
end
end Go.Proofs.Ytoeklekjhaigoaa.Open
end
section
namespace Go.Proofs.Ytoeklekjhaigoaa.WCond
open Go.Proofs.Ytoeklekjhaigoaa.Al Go.RowKit Go.Proofs.YtoeklekjhaigoaaW.PrintWords Go.Proofs.Ytoeklekjhaigoaa.Open Go.Proofs.Ytoeklekjhaigoaa.M0
set_option linter.unusedVariables false
set_option maxRecDepth 100000
inductive Q46 : S46 → Prop where
  | mk (x : S46) (h0 : (Lit.int .i64 x.f0).wf = true) (h1 : x.f1.length ≤ maxLen) (hk : ∀ y ∈ x.f1, Q46 y) (h2 : (Lit.int .i64 x.f2).wf = true) (h3 : (Lit.int .u64 x.f3).wf = true) (h4 : x.f4.size ≤ maxLen) (h5 : (Lit.int .u64 x.f5).wf = true) : Q46 x
theorem opens46_ : ∀ n fuel, fuel ≤ n → OpensN Try.prog fuel k46 46 Q46 := by
  intro n
  induction n with
  | zero =>
    intro fuel hf
    obtain rfl : fuel = 0 := by omega
    exact OpensN.none (by kernel_rfl)
  | succ n ih =>
    intro fuel hf
    cases fuel with
    | zero => exact OpensN.none (by kernel_rfl)
    | succ fuel =>
      have hs : OpensN Try.prog fuel (Kd.slice 46 k46) 44 (fun xs => xs.length ≤ maxLen ∧ ∀ x ∈ xs, Q46 x) := by
        cases fuel with
        | zero => exact OpensN.none (by kernel_rfl)
        | succ f => exact OpensN.slice Try.underlying44 (by kernel_rfl) (ih f (by omega))
      have h := OpensN.struct (t := 46) Try.underlying46 (by kernel_rfl) (OpensF.iso (fun x : S46 => (x.f0, x.f1, x.f2, x.f3, x.f4, x.f5)) (fun p => ⟨p.1, p.2.1, p.2.2.1, p.2.2.2.1, p.2.2.2.2.1, p.2.2.2.2.2⟩) (fun _ => rfl) (OpensF.cons (by kernel_rfl) (Opens.int .i64 Try.underlying3 (by kernel_rfl) fuel) (OpensF.cons (by kernel_rfl) hs (OpensF.cons (by kernel_rfl) (Opens.int .i64 Try.underlying3 (by kernel_rfl) fuel) (OpensF.cons (by kernel_rfl) (Opens.int .u64 Try.underlying30 (by kernel_rfl) fuel) (OpensF.cons (by kernel_rfl) (Opens.string Try.underlying9 (by kernel_rfl) fuel) (OpensF.last (by kernel_rfl) (Opens.int .u64 Try.underlying30 (by kernel_rfl) fuel))))))))
      refine ⟨h.1, fun H enc W cs x hx => ?_⟩
      obtain ⟨y, hy, h0, ⟨h1, hk⟩, h2, h3, h4, h5⟩ := h.2 H enc W cs x hx
      refine ⟨y, ?_, .mk y h0 h1 hk h2 h3 h4 h5⟩
      obtain ⟨_, _, rfl, e0, _, _, rfl, ⟨A1, c1, rfl, l1, g1⟩, _, _, rfl, e2, _, _, rfl, e3, _, _, rfl, e4, e5⟩ := hy
      have e0 : _ = [_] := e0
      have e2 : _ = [_] := e2
      have e3 : _ = [_] := e3
      have e4 : _ = [_] := e4
      have e5 : _ = [_] := e5
      subst e0 e2 e3 e4 e5
      exact k46_mk W y l1 g1
theorem opens46 : Opens Try.prog k46 46 Q46 := fun fuel => opens46_ fuel fuel (Nat.le_refl _)
end Go.Proofs.Ytoeklekjhaigoaa.WCond
end
section
namespace Go.Proofs.Ytoeklekjhaigoaa.StatTypesNots
open Go.Proofs.Ytoeklekjhaigoaa.Al Go.RowKit Go.Proofs.YtoeklekjhaigoaaW.PrintWords Go.Proofs.Ytoeklekjhaigoaa.Open Go.Proofs.Ytoeklekjhaigoaa.PTypesNots Go.Proofs.Ytoeklekjhaigoaa.Le Go.Proofs.Ytoeklekjhaigoaa.C1 Go.Proofs.Ytoeklekjhaigoaa.C2 Go.Proofs.Ytoeklekjhaigoaa.HAct Go.Proofs.Ytoeklekjhaigoaa.W0 Go.Proofs.Ytoeklekjhaigoaa.W1 Go.Proofs.Ytoeklekjhaigoaa.R01 Go.Proofs.Ytoeklekjhaigoaa.HUnpack Go.Proofs.Ytoeklekjhaigoaa.HRefPack Go.Proofs.Ytoeklekjhaigoaa.M0 Go.Proofs.Ytoeklekjhaigoaa.HMany Go.Proofs.Ytoeklekjhaigoaa.HCount Go.Proofs.Ytoeklekjhaigoaa.M1 Go.Proofs.Ytoeklekjhaigoaa.M2 Go.Proofs.Ytoeklekjhaigoaa.K49 Go.Proofs.Ytoeklekjhaigoaa.WCond Go.Proofs.Ytoeklekjhaigoaa.HAlive16
set_option maxRecDepth 100000
def Stat : Prop := ∀ (a0 : S46), Q46 a0 → doorwardlaw16_TypesNots.f a0.f0 a0.f1 a0.f2 a0.f3 a0.f4 a0.f5 = some true
end Go.Proofs.Ytoeklekjhaigoaa.StatTypesNots
end
section
namespace Go.Proofs.Ytoeklekjhaigoaa.Pure
open Go.Proofs.Ytoeklekjhaigoaa.Al Go.RowKit Go.Proofs.Ytoeklekjhaigoaa.StatTypesNots Go.Proofs.YtoeklekjhaigoaaW.PrintWords Go.Proofs.YtoeklekjhaigoaaW.PrintLast Go.Proofs.YtoeklekjhaigoaaW.PrintMore Go.Proofs.Ytoeklekjhaigoaa.PTypesNots Go.Proofs.Ytoeklekjhaigoaa.Le Go.Proofs.Ytoeklekjhaigoaa.C1 Go.Proofs.Ytoeklekjhaigoaa.C2 Go.Proofs.Ytoeklekjhaigoaa.HAct Go.Proofs.Ytoeklekjhaigoaa.W0 Go.Proofs.Ytoeklekjhaigoaa.W1 Go.Proofs.Ytoeklekjhaigoaa.R01 Go.Proofs.Ytoeklekjhaigoaa.HUnpack Go.Proofs.Ytoeklekjhaigoaa.HRefPack Go.Proofs.Ytoeklekjhaigoaa.M0 Go.Proofs.Ytoeklekjhaigoaa.HMany Go.Proofs.Ytoeklekjhaigoaa.HCount Go.Proofs.Ytoeklekjhaigoaa.M1 Go.Proofs.Ytoeklekjhaigoaa.M2 Go.Proofs.Ytoeklekjhaigoaa.K49 Go.Proofs.Ytoeklekjhaigoaa.WCond Go.Proofs.Ytoeklekjhaigoaa.HAlive16
set_option linter.unusedVariables false
theorem TypesNots : StatTypesNots.Stat := by
  intro c _
  rfl
end Go.Proofs.Ytoeklekjhaigoaa.Pure
end
section
namespace Go.Proofs.Ytoeklekjhaigoaa.typesNots
open Go.ChangeShapes Go.WideShapes Go.ChangeAt Go.RowKit Go.Proofs.Ytoeklekjhaigoaa.Open Go.Proofs.Ytoeklekjhaigoaa.StatTypesNots Go.Proofs.YtoeklekjhaigoaaW.PrintWords Go.Proofs.Ytoeklekjhaigoaa.PTypesNots Go.Proofs.Ytoeklekjhaigoaa.Le Go.Proofs.Ytoeklekjhaigoaa.C1 Go.Proofs.Ytoeklekjhaigoaa.C2 Go.Proofs.Ytoeklekjhaigoaa.HAct Go.Proofs.Ytoeklekjhaigoaa.W0 Go.Proofs.Ytoeklekjhaigoaa.W1 Go.Proofs.Ytoeklekjhaigoaa.R01 Go.Proofs.Ytoeklekjhaigoaa.HUnpack Go.Proofs.Ytoeklekjhaigoaa.HRefPack Go.Proofs.Ytoeklekjhaigoaa.M0 Go.Proofs.Ytoeklekjhaigoaa.HMany Go.Proofs.Ytoeklekjhaigoaa.HCount Go.Proofs.Ytoeklekjhaigoaa.M1 Go.Proofs.Ytoeklekjhaigoaa.M2 Go.Proofs.Ytoeklekjhaigoaa.K49 Go.Proofs.Ytoeklekjhaigoaa.WCond Go.Proofs.Ytoeklekjhaigoaa.HAlive16
open Go.ChangeMaps (open_string shut_string)
set_option linter.unusedVariables false
open Go.Proofs.Ytoeklekjhaigoaa.Order (own laidOut)
open Go.Proofs.Ytoeklekjhaigoaa
set_option maxRecDepth 100000 in
set_option maxHeartbeats 1000000 in
theorem lifted (os : Os) (started : os.Started) (H : Type) (enc : TypeId × Value → H) :
    ReturnsInHanded {} Try.checked os 23 .any (Rows.typesNotsSpec.pre6 enc Try.prog Try.f23 Rows.typesNotsRow.domain false) (Rows.typesNotsSpec.post enc Try.prog Try.f23 false true false false) := by
  refine returnsInHanded_of_change_sized (C := Try.checked) own started (by kernel_rfl) Try.func23
    (ChangeSpec.witness6 (enc := enc) (C := Try.checked) false ⟨#[], #[.agg #[(.int .i64 0), (.slice none 0 0), (.int .i64 0), (.int .u64 0), (.string ByteArray.empty), (.int .u64 0)]], []⟩ 20 (by kernel_rfl) (by kernel_rfl) (by kernel_rfl) (by kernel_rfl)) ?_
  intro W base args ds gs before hval0 hW hcnd hsz0 _
  have hsz : (DataW.weightsEach Try.prog (Try.f23.params.toList ++ Rows.typesNotsSpec.plain.varTypes Try.prog) (ds ++ gs)).all (· ≤ reachBytes) = true := hsz0
  have hval : ∀ (j : Nat) t v, Try.f23.params[j]? = some t → args[j]? = some v → Value.okWide Try.prog W .any base t v := hval0
  have hW' := hW
  obtain ⟨p, q, hA0, hV, rfl, hfz, hnd⟩ := hW
  have hA : DataW.TrodAll enc Try.prog W 0 (fun _ => true) true Try.f23.params.toList args.toList ds p := hA0
  rw [Try.params23] at hA hval hsz
  obtain ⟨v0, vs0, d0, ds0, p0, q0, hargs, rfl, rfl, h0, r0⟩ := trodAll_cons hA
  obtain ⟨rfl, rfl, rfl⟩ := trodAll_nil r0
  obtain rfl : args = #[v0] := by cases args; simp_all
  obtain ⟨rfl, rfl⟩ := trodVars_none hV
  have k0_ := h0
  have lt0 : ∀ x ∈ p0, x.block < W.heap.size := by obtain ⟨m, hm⟩ := k0_; exact DataW.trod_lt m _ _ _ hm
  obtain ⟨cs0, x0, rfl, hx0, hq0⟩ := agg_of Try.underlying46 (hval 0 46 v0 rfl rfl) opens46 h0
  obtain ⟨A0_1, c0_1, ho0, hl0_1, hg0_1⟩ := k46_open hx0
  obtain rfl : cs0 = #[.int .i64 x0.f0, .slice A0_1 x0.f1.length c0_1, .int .i64 x0.f2, .int .u64 x0.f3, .string x0.f4, .int .u64 x0.f5] := Array.ext' ho0
  clear hA0 hval0 hsz0 hsz
  have hk := Pure.TypesNots x0 hq0
  refine (doorwardlaw16_TypesNots.calls (hr0_1 := hg0_1) (hc0_1 := hl0_1) (r := true) (w := W) (h := hk)).mono ?_
  rintro e W' ⟨rfl, bel0⟩
  have bel := bel0
  exact ⟨_, rfl, _, _, _, [], _, [], hW', trodAll_mk1 (shut_bool Try.underlying4 _), (trodAll_cons_mk (Below.trod laidOut (by kernel_rfl) (of_decide_eq_true (by kernel_rfl)) k0_ bel lt0) trodAll_mk0), rfl, bel.frame _, fun h => by cases h⟩
set_option maxHeartbeats 4000000 in
theorem facts : joinedFacts Try.prog 23 Try.f23 Rows.typesNotsSpec Rows.typesNotsRow = true := by
  unfold joinedFacts
  repeat' (with_reducible refine (Bool.and_eq_true_iff).mpr ⟨?_, ?_⟩)
  all_goals first | (with_reducible exact Order.laidOut) | (with_reducible exact Order.mapsRowed) | (with_reducible exact Order.noStops) | (with_reducible exact Order.noKnobs) | (with_reducible exact Order.enter) | (with_reducible exact Order.heard) | (rw [Order.makes]; rfl) | (rw [Order.lifts]; rfl) | (as_aux_lemma => kernel_rfl)
theorem named : Try.prog.funcNamed "doorward/doorwardlaw16.TypesNots" = some 23 := by kernel_rfl
theorem inst : Try.f23.isInstance Try.prog Rows.typesNotsRow.origin Rows.typesNotsRow.targs := of_decide_eq_true (by kernel_rfl)
theorem wrap : Try.f23.isWrapper Try.prog Rows.typesNotsRow.wrapper Rows.typesNotsRow.mainSum := by unfold Func.isWrapper; first | (rw [if_pos (by decide +kernel)]; kernel_rfl) | (rw [if_neg (by decide +kernel)]; exact ⟨rfl, rfl⟩)
theorem over : Rows.typesNotsRow.holds Try.pinned (OpenSpec.ofChange Rows.typesNotsSpec) :=
  OpenClaim.holds_of_wide 23 Try.f23 rfl rfl rfl rfl rfl rfl rfl ⟨rfl, rfl, rfl, rfl, rfl⟩ rfl rfl rfl rfl rfl named Try.func23 facts inst wrap
    (fun os started H enc _ => lifted os started H enc)
theorem proved : Rows.TypesNotsSaid := over
#print axioms proved
end Go.Proofs.Ytoeklekjhaigoaa.typesNots
namespace Go.Proofs.Ytoeklekjhaigoaa
/-- The row, under a short name, for the claim. -/
theorem typesNots_holds : Rows.TypesNotsSaid := typesNots.proved
end Go.Proofs.Ytoeklekjhaigoaa
end
