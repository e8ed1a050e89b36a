-- Written by a program of this session (wip/tools/unit.py) with the kit's print.
import Derived.Test.YtoeklekjhaigoaaProg
import Derived.Below
import Derived.Deep.Draws
import Derived.Deep.AppendLies
import Derived.Maps.AppendAt
import Derived.OwnWalk
import Derived.Laws.BytesArg
import Derived.Laws.MakeOwn
import Derived.Laws.OwnMore
import Derived.Deep.OwnRows
import Derived.Tactics
import Derived.Lib.ConvBytes
import Derived.Laws.Slices
import Derived.WalkKit
import Derived.KernelRfl
import Derived.RowKit3
import Derived.Deep.LoopGhost
import Derived.Deep.QuietTactic
import Derived.BigQuiet
import Derived.WideLaws
import Derived.Deep.DeepCutAuto
import Derived.Deep.CutBlock
import Derived.Deep.RegionHeld3
import Derived.Laws.Rows
import Derived.Lib.AppendStr
import Derived.ArgAppend
import Derived.Laws.IdiomCopy
import Derived.OrdersHeld
import Derived.Laws.BitsLemmas
import Derived.RowKit
import Derived.Test.YtoeklekjhaigoaaLex0
import Derived.Test.YtoeklekjhaigoaaLex1
import Derived.Test.YtoeklekjhaigoaaC1x0
import Derived.Test.YtoeklekjhaigoaaC1x1
import Derived.Test.YtoeklekjhaigoaaC2x0
import Derived.Test.YtoeklekjhaigoaaC2x1
import Derived.Test.YtoeklekjhaigoaaHAct
import Derived.Test.YtoeklekjhaigoaaWWords
import Derived.Test.YtoeklekjhaigoaaWLast
import Derived.Test.YtoeklekjhaigoaaWTab
import Derived.Test.YtoeklekjhaigoaaWFour
import Derived.Test.YtoeklekjhaigoaaWQPut
import Derived.Test.YtoeklekjhaigoaaWApart
import Derived.Test.YtoeklekjhaigoaaWArr
import Derived.Test.YtoeklekjhaigoaaWZeros
import Derived.Test.YtoeklekjhaigoaaWFoot
import Derived.Test.YtoeklekjhaigoaaWKept
import Derived.Test.YtoeklekjhaigoaaWShare
import Derived.Test.YtoeklekjhaigoaaWN
import Derived.Test.YtoeklekjhaigoaaWFootNe
import Derived.Test.YtoeklekjhaigoaaWAt
import Derived.Test.YtoeklekjhaigoaaWEqStruct
import Derived.Test.YtoeklekjhaigoaaWRepsOne
import Derived.Test.YtoeklekjhaigoaaWInv
import Derived.Test.YtoeklekjhaigoaaWInvWords
import Derived.Test.YtoeklekjhaigoaaWGuard
import Derived.Test.YtoeklekjhaigoaaWNEv
import Derived.Test.YtoeklekjhaigoaaWMore
namespace Go.Proofs.Ytoeklekjhaigoaa.W0
open Go.RowKit Go.Proofs.YtoeklekjhaigoaaW.PrintWords Go.Proofs.YtoeklekjhaigoaaW.PrintLast Go.Proofs.YtoeklekjhaigoaaW.PrintMore
attribute [local go_sem] max2_int min2_int max_two min_two max_three min_three max_four min_four IntKind.wrap_u32 IntKind.wrap_u8   -- for this text's walks alone
set_option linter.unusedVariables false
open Go.Proofs.Ytoeklekjhaigoaa.Le Go.Proofs.Ytoeklekjhaigoaa.C1 Go.Proofs.Ytoeklekjhaigoaa.C2 Go.Proofs.Ytoeklekjhaigoaa.HAct
set_option linter.unusedSimpArgs false



def errW : Option Int → Value
  | none => .nilIface
  | some c => .iface 0 (.int .i64 c)
theorem errW_none : errW none = .nilIface := rfl
theorem errW_some (c : Int) : errW (some c) = .iface 0 (.int .i64 c) := rfl

theorem info40 : (Try.prog.info? 40).map (fun i => (i.zero, i.size, i.bytes)) = some (some (.agg #[(.int .i64 0), (.int .u32 0), (.int .i64 0), (.int .i64 0)]), 4, 32) := by kernel_rfl
-- the values' own types

/-! #### struct type 40 -/
structure S40 where
  f0 : Int
  f1 : Int
  f2 : Int
  f3 : Int
def z40 : S40 := ⟨(0 : Int), (0 : Int), (0 : Int), (0 : Int)⟩
def k40 : Kd S40 := Kd.iso (Kd.pair (Kd.int .i64) (Kd.pair (Kd.int .u32) (Kd.pair (Kd.int .i64) (Kd.int .i64)))) (fun x : S40 => (x.f0, x.f1, x.f2, x.f3))
theorem k40_heap : Kd.Heap k40 := Kd.heap_iso _ (Kd.heap_pair (Kd.heap_int .i64) (Kd.heap_pair (Kd.heap_int .u32) (Kd.heap_pair (Kd.heap_int .i64) (Kd.heap_int .i64))))
theorem k40_open {w : World} {x : S40} {cs : List Value} (h : k40.K w x cs) : cs = [.int .i64 x.f0, .int .u32 x.f1, .int .i64 x.f2, .int .i64 x.f3] := by
  obtain ⟨_, _, rfl, rfl, ⟨_, _, rfl, rfl, ⟨_, _, rfl, rfl, rfl⟩⟩⟩ := h
  exact rfl
theorem k40_openM {w : World} {base : Nat} {ok : Nat → Prop} {x : S40} {cs : List Value} (h : k40.M w base ok x cs) : cs = [.int .i64 x.f0, .int .u32 x.f1, .int .i64 x.f2, .int .i64 x.f3] := by
  obtain ⟨_, _, rfl, rfl, ⟨_, _, rfl, rfl, ⟨_, _, rfl, rfl, rfl⟩⟩⟩ := h
  exact rfl
theorem k40_mk (w : World) (x : S40)  : k40.K w x [.int .i64 x.f0, .int .u32 x.f1, .int .i64 x.f2, .int .i64 x.f3] := ⟨[.int .i64 x.f0], [.int .u32 x.f1, .int .i64 x.f2, .int .i64 x.f3], rfl, rfl, ⟨[.int .u32 x.f1], [.int .i64 x.f2, .int .i64 x.f3], rfl, rfl, ⟨[.int .i64 x.f2], [.int .i64 x.f3], rfl, rfl, rfl⟩⟩⟩
theorem k40_mkM (w : World) (base : Nat) (ok : Nat → Prop) (x : S40)  : k40.M w base ok x [.int .i64 x.f0, .int .u32 x.f1, .int .i64 x.f2, .int .i64 x.f3] := ⟨[.int .i64 x.f0], [.int .u32 x.f1, .int .i64 x.f2, .int .i64 x.f3], rfl, rfl, ⟨[.int .u32 x.f1], [.int .i64 x.f2, .int .i64 x.f3], rfl, rfl, ⟨[.int .i64 x.f2], [.int .i64 x.f3], rfl, rfl, rfl⟩⟩⟩
theorem k40_mkF (W : World) (ok : Nat → Prop) (x : S40) : Kd.FK k40 W ok x [.int .i64 x.f0, .int .u32 x.f1, .int .i64 x.f2, .int .i64 x.f3] := fun W2 _ => k40_mk W2 x
def rd_T40 (xs : List S40) (i : Int) : S40 := xs.getD i.toNat z40
theorem at_T40 {w : World} {A : Option Addr} {n : Nat} {xs : List S40} (h : Kd.C k40 w A n xs) (i : Int) (h0 : 0 ≤ i) (h1 : i < n) : ∃ ad , A = some ad ∧ w.cell? (ad.add (i.toNat * 4)) = some (.int .i64 (rd_T40 xs i).f0) ∧ w.cell? ⟨(ad.add (i.toNat * 4)).block, (ad.add (i.toNat * 4)).off + 1, none⟩ = some (.int .u32 (rd_T40 xs i).f1) ∧ w.cell? ⟨(ad.add (i.toNat * 4)).block, (ad.add (i.toNat * 4)).off + 2, none⟩ = some (.int .i64 (rd_T40 xs i).f2) ∧ w.cell? ⟨(ad.add (i.toNat * 4)).block, (ad.add (i.toNat * 4)).off + 3, none⟩ = some (.int .i64 (rd_T40 xs i).f3) := by
  obtain ⟨ad, c, e, _, hK, hc0⟩ := Kd.C_get h z40 i h0 h1
  have hc : ∀ j u, c[j]? = some u → w.cell? (ad.add (i.toNat * 4 + j)) = some u := hc0
  obtain rfl := k40_open hK
  exact ⟨ad, e, hc 0 _ rfl, by rw [← add_field _ _ 1 (by omega)]; exact hc 1 _ rfl, by rw [← add_field _ _ 2 (by omega)]; exact hc 2 _ rfl, by rw [← add_field _ _ 3 (by omega)]; exact hc 3 _ rfl⟩

end Go.Proofs.Ytoeklekjhaigoaa.W0
