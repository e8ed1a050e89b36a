-- Written by a program of this session (wip/tools/unit.py) with the kit's print.
import Derived.Test.YtoeklekjhaigoaaProg
import Derived.Below
import Derived.Deep.Draws
import Derived.Deep.AppendLies
import Derived.Maps.AppendAt
import Derived.OwnWalk
import Derived.Laws.BytesArg
import Derived.Laws.MakeOwn
import Derived.Laws.OwnMore
import Derived.Deep.OwnRows
import Derived.Tactics
import Derived.Lib.ConvBytes
import Derived.Laws.Slices
import Derived.WalkKit
import Derived.KernelRfl
import Derived.RowKit3
import Derived.Deep.LoopGhost
import Derived.Deep.QuietTactic
import Derived.BigQuiet
import Derived.WideLaws
import Derived.Deep.DeepCutAuto
import Derived.Deep.CutBlock
import Derived.Deep.RegionHeld3
import Derived.Laws.Rows
import Derived.Lib.AppendStr
import Derived.ArgAppend
import Derived.Laws.IdiomCopy
import Derived.OrdersHeld
import Derived.Laws.BitsLemmas
import Derived.RowKit
import Derived.Test.YtoeklekjhaigoaaLex0
import Derived.Test.YtoeklekjhaigoaaLex1
import Derived.Test.YtoeklekjhaigoaaWWords
import Derived.Test.YtoeklekjhaigoaaWLast
import Derived.Test.YtoeklekjhaigoaaWTab
import Derived.Test.YtoeklekjhaigoaaWFour
import Derived.Test.YtoeklekjhaigoaaWQPut
import Derived.Test.YtoeklekjhaigoaaWApart
import Derived.Test.YtoeklekjhaigoaaWArr
import Derived.Test.YtoeklekjhaigoaaWZeros
import Derived.Test.YtoeklekjhaigoaaWFoot
import Derived.Test.YtoeklekjhaigoaaWKept
import Derived.Test.YtoeklekjhaigoaaWShare
import Derived.Test.YtoeklekjhaigoaaWN
import Derived.Test.YtoeklekjhaigoaaWFootNe
import Derived.Test.YtoeklekjhaigoaaWAt
import Derived.Test.YtoeklekjhaigoaaWEqStruct
import Derived.Test.YtoeklekjhaigoaaWRepsOne
import Derived.Test.YtoeklekjhaigoaaWInv
import Derived.Test.YtoeklekjhaigoaaWInvWords
import Derived.Test.YtoeklekjhaigoaaWGuard
import Derived.Test.YtoeklekjhaigoaaWNEv
import Derived.Test.YtoeklekjhaigoaaWMore
namespace Go.Proofs.Ytoeklekjhaigoaa.C1
open Go.RowKit Go.Proofs.YtoeklekjhaigoaaW.PrintWords Go.Proofs.YtoeklekjhaigoaaW.PrintLast Go.Proofs.YtoeklekjhaigoaaW.PrintMore
attribute [local go_sem] max2_int min2_int max_two min_two max_three min_three max_four min_four IntKind.wrap_u32 IntKind.wrap_u8   -- for this text's walks alone
set_option linter.unusedVariables false
open Go.Proofs.Ytoeklekjhaigoaa.Le
set_option linter.unusedSimpArgs false



def errW : Option Int → Value
  | none => .nilIface
  | some c => .iface 0 (.int .i64 c)
theorem errW_none : errW none = .nilIface := rfl
theorem errW_some (c : Int) : errW (some c) = .iface 0 (.int .i64 c) := rfl

theorem info112 : (Try.prog.info? 112).map (fun i => (i.zero, i.size, i.bytes)) = some (some (.agg #[(.string ⟨#[]⟩), (.int .i64 0), (.int .i64 0)]), 3, 32) := by kernel_rfl
-- the values' own types
/-! #### struct type 112 -/
structure S112 where
  f0 : ByteArray
  f1 : Int
  f2 : Int
def z112 : S112 := ⟨(⟨#[]⟩ : ByteArray), (0 : Int), (0 : Int)⟩
def k112 : Kd S112 := Kd.iso (Kd.pair Kd.string (Kd.pair (Kd.int .i64) (Kd.int .i64))) (fun x : S112 => (x.f0, x.f1, x.f2))
theorem k112_heap : Kd.Heap k112 := Kd.heap_iso _ (Kd.heap_pair Kd.heap_string (Kd.heap_pair (Kd.heap_int .i64) (Kd.heap_int .i64)))
theorem k112_open {w : World} {x : S112} {cs : List Value} (h : k112.K w x cs) : cs = [.string x.f0, .int .i64 x.f1, .int .i64 x.f2] := by
  obtain ⟨_, _, rfl, rfl, ⟨_, _, rfl, rfl, rfl⟩⟩ := h
  exact rfl
theorem k112_openM {w : World} {base : Nat} {ok : Nat → Prop} {x : S112} {cs : List Value} (h : k112.M w base ok x cs) : cs = [.string x.f0, .int .i64 x.f1, .int .i64 x.f2] := by
  obtain ⟨_, _, rfl, rfl, ⟨_, _, rfl, rfl, rfl⟩⟩ := h
  exact rfl
theorem k112_mk (w : World) (x : S112)  : k112.K w x [.string x.f0, .int .i64 x.f1, .int .i64 x.f2] := ⟨[.string x.f0], [.int .i64 x.f1, .int .i64 x.f2], rfl, rfl, ⟨[.int .i64 x.f1], [.int .i64 x.f2], rfl, rfl, rfl⟩⟩
theorem k112_mkM (w : World) (base : Nat) (ok : Nat → Prop) (x : S112)  : k112.M w base ok x [.string x.f0, .int .i64 x.f1, .int .i64 x.f2] := ⟨[.string x.f0], [.int .i64 x.f1, .int .i64 x.f2], rfl, rfl, ⟨[.int .i64 x.f1], [.int .i64 x.f2], rfl, rfl, rfl⟩⟩
theorem k112_mkF (W : World) (ok : Nat → Prop) (x : S112) : Kd.FK k112 W ok x [.string x.f0, .int .i64 x.f1, .int .i64 x.f2] := fun W2 _ => k112_mk W2 x
def rd_T112 (xs : List S112) (i : Int) : S112 := xs.getD i.toNat z112
theorem at_T112 {w : World} {A : Option Addr} {n : Nat} {xs : List S112} (h : Kd.C k112 w A n xs) (i : Int) (h0 : 0 ≤ i) (h1 : i < n) : ∃ ad , A = some ad ∧ w.cell? (ad.add (i.toNat * 3)) = some (.string (rd_T112 xs i).f0) ∧ w.cell? ⟨(ad.add (i.toNat * 3)).block, (ad.add (i.toNat * 3)).off + 1, none⟩ = some (.int .i64 (rd_T112 xs i).f1) ∧ w.cell? ⟨(ad.add (i.toNat * 3)).block, (ad.add (i.toNat * 3)).off + 2, none⟩ = some (.int .i64 (rd_T112 xs i).f2) := by
  obtain ⟨ad, c, e, _, hK, hc0⟩ := Kd.C_get h z112 i h0 h1
  have hc : ∀ j u, c[j]? = some u → w.cell? (ad.add (i.toNat * 3 + j)) = some u := hc0
  obtain rfl := k112_open hK
  exact ⟨ad, e, hc 0 _ rfl, by rw [← add_field _ _ 1 (by omega)]; exact hc 1 _ rfl, by rw [← add_field _ _ 2 (by omega)]; exact hc 2 _ rfl⟩

end Go.Proofs.Ytoeklekjhaigoaa.C1
