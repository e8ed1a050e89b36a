/- insn.All, walked: over insn.Put's contract and strings.Builder's. -/
import Derived.Test.YtefkhcijgiagdaaProg
import Derived.Below
import Derived.Deep.Draws
import Derived.Deep.AppendLies
import Derived.Maps.AppendAt
import Derived.OwnWalk
import Derived.Laws.BytesArg
import Derived.Laws.MakeOwn
import Derived.Laws.OwnMore
import Derived.Deep.OwnRows
import Derived.Tactics
import Derived.Lib.ConvBytes
import Derived.Laws.Slices
import Derived.WalkKit
import Derived.KernelRfl
import Derived.RowKit3
import Derived.Deep.LoopGhost
import Derived.Deep.QuietTactic
import Derived.BigQuiet
import Derived.WideLaws
import Derived.Deep.DeepCutAuto
import Derived.Deep.CutBlock
import Derived.Deep.RegionHeld3
import Derived.Laws.Rows
import Derived.Lib.AppendStr
import Derived.ArgAppend
import Derived.Laws.IdiomCopy
import Derived.OrdersHeld
import Derived.Laws.BitsLemmas
import Derived.RowKit
import Derived.Test.YtefkhcijgiagdaaWWords
import Derived.Test.YtefkhcijgiagdaaWLast
import Derived.Test.YtefkhcijgiagdaaWTab
import Derived.Test.YtefkhcijgiagdaaWFour
import Derived.Test.YtefkhcijgiagdaaWQPut
import Derived.Test.YtefkhcijgiagdaaWApart
import Derived.Test.YtefkhcijgiagdaaWArr
import Derived.Test.YtefkhcijgiagdaaWZeros
import Derived.Test.YtefkhcijgiagdaaWFoot
import Derived.Test.YtefkhcijgiagdaaWKept
import Derived.Test.YtefkhcijgiagdaaWShare
import Derived.Test.YtefkhcijgiagdaaWN
import Derived.Test.YtefkhcijgiagdaaWFootNe
import Derived.Test.YtefkhcijgiagdaaWAt
import Derived.Test.YtefkhcijgiagdaaWEqStruct
import Derived.Test.YtefkhcijgiagdaaWRepsOne
import Derived.Test.YtefkhcijgiagdaaWInv
import Derived.Test.YtefkhcijgiagdaaWInvWords
import Derived.Test.YtefkhcijgiagdaaWGuard
import Derived.Test.YtefkhcijgiagdaaWNEv
import Derived.Test.YtefkhcijgiagdaaWMore
import Derived.Laws.Tables
import Derived.Laws.CopyOwn
import Derived.Deep.WholeRow
import Derived.ChangeKeysEq
import Derived.Shelf.Abstract
import Derived.Deep.RegionLaw
import Derived.Maps.OwnSet
import Derived.Test.YtefkhcijgiagdaaI1x0
import Derived.Test.YtefkhcijgiagdaaHPut
import Derived.Test.YtefkhcijgiagdaaQIn
import Derived.Test.YtefkhcijgiagdaaHBld
namespace Go.Proofs.Ytefkhcijgiagdaa.HAll
open Go.RowKit Go.Proofs.YtefkhcijgiagdaaW.PrintWords Go.Proofs.YtefkhcijgiagdaaW.PrintLast Go.Proofs.YtefkhcijgiagdaaW.PrintMore Go.Proofs.Ytefkhcijgiagdaa.I1 Go.Proofs.Ytefkhcijgiagdaa.HPut Go.Proofs.Ytefkhcijgiagdaa.QIn Go.Proofs.Ytefkhcijgiagdaa.QLe Go.Proofs.Ytefkhcijgiagdaa.QNum
set_option linter.unusedVariables false
set_option linter.unusedSimpArgs false
set_option maxRecDepth 100000
theorem builder_below {T e : TypeId} {B b : Nat} {bs : List Value} {w w' : World} (h : Lib.IsBuilderF T e B b bs w) (hb : Below w.heap.size w w') : Lib.IsBuilderF T e B b bs w' := by
  have key : ∀ p, Lib.BuilderAtF T e B b p bs w → Lib.BuilderAtF T e B b p bs w' := by
    rintro p ⟨hB, v, hv, ⟨h1, h2⟩, hne⟩
    refine ⟨hB, v, (hb.block b (Array.getElem?_eq_some_iff.1 hv).1).trans hv, ⟨h1, ?_⟩, hne⟩
    rcases h2 with h2 | ⟨g, cap, cur, fz, rfl, hg, hh, rest⟩
    · exact .inl h2
    · exact .inr ⟨g, cap, cur, fz, rfl, hg, (hb.block g (Array.getElem?_eq_some_iff.1 hh).1).trans hh, rest⟩
  exact h.elim (fun x => .inl (key _ x)) (fun x => .inr (key _ x))
def okI (i : S28) : Bool := putOk i.f0 i.f1 i.f2
def byI (i : S28) : List UInt8 := QIn.bytes i.f0 i.f1 i.f2 i.f3
def rgI (i : S28) : Prop := (-9223372036854775808 ≤ i.f0 ∧ i.f0 ≤ 9223372036854775807) ∧ (-9223372036854775808 ≤ i.f1 ∧ i.f1 ≤ 9223372036854775807) ∧ (-9223372036854775808 ≤ i.f2 ∧ i.f2 ≤ 9223372036854775807) ∧ 0 ≤ i.f3 ∧ i.f3 < 4294967296
def allB : List S28 → Option (List UInt8)
  | [] => some []
  | i :: l => if okI i = true then (allB l).map (byI i ++ ·) else none
theorem allB_append : ∀ a b : List S28, allB (a ++ b) = (allB a).bind fun x => (allB b).map (x ++ ·) := by
  intro a b
  induction a with
  | nil => simp [allB]
  | cons i a ih =>
    rw [List.cons_append, allB, allB, ih]
    split
    · cases allB a with
      | none => rfl
      | some x => cases allB b <;> simp
    · rfl
theorem byI_length (i : S28) : (byI i).length = 8 := bytes_length _ _ _ _
theorem allB_length : ∀ (l : List S28) (x : List UInt8), allB l = some x → x.length = 8 * l.length := by
  intro l
  induction l with
  | nil => intro x h; cases h; rfl
  | cons i l ih =>
    intro x h
    rw [allB] at h
    split at h
    · obtain ⟨y, hy, rfl⟩ := Option.map_eq_some_iff.1 h
      rw [List.length_append, byI_length, ih y hy, List.length_cons]; omega
    · cases h
def allR (l : List S28) : ByteArray × Int := if 4096 < l.length then (⟨#[]⟩, 2) else match allB l with | some x => (⟨x.toArray⟩, 0) | none => (⟨#[]⟩, 1)
theorem rd28 (l : List S28) (j : Nat) (h : j < l.length) : rd_T28 l (j : Int) = l[j] := by
  unfold rd_T28; simp [List.getD, h]
theorem allB_take (l : List S28) (j : Nat) (h : j < l.length) (acc : List UInt8) (ha : allB (l.take j) = some acc) :
    (okI (rd_T28 l (j : Int)) = true → allB (l.take (j + 1)) = some (acc ++ byI (rd_T28 l (j : Int)))) ∧ (okI (rd_T28 l (j : Int)) = false → allB l = none) := by
  rw [rd28 l j h]
  constructor
  · intro ho
    rw [List.take_succ_eq_append_getElem h, allB_append, ha]
    simp [allB, ho]
  · intro ho
    have e : l = l.take j ++ l[j] :: l.drop (j + 1) := by rw [← List.drop_eq_getElem_cons h, List.take_append_drop]
    rw [e, allB_append, ha]
    simp [allB, ho]
def AllPost (l : List S28) (w : World) (e : Ending) (w' : World) : Prop := e = .returned (.tuple #[.string (allR l).1, .int .i64 (allR l).2]) ∧ Below w.heap.size w w'
set_option maxHeartbeats 2000000 in
theorem all_any (A : Option Addr) (c0 : Nat) (l : List S28) (w : World) (hC : Kd.C k28 w A l.length l) (hl : l.length ≤ 1000000) (hrg : ∀ i ∈ l, rgI i) :
    Calls Try.prog 61 #[.slice A l.length c0] w (AllPost l w) := by
  by_cases hbig : 4096 < l.length
  · have hd : decide ((4096 : Int) < (l.length : Int)) = true := decide_eq_true (by omega)
    have HP : ∀ w', Below w.heap.size w w' → AllPost l w (.returned (.tuple #[.string ⟨#[]⟩, .int .i64 2])) w' := fun w' hb => ⟨by unfold allR; rw [if_pos hbig], hb⟩
    clear hC hrg
    go_enter Try.func61, Try.ntmps61
    go_wp2
    go_ret2
    exact HP _ (Below.refl _ _)
  · have hd : decide ((4096 : Int) < (l.length : Int)) = false := decide_eq_false (by omega)
    have HR := Aside0.mk hrg
    have HC := Aside0.mk hC
    clear hC hrg
    go_enter Try.func61, Try.ntmps61
    go_wp2
    go_loopw [14] (fun i wr => ∃ (j : Nat) (acc : List UInt8), j ≤ l.length ∧ i = .int .i64 j ∧ allB (l.take j) = some acc ∧ Aside0 (Lib.IsBuilderF 128 5 w.heap.size w.heap.size (Lib.byteCells acc) wr) ∧ Aside0 (Below w.heap.size w wr)) (fun i _ => l.length - (intOf i).toNat)
    case atStart => exact ⟨0, [], by omega, rfl, rfl, ⟨Lib.IsBuilderF.of (Lib.fresh_isBuilder 128 5 w)⟩, ⟨below_alloc (Below.refl _ _) _⟩⟩
    case round =>
      obtain ⟨j, acc, hj, rfl, hacc, hI, hb⟩ := hrel
      have hlen := allB_length _ _ hacc
      rw [List.length_take] at hlen
      by_cases hlt : j < l.length
      · have hdj : decide ((j : Int) < (l.length : Int)) = true := decide_eq_true (by omega)
        obtain ⟨ad, e102, hx0, hx1, hx2, hx3⟩ := at_T28 (Kd.C_below HC.out hb.out) (j : Int) (by omega) (by omega)
        cases e102
        simp only [Int.toNat_natCast] at hx0 hx1 hx2 hx3
        have hstep := allB_take l j hlt acc hacc
        have hg := HR.out (rd_T28 l (j : Int)) (by rw [rd28 l j hlt]; exact List.getElem_mem hlt)
        generalize rd_T28 l (j : Int) = x at hx0 hx1 hx2 hx3 hstep hg
        obtain ⟨a, b, c, d⟩ := x
        obtain ⟨g0, g1, g2, g3⟩ := hg
        simp only at g0 g1 g2 g3 hx0 hx1 hx2 hx3
        have hput := put_f a b c d g0 g1 g2 g3
        cases hok : putOk a b c with
        | true =>
          rw [hok, if_pos rfl] at hput
          have hcall := fun W => insn_Put.calls a b c d _ _ W hput
          have hs := Aside0.mk (hstep.1 hok)
          have hsz := putOut_size8 a b c d
          have hsd : Lib.strCells (putOut a b c d 4) = Lib.byteCells (QIn.bytes a b c d) := by rw [Lib.strCells_eq, putOut_data]
          have hsd := Aside0.mk hsd
          clear hstep hput g0 g1 g2 g3
          generalize putOut a b c d 4 = st at *
          go_wp2_with (first | (go_at_call 32; refine (hcall _).mono ?_; rintro e w1 ⟨rfl, hb1⟩) | (go_at_call 104; refine (HBld.writeString w.heap.size w.heap.size _ st _ (builder_below (hI.out.alloc (.cells #[.int .i64 a, .int .i64 b, .int .i64 c, .int .u32 d] 28)) hb1) (by rw [Lib.byteCells_length]; omega) (below_step (below_alloc hb.out (.cells #[.int .i64 a, .int .i64 b, .int .i64 c, .int .u32 d] 28)) hb1).size).mono ?_; rintro e w2 ⟨rfl, h2, hb2, _⟩))
          go_roundw
          case rel =>
            refine ⟨j + 1, acc ++ QIn.bytes a b c d, by omega, by go_num, hs.out, ⟨?_⟩, ⟨(below_step (below_alloc hb.out _) hb1).trans hb2⟩⟩
            rw [Lib.byteCells_append, ← hsd.out]; exact Or.inr h2
          case measure => simp [intOf]; omega
        | false =>
          rw [hok, if_neg (by decide)] at hput
          have hcall := fun W => insn_Put.calls a b c d _ _ W hput
          have HP : ∀ w', Below w.heap.size w w' → AllPost l w (.returned (.tuple #[.string ⟨#[]⟩, .int .i64 1])) w' := fun w' h => ⟨by unfold allR; rw [if_neg hbig, hstep.2 hok], h⟩
          clear hstep hput g0 g1 g2 g3
          go_wp2_with (go_at_call 32; refine (hcall _).mono ?_; rintro e w1 ⟨rfl, hb1⟩)
          go_ret2
          exact HP _ (below_step (below_alloc hb.out _) hb1)
      · obtain rfl : j = l.length := by omega
        have hdj : decide (((l.length : Nat) : Int) < (l.length : Int)) = false := decide_eq_false (by omega)
        rw [List.take_of_length_le (Nat.le_refl _)] at hacc
        have HP : ∀ w', Below w.heap.size w w' → AllPost l w (.returned (.tuple #[.string ⟨acc.toArray⟩, .int .i64 0])) w' := fun w' h => ⟨by unfold allR; rw [if_neg hbig, hacc], h⟩
        clear hacc
        go_wp2_with (go_at_call 105; refine (HBld.string_any w.heap.size w.heap.size acc _ hI.out hb.out.size).mono ?_; rintro e w1 ⟨rfl, _, hb1, _⟩)
        go_ret2
        exact HP _ (hb.out.trans hb1)
/-! ### insn.All: function 61, by hand -/
def rgB (i : S28) : Bool := decide ((-9223372036854775808 ≤ i.f0 ∧ i.f0 ≤ 9223372036854775807) ∧ (-9223372036854775808 ≤ i.f1 ∧ i.f1 ≤ 9223372036854775807) ∧ (-9223372036854775808 ≤ i.f2 ∧ i.f2 ≤ 9223372036854775807) ∧ 0 ≤ i.f3 ∧ i.f3 < 4294967296)
theorem rg_of {i : S28} (h : rgB i = true) : rgI i := by
  unfold rgB at h
  have h2 := of_decide_eq_true h
  exact h2
def insn_All.f (l0 : List (S28)) : Option (ByteArray × Int) :=
  if l0.length ≤ 1000000 ∧ l0.all rgB = true then some (allR l0) else none
theorem insn_All.calls (A0 : Option Addr) (c0 : Nat) (l0 : List (S28)) (r1 : ByteArray) (r2 : Int) (w : World) (hr0 : Kd.C k28 w A0 l0.length l0) (hc0 : l0.length ≤ c0) (h : insn_All.f l0 = some (r1, r2)) :
    Calls Try.prog 61 #[.slice A0 l0.length c0] w fun e w' => e = .returned (.tuple #[.string r1, .int .i64 r2]) ∧ Below w.heap.size w w' := by
  unfold insn_All.f at h
  split at h
  · rename_i hc
    refine (all_any A0 c0 l0 w hr0 hc.1 (fun i hi => rg_of (List.all_eq_true.1 hc.2 i hi))).mono ?_
    rintro e w' ⟨he, hb⟩
    rw [he, Option.some.inj h]
    exact ⟨rfl, hb⟩
  · cases h
end Go.Proofs.Ytefkhcijgiagdaa.HAll
